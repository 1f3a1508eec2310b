/- Lemmas for the walks, part 5 of 6: RefL, RefM, RfA, Mat, RfB, RfC, RfD, RfE, RfF, RfG, LawD, FrA, LoadP, Round, RoundX, LoadI, Load, Trip, StA, StB, StC, StD, LsA, R3, R3b, R14, R15a, R14b, R5, R10a, R10p. -/
import Derived.Test.YtdgeffphifgflaaGreatSj4
import Derived.Test.YtdgeffphifgflaaGreatSj2
import Derived.Test.YtdgeffphifgflaaGreatSj3
import Derived.RangeFuncLeaves
import Derived.RangeFuncCalls
import Derived.RangeFuncRecord
import Derived.RangeFuncSeq
import Derived.ControlIn
import Derived.Test.YtdgeffphifgflaaGreatSj1
import Derived.RangeFuncIn
namespace Go.Proofs.YtdgeffphifgflaaGreat
namespace Ab
open Go Go.RowKit
set_option linter.unusedVariables false
set_option linter.unusedSimpArgs false
set_option synthInstance.maxSize 4000
set_option synthInstance.maxHeartbeats 400000
attribute [local irreducible] JC JO JR JQ andThen inBlock OpV Gives retTo JM JS
attribute [local irreducible] sumI numL textL opPut
theorem opput_ok (w : World) (F : Nat → Prop) (o : Op_) (hk : o.key.size < 4611686018427387904) (he : o.elem.size < 4611686018427387904) (h : opMay o = true) : GivesSlT Tryz.prog 120 [opV o] w F (opPut o) [.int .i64 0] := by
  have h1 := opput_ref w F o hk he
  have h2 : putOp o = (opPut o, 0) := by simp [putOp, h]
  rw [h2] at h1
  exact h1
set_option maxHeartbeats 2000000 in
theorem putcom_ref (w : World) (F : Nat → Prop) (c : Commit) (a : Option Addr) (k : Nat) (h : (sl a k c.parents).holds F w) (ht : texts c) :
    GivesSlT Tryz.prog 59 [commitV c a k] w F (putCommit c).1 [.int .i64 (putCommit c).2] := by
  refine gives_of Tryz.func59 rfl Tryz.ntmps59 rfl rfl [.st (sl a k c.parents)] (.start1 h) ?_
  repeat (first|refine Wa ?_|refine Wb ?_|refine Wc ?_|refine Wd ?_|refine We rfl ?_|refine Wf (by first|exact Vb|exact Vc) rfl ?_|(refine Wh rfl ?_; intro _))
  rename_i bc
  refine JR.callV rfl (fun w1 hw => maycom_ref w1 _ c a k hw.get ht) ?_
  repeat (first|refine Wa ?_|refine Wb ?_|refine Wc ?_|refine Wd ?_|refine We rfl ?_|refine Wf (by first|exact Va|exact Vb|exact Vh) rfl ?_)
  refine JC.test (fun h1 => ?_) (fun h1 => ?_)
  · have h2 : putCommit c = ([], 1) := by simp [putCommit, h1]
    rw [h2]
    repeat (first|refine Wa ?_|refine Wb ?_|refine Wc ?_|refine Wd ?_|refine We rfl ?_|refine Wf (by exact Vb) rfl ?_|refine Ws ?_|refine Wt ?_)
    exact CT.done (none, 0) rfl (fun w ho => (ho.ent : Hold _ _ [] w).add sl_nil)
  have h1 : may c = true := by simpa using h1
  have h2 : putCommit c = (commitPut c, 0) := by simp [putCommit, h1]
  have hm := may_spec h1
  have hh := headL_length c
  rw [h2]
  have hn1 := hm.node
  have hn2 := hm.seq
  have hn3 := hm.gen
  have hn4 := hm.par
  have hs1 : IntKind.u64.wrap c.ev.seq = c.ev.seq := by rw [show c.ev.seq = ((c.ev.seq.toNat : Nat) : Int) by omega, wrap64]; omega
  have hs2 : IntKind.u64.wrap c.gen = c.gen := by rw [show c.gen = ((c.gen.toNat : Nat) : Int) by omega, wrap64]; omega
  have l1 := numL_length (foldN c.ev.node)
  have l2 := numL_length c.ev.seq.toNat
  have l3 := numL_length c.gen.toNat
  have l4 := numL_length c.parents.length
  repeat (first|refine Wa ?_|refine Wb ?_|refine Wc ?_|refine We rfl ?_|refine Wf (by first|exact Vc|exact Vd) rfl ?_|refine Wl ?_)
  refine JR.callV rfl (fun w1 hw => fold_ref w1 _ c.ev.node (by omega)) ?_
  repeat (refine We rfl ?_)
  refine JR.callBuf rfl (fun w1 hw => num_ref _ (foldN_lt (by omega)) w1 _) ?_
  intro a1 c1
  repeat (first|refine Wa ?_|refine Wb ?_|refine Wc ?_|refine Wd ?_|refine We rfl ?_|refine Wf (by first|exact Va|exact Vb|exact Vc|exact Vd) rfl ?_)
  refine Wf (OpV.convIn hs1) rfl ?_
  refine JO.reslot 23 (.int .u64 ((c.ev.seq.toNat : Nat) : Int)) (congrArg (Value.int .u64) (by omega)) ?_
  refine We rfl ?_
  refine JR.callBuf rfl (fun w1 hw => num_ref _ (by omega) w1 _) ?_
  intro a9 c9
  refine JO.more (fun w1 ho => ho.pub) ?_
  repeat (refine We rfl ?_)
  refine JR.appendSl rfl (by exact ⟨rfl, rfl, by decide⟩) (by omega) ?_
  intro a2 c2
  repeat (first|refine Wa ?_|refine Wb ?_|refine Wc ?_|refine Wd ?_|refine We rfl ?_|refine Wf (by first|exact Va|exact Vb|exact Vc|exact Vd) rfl ?_)
  refine Wf (OpV.convIn hs2) rfl ?_
  refine JO.reslot 29 (.int .u64 ((c.gen.toNat : Nat) : Int)) (congrArg (Value.int .u64) (by omega)) ?_
  refine We rfl ?_
  refine JR.callBuf rfl (fun w1 hw => num_ref _ (by omega) w1 _) ?_
  intro a9 c9
  refine JO.more (fun w1 ho => ho.pub) ?_
  repeat (refine We rfl ?_)
  refine JR.appendSl rfl (by exact ⟨rfl, rfl, by decide⟩) (by rw [List.length_append]; omega) ?_
  intro a3 c3
  repeat (first|refine Wa ?_|refine Wb ?_|refine Wc ?_|refine Wd ?_|refine We rfl ?_|refine Wf (by first|exact Va|exact Vb|exact Vc|exact Vd|exact Vf) rfl ?_)
  refine Wf (OpV.convIn (by rw [wrap64]; omega)) rfl ?_
  refine We rfl ?_
  refine JR.callBuf rfl (fun w1 hw => num_ref _ (by omega) w1 _) ?_
  intro a9 c9
  refine JO.more (fun w1 ho => ho.pub) ?_
  repeat (refine We rfl ?_)
  refine JR.appendSl rfl (by exact ⟨rfl, rfl, by decide⟩) (by rw [List.length_append, List.length_append]; omega) ?_
  intro a4 c4
  rw [show ((numL (foldN c.ev.node) ++ numL c.ev.seq.toNat) ++ numL c.gen.toNat) ++ numL c.parents.length = headL c from rfl]
  repeat (first|refine Wa ?_|refine Wb ?_|refine Wc ?_|refine Wd ?_|refine We rfl ?_|refine Wf (by exact Vb) rfl ?_|refine Wn ?_)
  refine JC.loop3 (fun (i : Nat) p q => [(1, .pointer (some ⟨bc, 0, none⟩)), (5, .slice p (headL c ++ idsL (c.parents.take i)).length q), (6, .int .i64 (i : Int))])
    (fun i p q => [.own bc 29 [.int .i64 c.ev.node, .int .i64 c.ev.seq, .int .i64 c.gen, .slice a c.parents.length k, .int .i64 c.op.kind, .string c.op.key, .string c.op.elem, .int .i64 c.op.n], .st (sl a k c.parents), .res (buf p q 5 (headL c ++ idsL (c.parents.take i)))])
    (fun i _ _ => i ≤ c.parents.length) (fun i _ _ => c.parents.length - i) 0 a4 c4 (Nat.zero_le _) (by rw [List.take_zero, show idsL [] = [] from rfl, List.append_nil]; infer_instance) ?_
  intro i p q hi
  repeat (first|refine Wa ?_|refine Wb ?_|refine Wc ?_|refine Wd ?_|refine We rfl ?_|refine Wf (by first|exact Va|exact Vc|exact Vd|exact Vf|exact Vg) rfl ?_)
  refine JC.test (fun hlt => ?_) (fun hge => ?_)
  · have hlt' : i < c.parents.length := by omega
    have hil := idsL_length (c.parents.take i)
    rw [List.length_take] at hil
    have h32 := (c.parents[i]).2
    repeat (first|refine Wa ?_|refine Wb ?_|refine Wc ?_|refine Wd ?_|refine We rfl ?_|refine Wf (by exact Vb) rfl ?_|refine Wl ?_|refine Wn ?_)
    refine JC.loop3 (fun (j : Nat) p q => [(1, .pointer (some ⟨bc, 0, none⟩)), (5, .slice p ((headL c ++ idsL (c.parents.take i)) ++ (c.parents[i]).1.take j).length q), (6, .int .i64 (i : Int)), (7, .int .i64 (j : Int))])
      (fun j p q => [.own bc 29 [.int .i64 c.ev.node, .int .i64 c.ev.seq, .int .i64 c.gen, .slice a c.parents.length k, .int .i64 c.op.kind, .string c.op.key, .string c.op.elem, .int .i64 c.op.n], .st (sl a k c.parents), .res (buf p q 5 ((headL c ++ idsL (c.parents.take i)) ++ (c.parents[i]).1.take j))])
      (fun j _ _ => j ≤ 32) (fun j _ _ => 32 - j) 0 p q (Nat.zero_le _) (by rw [List.take_zero, List.append_nil]; infer_instance) ?_
    intro j p q hj
    repeat (first|refine Wa ?_|refine Wb ?_|refine Wc ?_|refine Wd ?_|refine We rfl ?_|refine Wf (by first|exact Va|exact Vg) rfl ?_)
    refine JC.test (fun hlt2 => ?_) (fun hge2 => ?_)
    · have hj' : j < 32 := by omega
      have hjl : j < (c.parents[i]).1.length := by omega
      repeat (first|refine Wa ?_|refine Wb ?_|refine Wc ?_|refine We rfl ?_|refine Wf (by first|exact Va|exact Vc|exact Vd) rfl ?_|refine Wl ?_|refine Wn ?_)
      refine JR.indexID rfl hlt' ?_
      intro b1 o1
      refine We rfl ?_
      refine Wf (OpV.indexArr hj') rfl ?_
      refine We rfl ?_
      refine Wf (OpV.getR (L := (c.parents[i]).1) (f := byteV) j rfl hjl (by omega) rfl) rfl ?_
      repeat (first|refine We rfl ?_|(refine Ww rfl ⟨rfl, by decide, by decide, by decide⟩ ?_; intro _))
      refine JR.append1 (u := (c.parents[i]).1[j]) rfl (by exact ⟨rfl, rfl, by decide⟩) (by rw [List.length_append, List.length_append, List.length_take]; omega) ?_
      intro p3 q3
      repeat (first|refine Wa ?_|refine Wc ?_|refine Wd ?_|refine We rfl ?_|refine Wf (by first|exact Va|exact Vb|exact Vk (by omega)) rfl ?_|refine Wr ?_)
      exact ⟨j + 1, p3, q3, by omega, by omega, by rw [List.take_succ_eq_append_getElem hjl, ← List.append_assoc]; infer_instance⟩
    · obtain rfl : j = 32 := by omega
      rw [List.take_of_length_le (l := (c.parents[i]).1) (by omega)]
      repeat (first|refine Wa ?_|refine Wc ?_|refine Wd ?_|refine We rfl ?_|refine Wf (by first|exact Va|exact Vb|exact Vk (by omega)) rfl ?_|refine Wm ?_|refine Wo ?_|refine Wp ?_|refine Wr ?_)
      have hnx : headL c ++ idsL (c.parents.take (i + 1)) = headL c ++ idsL (c.parents.take i) ++ (c.parents[i]).1 := by rw [idsL_next _ _ hlt', List.append_assoc]
      exact ⟨i + 1, p, q, by omega, by omega, by rw [hnx]; infer_instance⟩
  · obtain rfl : i = c.parents.length := by omega
    have hil := idsL_length c.parents
    rw [List.take_length]
    repeat (first|refine Wa ?_|refine Wb ?_|refine Wc ?_|refine Wd ?_|refine We rfl ?_|refine Wf (by first|exact Vc|exact Vd|exact Vp) rfl ?_|refine Wm ?_|refine Wo ?_|refine Wp ?_)
    refine JC.test (fun hnode => ?_) (fun hnode => ?_)
    · have hnode' : ¬ c.ev.node = -1 := by omega
      have hb : commitPut c = headL c ++ idsL c.parents ++ opPut c.op := by rw [commitPut, if_neg hnode']
      have hop := hm.op hnode'
      have hopl := (put_facts c.op hop).2.2
      obtain ⟨_, _, _, _, _, _, _, _, hopl⟩ := hopl
      rw [hb]
      repeat (first|refine Wb ?_|refine Wc ?_|refine We rfl ?_|refine Wf (by first|exact Vc|exact Vd) rfl ?_)
      refine JR.callSlT (L := opPut c.op) (us' := [.int .i64 0]) rfl (fun w1 hw => opput_ok w1 _ c.op ht.1 ht.2 hop) ?_
      intro p4 q4
      repeat (first|refine Wa ?_|refine Wc ?_|refine Wd ?_|refine We rfl ?_|refine Wf (by first|exact Va|exact Vb|exact Vq) rfl ?_)
      refine JR.appendSl rfl (by exact ⟨rfl, rfl, by decide⟩) (by rw [List.length_append]; omega) ?_
      intro p5 q5
      repeat (first|refine Wa ?_|refine Wb ?_|refine Wc ?_|refine Wd ?_|refine We rfl ?_|refine Wf (by first|exact Va|exact Vb) rfl ?_|refine Ws ?_)
      exact CT.done (p5, q5) rfl (fun w ho => Hold.left (Γ := [.st (sl p5 q5 (headL c ++ idsL c.parents ++ opPut c.op))]) (Hold.pub (ho.ent : Hold _ _ [.res (buf p5 q5 5 (headL c ++ idsL c.parents ++ opPut c.op))] w)))
    · have hnode' : c.ev.node = -1 := by omega
      have hb : commitPut c = headL c ++ idsL c.parents := by rw [commitPut, if_pos hnode']
      rw [hb]
      repeat (first|refine Wa ?_|refine Wb ?_|refine Wc ?_|refine Wd ?_|refine We rfl ?_|refine Wf (by first|exact Va|exact Vb) rfl ?_|refine Wl ?_|refine Ws ?_)
      exact CT.done (p, q) rfl (fun w ho => Hold.left (Γ := [.st (sl p q (headL c ++ idsL c.parents))]) (Hold.pub (ho.ent : Hold _ _ [.res (buf p q 5 (headL c ++ idsL c.parents))] w)))
set_option maxHeartbeats 1000000 in
theorem hash_ref (w : World) (F : Nat → Prop) (c : Commit) (a : Option Addr) (k : Nat) (h : (sl a k c.parents).holds F w) (ht : texts c) :
    GivesV Tryz.prog 148 [commitV c a k] w F (.tuple ⟨[.agg ⟨idc (hashC c).1⟩, .int .i64 (hashC c).2]⟩) := by
  refine gives_of Tryz.func148 rfl Tryz.ntmps148 rfl rfl [.st (sl a k c.parents)] (.start1 h) ?_
  repeat (first|refine Wa ?_|refine Wb ?_|refine Wc ?_|refine Wd ?_|refine We rfl ?_|refine Wf (by first|exact Vb|exact Vc) rfl ?_|(refine Wg rfl ?_; intro _)|(refine Wh rfl ?_; intro _))
  rename_i bc bi
  refine JR.callSlT (L := (putCommit c).1) (us' := [.int .i64 (putCommit c).2]) rfl (fun w1 hw => putcom_ref w1 _ c a k hw.get ht) ?_
  intro p q
  repeat (first|refine Wa ?_|refine Wb ?_|refine Wc ?_|refine Wd ?_|refine We rfl ?_|refine Wf (by first|exact Va|exact Vb|exact Vm|exact Vq) rfl ?_)
  refine JC.test (fun h1 => ?_) (fun h1 => ?_)
  · have hm : may c = false := by
      rw [← Bool.not_eq_true]
      intro hm
      simp [putCommit, hm] at h1
    have h2 : hashC c = (zeroID, 1) := by simp [hashC, hm]
    have h3 : (putCommit c).2 = 1 := by simp [putCommit, hm]
    rw [h2, h3]
    repeat (first|refine Wb ?_|refine Wc ?_|refine We rfl ?_)
    refine Wf (OpV.build (idc zeroID) (by kernel_rfl)) rfl ?_
    repeat (first|refine Wa ?_|refine Wd ?_|refine We rfl ?_|refine Wf (by first|exact Va|exact Vb) rfl ?_|refine Wi ?_|refine Ws ?_|refine Wt ?_)
    exact CT.done () rfl (fun w ho => ho.ent)
  · have hm : may c = true := by
      rw [← Bool.not_eq_false]
      intro hm
      simp [putCommit, hm] at h1
    have h2 : hashC c = (sumI (commitPut c), 0) := by simp [hashC, hm]
    have h3 : putCommit c = (commitPut c, 0) := by simp [putCommit, hm]
    have hl := commitPut_length hm
    rw [h2, h3]
    repeat (first|refine Wa ?_|refine Wb ?_|refine Wc ?_|refine We rfl ?_|refine Wf (by exact Va) rfl ?_|refine Wl ?_)
    refine JR.callV rfl (fun w1 hw => sum_ref w1 _ p q (commitPut c) hw.get (by omega)) ?_
    repeat (first|refine Wa ?_|refine Wd ?_|refine We rfl ?_|refine Wf (by exact Vb) rfl ?_|refine Wi ?_|refine Ws ?_)
    exact CT.done () rfl (fun w ho => ho.ent)
attribute [local irreducible] hashC
end Ab
end Go.Proofs.YtdgeffphifgflaaGreat
namespace Go.Proofs.YtdgeffphifgflaaGreat
namespace Ab
open Go Go.RowKit
set_option linter.unusedVariables false
set_option linter.unusedSimpArgs false
set_option synthInstance.maxSize 4000
set_option synthInstance.maxHeartbeats 400000
attribute [local irreducible] JC JO JR JQ andThen inBlock OpV Gives retTo JM JS
attribute [local irreducible] hashC
def atI (I : List ID) (x : ID) : Int := match I.findIdx? (fun y => decide (y = x)) with | some i => (i : Int) | none => -1
theorem atI_some {I : List ID} {x : ID} {i : Nat} (h : I.findIdx? (fun y => decide (y = x)) = some i) : atI I x = (i : Int) := by simp [atI, h]
theorem atI_none {I : List ID} {x : ID} (h : x ∉ I) : atI I x = -1 := by simp [atI, at_none.2 h]
theorem at_ref (w : World) (F : Nat → Prop) (a : Option Addr) (k : Nat) (I : List ID) (x : ID) (h : (sl a k I).holds F w) :
    GivesV Tryz.prog 132 [.slice a I.length k, .agg ⟨idc x⟩] w F (.int .i64 (atI I x)) := by
  have hI : I.length < 9223372036854775807 := by have := h.2.2.1; simp only [lim] at this; omega
  refine gives_of Tryz.func132 rfl Tryz.ntmps132 rfl rfl [.st (sl a k I)] (.start1 h) ?_
  repeat (first|refine Wa ?_|refine Wb ?_|refine Wc ?_|refine Wd ?_|refine We rfl ?_|refine Wf (by exact Vb) rfl ?_|(refine Wh rfl ?_; intro _)|refine Wn ?_)
  rename_i bx
  refine JC.loop1 (fun (i : Nat) => [(0, .slice a I.length k), (3, .pointer (some ⟨bx, 0, none⟩)), (5, .int .i64 (i : Int))]) (fun i => [.st (sl a k I), .own bx 81 (idc x)])
    (fun i => i ≤ I.length ∧ ∀ j (hj : j < I.length), j < i → I[j] ≠ x) (fun i => I.length - i) 0 ⟨Nat.zero_le _, fun j hj h => by omega⟩ inferInstance ?_
  intro i ⟨hi, hno⟩
  repeat (first|refine Wa ?_|refine Wb ?_|refine Wc ?_|refine Wd ?_|refine We rfl ?_|refine Wf (by first|exact Va|exact Vf|exact Vg) rfl ?_)
  refine JC.test (fun hlt => ?_) (fun hge => ?_)
  · have hlt' : i < I.length := by omega
    repeat (first|refine Wa ?_|refine Wb ?_|refine Wl ?_|refine Wn ?_)
    refine JC.openID (L := I) (.slice a I.length k) i hlt' ?_
    intro bi oi
    refine JC.quiet mixed (by kernel_rfl) ?_
    repeat (first|refine Wy rfl (by first|exact Va|exact Vc|exact Ve|exact Vx) rfl ?_|refine WB ?_)
    repeat (refine Wa ?_)
    refine JC.test (fun he => ?_) (fun hne => ?_)
    · have hat : I.findIdx? (fun y => decide (y = x)) = some i := by
        rw [List.findIdx?_eq_some_iff_getElem]
        exact ⟨hlt', by simpa using he, fun j hj => by simpa using hno j (by omega) hj⟩
      rw [atI_some hat]
      repeat (first|refine Wa ?_|refine Wb ?_|refine Wc ?_|refine Wd ?_|refine We rfl ?_|refine Wf (by first|exact Va|exact Vb) rfl ?_|refine Ws ?_|refine Wt ?_|refine Wu ?_)
      exact CT.done () rfl (fun w ho => ho.ent)
    · repeat (first|refine Wa ?_|refine Wc ?_|refine Wd ?_|refine We rfl ?_|refine Wf (by first|exact Va|exact Vb|exact Vk (by omega)) rfl ?_|refine Wl ?_|refine Wr ?_)
      refine ⟨i + 1, ⟨by omega, fun j hj hji => ?_⟩, by omega, inferInstance⟩
      by_cases hj' : j = i
      · subst hj'; exact hne
      · exact hno j hj (by omega)
  · have hat : x ∉ I := by
      intro hx
      obtain ⟨j, hj, rfl⟩ := List.getElem_of_mem hx
      exact hno j hj (by omega) rfl
    rw [atI_none hat]
    repeat (first|refine Wa ?_|refine Wb ?_|refine Wc ?_|refine Wd ?_|refine We rfl ?_|refine Wf (by exact Vb) rfl ?_|refine Wm ?_|refine Wo ?_|refine Wp ?_|refine Ws ?_)
    exact CT.done () rfl (fun w ho => ho.ent)
set_option maxHeartbeats 1000000 in
theorem ids_ref (w : World) (F : Nat → Prop) (a : Option Addr) (k : Nat) (L : List Commit) (h : (sl a k L).holds F w) (hl : L.length < 34359738368) (hf : ∀ x ∈ L, fine x) :
    GivesSl Tryz.prog 82 [.slice a L.length k] w F (idsP L) := by
  refine gives_of Tryz.func82 rfl Tryz.ntmps82 rfl rfl [.st (sl a k L)] (.start1 h) ?_
  repeat (first|refine Wa ?_|refine Wb ?_|refine Wc ?_|refine Wd ?_|refine We rfl ?_|refine Wf (by exact Vb) rfl ?_|refine Wn ?_)
  refine JC.buf_nil (α := ID) 81 ?_
  refine JC.loop3 (fun (i : Nat) p q => [(0, .slice a L.length k), (3, .slice p (cids (L.take i)).length q), (4, .int .i64 (i : Int))])
    (fun i p q => [.res (buf p q 81 (cids (L.take i))), .st (sl a k L)])
    (fun i _ _ => i ≤ L.length ∧ ∀ c ∈ L.take i, may c = true) (fun i _ _ => L.length - i) 0 none 0 ⟨Nat.zero_le _, by simp⟩ (by rw [List.take_zero, show cids [] = [] from rfl]; infer_instance) ?_
  intro i p q ⟨hi, hm⟩
  repeat (first|refine Wa ?_|refine Wb ?_|refine Wc ?_|refine Wd ?_|refine We rfl ?_|refine Wf (by first|exact Va|exact Vf|exact Vg) rfl ?_)
  refine JC.test (fun hlt => ?_) (fun hge => ?_)
  · have hlt' : i < L.length := by omega
    have hfx := hf _ (List.getElem_mem hlt')
    repeat (first|refine Wa ?_|refine Wb ?_|refine Wc ?_|refine We rfl ?_|refine Wf (by exact Va) rfl ?_|refine Wl ?_|refine Wn ?_)
    refine JR.indexCommit rfl hlt' ?_
    intro b1 o1 p1 q1
    repeat (first|refine We rfl ?_|refine Wf (by exact Vc) rfl ?_)
    refine JR.callV rfl (fun w1 hw => hash_ref w1 _ (L[i]) p1 q1 hw.get hfx.1) ?_
    repeat (first|refine Wa ?_|refine Wb ?_|refine Wc ?_|refine Wd ?_|refine We rfl ?_|refine Wf (by first|exact Va|exact Vb|exact Vm|exact Vq) rfl ?_|(refine Wg rfl ?_; intro _)|refine Wi ?_)
    refine JC.test (fun h0 => ?_) (fun h0 => ?_)
    · have hmay : may L[i] = false := by
        rw [← Bool.not_eq_true, ← hash_err]; exact h0
      repeat (first|refine Wa ?_|refine Wb ?_|refine Wc ?_|refine Wd ?_|refine We rfl ?_|refine Wf (by exact Vb) rfl ?_|refine Ws ?_|refine Wt ?_|refine Wu ?_)
      rw [idsP_not (List.getElem_mem hlt') hmay]
      exact CT.done (none, 0) rfl (fun w ho => (ho.ent : Hold _ _ [.st (sl a k L)] w).tail.add sl_nil)
    · have hmay : may L[i] = true := (hash_err _).1 (by simpa using h0)
      have h1 : (cids (L.take i)).length ≤ i := by simp [cids]; omega
      repeat (first|refine Wa ?_|refine Wc ?_|refine We rfl ?_|refine Wf (by first|exact Va|exact Vc) rfl ?_|refine Wl ?_|(refine Ww rfl ⟨rfl, by decide, by decide, by decide⟩ ?_; intro _))
      refine JR.append1 (u := idC L[i]) rfl (by exact ⟨rfl, rfl, by decide⟩) (by omega) ?_
      intro r s
      repeat (first|refine Wa ?_|refine Wc ?_|refine Wd ?_|refine We rfl ?_|refine Wf (by first|exact Va|exact Vb|exact Vk (by omega)) rfl ?_|refine Wr ?_)
      refine ⟨i + 1, r, s, ⟨by omega, fun c hc => ?_⟩, by omega, by rw [cids_take_next hlt']; infer_instance⟩
      rw [List.take_succ_eq_append_getElem hlt', List.mem_append, List.mem_singleton] at hc
      rcases hc with hc | rfl
      · exact hm c hc
      · exact hmay
  · obtain rfl : i = L.length := by omega
    rw [List.take_length] at hm ⊢
    refine JC.more (fun w1 ho => ho.pub) ?_
    repeat (first|refine Wa ?_|refine Wb ?_|refine Wc ?_|refine Wd ?_|refine We rfl ?_|refine Wf (by first|exact Va|exact Vb) rfl ?_|refine Wm ?_|refine Wo ?_|refine Wp ?_|refine Ws ?_)
    rw [idsP_all hm]
    exact CT.done (p, q) rfl (fun w ho => (ho.ent : Hold _ _ [.st (sl p q (cids L))] w))
end Ab
end Go.Proofs.YtdgeffphifgflaaGreat
namespace Go.Proofs.YtdgeffphifgflaaGreat
namespace Ab
open Go Go.RowKit
set_option linter.unusedVariables false
set_option linter.unusedSimpArgs false
structure RowP where
  b : Nat
  n : Nat
instance : Cell RowP where
  Ix := Unit
  sz := 1
  cells r _ := [.slice (some ⟨r.b, 0, none⟩) r.n r.n]
  facts _ _ := []
  len _ _ := rfl
  one r _ := by simp [Value.oneCell']
  pos := by decide
instance {Γ : List Fact} {b n : Nat} : Typed Γ [.slice (some ⟨b, 0, none⟩) n n] (RowP.mk b n) := ⟨(), rfl, by simp [Cell.facts]⟩
instance : Cell (List Bool) where
  Ix := Option Addr × Nat
  sz := 1
  cells l y := [.slice y.1 l.length y.2]
  facts l y := [sl y.1 y.2 l]
  len _ _ := rfl
  one l y := by simp [Value.oneCell']
  pos := by decide
def rowBs (B : List RowP) : List Nat := B.map RowP.b
def rowsHold (t : TypeId) (B : List RowP) (K : List (List Bool)) (w : World) : Prop :=
  B.length = K.length ∧ ∀ i (h : i < B.length) (h' : i < K.length), B[i].n = K[i].length ∧ w.heap[B[i].b]? = some (.cells (K[i].map Value.bool).toArray t (0, 0))
theorem rowsHold.keep {t : TypeId} {B : List RowP} {K : List (List Bool)} {w w' : World} (h : rowsHold t B K w) (hk : ∀ r ∈ B, r.b < w.heap.size → w'.heap[r.b]? = w.heap[r.b]?) : rowsHold t B K w' := by
  refine ⟨h.1, fun i hi hi' => ⟨(h.2 i hi hi').1, ?_⟩⟩
  have h1 := (h.2 i hi hi').2
  rw [hk _ (List.getElem_mem hi) (Array.getElem?_eq_some_iff.1 h1).1]
  exact h1
theorem rowsHold.lt {t : TypeId} {B : List RowP} {K : List (List Bool)} {w : World} (h : rowsHold t B K w) {r : RowP} (hr : r ∈ B) : r.b < w.heap.size := by
  obtain ⟨i, hi, rfl⟩ := List.getElem_of_mem hr
  exact (Array.getElem?_eq_some_iff.1 (h.2 i hi (by have := h.1; omega)).2).1
def rowsR (t : TypeId) (B : List RowP) (K : List (List Bool)) : Res where
  owns k := ∃ r ∈ B, r.b = k
  holds F w := (rowBs B).Nodup ∧ rowsHold t B K w
  keep F G w w' h hF hk := ⟨h.1, h.2.keep fun r hr hlt => hk r.b hlt (.inr ⟨r, hr, rfl⟩)⟩
  lt F w h k hk := by obtain ⟨r, hr, rfl⟩ := hk; exact h.2.lt hr
def rowsA (t : TypeId) (B : List RowP) (K : List (List Bool)) : Asn where
  holds F w := (∀ r ∈ B, F r.b) ∧ rowsHold t B K w
  mono F G w h hh := ⟨fun r hr => h _ (hh.1 r hr), hh.2⟩
  frame F w w' hk h := ⟨h.1, h.2.keep fun r hr _ => hk _ (h.1 r hr)⟩
  within F w h := ⟨fun r hr => ⟨h.1 r hr, h.2.lt hr⟩, h.2⟩
section
variable {P : Program} {n : Nn} {w0 : World} {F : Nat → Prop} {ops : Array Oper} {i d : Nat} {t : TypeId} {pos : String} {aft : Array Edge} {g : Option (Nat × Bool)} {os : List Oper} {Q : Cont} {e : E} {Γ : List Fact} [Dr]
theorem Hold.join {w : World} {f g h : Fact} (ho : Hold w0 F (f :: g :: Γ) w) (hown : ∀ k, h.owns k ↔ f.owns k ∨ g.owns k) (hs : h.sat (fp w0 F (h :: Γ)) w) : Hold w0 F (h :: Γ) w := by
  have hfree : ∀ k, fp w0 F (f :: g :: Γ) k → fp w0 F (h :: Γ) k := by
    refine fun k hk => ⟨hk.1, fun f' hf' hown' => ?_⟩
    rcases List.mem_cons.1 hf' with rfl | hf'
    · rcases (hown k).1 hown' with h1 | h1
      · exact hk.2 f (by simp) h1
      · exact hk.2 g (by simp) h1
    · exact hk.2 f' (by simp [hf']) hown'
  have hp := List.pairwise_cons.1 ho.dis
  have hp2 := List.pairwise_cons.1 hp.2
  refine ⟨ho.below, fun f' hf' => ?_, ?_, ?_⟩
  · rcases List.mem_cons.1 hf' with rfl | hf'
    · exact hs
    · exact Fact.sat_keep (ho.sat f' (by simp [hf'])) (fun k hk _ => hfree k hk) (fun _ _ _ => rfl)
  · refine List.pairwise_cons.2 ⟨fun f' hf' k hk => ?_, hp2.2⟩
    rcases (hown k).1 hk.1 with h1 | h1
    · exact hp.1 f' (by simp [hf']) k ⟨h1, hk.2⟩
    · exact hp2.1 f' hf' k ⟨h1, hk.2⟩
  · intro f' hf' k hk
    rcases List.mem_cons.1 hf' with rfl | hf'
    · rcases (hown k).1 hk with h1 | h1
      · exact ho.new f (by simp) k h1
      · exact ho.new g (by simp) k h1
    · exact ho.new f' (by simp [hf']) k hk
theorem Hold.addRow {w : World} {b : Nat} {bt : TypeId} {r : List Bool} {B : List RowP} {K : List (List Bool)} (ho : Hold w0 F (.own b bt (r.map Value.bool) :: .res (rowsR bt B K) :: Γ) w) :
    Hold w0 F (.res (rowsR bt (B ++ [⟨b, r.length⟩]) (K ++ [r])) :: Γ) w := by
  have hb : w.heap[b]? = some (.cells (r.map Value.bool).toArray bt (0, 0)) := ho.sat (.own b bt _) (by simp)
  obtain ⟨h1, h2, h3⟩ : (rowsR bt B K).holds _ w := ho.sat (.res (rowsR bt B K)) (by simp)
  have hdis := (List.pairwise_cons.1 ho.dis).1 (.res (rowsR bt B K)) (by simp)
  refine ho.join (fun k => ?_) ⟨?_, by simp [h2], fun i hi hi' => ?_⟩
  · constructor
    · rintro ⟨x, hx, rfl⟩
      rcases List.mem_append.1 hx with hx | hx
      · exact .inr ⟨x, hx, rfl⟩
      · simp only [List.mem_singleton] at hx; subst hx; exact .inl rfl
    · rintro (rfl | ⟨x, hx, rfl⟩)
      · exact ⟨⟨_, r.length⟩, by simp, rfl⟩
      · exact ⟨x, by simp [hx], rfl⟩
  · rw [rowBs, List.map_append, List.nodup_append]
    refine ⟨h1, by simp, fun x hx y hy e => ?_⟩
    simp only [List.map_cons, List.map_nil, List.mem_singleton] at hy
    subst e hy
    obtain ⟨z, hz, hzb⟩ := List.mem_map.1 hx
    exact hdis _ ⟨rfl, z, hz, hzb⟩
  · by_cases hlt : i < B.length
    · rw [List.getElem_append_left hlt, List.getElem_append_left (by omega)]
      exact h3 i hlt (by omega)
    · have e1 : i = B.length := by simp at hi; omega
      subst e1
      rw [List.getElem_append_right (by omega), List.getElem_append_right (by omega)]
      simp [h2, hb]
class HasRows (Γ : List Fact) (bt : outParam TypeId) (B : outParam (List RowP)) (K : outParam (List (List Bool))) (Δ : outParam (List Fact)) : Prop where
  ok : Γ.Perm (.res (rowsR bt B K) :: Δ)
instance (priority := 100) HasRows.miss {g : Fact} {bt : TypeId} {B : List RowP} {K : List (List Bool)} {Δ : List Fact} [h : HasRows Γ bt B K Δ] : HasRows (g :: Γ) bt B K (g :: Δ) :=
  ⟨(h.ok.cons g).trans (List.Perm.swap _ g Δ)⟩
instance (priority := 1000) HasRows.hit {bt : TypeId} {B : List RowP} {K : List (List Bool)} : HasRows (.res (rowsR bt B K) :: Γ) bt B K Γ := ⟨List.Perm.refl _⟩
theorem OpV.loadRow {x : Operand} {b c k o : Nat} {el ty : TypeId} {B : List RowP} {sz by_ : Nat} {z : Value} {Δ : List Fact} {d : Option Nat}
    [hx : Ev e x (.pointer (some ⟨b, o, none⟩))] [hB : BufAt Γ b c el B Δ] {td2 : TypeId} [hT : Ty P ty (.slice td2) sz by_ z] (h : k < B.length) (ho' : o = k) (hsz : sz = 1) :
    OpV P n w0 F ⟨d, .load ty x, t, pos, aft, g⟩ e Γ (.slice (some ⟨B[k].b, 0, none⟩) B[k].n B[k].n) :=
  fun a w fr ho => by
    obtain ⟨q, cur, h0, h1, h2, hg, hnc, hcm, hcs, htk⟩ := buf_some ((ho.perm hB.ok).sat (.res (buf (some ⟨b, 0, none⟩) c el B)) (by simp))
    have hqL : q.length = B.length := by rw [← h1]; simp
    have hkq : k < q.length := by omega
    have hqk : q[k].1 = B[k] := by simp [← h1]
    have hr : w.rangeAt b o [.slice (some ⟨B[k].b, 0, none⟩) B[k].n B[k].n] := by
      intro j v hj
      cases j with
      | zero =>
        simp only [List.getElem?_cons_zero, Option.some.injEq] at hj
        subst hj
        rw [Nat.add_zero, cell_of_row w b _ cur el _ hg, ho']
        have := flat_at q k hkq 0 (.slice (some ⟨B[k].b, 0, none⟩) B[k].n B[k].n) (by rw [hqk]; rfl)
        rw [← htk, List.getElem?_take] at this
        split at this
        · simpa [Cell.sz] using this
        · cases this
      | succ j => simp at hj
    have hload := run_load_at (P := P) (t := ty) (v := .slice (some ⟨B[k].b, 0, none⟩) B[k].n B[k].n) hr (by simp [hsz])
    simp [execOp, hx.ok n a fr, hload]
theorem OpV.rowGet {x : Operand} {o k j : Nat} {bt ty : TypeId} {B : List RowP} {K : List (List Bool)} {sz by_ : Nat} {z : Value} {Δ : List Fact} {bb : Nat} {d : Option Nat}
    [hx : Ev e x (.pointer (some ⟨bb, o, none⟩))] [hB : HasRows Γ bt B K Δ] [hT : Ty P ty .bool sz by_ z] (h : k < B.length) (h' : k < K.length) (hj : j < K[k].length) (hb : bb = B[k].b) (ho' : o = j) (hsz : sz = 1) :
    OpV P n w0 F ⟨d, .load ty x, t, pos, aft, g⟩ e Γ (.bool K[k][j]) :=
  fun a w fr ho => by
    obtain ⟨_, _, h3⟩ : (rowsR bt B K).holds _ w := (ho.perm hB.ok).sat (.res (rowsR bt B K)) (by simp)
    have hg := (h3 k h h').2
    rw [← hb] at hg
    have hr : w.rangeAt bb o [.bool K[k][j]] := by
      intro y v hy
      cases y with
      | zero =>
        simp only [List.getElem?_cons_zero, Option.some.injEq] at hy
        subst hy
        rw [Nat.add_zero, cell_of_row w bb _ _ _ _ hg, ho']
        simp [hj]
      | succ y => simp at hy
    have hload := run_load_at (P := P) (t := ty) (v := .bool K[k][j]) hr (by simp [hsz])
    simp [execOp, hx.ok n a fr, hload]
theorem JR.rowSet {x y : Operand} {o k j : Nat} {bt ty : TypeId} {B : List RowP} {K : List (List Bool)} {u : Bool} {sz by_ : Nat} {z : Value} {Δ : List Fact} {bb : Nat}
    [hx : Ev e x (.pointer (some ⟨bb, o, none⟩))] [hB : HasRows Γ bt B K Δ] [hy : Ev e y (.bool u)] [hT : Ty P ty .bool sz by_ z] (h : k < B.length) (h' : k < K.length) (hj : j < K[k].length) (hb : bb = B[k].b) (ho' : o = j) (hsz : sz = 1)
    (kk : JO P n w0 F ops (i + 1) os Q e (.res (rowsR bt B (K.set k (K[k].set j u))) :: Δ)) : JR P n w0 F ops i ⟨none, .store ty x y, t, pos, aft, g⟩ os Q e Γ :=
  JR.effect fun a w fr ho => by
    have hp := ho.perm hB.ok
    obtain ⟨h1, h2, h3⟩ : (rowsR bt B K).holds _ w := hp.sat (.res (rowsR bt B K)) (by simp)
    have hg := (h3 k h h').2
    rw [← hb] at hg
    have hlay : o + [Value.bool u].length ≤ (K[k].map Value.bool).length ∧ (K[k].map Value.bool).take o ++ [Value.bool u] ++ (K[k].map Value.bool).drop (o + [Value.bool u].length) = (K[k].set j u).map Value.bool := by
      refine ⟨by simp; omega, ?_⟩
      rw [ho', List.map_set, List.set_eq_take_append_cons_drop, if_pos (by simpa using hj)]
      simp
    have hheap : ∀ q, q ≠ bb → (w.setRow bb ((K[k].set j u).map Value.bool).toArray).heap[q]? = w.heap[q]? := fun q hq => by
      simp only [World.setRow, Array.getElem?_modify]; rw [if_neg (by omega)]
    have hnew := setRow_heap w bb (K[k].map Value.bool).toArray ((K[k].set j u).map Value.bool).toArray bt _ hg
    have hown : ∀ q, (Fact.res (rowsR bt B K)).owns q ↔ (Fact.res (rowsR bt B (K.set k (K[k].set j u)))).owns q := fun q => Iff.rfl
    refine ⟨.skip, w.setRow bb ((K[k].set j u).map Value.bool).toArray, .res (rowsR bt B (K.set k (K[k].set j u))) :: Δ, .inl rfl, ?_, ?_, kk⟩
    · simp [execOp, hx.ok n a fr, hy.ok n a fr, run_store_own (P := P) (ty := ty) (cs := [Value.bool u]) (r := (K[k].set j u).map Value.bool) hg (by simp [hsz]) hlay]
    · have hbb : w0.heap.size ≤ bb := hp.new (.res (rowsR bt B K)) (by simp) bb ⟨B[k], List.getElem_mem h, hb.symm⟩
      have hdis := List.pairwise_cons.1 hp.dis
      refine ⟨hp.below.trans ⟨rfl, rfl, rfl, by simp [World.setRow], fun q hq => hheap q (by omega), fun _ => Nat.le_refl _⟩, fun f hf => ?_, ?_, ?_⟩
      · rcases List.mem_cons.1 hf with rfl | hf
        · refine ⟨h1, by simp [h2], fun x hx1 hx2 => ?_⟩
          by_cases hxk : x = k
          · subst hxk
            refine ⟨by simp [(h3 x h h').1], ?_⟩
            rw [List.getElem_set_self, ← hb]
            exact hnew
          · have hx2' : x < K.length := by simpa using hx2
            rw [List.getElem_set_ne (Ne.symm hxk)]
            refine ⟨(h3 x hx1 hx2').1, ?_⟩
            rw [hheap _ ?_]
            · exact (h3 x hx1 hx2').2
            · rw [hb]
              intro e
              have hn := List.pairwise_iff_getElem.1 h1
              rcases Nat.lt_or_gt_of_ne hxk with hlt | hlt
              · have := hn x k (by simpa [rowBs] using hx1) (by simpa [rowBs] using h) hlt
                simp only [rowBs, List.getElem_map] at this; exact this e
              · have := hn k x (by simpa [rowBs] using h) (by simpa [rowBs] using hx1) hlt
                simp only [rowBs, List.getElem_map] at this; exact this e.symm
        · refine Fact.sat_keep (hp.sat f (by simp [hf])) (fun q hq _ => ⟨hq.1, fun f' hf' => ?_⟩) (fun q _ hq => hheap q (fun e => ?_))
          · rcases List.mem_cons.1 hf' with rfl | hf'
            · exact hq.2 (.res (rowsR bt B K)) (by simp)
            · exact hq.2 f' (by simp [hf'])
          · subst e
            have hmem : (Fact.res (rowsR bt B K)).owns q := ⟨B[k], List.getElem_mem h, hb.symm⟩
            rcases hq with hq | hq
            · exact hq.2 (.res (rowsR bt B K)) (by simp) hmem
            · exact hdis.1 f hf q ⟨hmem, hq⟩
      · exact List.pairwise_cons.2 ⟨fun f' hf' q hq => hdis.1 f' hf' q ⟨hq.1, hq.2⟩, hdis.2⟩
      · intro f' hf' q hq
        rcases List.mem_cons.1 hf' with rfl | hf'
        · exact hp.new (.res (rowsR bt B K)) (by simp) q hq
        · exact hp.new f' (by simp [hf']) q hq
theorem Hold.pubRows {w : World} {bt : TypeId} {B : List RowP} {K : List (List Bool)} (ho : Hold w0 F (.res (rowsR bt B K) :: Γ) w) : Hold w0 F (.st (rowsA bt B K) :: Γ) w :=
  ho.publish fun hk => ⟨fun r hr => hk r.b (.inr ⟨r, hr, rfl⟩), (ho.sat (.res (rowsR bt B K)) (by simp)).2⟩
end
theorem sl_bools {w : World} {F : Nat → Prop} {b : Nat} {L : List Bool} {t : TypeId} (h : w.heap[b]? = some (.cells (L.map Value.bool).toArray t (0, 0))) (hF : F b) (hmax : L.length ≤ 4096) : (sl (some ⟨b, 0, none⟩) L.length L).holds F w := by
  refine ⟨Nat.le_refl _, by simp [maxLen]; omega, by simp only [lim]; omega, fun hne => ⟨b, 0, rfl, hF, (Array.getElem?_eq_some_iff.1 h).1, fun i hi => ⟨(), ?_, by simp [Cell.facts]⟩⟩⟩
  intro j v hj
  simp only [Cell.cells, List.getElem?_singleton] at hj
  split at hj
  · rename_i h0; subst h0
    injection hj with hj
    subst hj
    rw [cell_of_row w b _ _ _ _ h]
    simp [Cell.sz, hi]
  · cases hj
theorem sl_rows {w : World} {F : Nat → Prop} {a : Option Addr} {c : Nat} {bt : TypeId} {B : List RowP} {K : List (List Bool)} (h : (sl a c B).holds F w) (h' : (rowsA bt B K).holds F w) (hK : ∀ r ∈ K, r.length ≤ 4096) : (sl a c K).holds F w := by
  obtain ⟨h1, h2, h3⟩ := h'
  refine ⟨by rw [← h2]; exact h.1, h.2.1, by rw [← h2]; exact h.2.2.1, fun hne => ?_⟩
  obtain ⟨b, off, rfl, hb, hlt, hrow⟩ := h.2.2.2 (fun e => hne (List.eq_nil_of_length_eq_zero (by rw [← h2, e]; rfl)))
  refine ⟨b, off, rfl, hb, hlt, fun i hi => ?_⟩
  have hi' : i < B.length := by omega
  obtain ⟨_, hr, _⟩ := hrow i hi'
  obtain ⟨h4, h5⟩ := h3 i hi' hi
  refine ⟨(some ⟨B[i].b, 0, none⟩, B[i].n), ?_, fun A hA => ?_⟩
  · have e : Cell.cells K[i] ((some ⟨B[i].b, 0, none⟩, B[i].n) : Cell.Ix (List Bool)) = Cell.cells B[i] (() : Cell.Ix RowP) := by
      show [Value.slice (some ⟨B[i].b, 0, none⟩) K[i].length B[i].n] = [Value.slice (some ⟨B[i].b, 0, none⟩) B[i].n B[i].n]
      rw [h4]
    rw [e]; exact hr
  · simp only [Cell.facts, List.mem_singleton] at hA
    subst hA
    rw [h4]
    exact sl_bools h5 (h1 _ (List.getElem_mem hi')) (hK _ (List.getElem_mem hi))
theorem madeBools (c : Nat) : (madeCells (Value.cells (.bool false)) (c * 1)) = ((List.replicate c false).map Value.bool).toArray := by
  apply Array.ext
  · simp [size_madeCells]
  · intro i h1 h2
    simp [madeCells, Value.cells, Nat.mod_one]
section
variable {P : Program} {n : Nn} {w0 : World} {F : Nat → Prop} {ops : Array Oper} {i d : Nat} {t : TypeId} {pos : String} {aft : Array Edge} {g : Option (Nat × Bool)} {os : List Oper} {Q : Cont} {e : E} {Γ : List Fact} [Dr]
theorem JR.makeBools {x y : Operand} {kk k2 : IntKind} {j j2 : Int} {l l2 : Nat} {ty el : TypeId} {ed : TypeDesc} {sz by_ : Nat} {z : Value}
    [hx : Ev e x (.int kk j)] [hk : NatI j l] [hy : Ev e y (.int k2 j2)] [hk2 : NatI j2 l2] [hT : Ty P ty (.slice el) sz by_ z] [hE : Ty P el ed 1 1 (.bool false)]
    (hd : Nat.blt d n.s = true) (he : l = l2) (hl : l ≤ 1073741824)
    (K : ∀ b, JO P n w0 F ops (i + 1) os Q ((d, .slice (some ⟨b, 0, none⟩) l l) :: e) (.own b el ((List.replicate l false).map Value.bool) :: Γ)) :
    JR P n w0 F ops i ⟨some d, .makeSlice ty x y, t, pos, aft, g⟩ os Q e Γ :=
  JR.value hd fun a w fr ho => by
    subst he
    obtain ⟨ti, hti, hti1, hti2, hti3⟩ := hE.some
    have hj := hk.ok
    have hj2 := hk2.ok
    subst hj hj2
    have hr := run_make (P := P) w ty el ti (.bool false) hT.und hti hti3 kk k2 (l : Int) (l : Int) (by omega) (by omega) (by rw [hti2]; omega) (by omega)
    simp only [Int.toNat_natCast, hti1, madeBools] at hr
    refine ⟨_, w.alloc (.cells ((List.replicate l false).map Value.bool).toArray el), _, ?_, ho.alloc el ((List.replicate l false).map Value.bool), K w.heap.size⟩
    simp [execOp, hx.ok n a fr, hy.ok n a fr, hr]
end
end Ab
end Go.Proofs.YtdgeffphifgflaaGreat
namespace Go.Proofs.YtdgeffphifgflaaGreat
namespace Ab
open Go Go.RowKit
set_option linter.unusedVariables false
set_option linter.unusedSimpArgs false
set_option synthInstance.maxSize 4000
set_option synthInstance.maxHeartbeats 400000
attribute [local irreducible] JC JO JR JQ andThen inBlock OpV Gives retTo JM JS
attribute [local irreducible] hashC
def get (K : List (List Bool)) (i j : Nat) : Bool := (K.getD i []).getD j false
theorem get_eq {K : List (List Bool)} {i j : Nat} (hi : i < K.length) (hj : j < K[i].length) : get K i j = K[i][j] := by simp [get, List.getD_eq_getElem?_getD, hi, hj]
theorem get_set {K : List (List Bool)} {i j : Nat} (hi : i < K.length) (hj : j < K[i].length) (x y : Nat) : get (K.set i (K[i].set j true)) x y = if x = i ∧ y = j then true else get K x y := by
  unfold get
  simp only [List.getD_eq_getElem?_getD]
  by_cases hx : x = i
  · subst hx
    rw [List.getElem?_set_self hi, List.getElem?_eq_getElem hi]
    by_cases hy : y = j
    · subst hy; simp [hj]
    · simp [hy, List.getElem?_set_ne (Ne.symm hy)]
  · rw [List.getElem?_set_ne (Ne.symm hx)]; simp [hx]
def rowF (r : List Bool) : Nat := (r.filter fun b => !b).length
def cntF : List (List Bool) → Nat
  | [] => 0
  | r :: K => rowF r + cntF K
theorem rowF_lt : ∀ (r : List Bool) (j : Nat) (h : j < r.length), r[j] = false → rowF (r.set j true) < rowF r
  | [], j, h, _ => by cases h
  | b :: r, 0, _, hb => by
    have : b = false := hb
    subst this
    simp [rowF]
  | b :: r, j + 1, h, hb => by
    have := rowF_lt r j (by simpa using h) hb
    cases b <;> simp [rowF] at this ⊢ <;> omega
theorem cntF_lt : ∀ (K : List (List Bool)) (i : Nat) (h : i < K.length) (r : List Bool), rowF r < rowF K[i] → cntF (K.set i r) < cntF K
  | [], i, h, _, _ => by cases h
  | q :: K, 0, _, r, hr => by simp [cntF] at hr ⊢; omega
  | q :: K, i + 1, h, r, hr => by
    have := cntF_lt K i (by simpa using h) r hr
    simp [cntF]; omega
theorem cnt_set {K : List (List Bool)} {i j : Nat} (hi : i < K.length) (hj : j < K[i].length) (h : get K i j = false) : cntF (K.set i (K[i].set j true)) < cntF K :=
  cntF_lt K i hi _ (rowF_lt _ j hj (by rw [← get_eq hi hj]; exact h))
def Square (n : Nat) (K : List (List Bool)) : Prop := K.length = n ∧ ∀ i (h : i < K.length), K[i].length = n
theorem Square.set {n : Nat} {K : List (List Bool)} (h : Square n K) {i j : Nat} (hi : i < K.length) : Square n (K.set i (K[i].set j true)) := by
  refine ⟨by simp [h.1], fun x hx => ?_⟩
  by_cases hxi : x = i
  · subst hxi; simp [h.2 x hi]
  · rw [List.getElem_set_ne (Ne.symm hxi)]; exact h.2 x (by simpa using hx)
theorem square_false (n : Nat) : Square n (List.replicate n (List.replicate n false)) := ⟨by simp, fun i h => by simp⟩
theorem get_false (n i j : Nat) : get (List.replicate n (List.replicate n false)) i j = false := by
  unfold get
  simp only [List.getD_eq_getElem?_getD, List.getElem?_replicate]
  split
  · simp only [Option.getD_some, List.getElem?_replicate]; split <;> rfl
  · rfl
def Rule (K : List (List Bool)) (i p j : Nat) : Prop := (j = p ∨ get K p j = true) → get K i j = true
def RuleP (L : List Commit) (K : List (List Bool)) (i : Nat) (q : ID) : Prop := ∀ p, (cids L).findIdx? (fun x => decide (x = q)) = some p → ∀ j, j < L.length → Rule K i p j
def Sound (L : List Commit) (K : List (List Bool)) : Prop := ∀ i j, get K i j = true → knowsI L i j
structure KnowsR (L : List Commit) (K : List (List Bool)) : Prop where
  square : Square L.length K
  iff : ∀ i j, get K i j = true ↔ knowsI L i j
abbrev KnowsY (L : List Commit) := { y : List (List Bool) × Option Addr × Nat // KnowsR L y.1 }
theorem knowsR_of {L : List Commit} {K : List (List Bool)} (h1 : Square L.length K) (h2 : Sound L K) (h3 : ∀ i (hi : i < L.length), ∀ q ∈ (L[i]).parents, RuleP L K i q) : KnowsR L K := by
  refine ⟨h1, fun i j => ⟨h2 i j, fun hk => ?_⟩⟩
  have : (get K i j = true ∧ j < L.length) := by
    refine knowsI_all (K := fun i j => get K i j = true ∧ j < L.length) (fun i p hs => ?_) hk
    obtain ⟨hi, q, hq, hat⟩ := id hs
    have hp := (istep_lt hs).2
    exact ⟨⟨h3 i hi q hq p hat p hp (.inl rfl), hp⟩, fun j hj => ⟨h3 i hi q hq p hat j hj.2 (.inr hj.1), hj.2⟩⟩
  exact this.1
set_option maxHeartbeats 4000000 in
theorem knows_ref (w : World) (F : Nat → Prop) (a d : Option Addr) (k m : Nat) (L : List Commit) (h : (sl a k L).holds F w) (h' : (sl d m (cids L)).holds F w) (hl : L.length ≤ 1000) (hf : ∀ x ∈ L, x.parents.length ≤ 1000) :
    Gives Tryz.prog 129 [.slice a L.length k, .slice d (cids L).length m] w F (fun y : KnowsY L => .slice y.1.2.1 y.1.1.length y.1.2.2) (fun y => [.st (sl y.1.2.1 y.1.2.2 y.1.1)]) := by
  refine gives_of Tryz.func129 rfl Tryz.ntmps129 rfl rfl [.st (sl a k L), .st (sl d m (cids L))] (.start2 h h') ?_
  repeat (first|refine Wa ?_|refine Wb ?_|refine Wc ?_|refine Wd ?_|refine We rfl ?_|refine Wf (by exact Vb) rfl ?_|refine Wn ?_)
  refine JC.buf_nil (α := RowP) 162 ?_
  refine JC.more (Γ' := [.res (rowsR 4 [] []), .res (buf (α := RowP) none 0 162 []), .st (sl a k L), .st (sl d m (cids L))]) (fun w1 ho => (ho.res (R := rowsR 4 [] []) (fun k hk => by obtain ⟨r, hr, _⟩ := hk; cases hr) ⟨List.nodup_nil, rfl, fun i hi => by cases hi⟩).ent) ?_
  refine JC.loop4 (fun (i : Nat) (B : List RowP) r s => [(0, .slice a L.length k), (1, .slice d (cids L).length m), (5, .slice r B.length s), (6, .int .i64 (i : Int))])
    (fun i B r s => [.res (rowsR 4 B (List.replicate i (List.replicate L.length false))), .res (buf r s 162 B), .st (sl a k L), .st (sl d m (cids L))])
    (fun i B _ _ => i ≤ L.length ∧ B.length = i ∧ ∀ x ∈ B, x.n = L.length) (fun i _ _ _ => L.length - i) 0 [] none 0 ⟨Nat.zero_le _, rfl, by simp⟩ (by rw [List.replicate_zero]; infer_instance) ?_
  intro i B r s ⟨hi, hBl, hBn⟩
  repeat (first|refine Wa ?_|refine Wb ?_|refine Wc ?_|refine Wd ?_|refine We rfl ?_|refine Wf (by first|exact Va|exact Vf|exact Vg) rfl ?_)
  refine JC.test (fun hlt => ?_) (fun hge => ?_)
  · have hlt' : i < L.length := by omega
    repeat (first|refine Wa ?_|refine Wb ?_|refine Wc ?_|refine We rfl ?_|refine Wf (by first|exact Va|exact Vf) rfl ?_|refine Wl ?_|refine Wn ?_)
    refine JR.makeBools rfl rfl (by omega) ?_
    intro bn
    repeat (first|refine We rfl ?_|(refine Ww rfl ⟨rfl, by decide, by decide, by decide⟩ ?_; intro _))
    refine JR.append1 (u := RowP.mk bn L.length) rfl (by exact ⟨rfl, rfl, by decide⟩) (by omega) ?_
    intro r2 s2
    refine JO.more (Γ' := [.res (rowsR 4 (B ++ [⟨bn, L.length⟩]) (List.replicate (i + 1) (List.replicate L.length false))), .res (buf r2 s2 162 (B ++ [⟨bn, L.length⟩])), .st (sl a k L), .st (sl d m (cids L))]) (fun w1 ho => ?_) ?_
    · have h1 : Hold _ _ (.own bn 4 ((List.replicate L.length false).map Value.bool) :: .res (rowsR 4 B (List.replicate i (List.replicate L.length false))) :: .res (buf r2 s2 162 (B ++ [⟨bn, L.length⟩])) :: [.st (sl a k L), .st (sl d m (cids L))]) w1 := ho.ent
      have h2 := h1.addRow
      rw [List.length_replicate, ← List.replicate_succ'] at h2
      exact h2
    repeat (first|refine Wa ?_|refine Wc ?_|refine Wd ?_|refine We rfl ?_|refine Wf (by first|exact Va|exact Vb|exact Vk (by omega)) rfl ?_|refine Wr ?_)
    refine ⟨i + 1, B ++ [⟨bn, L.length⟩], r2, s2, ⟨by omega, by simp [hBl], fun x hx => ?_⟩, by omega, inferInstance⟩
    rcases List.mem_append.1 hx with hx | hx
    · exact hBn x hx
    · simp only [List.mem_singleton] at hx; subst hx; rfl
  obtain rfl : i = L.length := by omega
  obtain ⟨K0, hK0⟩ : ∃ K0, K0 = List.replicate L.length (List.replicate L.length false) := ⟨_, rfl⟩
  have hs0 : Square L.length K0 := hK0 ▸ square_false _
  have hd0 : Sound L K0 := fun i j hg => by rw [hK0, get_false] at hg; cases hg
  rw [← hK0]
  repeat (first|refine Wa ?_|refine Wb ?_|refine Wc ?_|refine Wd ?_|refine We rfl ?_|refine Wf (by exact Vb) rfl ?_|refine Wm ?_|refine Wn ?_|refine Wo ?_|refine Wp ?_)
  refine JC.loop2 (fun (K : List (List Bool)) (m_ : Bool) => [(0, .slice a L.length k), (1, .slice d (cids L).length m), (5, .slice r B.length s), (7, .bool m_)]) (fun K m_ => [.res (buf r s 162 B), .res (rowsR 4 B K), .st (sl a k L), .st (sl d m (cids L))])
    (fun K m_ => Square L.length K ∧ Sound L K ∧ (m_ = false → ∀ i (hi : i < L.length), ∀ q ∈ (L[i]).parents, RuleP L K i q)) (fun K m_ => 2 * cntF K + (if m_ then 1 else 0)) K0 true ⟨hs0, hd0, fun h => by cases h⟩ inferInstance ?_
  intro K m_ ⟨hsq, hsd, hrl⟩
  cases m_ with
  | false =>
    have hR := knowsR_of hsq hsd (hrl rfl)
    refine JC.more (Γ' := [.st (sl r s K)]) (fun w1 ho => ?_) ?_
    · have h1 : Hold _ _ (.res (buf r s 162 B) :: [.res (rowsR 4 B K)]) w1 := ho.ent
      have h2 : Hold _ _ (.res (rowsR 4 B K) :: [.st (sl r s B)]) w1 := (h1.pub).ent
      have h3 := h2.pubRows
      have h4 := h3.add (A := sl r s K) (sl_rows (h3.get (A := sl r s B)) (h3.get (A := rowsA 4 B K)) (fun x hx => by obtain ⟨i, hi, rfl⟩ := List.getElem_of_mem hx; rw [hsq.2 i hi]; omega))
      exact h4.ent
    refine JC.reslot 5 (.slice r K.length s) (by rw [hBl, hsq.1]) ?_
    repeat (first|refine Wa ?_|refine Wb ?_|refine Wc ?_|refine Wd ?_|refine We rfl ?_|refine Wf (by first|exact Va|exact Vb) rfl ?_|refine Wk ?_|refine Wm ?_|refine Wo ?_|refine Wp ?_|refine Ws ?_)
    exact CT.done (Y := KnowsY L) ⟨(K, r, s), hR⟩ rfl (fun w ho => ho.ent)
  | true =>
    repeat (first|refine Wa ?_|refine Wb ?_|refine Wc ?_|refine Wd ?_|refine We rfl ?_|refine Wf (by first|exact Va|exact Vb) rfl ?_|refine Wj ?_|refine Wl ?_|refine Wn ?_)
    refine JC.loop3 (fun (i : Nat) (K1 : List (List Bool)) (m1 : Bool) => [(0, .slice a L.length k), (1, .slice d (cids L).length m), (5, .slice r B.length s), (7, .bool m1), (8, .int .i64 (i : Int))]) (fun i K1 m1 => [.res (buf r s 162 B), .res (rowsR 4 B K1), .st (sl a k L), .st (sl d m (cids L))])
      (fun i K1 m1 => i ≤ L.length ∧ Square L.length K1 ∧ Sound L K1 ∧ (m1 = true → cntF K1 < cntF K) ∧ (m1 = false → K1 = K ∧ ∀ x (hx : x < L.length), x < i → ∀ q ∈ (L[x]).parents, RuleP L K x q)) (fun i _ _ => L.length - i) 0 K false
      ⟨Nat.zero_le _, hsq, hsd, (fun h => by cases h), fun _ => ⟨rfl, fun x hx h => by omega⟩⟩ inferInstance ?_
    intro i K1 m1 ⟨hi, hsq1, hsd1, hm1, hr1⟩
    repeat (first|refine Wa ?_|refine Wb ?_|refine Wc ?_|refine Wd ?_|refine We rfl ?_|refine Wf (by first|exact Va|exact Vf|exact Vg) rfl ?_)
    refine JC.test (fun hlt => ?_) (fun hge => ?_)
    · have hlt' : i < L.length := by omega
      have hpf := hf _ (List.getElem_mem hlt')
      repeat (first|refine Wa ?_|refine Wb ?_|refine Wc ?_|refine Wd ?_|refine We rfl ?_|refine Wf (by exact Vb) rfl ?_|refine Wl ?_|refine Wn ?_)
      refine JC.loop3 (fun (y : Nat) (K2 : List (List Bool)) (m2 : Bool) => [(0, .slice a L.length k), (1, .slice d (cids L).length m), (5, .slice r B.length s), (7, .bool m2), (8, .int .i64 (i : Int)), (9, .int .i64 (y : Int))]) (fun y K2 m2 => [.res (buf r s 162 B), .res (rowsR 4 B K2), .st (sl a k L), .st (sl d m (cids L))])
        (fun y K2 m2 => y ≤ (L[i]).parents.length ∧ Square L.length K2 ∧ Sound L K2 ∧ (m2 = true → cntF K2 < cntF K) ∧ (m2 = false → K2 = K ∧ (∀ x (hx : x < L.length), x < i → ∀ q ∈ (L[x]).parents, RuleP L K x q) ∧ ∀ q ∈ (L[i]).parents.take y, RuleP L K i q))
        (fun y _ _ => (L[i]).parents.length - y) 0 K1 m1 ⟨Nat.zero_le _, hsq1, hsd1, hm1, fun h => ⟨(hr1 h).1, (hr1 h).2, by simp⟩⟩ inferInstance ?_
      intro y K2 m2 ⟨hy, hsq2, hsd2, hm2, hr2⟩
      repeat (first|refine Wb ?_|refine Wc ?_|refine We rfl ?_|refine Wf (by exact Va) rfl ?_)
      refine JR.indexCommit rfl hlt' ?_
      intro b1 o1 p1 q1
      repeat (first|refine Wa ?_|refine Wd ?_|refine We rfl ?_|refine Wf (by first|exact Vc|exact Vd|exact Vf|exact Vg) rfl ?_)
      refine JC.test (fun hlty => ?_) (fun hgey => ?_)
      · have hly : y < (L[i]).parents.length := by omega
        repeat (first|refine Wa ?_|refine Wb ?_|refine Wc ?_|refine We rfl ?_|refine Wf (by exact Va) rfl ?_|refine Wl ?_|refine Wn ?_)
        refine JR.indexCommit rfl hlt' ?_
        intro b2 o2 p2 q2
        repeat (first|refine We rfl ?_|refine Wf (by first|exact Va|exact Vc|exact Vd) rfl ?_)
        refine JR.indexID (L := (L[i]).parents) rfl hly ?_
        intro b3 o3
        repeat (first|refine We rfl ?_|refine Wf (by exact Vc) rfl ?_)
        refine JR.callV rfl (fun w1 hw => at_ref w1 _ d m (cids L) ((L[i]).parents[y]) hw.get) ?_
        repeat (first|refine Wa ?_|refine Wb ?_|refine Wc ?_|refine Wd ?_|refine We rfl ?_|refine Wf (by exact Vb) rfl ?_|refine Wn ?_)
        cases hat : (cids L).findIdx? (fun x => decide (x = (L[i]).parents[y])) with
        | none =>
          have hrp : RuleP L K i ((L[i]).parents[y]) := fun p hp => by rw [hat] at hp; cases hp
          refine JC.reslot 10 (.int .i64 (-1)) (by simp [atI, hat]) ?_
          refine JC.loop1 (fun (_ : Unit) => [(0, .slice a L.length k), (1, .slice d (cids L).length m), (5, .slice r B.length s), (7, .bool m2), (8, .int .i64 (i : Int)), (9, .int .i64 (y : Int)), (10, .int .i64 (-1)), (11, .int .i64 0)]) (fun _ => [.res (buf r s 162 B), .res (rowsR 4 B K2), .st (sl a k L), .st (sl d m (cids L))]) (fun _ => True) (fun _ => 0) () trivial inferInstance ?_
          intro _ _
          repeat (first|refine Wa ?_|refine Wb ?_|refine Wc ?_|refine Wd ?_|refine We rfl ?_|refine Wf (by first|exact Va|exact Vb|exact Vj|exact Vk (by omega)|exact Vp) rfl ?_|refine Wk ?_|refine Wm ?_|refine Wo ?_|refine Wp ?_|refine Wr ?_|refine Wv rfl rfl ?_)
          refine ⟨y + 1, K2, m2, ⟨by omega, hsq2, hsd2, hm2, fun h => ⟨(hr2 h).1, (hr2 h).2.1, fun q hq => ?_⟩⟩, by omega, inferInstance⟩
          rcases (mem_take_succ hly).1 hq with hq | rfl
          · exact (hr2 h).2.2 q hq
          · exact hrp
        | some p =>
          have hstep : istep L i p := ⟨hlt', _, List.getElem_mem hly, hat⟩
          have hpl := (istep_lt hstep).2
          refine JC.reslot 10 (.int .i64 (p : Int)) (by simp [atI, hat]) ?_
          refine JC.loop3 (fun (j : Nat) (K3 : List (List Bool)) (m3 : Bool) => [(0, .slice a L.length k), (1, .slice d (cids L).length m), (5, .slice r B.length s), (7, .bool m3), (8, .int .i64 (i : Int)), (9, .int .i64 (y : Int)), (10, .int .i64 (p : Int)), (11, .int .i64 (j : Int))]) (fun j K3 m3 => [.res (buf r s 162 B), .res (rowsR 4 B K3), .st (sl a k L), .st (sl d m (cids L))])
            (fun j K3 m3 => j ≤ L.length ∧ Square L.length K3 ∧ Sound L K3 ∧ (m3 = true → cntF K3 < cntF K) ∧ (m3 = false → K3 = K ∧ (∀ x (hx : x < L.length), x < i → ∀ q ∈ (L[x]).parents, RuleP L K x q) ∧ (∀ q ∈ (L[i]).parents.take y, RuleP L K i q) ∧ ∀ z, z < j → Rule K i p z))
            (fun j _ _ => L.length - j) 0 K2 m2 ⟨Nat.zero_le _, hsq2, hsd2, hm2, fun h => ⟨(hr2 h).1, (hr2 h).2.1, (hr2 h).2.2, fun z hz => by omega⟩⟩ inferInstance ?_
          intro j K3 m3 ⟨hj, hsq3, hsd3, hm3, hr3⟩
          repeat (first|refine Wa ?_|refine Wb ?_|refine Wc ?_|refine Wd ?_|refine We rfl ?_|refine Wf (by first|exact Va|exact Vf|exact Vg|exact Vi|exact Vp) rfl ?_)
          refine JC.test (fun hltj => ?_) (fun hgej => ?_)
          · have hjl : j < L.length := by omega
            have hBne : B ≠ [] := by
              intro e; subst e; simp at hBl; omega
            refine JC.pure (fun w1 ho => buf_addr (ho.sat (.res (buf r s 162 B)) (by simp)) hBne) ?_
            rintro ⟨bb, rfl⟩
            have hBi : i < B.length := by omega
            have hBp : p < B.length := by omega
            have hKi : i < K3.length := by rw [hsq3.1]; exact hlt'
            have hKp : p < K3.length := by rw [hsq3.1]; exact hpl
            have hji : j < K3[i].length := by rw [hsq3.2 i hKi]; exact hjl
            have hjp : j < K3[p].length := by rw [hsq3.2 p hKp]; exact hjl
            have hBin : B[i].n = L.length := hBn _ (List.getElem_mem hBi)
            have hBpn : B[p].n = L.length := hBn _ (List.getElem_mem hBp)
            have hle : cntF K3 ≤ cntF K := by
              cases m3 with
              | true => have := hm3 rfl; omega
              | false => rw [(hr3 rfl).1]; exact Nat.le_refl _
            repeat (first|refine Wa ?_|refine Wb ?_|refine Wc ?_|refine We rfl ?_|refine Wf (by exact Va) rfl ?_|refine Wl ?_|refine Wn ?_)
            refine Wf (OpV.indexBuf (k := i) hBi) rfl ?_
            refine We rfl ?_
            refine Wf (OpV.loadRow (k := i) hBi (by omega) rfl) rfl ?_
            refine JO.reslot 64 (.slice (some ⟨B[i].b, 0, none⟩) L.length L.length) (by rw [hBin]) ?_
            repeat (first|refine We rfl ?_|refine Wf (by exact Va) rfl ?_)
            refine Wf (OpV.indexBuf (k := j) hjl) rfl ?_
            refine We rfl ?_
            refine Wf (OpV.rowGet (k := i) (j := j) hBi hKi hji rfl (by omega) rfl) rfl ?_
            refine JO.reslot 67 (.bool (get K3 i j)) (by rw [get_eq hKi hji]) ?_
            cases hgij : get K3 i j with
            | true =>
              repeat (first|refine Wa ?_|refine Wc ?_|refine Wd ?_|refine We rfl ?_|refine Wf (by first|exact Va|exact Vb|exact Vh|exact Vj|exact Vk (by omega)) rfl ?_|refine Wk ?_|refine Wl ?_|refine Wr ?_|refine Wv rfl rfl ?_|refine Wx rfl rfl ?_)
              refine ⟨j + 1, K3, m3, ⟨by omega, hsq3, hsd3, hm3, fun h => ⟨(hr3 h).1, (hr3 h).2.1, (hr3 h).2.2.1, fun z hz => ?_⟩⟩, by omega, inferInstance⟩
              by_cases hze : z = j
              · subst hze; intro _; rw [← (hr3 h).1]; exact hgij
              · exact (hr3 h).2.2.2 z (by omega)
            | false =>
              repeat (first|refine We rfl ?_|refine Wf (by first|exact Va|exact Vh|exact Vl) rfl ?_)
              refine JO.test 73 (fun he => ?_) (fun hnp => ?_)
              · have hkn : knowsI L i j := by
                  have : j = p := by omega
                  subst this; exact .single hstep
                repeat (first|refine Wa ?_|refine Wb ?_|refine Wc ?_|refine Wd ?_|refine We rfl ?_|refine Wf (by first|exact Va|exact Vi) rfl ?_|refine Wj ?_|refine Wv rfl rfl ?_)
                refine Wf (OpV.indexBuf (k := i) hBi) rfl ?_
                refine We rfl ?_
                refine Wf (OpV.loadRow (k := i) hBi (by omega) rfl) rfl ?_
                refine JO.reslot 86 (.slice (some ⟨B[i].b, 0, none⟩) L.length L.length) (by rw [hBin]) ?_
                repeat (first|refine We rfl ?_|refine Wf (by exact Va) rfl ?_)
                refine Wf (OpV.indexBuf (k := j) hjl) rfl ?_
                refine We rfl ?_
                refine JR.rowSet (k := i) (j := j) hBi hKi hji rfl (by omega) rfl ?_
                repeat (first|refine Wa ?_|refine Wc ?_|refine Wd ?_|refine We rfl ?_|refine Wf (by first|exact Va|exact Vb|exact Vk (by omega)) rfl ?_|refine Wr ?_)
                refine ⟨j + 1, K3.set i (K3[i].set j true), true, ⟨by omega, hsq3.set hKi, fun x z hg => ?_, fun _ => Nat.lt_of_lt_of_le (cnt_set hKi hji hgij) hle, fun h => by cases h⟩, by omega, inferInstance⟩
                rw [get_set hKi hji] at hg
                split at hg
                · rename_i hxz; obtain ⟨rfl, rfl⟩ := hxz; exact hkn
                · exact hsd3 x z hg
              · repeat (first|refine We rfl ?_|refine Wf (by exact Va) rfl ?_)
                refine Wf (OpV.indexBuf (k := p) hBp) rfl ?_
                refine We rfl ?_
                refine Wf (OpV.loadRow (k := p) hBp (by omega) rfl) rfl ?_
                refine JO.reslot 77 (.slice (some ⟨B[p].b, 0, none⟩) L.length L.length) (by rw [hBpn]) ?_
                repeat (first|refine We rfl ?_|refine Wf (by exact Va) rfl ?_)
                refine Wf (OpV.indexBuf (k := j) hjl) rfl ?_
                refine We rfl ?_
                refine Wf (OpV.rowGet (k := p) (j := j) hBp hKp hjp rfl (by omega) rfl) rfl ?_
                refine JO.reslot 80 (.bool (get K3 p j)) (by rw [get_eq hKp hjp]) ?_
                cases hgpj : get K3 p j with
                | true =>
                  have hkn : knowsI L i j := Relation.TransGen.trans (.single hstep) (hsd3 p j hgpj)
                  repeat (first|refine Wa ?_|refine Wb ?_|refine Wc ?_|refine Wd ?_|refine We rfl ?_|refine Wf (by first|exact Va|exact Vi|exact Vj) rfl ?_|refine Wj ?_)
                  refine Wf (OpV.indexBuf (k := i) hBi) rfl ?_
                  refine We rfl ?_
                  refine Wf (OpV.loadRow (k := i) hBi (by omega) rfl) rfl ?_
                  refine JO.reslot 86 (.slice (some ⟨B[i].b, 0, none⟩) L.length L.length) (by rw [hBin]) ?_
                  repeat (first|refine We rfl ?_|refine Wf (by exact Va) rfl ?_)
                  refine Wf (OpV.indexBuf (k := j) hjl) rfl ?_
                  refine We rfl ?_
                  refine JR.rowSet (k := i) (j := j) hBi hKi hji rfl (by omega) rfl ?_
                  repeat (first|refine Wa ?_|refine Wc ?_|refine Wd ?_|refine We rfl ?_|refine Wf (by first|exact Va|exact Vb|exact Vk (by omega)) rfl ?_|refine Wr ?_)
                  refine ⟨j + 1, K3.set i (K3[i].set j true), true, ⟨by omega, hsq3.set hKi, fun x z hg => ?_, fun _ => Nat.lt_of_lt_of_le (cnt_set hKi hji hgij) hle, fun h => by cases h⟩, by omega, inferInstance⟩
                  rw [get_set hKi hji] at hg
                  split at hg
                  · rename_i hxz; obtain ⟨rfl, rfl⟩ := hxz; exact hkn
                  · exact hsd3 x z hg
                | false =>
                  repeat (first|refine Wa ?_|refine Wc ?_|refine Wd ?_|refine We rfl ?_|refine Wf (by first|exact Va|exact Vb|exact Vi|exact Vj|exact Vk (by omega)) rfl ?_|refine Wk ?_|refine Wl ?_|refine Wr ?_)
                  refine ⟨j + 1, K3, m3, ⟨by omega, hsq3, hsd3, hm3, fun h => ⟨(hr3 h).1, (hr3 h).2.1, (hr3 h).2.2.1, fun z hz => ?_⟩⟩, by omega, inferInstance⟩
                  by_cases hze : z = j
                  · subst hze
                    rintro (h1 | h1)
                    · exact (hnp (by omega)).elim
                    · rw [← (hr3 h).1, hgpj] at h1; cases h1
                  · exact (hr3 h).2.2.2 z (by omega)
          · obtain rfl : j = L.length := by omega
            repeat (first|refine Wa ?_|refine Wc ?_|refine Wd ?_|refine We rfl ?_|refine Wf (by first|exact Va|exact Vb|exact Vk (by omega)) rfl ?_|refine Wm ?_|refine Wo ?_|refine Wp ?_|refine Wr ?_)
            refine ⟨y + 1, K3, m3, ⟨by omega, hsq3, hsd3, hm3, fun h => ⟨(hr3 h).1, (hr3 h).2.1, fun q hq => ?_⟩⟩, by omega, inferInstance⟩
            rcases (mem_take_succ hly).1 hq with hq | rfl
            · exact (hr3 h).2.2.1 q hq
            · intro p' hp' z hz
              rw [hat] at hp'
              injection hp' with hp'
              subst hp'
              exact (hr3 h).2.2.2 z hz
      · have hye : y = (L[i]).parents.length := by omega
        repeat (first|refine Wa ?_|refine Wc ?_|refine Wd ?_|refine We rfl ?_|refine Wf (by first|exact Va|exact Vb|exact Vk (by omega)) rfl ?_|refine Wm ?_|refine Wo ?_|refine Wp ?_|refine Wr ?_)
        refine ⟨i + 1, K2, m2, ⟨by omega, hsq2, hsd2, hm2, fun h => ⟨(hr2 h).1, fun x hx hxi => ?_⟩⟩, by omega, inferInstance⟩
        by_cases hxe : x = i
        · subst hxe
          have := (hr2 h).2.2
          rwa [hye, List.take_length] at this
        · exact (hr2 h).2.1 x hx (by omega)
    · obtain rfl : i = L.length := by omega
      repeat (first|refine Wa ?_|refine Wm ?_|refine Wo ?_|refine Wp ?_|refine Wr ?_)
      refine ⟨K1, m1, ⟨hsq1, hsd1, fun h x hx => ?_⟩, ?_, inferInstance⟩
      · have := (hr1 h).2 x hx hx
        rw [(hr1 h).1]; exact this
      · cases m1 with
        | true => have := hm1 rfl; simp; omega
        | false => rw [(hr1 rfl).1]; simp
section
variable {P : Program} {n : Nn} {w0 : World} {F : Nat → Prop} {ops : Array Oper} {i d : Nat} {t : TypeId} {pos : String} {aft : Array Edge} {g : Option (Nat × Bool)} {os : List Oper} {Q : Cont} {e : E} {Γ : List Fact} [Dr]
theorem JR.indexRow {x ix : Operand} {v : Value} {L : List (List Bool)} {kk : IntKind} {j : Int} {k : Nat} {ty el : TypeId} {sz by_ eb : Nat} {z ez : Value} {ed : TypeDesc}
    [hx : Ev e x v] [hL : HasSl Γ v (List Bool) inferInstance L] [hi : Ev e ix (.int kk j)] [hk : NatI j k] [hT : Ty P ty (.slice el) sz by_ z] [hE : Ty P el ed 1 eb ez] (hd : Nat.blt d n.s = true) (h : k < L.length)
    (K : ∀ b o p q, JO P n w0 F ops (i + 1) os Q ((d, .pointer (some ⟨b, o, none⟩)) :: e) (.st (ro b o [.slice p (L[k]'h).length q]) :: .st (sl p q (L[k]'h)) :: Γ)) :
    JR P n w0 F ops i ⟨some d, .indexAddr ty x ix, t, pos, aft, g⟩ os Q e Γ := JR.index hd rfl h fun b o (y : Option Addr × Nat) => K b o y.1 y.2
theorem JC.openRow {c : Code} (v : Value) {L : List (List Bool)} (k : Nat) [hL : HasSl Γ v (List Bool) inferInstance L] (h : k < L.length)
    (K : ∀ b o p q, JC P n w0 F c Q e (.st (elA v k 1 b o) :: .st (ro b o [.slice p (L[k]'h).length q]) :: .st (sl p q (L[k]'h)) :: Γ)) : JC P n w0 F c Q e Γ :=
  JC.open_ k hL h fun b o (y : Option Addr × Nat) => K b o y.1 y.2
end
theorem genAt_at {L : List Commit} {p : ID} {x : Nat} (h : (cids L).findIdx? (fun y => decide (y = p)) = some x) (hx : x < L.length) : genAt L p = L[x].gen := by
  obtain ⟨h1, h2, h3⟩ := List.findIdx?_eq_some_iff_getElem.1 h
  rw [cids_get] at h2
  have hf : L.find? (fun c => decide (idC c = p)) = some L[x] := by
    rw [List.find?_eq_some_iff_getElem]
    refine ⟨h2, x, hx, rfl, fun j hj => ?_⟩
    have := h3 j hj
    rw [cids_get] at this
    simpa using this
  unfold genAt
  rw [hf]
abbrev IsOne (L : List Commit) (i : Nat) := { b : Bool // b = true ↔ oneI L i }
theorem not_one_of {L : List Commit} {i : Nat} (hi : i < L.length) {p : ID} (hp : p ∈ L[i].parents) (h : p ∉ cids L) : false = true ↔ oneI L i :=
  ⟨fun h => (Bool.noConfusion h), fun ⟨_, h1, _⟩ => (h (h1 p hp)).elim⟩
theorem not_one_pair {L : List Commit} {i x y : Nat} (h1 : istep L i x) (h2 : istep L i y) (h : knowsI L x y) : false = true ↔ oneI L i :=
  ⟨fun h => (Bool.noConfusion h), fun ⟨_, _, h3, _⟩ => (h3 x y h1 h2 h).elim⟩
set_option maxHeartbeats 4000000 in
theorem one_ref (w : World) (F : Nat → Prop) (a d e : Option Addr) (k m n : Nat) (L : List Commit) (K : List (List Bool)) (i : Nat) (hi : i < L.length) (h : (sl a k L).holds F w) (h' : (sl d m (cids L)).holds F w) (h2 : (sl e n K).holds F w) (hK : KnowsR L K)
    (hl : L.length ≤ 1000) (hp : (L[i]).parents.length ≤ 1000) (hg : ∀ c ∈ L, 1 ≤ c.gen ∧ c.gen ≤ 1048576) :
    Gives Tryz.prog 131 [.slice a L.length k, .slice d (cids L).length m, .slice e K.length n, .int .i64 (i : Int)] w F (fun y : IsOne L i => .bool y.1) (fun _ => []) := by
  refine gives_of Tryz.func131 rfl Tryz.ntmps131 rfl rfl [.st (sl a k L), .st (sl d m (cids L)), .st (sl e n K)] (.start3 h h' h2) ?_
  repeat (first|refine Wa ?_|refine Wb ?_|refine Wc ?_|refine Wd ?_|refine We rfl ?_|refine Wf (by first|exact Va|exact Vb|exact Vc|exact Vd|exact Ve|exact Vf|exact Vg|exact Vh|exact Vi|exact Vj|exact Vk (by omega)|exact Vl|exact Vm|exact Vn|exact Vo|exact Vp|exact Vq|exact Vr|exact Vs (by omega)|exact Vt (by omega)|exact Vu (by omega)|exact Vv (by omega)|exact Vw|exact Vx|exact Vy|exact Vz|exact VA|exact VB|exact VC|exact VD|exact VE|exact VF) rfl ?_|(refine Wg rfl ?_; intro _)|(refine Wh rfl ?_; intro _)|refine Wi ?_|refine Wj ?_|refine Wk ?_|refine Wl ?_|refine Wm ?_|refine Wn ?_|refine Wo ?_|refine Wp ?_|refine Wq rfl ?_|refine Wr ?_|refine Ws ?_|refine Wt ?_|refine Wu ?_|refine Wv rfl rfl ?_|(refine Ww rfl ⟨rfl, by decide, by decide, by decide⟩ ?_; intro _))
  refine JR.indexCommit rfl hi ?_
  intro b1 o1 p1 q1
  repeat (first|refine Wa ?_|refine Wb ?_|refine Wc ?_|refine Wd ?_|refine We rfl ?_|refine Wf (by first|exact Va|exact Vb|exact Vc|exact Vd|exact Ve|exact Vf|exact Vg|exact Vh|exact Vi|exact Vj|exact Vk (by omega)|exact Vl|exact Vm|exact Vn|exact Vo|exact Vp|exact Vq|exact Vr|exact Vs (by omega)|exact Vt (by omega)|exact Vu (by omega)|exact Vv (by omega)|exact Vw|exact Vx|exact Vy|exact Vz|exact VA|exact VB|exact VC|exact VD|exact VE|exact VF) rfl ?_|(refine Wg rfl ?_; intro _)|(refine Wh rfl ?_; intro _)|refine Wi ?_|refine Wj ?_|refine Wk ?_|refine Wl ?_|refine Wm ?_|refine Wn ?_|refine Wo ?_|refine Wp ?_|refine Wq rfl ?_|refine Wr ?_|refine Ws ?_|refine Wt ?_|refine Wu ?_|refine Wv rfl rfl ?_|(refine Ww rfl ⟨rfl, by decide, by decide, by decide⟩ ?_; intro _))
  rename_i bc
  refine JC.loop2 (fun (y : Nat) (g : Int) => [(0, .slice a L.length k), (1, .slice d (cids L).length m), (2, .slice e K.length n), (10, .pointer (some ⟨bc, 0, none⟩)), (9, .int .i64 g), (11, .int .i64 (y : Int))]) (fun y g => [.own bc 29 [.int .i64 (L[i]).ev.node, .int .i64 (L[i]).ev.seq, .int .i64 (L[i]).gen, .slice p1 (L[i]).parents.length q1, .int .i64 (L[i]).op.kind, .string (L[i]).op.key, .string (L[i]).op.elem, .int .i64 (L[i]).op.n], .st (sl a k L), .st (sl d m (cids L)), .st (sl e n K), .st (sl p1 q1 (L[i]).parents)])
    (fun y g => y ≤ (L[i]).parents.length ∧ g = maxGen L ((L[i]).parents.take y) ∧ 0 ≤ g ∧ g ≤ 1048576 ∧ (∀ q ∈ (L[i]).parents.take y, q ∈ cids L) ∧
      ∀ q ∈ (L[i]).parents.take y, ∀ u, (cids L).findIdx? (fun x => decide (x = q)) = some u → ∀ q2 ∈ (L[i]).parents, ∀ v, (cids L).findIdx? (fun x => decide (x = q2)) = some v → ¬ knowsI L u v)
    (fun y _ => (L[i]).parents.length - y) 0 0 ⟨Nat.zero_le _, by simp [maxGen], by decide, by decide, by simp, by simp⟩ inferInstance ?_
  intro y g ⟨hy, hgm, hg0, hg1, hin, hpr⟩
  repeat (first|refine Wa ?_|refine Wb ?_|refine Wc ?_|refine Wd ?_|refine We rfl ?_|refine Wf (by first|exact Va|exact Vb|exact Vc|exact Vd|exact Ve|exact Vf|exact Vg|exact Vh|exact Vi|exact Vj|exact Vk (by omega)|exact Vl|exact Vm|exact Vn|exact Vo|exact Vp|exact Vq|exact Vr|exact Vs (by omega)|exact Vt (by omega)|exact Vu (by omega)|exact Vv (by omega)|exact Vw|exact Vx|exact Vy|exact Vz|exact VA|exact VB|exact VC|exact VD|exact VE|exact VF) rfl ?_|(refine Wg rfl ?_; intro _)|(refine Wh rfl ?_; intro _)|refine Wi ?_|refine Wj ?_|refine Wk ?_|refine Wl ?_|refine Wm ?_|refine Wn ?_|refine Wo ?_|refine Wp ?_|refine Wq rfl ?_|refine Wr ?_|refine Ws ?_|refine Wt ?_|refine Wu ?_|refine Wv rfl rfl ?_|(refine Ww rfl ⟨rfl, by decide, by decide, by decide⟩ ?_; intro _))
  refine JC.test (fun hlty => ?_) (fun hgey => ?_)
  · have hly : y < (L[i]).parents.length := by omega
    repeat (first|refine Wa ?_|refine Wb ?_|refine Wc ?_|refine Wd ?_|refine We rfl ?_|refine Wf (by first|exact Va|exact Vb|exact Vc|exact Vd|exact Ve|exact Vf|exact Vg|exact Vh|exact Vi|exact Vj|exact Vk (by omega)|exact Vl|exact Vm|exact Vn|exact Vo|exact Vp|exact Vq|exact Vr|exact Vs (by omega)|exact Vt (by omega)|exact Vu (by omega)|exact Vv (by omega)|exact Vw|exact Vx|exact Vy|exact Vz|exact VA|exact VB|exact VC|exact VD|exact VE|exact VF) rfl ?_|(refine Wg rfl ?_; intro _)|(refine Wh rfl ?_; intro _)|refine Wi ?_|refine Wj ?_|refine Wk ?_|refine Wl ?_|refine Wm ?_|refine Wn ?_|refine Wo ?_|refine Wp ?_|refine Wq rfl ?_|refine Wr ?_|refine Ws ?_|refine Wt ?_|refine Wu ?_|refine Wv rfl rfl ?_|(refine Ww rfl ⟨rfl, by decide, by decide, by decide⟩ ?_; intro _))
    refine JR.indexID (L := (L[i]).parents) rfl hly ?_
    intro b2 o2
    repeat (first|refine Wa ?_|refine Wb ?_|refine Wc ?_|refine Wd ?_|refine We rfl ?_|refine Wf (by first|exact Va|exact Vb|exact Vc|exact Vd|exact Ve|exact Vf|exact Vg|exact Vh|exact Vi|exact Vj|exact Vk (by omega)|exact Vl|exact Vm|exact Vn|exact Vo|exact Vp|exact Vq|exact Vr|exact Vs (by omega)|exact Vt (by omega)|exact Vu (by omega)|exact Vv (by omega)|exact Vw|exact Vx|exact Vy|exact Vz|exact VA|exact VB|exact VC|exact VD|exact VE|exact VF) rfl ?_|(refine Wg rfl ?_; intro _)|(refine Wh rfl ?_; intro _)|refine Wi ?_|refine Wj ?_|refine Wk ?_|refine Wl ?_|refine Wm ?_|refine Wn ?_|refine Wo ?_|refine Wp ?_|refine Wq rfl ?_|refine Wr ?_|refine Ws ?_|refine Wt ?_|refine Wu ?_|refine Wv rfl rfl ?_|(refine Ww rfl ⟨rfl, by decide, by decide, by decide⟩ ?_; intro _))
    refine JR.callV rfl (fun w1 hw => at_ref w1 _ d m (cids L) ((L[i]).parents[y]) hw.get) ?_
    cases hat : (cids L).findIdx? (fun u => decide (u = (L[i]).parents[y])) with
    | none =>
      refine JO.reslot 32 (.int .i64 (-1)) (by simp [atI, hat]) ?_
      repeat (first|refine Wa ?_|refine Wb ?_|refine Wc ?_|refine Wd ?_|refine We rfl ?_|refine Wf (by first|exact Va|exact Vb|exact Vc|exact Vd|exact Ve|exact Vf|exact Vg|exact Vh|exact Vi|exact Vj|exact Vk (by omega)|exact Vl|exact Vm|exact Vn|exact Vo|exact Vp|exact Vq|exact Vr|exact Vs (by omega)|exact Vt (by omega)|exact Vu (by omega)|exact Vv (by omega)|exact Vw|exact Vx|exact Vy|exact Vz|exact VA|exact VB|exact VC|exact VD|exact VE|exact VF) rfl ?_|(refine Wg rfl ?_; intro _)|(refine Wh rfl ?_; intro _)|refine Wi ?_|refine Wj ?_|refine Wk ?_|refine Wl ?_|refine Wm ?_|refine Wn ?_|refine Wo ?_|refine Wp ?_|refine Wq rfl ?_|refine Wr ?_|refine Ws ?_|refine Wt ?_|refine Wu ?_|refine Wv rfl rfl ?_|(refine Ww rfl ⟨rfl, by decide, by decide, by decide⟩ ?_; intro _)|refine Wx rfl rfl ?_)
      exact CT.done (Y := IsOne L i) ⟨false, not_one_of hi (List.getElem_mem hly) (at_none.1 hat)⟩ rfl (fun w ho => ho.ent)
    | some x =>
      have hsx : istep L i x := ⟨hi, _, List.getElem_mem hly, hat⟩
      have hxl := (istep_lt hsx).2
      have hgx := hg _ (List.getElem_mem hxl)
      have hga := genAt_at hat hxl
      refine JO.reslot 32 (.int .i64 (x : Int)) (by simp [atI, hat]) ?_
      repeat (first|refine Wa ?_|refine Wb ?_|refine Wc ?_|refine Wd ?_|refine We rfl ?_|refine Wf (by first|exact Va|exact Vb|exact Vc|exact Vd|exact Ve|exact Vf|exact Vg|exact Vh|exact Vi|exact Vj|exact Vk (by omega)|exact Vl|exact Vm|exact Vn|exact Vo|exact Vp|exact Vq|exact Vr|exact Vs (by omega)|exact Vt (by omega)|exact Vu (by omega)|exact Vv (by omega)|exact Vw|exact Vx|exact Vy|exact Vz|exact VA|exact VB|exact VC|exact VD|exact VE|exact VF) rfl ?_|(refine Wg rfl ?_; intro _)|(refine Wh rfl ?_; intro _)|refine Wi ?_|refine Wj ?_|refine Wk ?_|refine Wl ?_|refine Wm ?_|refine Wn ?_|refine Wo ?_|refine Wp ?_|refine Wq rfl ?_|refine Wr ?_|refine Ws ?_|refine Wt ?_|refine Wu ?_|refine Wv rfl rfl ?_|(refine Ww rfl ⟨rfl, by decide, by decide, by decide⟩ ?_; intro _)|refine Wx rfl rfl ?_)
      refine JR.indexCommit (L := L) (k := x) rfl hxl ?_
      intro b3 o3 p3 q3
      repeat (first|refine Wa ?_|refine Wb ?_|refine Wc ?_|refine Wd ?_|refine We rfl ?_|refine Wf (by first|exact Va|exact Vb|exact Vc|exact Vd|exact Ve|exact Vf|exact Vg|exact Vh|exact Vi|exact Vj|exact Vk (by omega)|exact Vl|exact Vm|exact Vn|exact Vo|exact Vp|exact Vq|exact Vr|exact Vs (by omega)|exact Vt (by omega)|exact Vu (by omega)|exact Vv (by omega)|exact Vw|exact Vx|exact Vy|exact Vz|exact VA|exact VB|exact VC|exact VD|exact VE|exact VF) rfl ?_|(refine Wg rfl ?_; intro _)|(refine Wh rfl ?_; intro _)|refine Wi ?_|refine Wj ?_|refine Wk ?_|refine Wl ?_|refine Wm ?_|refine Wn ?_|refine Wo ?_|refine Wp ?_|refine Wq rfl ?_|refine Wr ?_|refine Ws ?_|refine Wt ?_|refine Wu ?_|refine Wv rfl rfl ?_|(refine Ww rfl ⟨rfl, by decide, by decide, by decide⟩ ?_; intro _)|refine Wx rfl rfl ?_)
      refine JC.test (fun hgt => ?_) (fun hgt => ?_)
      · repeat (first|refine Wa ?_|refine Wb ?_|refine Wc ?_|refine Wd ?_|refine We rfl ?_|refine Wf (by first|exact Va|exact Vb|exact Vc|exact Vd|exact Ve|exact Vf|exact Vg|exact Vh|exact Vi|exact Vj|exact Vk (by omega)|exact Vl|exact Vm|exact Vn|exact Vo|exact Vp|exact Vq|exact Vr|exact Vs (by omega)|exact Vt (by omega)|exact Vu (by omega)|exact Vv (by omega)|exact Vw|exact Vx|exact Vy|exact Vz|exact VA|exact VB|exact VC|exact VD|exact VE|exact VF) rfl ?_|(refine Wg rfl ?_; intro _)|(refine Wh rfl ?_; intro _)|refine Wi ?_|refine Wj ?_|refine Wk ?_|refine Wl ?_|refine Wm ?_|refine Wn ?_|refine Wo ?_|refine Wp ?_|refine Wq rfl ?_|refine Wr ?_|refine Ws ?_|refine Wt ?_|refine Wu ?_|refine Wv rfl rfl ?_|(refine Ww rfl ⟨rfl, by decide, by decide, by decide⟩ ?_; intro _)|refine Wx rfl rfl ?_)
        refine JR.indexCommit (L := L) (k := x) rfl hxl ?_
        intro b4 o4 p4 q4
        repeat (first|refine Wa ?_|refine Wb ?_|refine Wc ?_|refine Wd ?_|refine We rfl ?_|refine Wf (by first|exact Va|exact Vb|exact Vc|exact Vd|exact Ve|exact Vf|exact Vg|exact Vh|exact Vi|exact Vj|exact Vk (by omega)|exact Vl|exact Vm|exact Vn|exact Vo|exact Vp|exact Vq|exact Vr|exact Vs (by omega)|exact Vt (by omega)|exact Vu (by omega)|exact Vv (by omega)|exact Vw|exact Vx|exact Vy|exact Vz|exact VA|exact VB|exact VC|exact VD|exact VE|exact VF) rfl ?_|(refine Wg rfl ?_; intro _)|(refine Wh rfl ?_; intro _)|refine Wi ?_|refine Wj ?_|refine Wk ?_|refine Wl ?_|refine Wm ?_|refine Wn ?_|refine Wo ?_|refine Wp ?_|refine Wq rfl ?_|refine Wr ?_|refine Ws ?_|refine Wt ?_|refine Wu ?_|refine Wv rfl rfl ?_|(refine Ww rfl ⟨rfl, by decide, by decide, by decide⟩ ?_; intro _)|refine Wx rfl rfl ?_)
        obtain ⟨g2, hg2⟩ : ∃ g2, g2 = maxGen L ((L[i]).parents.take (y + 1)) ∧ g2 = L[x].gen := ⟨L[x].gen, by rw [List.take_succ_eq_append_getElem hly, maxGen_snoc, ← hgm, hga]; omega, rfl⟩
        rw [← hg2.2]
        refine JC.loop1 (fun (z : Nat) => [(0, .slice a L.length k), (1, .slice d (cids L).length m), (2, .slice e K.length n), (10, .pointer (some ⟨bc, 0, none⟩)), (9, .int .i64 g2), (11, .int .i64 (y : Int)), (12, .int .i64 (x : Int)), (13, .int .i64 (z : Int))]) (fun z => [.own bc 29 [.int .i64 (L[i]).ev.node, .int .i64 (L[i]).ev.seq, .int .i64 (L[i]).gen, .slice p1 (L[i]).parents.length q1, .int .i64 (L[i]).op.kind, .string (L[i]).op.key, .string (L[i]).op.elem, .int .i64 (L[i]).op.n], .st (sl a k L), .st (sl d m (cids L)), .st (sl e n K), .st (sl p1 q1 (L[i]).parents)])
          (fun z => z ≤ (L[i]).parents.length ∧ (∀ q ∈ (L[i]).parents.take z, ∀ v, (cids L).findIdx? (fun u => decide (u = q)) = some v → ¬ knowsI L x v)) (fun z => (L[i]).parents.length - z) 0 ⟨Nat.zero_le _, by simp⟩ inferInstance ?_
        intro z ⟨hz, hpair⟩
        repeat (first|refine Wa ?_|refine Wb ?_|refine Wc ?_|refine Wd ?_|refine We rfl ?_|refine Wf (by first|exact Va|exact Vb|exact Vc|exact Vd|exact Ve|exact Vf|exact Vg|exact Vh|exact Vi|exact Vj|exact Vk (by omega)|exact Vl|exact Vm|exact Vn|exact Vo|exact Vp|exact Vq|exact Vr|exact Vs (by omega)|exact Vt (by omega)|exact Vu (by omega)|exact Vv (by omega)|exact Vw|exact Vx|exact Vy|exact Vz|exact VA|exact VB|exact VC|exact VD|exact VE|exact VF) rfl ?_|(refine Wg rfl ?_; intro _)|(refine Wh rfl ?_; intro _)|refine Wi ?_|refine Wj ?_|refine Wk ?_|refine Wl ?_|refine Wm ?_|refine Wn ?_|refine Wo ?_|refine Wp ?_|refine Wq rfl ?_|refine Wr ?_|refine Ws ?_|refine Wt ?_|refine Wu ?_|refine Wv rfl rfl ?_|(refine Ww rfl ⟨rfl, by decide, by decide, by decide⟩ ?_; intro _))
        refine JC.test (fun hltz => ?_) (fun hgez => ?_)
        · have hlz : z < (L[i]).parents.length := by omega
          repeat (first|refine Wa ?_|refine Wb ?_|refine Wc ?_|refine Wd ?_|refine We rfl ?_|refine Wf (by first|exact Va|exact Vb|exact Vc|exact Vd|exact Ve|exact Vf|exact Vg|exact Vh|exact Vi|exact Vj|exact Vk (by omega)|exact Vl|exact Vm|exact Vn|exact Vo|exact Vp|exact Vq|exact Vr|exact Vs (by omega)|exact Vt (by omega)|exact Vu (by omega)|exact Vv (by omega)|exact Vw|exact Vx|exact Vy|exact Vz|exact VA|exact VB|exact VC|exact VD|exact VE|exact VF) rfl ?_|(refine Wg rfl ?_; intro _)|(refine Wh rfl ?_; intro _)|refine Wi ?_|refine Wj ?_|refine Wk ?_|refine Wl ?_|refine Wm ?_|refine Wn ?_|refine Wo ?_|refine Wp ?_|refine Wq rfl ?_|refine Wr ?_|refine Ws ?_|refine Wt ?_|refine Wu ?_|refine Wv rfl rfl ?_|(refine Ww rfl ⟨rfl, by decide, by decide, by decide⟩ ?_; intro _))
          refine JR.indexID (L := (L[i]).parents) rfl hlz ?_
          intro b5 o5
          repeat (first|refine Wa ?_|refine Wb ?_|refine Wc ?_|refine Wd ?_|refine We rfl ?_|refine Wf (by first|exact Va|exact Vb|exact Vc|exact Vd|exact Ve|exact Vf|exact Vg|exact Vh|exact Vi|exact Vj|exact Vk (by omega)|exact Vl|exact Vm|exact Vn|exact Vo|exact Vp|exact Vq|exact Vr|exact Vs (by omega)|exact Vt (by omega)|exact Vu (by omega)|exact Vv (by omega)|exact Vw|exact Vx|exact Vy|exact Vz|exact VA|exact VB|exact VC|exact VD|exact VE|exact VF) rfl ?_|(refine Wg rfl ?_; intro _)|(refine Wh rfl ?_; intro _)|refine Wi ?_|refine Wj ?_|refine Wk ?_|refine Wl ?_|refine Wm ?_|refine Wn ?_|refine Wo ?_|refine Wp ?_|refine Wq rfl ?_|refine Wr ?_|refine Ws ?_|refine Wt ?_|refine Wu ?_|refine Wv rfl rfl ?_|(refine Ww rfl ⟨rfl, by decide, by decide, by decide⟩ ?_; intro _))
          refine JR.callV rfl (fun w1 hw => at_ref w1 _ d m (cids L) ((L[i]).parents[z]) hw.get) ?_
          cases hatz : (cids L).findIdx? (fun u => decide (u = (L[i]).parents[z])) with
          | none =>
            refine JO.reslot 60 (.int .i64 (-1)) (by simp [atI, hatz]) ?_
            repeat (first|refine Wa ?_|refine Wb ?_|refine Wc ?_|refine Wd ?_|refine We rfl ?_|refine Wf (by first|exact Va|exact Vb|exact Vc|exact Vd|exact Ve|exact Vf|exact Vg|exact Vh|exact Vi|exact Vj|exact Vk (by omega)|exact Vl|exact Vm|exact Vn|exact Vo|exact Vp|exact Vq|exact Vr|exact Vs (by omega)|exact Vt (by omega)|exact Vu (by omega)|exact Vv (by omega)|exact Vw|exact Vx|exact Vy|exact Vz|exact VA|exact VB|exact VC|exact VD|exact VE|exact VF) rfl ?_|(refine Wg rfl ?_; intro _)|(refine Wh rfl ?_; intro _)|refine Wi ?_|refine Wj ?_|refine Wk ?_|refine Wl ?_|refine Wm ?_|refine Wn ?_|refine Wo ?_|refine Wp ?_|refine Wq rfl ?_|refine Wr ?_|refine Ws ?_|refine Wt ?_|refine Wu ?_|refine Wv rfl rfl ?_|(refine Ww rfl ⟨rfl, by decide, by decide, by decide⟩ ?_; intro _)|refine Wx rfl rfl ?_)
            exact CT.done (Y := IsOne L i) ⟨false, not_one_of hi (List.getElem_mem hlz) (at_none.1 hatz)⟩ rfl (fun w ho => ho.ent)
          | some v =>
            have hsv : istep L i v := ⟨hi, _, List.getElem_mem hlz, hatz⟩
            have hvl := (istep_lt hsv).2
            have hKx : x < K.length := by rw [hK.square.1]; exact hxl
            have hKxl : K[x].length = L.length := hK.square.2 x hKx
            refine JO.reslot 60 (.int .i64 (v : Int)) (by simp [atI, hatz]) ?_
            repeat (first|refine Wa ?_|refine Wb ?_|refine Wc ?_|refine Wd ?_|refine We rfl ?_|refine Wf (by first|exact Va|exact Vb|exact Vc|exact Vd|exact Ve|exact Vf|exact Vg|exact Vh|exact Vi|exact Vj|exact Vk (by omega)|exact Vl|exact Vm|exact Vn|exact Vo|exact Vp|exact Vq|exact Vr|exact Vs (by omega)|exact Vt (by omega)|exact Vu (by omega)|exact Vv (by omega)|exact Vw|exact Vx|exact Vy|exact Vz|exact VA|exact VB|exact VC|exact VD|exact VE|exact VF) rfl ?_|(refine Wg rfl ?_; intro _)|(refine Wh rfl ?_; intro _)|refine Wi ?_|refine Wj ?_|refine Wk ?_|refine Wl ?_|refine Wm ?_|refine Wn ?_|refine Wo ?_|refine Wp ?_|refine Wq rfl ?_|refine Wr ?_|refine Ws ?_|refine Wt ?_|refine Wu ?_|refine Wv rfl rfl ?_|(refine Ww rfl ⟨rfl, by decide, by decide, by decide⟩ ?_; intro _)|refine Wx rfl rfl ?_)
            refine JR.indexRow (L := K) (k := x) rfl hKx ?_
            intro b6 o6 p6 q6
            repeat (first|refine Wa ?_|refine Wb ?_|refine Wc ?_|refine Wd ?_|refine We rfl ?_|refine Wf (by first|exact Va|exact Vb|exact Vc|exact Vd|exact Ve|exact Vf|exact Vg|exact Vh|exact Vi|exact Vj|exact Vk (by omega)|exact Vl|exact Vm|exact Vn|exact Vo|exact Vp|exact Vq|exact Vr|exact Vs (by omega)|exact Vt (by omega)|exact Vu (by omega)|exact Vv (by omega)|exact Vw|exact Vx|exact Vy|exact Vz|exact VA|exact VB|exact VC|exact VD|exact VE|exact VF) rfl ?_|(refine Wg rfl ?_; intro _)|(refine Wh rfl ?_; intro _)|refine Wi ?_|refine Wj ?_|refine Wk ?_|refine Wl ?_|refine Wm ?_|refine Wn ?_|refine Wo ?_|refine Wp ?_|refine Wq rfl ?_|refine Wr ?_|refine Ws ?_|refine Wt ?_|refine Wu ?_|refine Wv rfl rfl ?_|(refine Ww rfl ⟨rfl, by decide, by decide, by decide⟩ ?_; intro _)|refine Wx rfl rfl ?_)
            refine JR.indexBool (L := K[x]) (k := v) rfl (by omega) ?_
            intro b7 o7
            repeat (first|refine Wa ?_|refine Wb ?_|refine Wc ?_|refine Wd ?_|refine We rfl ?_|refine Wf (by first|exact Va|exact Vb|exact Vc|exact Vd|exact Ve|exact Vf|exact Vg|exact Vh|exact Vi|exact Vj|exact Vk (by omega)|exact Vl|exact Vm|exact Vn|exact Vo|exact Vp|exact Vq|exact Vr|exact Vs (by omega)|exact Vt (by omega)|exact Vu (by omega)|exact Vv (by omega)|exact Vw|exact Vx|exact Vy|exact Vz|exact VA|exact VB|exact VC|exact VD|exact VE|exact VF) rfl ?_|(refine Wg rfl ?_; intro _)|(refine Wh rfl ?_; intro _)|refine Wi ?_|refine Wj ?_|refine Wk ?_|refine Wl ?_|refine Wm ?_|refine Wn ?_|refine Wo ?_|refine Wp ?_|refine Wq rfl ?_|refine Wr ?_|refine Ws ?_|refine Wt ?_|refine Wu ?_|refine Wv rfl rfl ?_|(refine Ww rfl ⟨rfl, by decide, by decide, by decide⟩ ?_; intro _)|refine Wx rfl rfl ?_)
            refine JC.test (fun hkv => ?_) (fun hkv => ?_)
            · have hk2 : knowsI L x v := (hK.iff x v).1 (by rw [get_eq hKx (by omega)]; exact hkv)
              repeat (first|refine Wa ?_|refine Wb ?_|refine Wc ?_|refine Wd ?_|refine We rfl ?_|refine Wf (by first|exact Va|exact Vb|exact Vc|exact Vd|exact Ve|exact Vf|exact Vg|exact Vh|exact Vi|exact Vj|exact Vk (by omega)|exact Vl|exact Vm|exact Vn|exact Vo|exact Vp|exact Vq|exact Vr|exact Vs (by omega)|exact Vt (by omega)|exact Vu (by omega)|exact Vv (by omega)|exact Vw|exact Vx|exact Vy|exact Vz|exact VA|exact VB|exact VC|exact VD|exact VE|exact VF) rfl ?_|(refine Wg rfl ?_; intro _)|(refine Wh rfl ?_; intro _)|refine Wi ?_|refine Wj ?_|refine Wk ?_|refine Wl ?_|refine Wm ?_|refine Wn ?_|refine Wo ?_|refine Wp ?_|refine Wq rfl ?_|refine Wr ?_|refine Ws ?_|refine Wt ?_|refine Wu ?_|refine Wv rfl rfl ?_|(refine Ww rfl ⟨rfl, by decide, by decide, by decide⟩ ?_; intro _)|refine Wx rfl rfl ?_)
              exact CT.done (Y := IsOne L i) ⟨false, not_one_pair hsx hsv hk2⟩ rfl (fun w ho => ho.ent)
            · have hk2 : ¬ knowsI L x v := fun hk => by
                have := (hK.iff x v).2 hk
                rw [get_eq hKx (by omega)] at this
                exact hkv this
              repeat (first|refine Wa ?_|refine Wb ?_|refine Wc ?_|refine Wd ?_|refine We rfl ?_|refine Wf (by first|exact Va|exact Vb|exact Vc|exact Vd|exact Ve|exact Vf|exact Vg|exact Vh|exact Vi|exact Vj|exact Vk (by omega)|exact Vl|exact Vm|exact Vn|exact Vo|exact Vp|exact Vq|exact Vr|exact Vs (by omega)|exact Vt (by omega)|exact Vu (by omega)|exact Vv (by omega)|exact Vw|exact Vx|exact Vy|exact Vz|exact VA|exact VB|exact VC|exact VD|exact VE|exact VF) rfl ?_|(refine Wg rfl ?_; intro _)|(refine Wh rfl ?_; intro _)|refine Wi ?_|refine Wj ?_|refine Wk ?_|refine Wl ?_|refine Wm ?_|refine Wn ?_|refine Wo ?_|refine Wp ?_|refine Wq rfl ?_|refine Wr ?_|refine Ws ?_|refine Wt ?_|refine Wu ?_|refine Wv rfl rfl ?_|(refine Ww rfl ⟨rfl, by decide, by decide, by decide⟩ ?_; intro _)|refine Wx rfl rfl ?_)
              refine ⟨z + 1, ⟨by omega, fun q hq v' hv' => ?_⟩, by omega, inferInstance⟩
              rcases (mem_take_succ hlz).1 hq with hq | rfl
              · exact hpair q hq v' hv'
              · rw [hatz] at hv'
                injection hv' with hv'
                subst hv'; exact hk2
        · have hze : z = (L[i]).parents.length := by omega
          rw [hze, List.take_length] at hpair
          repeat (first|refine Wa ?_|refine Wb ?_|refine Wc ?_|refine Wd ?_|refine We rfl ?_|refine Wf (by first|exact Va|exact Vb|exact Vc|exact Vd|exact Ve|exact Vf|exact Vg|exact Vh|exact Vi|exact Vj|exact Vk (by omega)|exact Vl|exact Vm|exact Vn|exact Vo|exact Vp|exact Vq|exact Vr|exact Vs (by omega)|exact Vt (by omega)|exact Vu (by omega)|exact Vv (by omega)|exact Vw|exact Vx|exact Vy|exact Vz|exact VA|exact VB|exact VC|exact VD|exact VE|exact VF) rfl ?_|(refine Wg rfl ?_; intro _)|(refine Wh rfl ?_; intro _)|refine Wi ?_|refine Wj ?_|refine Wk ?_|refine Wl ?_|refine Wm ?_|refine Wn ?_|refine Wo ?_|refine Wp ?_|refine Wq rfl ?_|refine Wr ?_|refine Ws ?_|refine Wt ?_|refine Wu ?_|refine Wv rfl rfl ?_|(refine Ww rfl ⟨rfl, by decide, by decide, by decide⟩ ?_; intro _)|refine Wx rfl rfl ?_)
          refine ⟨y + 1, g2, ⟨by omega, hg2.1, by omega, by omega, fun q hq => ?_, fun q hq u hu q2 hq2 v hv => ?_⟩, by omega, inferInstance⟩
          · rcases (mem_take_succ hly).1 hq with hq | rfl
            · exact hin q hq
            · exact Classical.byContradiction fun hn => by rw [at_none.2 hn] at hat; cases hat
          · rcases (mem_take_succ hly).1 hq with hq | rfl
            · exact hpr q hq u hu q2 hq2 v hv
            · rw [hat] at hu
              injection hu with hu
              subst hu
              exact hpair q2 hq2 v hv
      · repeat (first|refine Wa ?_|refine Wb ?_|refine Wc ?_|refine Wd ?_|refine We rfl ?_|refine Wf (by first|exact Va|exact Vb|exact Vc|exact Vd|exact Ve|exact Vf|exact Vg|exact Vh|exact Vi|exact Vj|exact Vk (by omega)|exact Vl|exact Vm|exact Vn|exact Vo|exact Vp|exact Vq|exact Vr|exact Vs (by omega)|exact Vt (by omega)|exact Vu (by omega)|exact Vv (by omega)|exact Vw|exact Vx|exact Vy|exact Vz|exact VA|exact VB|exact VC|exact VD|exact VE|exact VF) rfl ?_|(refine Wg rfl ?_; intro _)|(refine Wh rfl ?_; intro _)|refine Wi ?_|refine Wj ?_|refine Wk ?_|refine Wl ?_|refine Wm ?_|refine Wn ?_|refine Wo ?_|refine Wp ?_|refine Wq rfl ?_|refine Wr ?_|refine Ws ?_|refine Wt ?_|refine Wu ?_|refine Wv rfl rfl ?_|(refine Ww rfl ⟨rfl, by decide, by decide, by decide⟩ ?_; intro _)|refine Wx rfl rfl ?_)
        obtain ⟨g2, hg2⟩ : ∃ g2, g2 = maxGen L ((L[i]).parents.take (y + 1)) ∧ g2 = g := ⟨g, by rw [List.take_succ_eq_append_getElem hly, maxGen_snoc, ← hgm, hga]; omega, rfl⟩
        rw [← hg2.2]
        refine JC.loop1 (fun (z : Nat) => [(0, .slice a L.length k), (1, .slice d (cids L).length m), (2, .slice e K.length n), (10, .pointer (some ⟨bc, 0, none⟩)), (9, .int .i64 g2), (11, .int .i64 (y : Int)), (12, .int .i64 (x : Int)), (13, .int .i64 (z : Int))]) (fun z => [.own bc 29 [.int .i64 (L[i]).ev.node, .int .i64 (L[i]).ev.seq, .int .i64 (L[i]).gen, .slice p1 (L[i]).parents.length q1, .int .i64 (L[i]).op.kind, .string (L[i]).op.key, .string (L[i]).op.elem, .int .i64 (L[i]).op.n], .st (sl a k L), .st (sl d m (cids L)), .st (sl e n K), .st (sl p1 q1 (L[i]).parents)])
          (fun z => z ≤ (L[i]).parents.length ∧ (∀ q ∈ (L[i]).parents.take z, ∀ v, (cids L).findIdx? (fun u => decide (u = q)) = some v → ¬ knowsI L x v)) (fun z => (L[i]).parents.length - z) 0 ⟨Nat.zero_le _, by simp⟩ inferInstance ?_
        intro z ⟨hz, hpair⟩
        repeat (first|refine Wa ?_|refine Wb ?_|refine Wc ?_|refine Wd ?_|refine We rfl ?_|refine Wf (by first|exact Va|exact Vb|exact Vc|exact Vd|exact Ve|exact Vf|exact Vg|exact Vh|exact Vi|exact Vj|exact Vk (by omega)|exact Vl|exact Vm|exact Vn|exact Vo|exact Vp|exact Vq|exact Vr|exact Vs (by omega)|exact Vt (by omega)|exact Vu (by omega)|exact Vv (by omega)|exact Vw|exact Vx|exact Vy|exact Vz|exact VA|exact VB|exact VC|exact VD|exact VE|exact VF) rfl ?_|(refine Wg rfl ?_; intro _)|(refine Wh rfl ?_; intro _)|refine Wi ?_|refine Wj ?_|refine Wk ?_|refine Wl ?_|refine Wm ?_|refine Wn ?_|refine Wo ?_|refine Wp ?_|refine Wq rfl ?_|refine Wr ?_|refine Ws ?_|refine Wt ?_|refine Wu ?_|refine Wv rfl rfl ?_|(refine Ww rfl ⟨rfl, by decide, by decide, by decide⟩ ?_; intro _))
        refine JC.test (fun hltz => ?_) (fun hgez => ?_)
        · have hlz : z < (L[i]).parents.length := by omega
          repeat (first|refine Wa ?_|refine Wb ?_|refine Wc ?_|refine Wd ?_|refine We rfl ?_|refine Wf (by first|exact Va|exact Vb|exact Vc|exact Vd|exact Ve|exact Vf|exact Vg|exact Vh|exact Vi|exact Vj|exact Vk (by omega)|exact Vl|exact Vm|exact Vn|exact Vo|exact Vp|exact Vq|exact Vr|exact Vs (by omega)|exact Vt (by omega)|exact Vu (by omega)|exact Vv (by omega)|exact Vw|exact Vx|exact Vy|exact Vz|exact VA|exact VB|exact VC|exact VD|exact VE|exact VF) rfl ?_|(refine Wg rfl ?_; intro _)|(refine Wh rfl ?_; intro _)|refine Wi ?_|refine Wj ?_|refine Wk ?_|refine Wl ?_|refine Wm ?_|refine Wn ?_|refine Wo ?_|refine Wp ?_|refine Wq rfl ?_|refine Wr ?_|refine Ws ?_|refine Wt ?_|refine Wu ?_|refine Wv rfl rfl ?_|(refine Ww rfl ⟨rfl, by decide, by decide, by decide⟩ ?_; intro _))
          refine JR.indexID (L := (L[i]).parents) rfl hlz ?_
          intro b5 o5
          repeat (first|refine Wa ?_|refine Wb ?_|refine Wc ?_|refine Wd ?_|refine We rfl ?_|refine Wf (by first|exact Va|exact Vb|exact Vc|exact Vd|exact Ve|exact Vf|exact Vg|exact Vh|exact Vi|exact Vj|exact Vk (by omega)|exact Vl|exact Vm|exact Vn|exact Vo|exact Vp|exact Vq|exact Vr|exact Vs (by omega)|exact Vt (by omega)|exact Vu (by omega)|exact Vv (by omega)|exact Vw|exact Vx|exact Vy|exact Vz|exact VA|exact VB|exact VC|exact VD|exact VE|exact VF) rfl ?_|(refine Wg rfl ?_; intro _)|(refine Wh rfl ?_; intro _)|refine Wi ?_|refine Wj ?_|refine Wk ?_|refine Wl ?_|refine Wm ?_|refine Wn ?_|refine Wo ?_|refine Wp ?_|refine Wq rfl ?_|refine Wr ?_|refine Ws ?_|refine Wt ?_|refine Wu ?_|refine Wv rfl rfl ?_|(refine Ww rfl ⟨rfl, by decide, by decide, by decide⟩ ?_; intro _))
          refine JR.callV rfl (fun w1 hw => at_ref w1 _ d m (cids L) ((L[i]).parents[z]) hw.get) ?_
          cases hatz : (cids L).findIdx? (fun u => decide (u = (L[i]).parents[z])) with
          | none =>
            refine JO.reslot 60 (.int .i64 (-1)) (by simp [atI, hatz]) ?_
            repeat (first|refine Wa ?_|refine Wb ?_|refine Wc ?_|refine Wd ?_|refine We rfl ?_|refine Wf (by first|exact Va|exact Vb|exact Vc|exact Vd|exact Ve|exact Vf|exact Vg|exact Vh|exact Vi|exact Vj|exact Vk (by omega)|exact Vl|exact Vm|exact Vn|exact Vo|exact Vp|exact Vq|exact Vr|exact Vs (by omega)|exact Vt (by omega)|exact Vu (by omega)|exact Vv (by omega)|exact Vw|exact Vx|exact Vy|exact Vz|exact VA|exact VB|exact VC|exact VD|exact VE|exact VF) rfl ?_|(refine Wg rfl ?_; intro _)|(refine Wh rfl ?_; intro _)|refine Wi ?_|refine Wj ?_|refine Wk ?_|refine Wl ?_|refine Wm ?_|refine Wn ?_|refine Wo ?_|refine Wp ?_|refine Wq rfl ?_|refine Wr ?_|refine Ws ?_|refine Wt ?_|refine Wu ?_|refine Wv rfl rfl ?_|(refine Ww rfl ⟨rfl, by decide, by decide, by decide⟩ ?_; intro _)|refine Wx rfl rfl ?_)
            exact CT.done (Y := IsOne L i) ⟨false, not_one_of hi (List.getElem_mem hlz) (at_none.1 hatz)⟩ rfl (fun w ho => ho.ent)
          | some v =>
            have hsv : istep L i v := ⟨hi, _, List.getElem_mem hlz, hatz⟩
            have hvl := (istep_lt hsv).2
            have hKx : x < K.length := by rw [hK.square.1]; exact hxl
            have hKxl : K[x].length = L.length := hK.square.2 x hKx
            refine JO.reslot 60 (.int .i64 (v : Int)) (by simp [atI, hatz]) ?_
            repeat (first|refine Wa ?_|refine Wb ?_|refine Wc ?_|refine Wd ?_|refine We rfl ?_|refine Wf (by first|exact Va|exact Vb|exact Vc|exact Vd|exact Ve|exact Vf|exact Vg|exact Vh|exact Vi|exact Vj|exact Vk (by omega)|exact Vl|exact Vm|exact Vn|exact Vo|exact Vp|exact Vq|exact Vr|exact Vs (by omega)|exact Vt (by omega)|exact Vu (by omega)|exact Vv (by omega)|exact Vw|exact Vx|exact Vy|exact Vz|exact VA|exact VB|exact VC|exact VD|exact VE|exact VF) rfl ?_|(refine Wg rfl ?_; intro _)|(refine Wh rfl ?_; intro _)|refine Wi ?_|refine Wj ?_|refine Wk ?_|refine Wl ?_|refine Wm ?_|refine Wn ?_|refine Wo ?_|refine Wp ?_|refine Wq rfl ?_|refine Wr ?_|refine Ws ?_|refine Wt ?_|refine Wu ?_|refine Wv rfl rfl ?_|(refine Ww rfl ⟨rfl, by decide, by decide, by decide⟩ ?_; intro _)|refine Wx rfl rfl ?_)
            refine JR.indexRow (L := K) (k := x) rfl hKx ?_
            intro b6 o6 p6 q6
            repeat (first|refine Wa ?_|refine Wb ?_|refine Wc ?_|refine Wd ?_|refine We rfl ?_|refine Wf (by first|exact Va|exact Vb|exact Vc|exact Vd|exact Ve|exact Vf|exact Vg|exact Vh|exact Vi|exact Vj|exact Vk (by omega)|exact Vl|exact Vm|exact Vn|exact Vo|exact Vp|exact Vq|exact Vr|exact Vs (by omega)|exact Vt (by omega)|exact Vu (by omega)|exact Vv (by omega)|exact Vw|exact Vx|exact Vy|exact Vz|exact VA|exact VB|exact VC|exact VD|exact VE|exact VF) rfl ?_|(refine Wg rfl ?_; intro _)|(refine Wh rfl ?_; intro _)|refine Wi ?_|refine Wj ?_|refine Wk ?_|refine Wl ?_|refine Wm ?_|refine Wn ?_|refine Wo ?_|refine Wp ?_|refine Wq rfl ?_|refine Wr ?_|refine Ws ?_|refine Wt ?_|refine Wu ?_|refine Wv rfl rfl ?_|(refine Ww rfl ⟨rfl, by decide, by decide, by decide⟩ ?_; intro _)|refine Wx rfl rfl ?_)
            refine JR.indexBool (L := K[x]) (k := v) rfl (by omega) ?_
            intro b7 o7
            repeat (first|refine Wa ?_|refine Wb ?_|refine Wc ?_|refine Wd ?_|refine We rfl ?_|refine Wf (by first|exact Va|exact Vb|exact Vc|exact Vd|exact Ve|exact Vf|exact Vg|exact Vh|exact Vi|exact Vj|exact Vk (by omega)|exact Vl|exact Vm|exact Vn|exact Vo|exact Vp|exact Vq|exact Vr|exact Vs (by omega)|exact Vt (by omega)|exact Vu (by omega)|exact Vv (by omega)|exact Vw|exact Vx|exact Vy|exact Vz|exact VA|exact VB|exact VC|exact VD|exact VE|exact VF) rfl ?_|(refine Wg rfl ?_; intro _)|(refine Wh rfl ?_; intro _)|refine Wi ?_|refine Wj ?_|refine Wk ?_|refine Wl ?_|refine Wm ?_|refine Wn ?_|refine Wo ?_|refine Wp ?_|refine Wq rfl ?_|refine Wr ?_|refine Ws ?_|refine Wt ?_|refine Wu ?_|refine Wv rfl rfl ?_|(refine Ww rfl ⟨rfl, by decide, by decide, by decide⟩ ?_; intro _)|refine Wx rfl rfl ?_)
            refine JC.test (fun hkv => ?_) (fun hkv => ?_)
            · have hk2 : knowsI L x v := (hK.iff x v).1 (by rw [get_eq hKx (by omega)]; exact hkv)
              repeat (first|refine Wa ?_|refine Wb ?_|refine Wc ?_|refine Wd ?_|refine We rfl ?_|refine Wf (by first|exact Va|exact Vb|exact Vc|exact Vd|exact Ve|exact Vf|exact Vg|exact Vh|exact Vi|exact Vj|exact Vk (by omega)|exact Vl|exact Vm|exact Vn|exact Vo|exact Vp|exact Vq|exact Vr|exact Vs (by omega)|exact Vt (by omega)|exact Vu (by omega)|exact Vv (by omega)|exact Vw|exact Vx|exact Vy|exact Vz|exact VA|exact VB|exact VC|exact VD|exact VE|exact VF) rfl ?_|(refine Wg rfl ?_; intro _)|(refine Wh rfl ?_; intro _)|refine Wi ?_|refine Wj ?_|refine Wk ?_|refine Wl ?_|refine Wm ?_|refine Wn ?_|refine Wo ?_|refine Wp ?_|refine Wq rfl ?_|refine Wr ?_|refine Ws ?_|refine Wt ?_|refine Wu ?_|refine Wv rfl rfl ?_|(refine Ww rfl ⟨rfl, by decide, by decide, by decide⟩ ?_; intro _)|refine Wx rfl rfl ?_)
              exact CT.done (Y := IsOne L i) ⟨false, not_one_pair hsx hsv hk2⟩ rfl (fun w ho => ho.ent)
            · have hk2 : ¬ knowsI L x v := fun hk => by
                have := (hK.iff x v).2 hk
                rw [get_eq hKx (by omega)] at this
                exact hkv this
              repeat (first|refine Wa ?_|refine Wb ?_|refine Wc ?_|refine Wd ?_|refine We rfl ?_|refine Wf (by first|exact Va|exact Vb|exact Vc|exact Vd|exact Ve|exact Vf|exact Vg|exact Vh|exact Vi|exact Vj|exact Vk (by omega)|exact Vl|exact Vm|exact Vn|exact Vo|exact Vp|exact Vq|exact Vr|exact Vs (by omega)|exact Vt (by omega)|exact Vu (by omega)|exact Vv (by omega)|exact Vw|exact Vx|exact Vy|exact Vz|exact VA|exact VB|exact VC|exact VD|exact VE|exact VF) rfl ?_|(refine Wg rfl ?_; intro _)|(refine Wh rfl ?_; intro _)|refine Wi ?_|refine Wj ?_|refine Wk ?_|refine Wl ?_|refine Wm ?_|refine Wn ?_|refine Wo ?_|refine Wp ?_|refine Wq rfl ?_|refine Wr ?_|refine Ws ?_|refine Wt ?_|refine Wu ?_|refine Wv rfl rfl ?_|(refine Ww rfl ⟨rfl, by decide, by decide, by decide⟩ ?_; intro _)|refine Wx rfl rfl ?_)
              refine ⟨z + 1, ⟨by omega, fun q hq v' hv' => ?_⟩, by omega, inferInstance⟩
              rcases (mem_take_succ hlz).1 hq with hq | rfl
              · exact hpair q hq v' hv'
              · rw [hatz] at hv'
                injection hv' with hv'
                subst hv'; exact hk2
        · have hze : z = (L[i]).parents.length := by omega
          rw [hze, List.take_length] at hpair
          repeat (first|refine Wa ?_|refine Wb ?_|refine Wc ?_|refine Wd ?_|refine We rfl ?_|refine Wf (by first|exact Va|exact Vb|exact Vc|exact Vd|exact Ve|exact Vf|exact Vg|exact Vh|exact Vi|exact Vj|exact Vk (by omega)|exact Vl|exact Vm|exact Vn|exact Vo|exact Vp|exact Vq|exact Vr|exact Vs (by omega)|exact Vt (by omega)|exact Vu (by omega)|exact Vv (by omega)|exact Vw|exact Vx|exact Vy|exact Vz|exact VA|exact VB|exact VC|exact VD|exact VE|exact VF) rfl ?_|(refine Wg rfl ?_; intro _)|(refine Wh rfl ?_; intro _)|refine Wi ?_|refine Wj ?_|refine Wk ?_|refine Wl ?_|refine Wm ?_|refine Wn ?_|refine Wo ?_|refine Wp ?_|refine Wq rfl ?_|refine Wr ?_|refine Ws ?_|refine Wt ?_|refine Wu ?_|refine Wv rfl rfl ?_|(refine Ww rfl ⟨rfl, by decide, by decide, by decide⟩ ?_; intro _)|refine Wx rfl rfl ?_)
          refine ⟨y + 1, g2, ⟨by omega, hg2.1, by omega, by omega, fun q hq => ?_, fun q hq u hu q2 hq2 v hv => ?_⟩, by omega, inferInstance⟩
          · rcases (mem_take_succ hly).1 hq with hq | rfl
            · exact hin q hq
            · exact Classical.byContradiction fun hn => by rw [at_none.2 hn] at hat; cases hat
          · rcases (mem_take_succ hly).1 hq with hq | rfl
            · exact hpr q hq u hu q2 hq2 v hv
            · rw [hat] at hu
              injection hu with hu
              subst hu
              exact hpair q2 hq2 v hv
  · have hye : y = (L[i]).parents.length := by omega
    rw [hye, List.take_length] at hgm hin hpr
    repeat (first|refine Wa ?_|refine Wb ?_|refine Wc ?_|refine Wd ?_|refine We rfl ?_|refine Wf (by first|exact Va|exact Vb|exact Vc|exact Vd|exact Ve|exact Vf|exact Vg|exact Vh|exact Vi|exact Vj|exact Vk (by omega)|exact Vl|exact Vm|exact Vn|exact Vo|exact Vp|exact Vq|exact Vr|exact Vs (by omega)|exact Vt (by omega)|exact Vu (by omega)|exact Vv (by omega)|exact Vw|exact Vx|exact Vy|exact Vz|exact VA|exact VB|exact VC|exact VD|exact VE|exact VF) rfl ?_|(refine Wg rfl ?_; intro _)|(refine Wh rfl ?_; intro _)|refine Wi ?_|refine Wj ?_|refine Wk ?_|refine Wl ?_|refine Wm ?_|refine Wn ?_|refine Wo ?_|refine Wp ?_|refine Wq rfl ?_|refine Wr ?_|refine Ws ?_|refine Wt ?_|refine Wu ?_|refine Wv rfl rfl ?_|(refine Ww rfl ⟨rfl, by decide, by decide, by decide⟩ ?_; intro _)|refine Wx rfl rfl ?_)
    refine CT.done (Y := IsOne L i) ⟨decide ((L[i]).gen = g + 1), ?_⟩ rfl (fun w ho => ho.ent)
    rw [decide_eq_true_eq]
    constructor
    · intro hge
      refine ⟨hi, hin, ?_, by rw [hge, hgm]⟩
      rintro u v ⟨_, q, hq, hu⟩ ⟨_, q2, hq2, hv⟩
      exact hpr q hq u hu q2 hq2 v hv
    · rintro ⟨_, _, _, hge⟩
      rw [hge, hgm]
structure GoodI (L : List Commit) (i : Nat) : Prop where
  lt : i < L.length
  merge : merge L[i] = false
  one : oneI L i
  at_ : (cids L).findIdx? (fun x => decide (x = idC L[i])) = some i
  ev : ∀ j, j < i → evI L i j
theorem closed_good (L : List Commit) (hm : ∀ c ∈ L, may c = true) : Closed L ↔ ∀ i, i < L.length → GoodI L i := by
  rw [closed_iff_I]
  constructor
  · rintro ⟨_, h⟩ i hi
    obtain ⟨h1, h2, h3, h4⟩ := h i hi
    exact ⟨hi, h1, h2, h3, h4⟩
  · intro h
    refine ⟨hm, fun i hi => ?_⟩
    have := h i hi
    exact ⟨this.merge, this.one, this.at_, this.ev⟩
theorem not_closed {L : List Commit} (hm : ∀ c ∈ L, may c = true) {i : Nat} (hi : i < L.length) (h : ¬ GoodI L i) : false = true ↔ Closed L :=
  ⟨fun h => (Bool.noConfusion h), fun hc => (h ((closed_good L hm).1 hc i hi)).elim⟩
set_option maxHeartbeats 4000000 in
theorem closed_ref (w : World) (F : Nat → Prop) (a : Option Addr) (k : Nat) (L : List Commit) (h : (sl a k L).holds F w) (hl : L.length ≤ 1000) (hf : ∀ x ∈ L, fine x) (hq : ∀ x ∈ L, x.parents.length ≤ 1000) :
    Gives Tryz.prog 64 [.slice a L.length k] w F (fun y : IsClosed L => .bool y.1) (fun _ => []) := by
  refine gives_of Tryz.func64 rfl Tryz.ntmps64 rfl rfl [.st (sl a k L)] (.start1 h) ?_
  repeat (first|refine Wa ?_|refine Wb ?_|refine Wc ?_|refine Wd ?_|refine We rfl ?_|refine Wf (by first|exact Va|exact Vb) rfl ?_)
  refine JR.callSl rfl (fun w1 hw => ids_ref w1 _ a k L hw.get (by omega) hf) ?_
  intro d m
  repeat (first|refine Wa ?_|refine Wb ?_|refine Wc ?_|refine Wd ?_|refine We rfl ?_|refine Wf (by first|exact Va|exact Vb|exact Vf|exact Vm) rfl ?_)
  refine JC.test (fun hne => ?_) (fun heq => ?_)
  · have hno : ¬ Closed L := fun hc => hne (by rw [idsP_all hc.may]; simp [cids])
    repeat (first|refine Wa ?_|refine Wb ?_|refine Wc ?_|refine Wd ?_|refine We rfl ?_|refine Wf (by exact Vb) rfl ?_|refine Ws ?_|refine Wt ?_)
    exact CT.done (Y := IsClosed L) ⟨false, ⟨fun h => (Bool.noConfusion h), fun hc => (hno hc).elim⟩⟩ rfl (fun w ho => ho.ent)
  have hmay : ∀ c ∈ L, may c = true := by
    intro c hc
    rw [← Bool.not_eq_false]
    intro hn
    have h1 : (idsP L).length = L.length := by omega
    rw [idsP_not hc hn, List.length_nil] at h1
    have := List.length_pos_of_mem hc
    omega
  have hids := idsP_all hmay
  have hcl := cids_length L
  have hgen : ∀ c ∈ L, 1 ≤ c.gen ∧ c.gen ≤ 1048576 := fun c hc => may_gen (hmay c hc)
  rw [hids]
  repeat (first|refine Wa ?_|refine Wb ?_|refine Wc ?_|refine We rfl ?_|refine Wf (by exact Va) rfl ?_|refine Wl ?_)
  refine JR.call1 (v := fun y : KnowsY L => .slice y.1.2.1 y.1.1.length y.1.2.2) (B := fun y => .st (sl y.1.2.1 y.1.2.2 y.1.1)) rfl (fun w1 hw => knows_ref w1 _ a d k m L hw.get hw.get hl hq) ?_
  rintro ⟨⟨K, e, n⟩, hK⟩
  dsimp only at hK ⊢
  repeat (first|refine Wa ?_|refine Wb ?_|refine Wc ?_|refine Wd ?_|refine We rfl ?_|refine Wf (by exact Vb) rfl ?_|refine Wn ?_)
  refine JC.loop1 (fun (i : Nat) => [(0, .slice a L.length k), (3, .slice d (cids L).length m), (4, .slice e K.length n), (5, .int .i64 (i : Int))]) (fun i => [.st (sl a k L), .st (sl d m (cids L)), .st (sl e n K)]) (fun i => i ≤ L.length ∧ ∀ x, x < i → GoodI L x) (fun i => L.length - i) 0 ⟨Nat.zero_le _, fun x hx => by omega⟩ inferInstance ?_
  intro i ⟨hil, hgood⟩
  repeat (first|refine Wa ?_|refine Wb ?_|refine Wc ?_|refine Wd ?_|refine We rfl ?_|refine Wf (by first|exact Va|exact Vf|exact Vg) rfl ?_)
  refine JC.test (fun hlt => ?_) (fun hge => ?_)
  · have hi : i < L.length := by omega
    have him := List.getElem_mem hi
    have hfx := hf _ him
    have hxe : (cids L)[i]'(by omega) = idC L[i] := cids_get L i (by omega)
    have hKi : i < K.length := by rw [hK.square.1]; exact hi
    have hKil : K[i].length = L.length := hK.square.2 i hKi
    repeat (first|refine Wa ?_|refine Wb ?_|refine Wc ?_|refine We rfl ?_|refine Wf (by exact Va) rfl ?_|refine Wl ?_|refine Wn ?_)
    refine JR.indexCommit rfl hi ?_
    intro b1 o1 p1 q1
    repeat (first|refine We rfl ?_|refine Wf (by exact Vc) rfl ?_)
    refine JR.callV rfl (fun w1 hw => mergecom_ref w1 _ (L[i]) p1 q1 hw.get hfx.1) ?_
    repeat (first|refine Wa ?_|refine Wb ?_|refine Wc ?_|refine Wd ?_|refine We rfl ?_|refine Wf (by first|exact Va|exact Vb) rfl ?_)
    refine JR.call (v := fun y : IsOne L i => .bool y.1) (B := fun _ => []) rfl (fun w1 hw => one_ref w1 _ a d e k m n L K i hi hw.get hw.get hw.get hK hl (hq _ him) hgen) ?_
    rintro ⟨b, hb⟩
    simp only [List.nil_append]
    repeat (first|refine Wa ?_|refine Wb ?_|refine Wc ?_|refine Wd ?_|refine We rfl ?_|refine Wf (by first|exact Va|exact Vb) rfl ?_)
    cases hmer : merge L[i] with
    | true =>
      have hbad : ¬ GoodI L i := fun h => by have := h.merge; rw [hmer] at this; cases this
      repeat (first|refine Wa ?_|refine Wb ?_|refine Wc ?_|refine Wd ?_|refine We rfl ?_|refine Wf (by first|exact Va|exact Vb|exact Vi) rfl ?_|refine Wj ?_|refine Ws ?_|refine Wt ?_|refine Wu ?_|refine Wv rfl rfl ?_)
      exact CT.done (Y := IsClosed L) ⟨false, not_closed hmay hi hbad⟩ rfl (fun w ho => ho.ent)
    | false =>
    cases b with
    | false =>
      have hbad : ¬ GoodI L i := fun h => by have := hb.2 h.one; cases this
      repeat (first|refine Wa ?_|refine Wb ?_|refine Wc ?_|refine Wd ?_|refine We rfl ?_|refine Wf (by first|exact Va|exact Vb|exact Vh|exact Vi|exact Vj) rfl ?_|refine Wj ?_|refine Ws ?_|refine Wt ?_|refine Wu ?_|refine Wv rfl rfl ?_)
      exact CT.done (Y := IsClosed L) ⟨false, not_closed hmay hi hbad⟩ rfl (fun w ho => ho.ent)
    | true =>
    have hone := hb.1 rfl
    repeat (first|refine We rfl ?_|refine Wf (by first|exact Va|exact Vh|exact Vj) rfl ?_)
    refine JR.indexID (L := cids L) (k := i) rfl (by omega) ?_
    intro b2 o2
    rw [hxe]
    repeat (first|refine We rfl ?_|refine Wf (by exact Vc) rfl ?_)
    refine JR.callV rfl (fun w1 hw => at_ref w1 _ d m (cids L) (idC L[i]) hw.get) ?_
    repeat (first|refine Wa ?_|refine Wd ?_|refine We rfl ?_|refine Wf (by first|exact Va|exact Vj|exact Vm) rfl ?_)
    refine JC.test (fun hat => ?_) (fun hat => ?_)
    · have hbad : ¬ GoodI L i := fun h => hat (by rw [atI_some h.at_])
      repeat (first|refine Wa ?_|refine Wb ?_|refine Wc ?_|refine Wd ?_|refine We rfl ?_|refine Wf (by exact Vb) rfl ?_|refine Ws ?_|refine Wt ?_|refine Wu ?_)
      exact CT.done (Y := IsClosed L) ⟨false, not_closed hmay hi hbad⟩ rfl (fun w ho => ho.ent)
    have hati : (cids L).findIdx? (fun x => decide (x = idC L[i])) = some i := by
      cases hfi : (cids L).findIdx? (fun x => decide (x = idC L[i])) with
      | none =>
        rw [show atI (cids L) (idC L[i]) = -1 by simp [atI, hfi]] at hat
        omega
      | some x =>
        rw [atI_some hfi] at hat
        exact congrArg some (by omega)
    repeat (first|refine Wa ?_|refine Wb ?_|refine Wc ?_|refine Wd ?_|refine We rfl ?_|refine Wf (by exact Vb) rfl ?_|refine Wl ?_|refine Wn ?_)
    refine JC.loop1 (fun (j : Nat) => [(0, .slice a L.length k), (3, .slice d (cids L).length m), (4, .slice e K.length n), (5, .int .i64 (i : Int)), (8, .int .i64 (j : Int))]) (fun j => [.st (sl a k L), .st (sl d m (cids L)), .st (sl e n K)]) (fun j => j ≤ i ∧ ∀ x, x < j → evI L i x) (fun j => i - j) 0 ⟨Nat.zero_le _, fun x hx => by omega⟩ inferInstance ?_
    intro j ⟨hji, hev⟩
    repeat (first|refine Wa ?_|refine Wb ?_|refine Wc ?_|refine Wd ?_|refine We rfl ?_|refine Wf (by first|exact Va|exact Vg) rfl ?_)
    refine JC.test (fun hltj => ?_) (fun hgej => ?_)
    · have hj : j < L.length := by omega
      have hKj : j < K.length := by rw [hK.square.1]; exact hj
      have hKjl : K[j].length = L.length := hK.square.2 j hKj
      have hnext : evI L i j → ∀ x, x < j + 1 → evI L i x := fun h x hx => by
        by_cases hxe : x = j
        · subst hxe; exact h
        · exact hev x (by omega)
      repeat (first|refine Wa ?_|refine Wb ?_|refine Wl ?_|refine Wn ?_)
      refine JC.openCommit (L := L) (.slice a L.length k) i hi ?_
      intro b3 o3 p3 q3
      refine JC.openCommit (L := L) (.slice a L.length k) j hj ?_
      intro b4 o4 p4 q4
      refine JC.quiet mixed (by kernel_rfl) ?_
      repeat (first|refine Wy rfl (by first|exact Va|exact Vc|exact Vd|exact Ve|exact Vm) rfl ?_|refine WB ?_)
      repeat (refine Wa ?_)
      refine JC.test (fun hnd => ?_) (fun hnd => ?_)
      · repeat (first|refine Wa ?_|refine Wc ?_|refine Wd ?_|refine We rfl ?_|refine Wf (by first|exact Va|exact Vb|exact Vk (by omega)) rfl ?_|refine Wm ?_|refine Wo ?_|refine Wp ?_)
        exact ⟨j + 1, ⟨by omega, hnext ⟨hi, hj, fun h => (hnd h).elim⟩⟩, by omega, inferInstance⟩
      have hnd' : (L[i]).ev.node = (L[j]).ev.node := by simpa using hnd
      repeat (first|refine Wa ?_|refine Wb ?_|refine Wl ?_)
      refine JC.openRow (L := K) (.slice e K.length n) i hKi ?_
      intro b5 o5 p5 q5
      refine JC.openBool (L := K[i]) (.slice p5 K[i].length q5) j (by omega) ?_
      intro b6 o6
      refine JC.openRow (L := K) (.slice e K.length n) j hKj ?_
      intro b7 o7 p7 q7
      refine JC.openBool (L := K[j]) (.slice p7 K[j].length q7) i (by omega) ?_
      intro b8 o8
      refine JC.quiet mixed (by kernel_rfl) ?_
      repeat (refine Wy rfl (by first|exact Va|exact Vc|exact Vd|exact Ve|exact Vl) rfl ?_)
      by_cases hsq : (L[i]).ev.seq = (L[j]).ev.seq
      · have hbad : ¬ GoodI L i := fun h => by
          obtain ⟨_, _, h1⟩ := h.ev j (by omega)
          exact (h1 hnd').1 hsq
        refine JQ.reslot 81 (.bool true) (congrArg Value.bool (decide_eq_true hsq)) ?_
        repeat (first|refine Wy rfl (by first|exact Va|exact Vi) rfl ?_|refine Wz rfl rfl ?_|refine WA rfl rfl ?_|refine WB ?_)
        repeat (first|refine Wa ?_|refine Wb ?_|refine Wc ?_|refine Wd ?_|refine We rfl ?_|refine Wf (by exact Vb) rfl ?_|refine Wj ?_|refine Ws ?_|refine Wt ?_|refine Wu ?_)
        exact CT.done (Y := IsClosed L) ⟨false, not_closed hmay hi hbad⟩ rfl (fun w ho => ho.ent)
      refine JQ.reslot 81 (.bool false) (congrArg Value.bool (decide_eq_false hsq)) ?_
      repeat (refine Wy rfl (by first|exact Va|exact Vc|exact Vd|exact Ve|exact Vo) rfl ?_)
      by_cases hgt : (L[j]).ev.seq < (L[i]).ev.seq
      · refine JQ.reslot 95 (.bool true) (congrArg Value.bool (decide_eq_true hgt)) ?_
        repeat (refine Wy rfl (by first|exact Va|exact Vc|exact Ve|exact Vh|exact Vi|exact Vj) rfl ?_)
        cases hkk : K[i][j]'(by omega) with
        | false =>
          have hbad : ¬ GoodI L i := fun h => by
            obtain ⟨_, _, h1⟩ := h.ev j (by omega)
            have := (hK.iff i j).2 ((h1 hnd').2.1 hgt)
            rw [get_eq hKi (by omega), hkk] at this
            cases this
          repeat (first|refine Wy rfl (by first|exact Va|exact Vi) rfl ?_|refine Wz rfl rfl ?_|refine WA rfl rfl ?_|refine WB ?_)
          repeat (first|refine Wa ?_|refine Wb ?_|refine Wc ?_|refine Wd ?_|refine We rfl ?_|refine Wf (by exact Vb) rfl ?_|refine Wj ?_|refine Ws ?_|refine Wt ?_|refine Wu ?_)
          exact CT.done (Y := IsClosed L) ⟨false, not_closed hmay hi hbad⟩ rfl (fun w ho => ho.ent)
        | true =>
          have hk2 : knowsI L i j := (hK.iff i j).1 (by rw [get_eq hKi (by omega)]; exact hkk)
          repeat (refine Wy rfl (by first|exact Va|exact Vc|exact Vd|exact Ve|exact Vg) rfl ?_)
          refine JQ.reslot 120 (.bool false) (congrArg Value.bool (decide_eq_false (by omega))) ?_
          repeat (first|refine Wy rfl (by first|exact Va|exact Vj) rfl ?_|refine Wz rfl rfl ?_|refine WB ?_)
          repeat (first|refine Wa ?_|refine Wc ?_|refine Wd ?_|refine We rfl ?_|refine Wf (by first|exact Va|exact Vb|exact Vk (by omega)) rfl ?_|refine Wk ?_|refine Wl ?_|refine Wr ?_)
          exact ⟨j + 1, ⟨by omega, hnext ⟨hi, hj, fun _ => ⟨hsq, fun _ => hk2, fun h => by omega⟩⟩⟩, by omega, inferInstance⟩
      · refine JQ.reslot 95 (.bool false) (congrArg Value.bool (decide_eq_false hgt)) ?_
        repeat (first|refine Wy rfl (by first|exact Va|exact Vc|exact Vd|exact Ve|exact Vg|exact Vj) rfl ?_|refine Wz rfl rfl ?_)
        have hlt2 : (L[i]).ev.seq < (L[j]).ev.seq := by omega
        refine JQ.reslot 120 (.bool true) (congrArg Value.bool (decide_eq_true hlt2)) ?_
        repeat (first|refine Wy rfl (by first|exact Va|exact Vc|exact Ve|exact Vh|exact Vi|exact Vj) rfl ?_|refine WB ?_)
        cases hkk : K[j][i]'(by omega) with
        | false =>
          have hbad : ¬ GoodI L i := fun h => by
            obtain ⟨_, _, h1⟩ := h.ev j (by omega)
            have := (hK.iff j i).2 ((h1 hnd').2.2 hlt2)
            rw [get_eq hKj (by omega), hkk] at this
            cases this
          skip
          repeat (first|refine Wa ?_|refine Wb ?_|refine Wc ?_|refine Wd ?_|refine We rfl ?_|refine Wf (by exact Vb) rfl ?_|refine Wj ?_|refine Ws ?_|refine Wt ?_|refine Wu ?_)
          exact CT.done (Y := IsClosed L) ⟨false, not_closed hmay hi hbad⟩ rfl (fun w ho => ho.ent)
        | true =>
          have hk2 : knowsI L j i := (hK.iff j i).1 (by rw [get_eq hKj (by omega)]; exact hkk)
          skip
          repeat (first|refine Wa ?_|refine Wc ?_|refine Wd ?_|refine We rfl ?_|refine Wf (by first|exact Va|exact Vb|exact Vk (by omega)) rfl ?_|refine Wk ?_|refine Wl ?_|refine Wr ?_)
          exact ⟨j + 1, ⟨by omega, hnext ⟨hi, hj, fun _ => ⟨hsq, fun h => by omega, fun _ => hk2⟩⟩⟩, by omega, inferInstance⟩
    · have hje : j = i := by omega
      subst hje
      repeat (first|refine Wa ?_|refine Wc ?_|refine Wd ?_|refine We rfl ?_|refine Wf (by first|exact Va|exact Vb|exact Vk (by omega)) rfl ?_|refine Wm ?_|refine Wo ?_|refine Wp ?_|refine Wr ?_)
      refine ⟨j + 1, ⟨by omega, fun x hx => ?_⟩, by omega, inferInstance⟩
      by_cases hxe2 : x = j
      · subst hxe2; exact ⟨hi, hmer, hone, hati, hev⟩
      · exact hgood x (by omega)
  · obtain rfl : i = L.length := by omega
    repeat (first|refine Wa ?_|refine Wb ?_|refine Wc ?_|refine Wd ?_|refine We rfl ?_|refine Wf (by exact Vb) rfl ?_|refine Wm ?_|refine Wo ?_|refine Wp ?_|refine Ws ?_)
    exact CT.done (Y := IsClosed L) ⟨true, ⟨fun _ => (closed_good L hmay).2 hgood, fun _ => rfl⟩⟩ rfl (fun w ho => ho.ent)
instance : Cell Nat where
  Ix := Unit
  sz := 1
  cells n _ := [natV n]
  facts _ _ := []
  len _ _ := rfl
  one _ _ := One.ok
  pos := by decide
instance {Γ : List Fact} {n : Nat} : Typed Γ [natV n] n := ⟨(), rfl, by simp [Cell.facts]⟩
instance {Γ : List Fact} {n : Nat} : Typed Γ [.int .i64 (n : Int)] n := ⟨(), rfl, by simp [Cell.facts]⟩
section
variable {P : Program} {n : Nn} {w0 : World} {F : Nat → Prop} {ops : Array Oper} {i d : Nat} {t : TypeId} {pos : String} {aft : Array Edge} {g : Option (Nat × Bool)} {os : List Oper} {Q : Cont} {e : E} {Γ : List Fact} [Dr]
end
theorem leS_trans {a b c : Commit} (h1 : leS a b) (h2 : leS b c) : leS a c := by
  rcases h1 with h1 | ⟨h1, h3⟩ <;> rcases h2 with h2 | ⟨h2, h4⟩
  · exact .inl (by omega)
  · exact .inl (by omega)
  · exact .inl (by omega)
  · exact .inr ⟨by omega, idLe_trans h3 h4⟩
def atC (L : List Commit) (i : Nat) : Commit := L.getD i commit0
structure Ins (L : List Commit) (i : Nat) (O : List Nat) : Prop where
  perm : O.Perm (List.range i)
  sorted : O.Pairwise (fun x y => leS (atC L x) (atC L y))
theorem Ins.length {L : List Commit} {i : Nat} {O : List Nat} (h : Ins L i O) : O.length = i := by rw [h.perm.length_eq, List.length_range]
theorem Ins.lt {L : List Commit} {i : Nat} {O : List Nat} (h : Ins L i O) {j : Nat} (hj : j < O.length) : O[j] < i := List.mem_range.1 (h.perm.mem_iff.1 (List.getElem_mem hj))
theorem Ins.next {L : List Commit} {i : Nat} {O : List Nat} (h : Ins L i O) (at_ : Nat) (hle : at_ ≤ O.length) (hup : ∀ j (hj : j < O.length), at_ ≤ j → leS (atC L i) (atC L O[j]))
    (hdn : ∀ (h0 : 0 < at_), leS (atC L (O[at_ - 1]'(by omega))) (atC L i)) : Ins L (i + 1) (O.take at_ ++ [i] ++ O.drop at_) := by
  refine ⟨?_, ?_⟩
  · rw [List.range_succ, List.append_assoc]
    refine List.Perm.trans ((List.perm_append_comm (l₁ := [i]) (l₂ := O.drop at_)).append_left _) ?_
    rw [← List.append_assoc, List.take_append_drop]
    exact h.perm.append_right _
  · have hs2 : (O.take at_ ++ O.drop at_).Pairwise (fun x y => leS (atC L x) (atC L y)) := by rw [List.take_append_drop]; exact h.sorted
    rw [List.pairwise_append] at hs2
    rw [List.append_assoc, List.pairwise_append]
    refine ⟨hs2.1, ?_, ?_⟩
    · rw [List.singleton_append, List.pairwise_cons]
      refine ⟨fun y hy => ?_, hs2.2.1⟩
      obtain ⟨j, hj, rfl⟩ := List.getElem_of_mem hy
      rw [List.length_drop] at hj
      rw [List.getElem_drop]
      exact hup _ (by omega) (by omega)
    · intro y hy z hz
      rcases List.mem_append.1 hz with hz | hz
      · rw [List.mem_singleton.1 hz]
        obtain ⟨j, hj, rfl⟩ := List.getElem_of_mem hy
        rw [List.length_take] at hj
        have h0 : 0 < at_ := by omega
        rw [List.getElem_take]
        by_cases hja : j = at_ - 1
        · subst hja; exact hdn h0
        · exact leS_trans (List.pairwise_iff_getElem.1 h.sorted j (at_ - 1) (by omega) (by omega) (by omega)) (hdn h0)
      · exact hs2.2.2 y hy z hz
end Ab
end Go.Proofs.YtdgeffphifgflaaGreat
namespace Go.Proofs.YtdgeffphifgflaaGreat
namespace Ab
open Go Go.RowKit
set_option linter.unusedVariables false
set_option linter.unusedSimpArgs false
set_option synthInstance.maxSize 4000
set_option synthInstance.maxHeartbeats 400000
attribute [local irreducible] JC JO JR JQ andThen inBlock OpV Gives retTo JM JS
attribute [local irreducible] hashC idA l0 l1 ents
theorem isClosed_unique {L : List Commit} {b c : Bool} (h : b = true ↔ Closed L) (k : c = true ↔ Closed L) : b = c := Bool.eq_iff_iff.2 (h.trans k.symm)
theorem closed_refV (w : World) (F : Nat → Prop) (a : Option Addr) (k : Nat) (L : List Commit) (b : Bool) (h : (sl a k L).holds F w) (hl : L.length ≤ 1000) (hf : ∀ x ∈ L, fine x) (hq : ∀ x ∈ L, x.parents.length ≤ 1000) (hb : b = true ↔ Closed L) :
    GivesV Tryz.prog 64 [.slice a L.length k] w F (.bool b) := by
  have h0 := closed_ref w F a k L h hl hf hq
  unfold Gives at h0
  unfold GivesV Gives
  refine Calls.mono h0 ?_
  rintro e w' ⟨y, rfl, h1, hB⟩
  refine ⟨(), ?_, h1, hB⟩
  have := isClosed_unique y.2 hb
  dsimp only
  rw [this]
theorem may_parents {c : Commit} (h : may c = true) : c.parents.length ≤ 8 := by
  unfold may at h
  split at h
  · cases h
  · rename_i hn
    simp only [Bool.or_eq_true, not_or, decide_eq_true_eq] at hn
    omega
end Ab
end Go.Proofs.YtdgeffphifgflaaGreat
namespace Go.Proofs.YtdgeffphifgflaaGreat
namespace Ab
open Go Go.RowKit
set_option linter.unusedVariables false
set_option linter.unusedSimpArgs false
set_option synthInstance.maxSize 4000
set_option synthInstance.maxHeartbeats 400000
attribute [local irreducible] JC JO JR JQ andThen inBlock OpV Gives retTo JM JS
noncomputable section
def decL : List (List UInt8) → List Commit
  | [] => []
  | b :: l => match getC b with
    | some (c, []) => c :: decL l
    | _ => []
open Classical in
def closeF (acc : List Commit) : List Commit → List Commit
  | [] => acc
  | c :: l => if Closed (acc ++ [c]) then closeF (acc ++ [c]) l else acc
def loadL (b : List UInt8) : List Commit := closeF [] (decL (readL b))
def loadEnd (b : List UInt8) : Nat := (framesL ((readL b).take (loadL b).length)).length
end
theorem decL_cons (b : List UInt8) (l : List (List UInt8)) : (∃ c, getC b = some (c, []) ∧ decL (b :: l) = c :: decL l) ∨ ((¬ ∃ c, getC b = some (c, [])) ∧ decL (b :: l) = []) := by
  rw [decL]
  split
  · rename_i c h; exact .inl ⟨c, h, rfl⟩
  · rename_i h; exact .inr ⟨fun ⟨c, hc⟩ => h c hc, rfl⟩
theorem decL_le : ∀ l : List (List UInt8), (decL l).length ≤ l.length
  | [] => Nat.le_refl _
  | b :: l => by
    have := decL_le l
    rcases decL_cons b l with ⟨c, _, h⟩ | ⟨_, h⟩ <;> rw [h] <;> simp <;> omega
theorem decL_at : ∀ (l : List (List UInt8)) (i : Nat) (h : i < (decL l).length) (h2 : i < l.length), getC l[i] = some ((decL l)[i], [])
  | [], i, h, _ => by cases h
  | b :: l, i, h, h2 => by
    rcases decL_cons b l with ⟨c, hc, hd⟩ | ⟨_, hd⟩
    · cases i with
      | zero => simp only [hd, List.getElem_cons_zero]; exact hc
      | succ i =>
        simp only [hd, List.getElem_cons_succ]
        exact decL_at l i (by rw [hd] at h; simpa using h) (by simpa using h2)
    · rw [hd] at h; cases h
theorem decL_end : ∀ (l : List (List UInt8)) (h : (decL l).length < l.length), ¬ ∃ c, getC (l[(decL l).length]) = some (c, [])
  | [], h => by cases h
  | b :: l, h => by
    rcases decL_cons b l with ⟨c, hc, hd⟩ | ⟨hn, hd⟩
    · simp only [hd, List.length_cons, List.getElem_cons_succ]
      exact decL_end l (by rw [hd] at h; simpa using h)
    · simp only [hd, List.length_nil, List.getElem_cons_zero]; exact hn
theorem closeF_step {l : List Commit} {i : Nat} (hi : i < l.length) (h : closeF [] l = closeF (l.take i) (l.drop i)) (hc : Closed (l.take (i + 1))) : closeF [] l = closeF (l.take (i + 1)) (l.drop (i + 1)) := by
  rw [h, List.drop_eq_getElem_cons hi, closeF, ← List.take_succ_eq_append_getElem hi, if_pos hc]
theorem closeF_stop {l : List Commit} {i : Nat} (hi : i < l.length) (h : closeF [] l = closeF (l.take i) (l.drop i)) (hc : ¬ Closed (l.take (i + 1))) : closeF [] l = l.take i := by
  rw [h, List.drop_eq_getElem_cons hi, closeF, ← List.take_succ_eq_append_getElem hi, if_neg hc]
theorem readL_small : ∀ (f : Nat) (b : List UInt8), ∀ x ∈ readF f b, x.length ≤ 4000
  | 0, _, x, h => by cases h
  | f + 1, b, x, h => by
    unfold readF at h
    cases hs : readStep b with
    | none => rw [hs] at h; cases h
    | some q =>
      rw [hs] at h
      rcases List.mem_cons.1 h with rfl | h
      · exact (readStep_some (x := q.1) (r := q.2) hs).1
      · exact readL_small f _ x h
theorem readF_pre : ∀ (f : Nat) (b : List UInt8), framesL (readF f b) <+: b
  | 0, b => List.nil_prefix
  | f + 1, b => by
    unfold readF
    cases hs : readStep b with
    | none => exact List.nil_prefix
    | some q =>
      dsimp only
      rw [framesL_cons]
      have h1 := (readStep_some (x := q.1) (r := q.2) hs).2
      obtain ⟨t, ht⟩ := readF_pre f q.2
      exact ⟨t, by rw [List.append_assoc, ht, ← h1]⟩
theorem framesL_take_le (l : List (List UInt8)) (i : Nat) : (framesL (l.take i)).length ≤ (framesL l).length := by
  conv => rhs; rw [← List.take_append_drop i l]
  rw [framesL_append, List.length_append]; omega
theorem length_framesL (l : List (List UInt8)) : 5 * l.length ≤ (framesL l).length := by
  induction l with
  | nil => simp
  | cons y l ih => rw [framesL_cons, List.length_append, frameL_length, List.length_cons]; have := numL_pos y.length; omega
theorem framesL_next {l : List (List UInt8)} {i : Nat} (hi : i < l.length) : (framesL (l.take (i + 1))).length = (framesL (l.take i)).length + (frameL l[i]).length := by
  rw [List.take_succ_eq_append_getElem hi, framesL_append, framesL_one, List.length_append]
theorem finC_may {c0 c : Commit} {b r : List UInt8} (h : finC c0 b = some (c, r)) : may c = true ∧ c = c0 := by
  unfold finC at h
  split at h
  · cases h; exact ⟨by assumption, rfl⟩
  · cases h
theorem getC_may {b r : List UInt8} {c : Commit} (h : getC b = some (c, r)) : may c = true ∧ texts c := by
  unfold getC at h
  obtain ⟨q0, h0, h⟩ := Option.bind_eq_some_iff.1 h
  obtain ⟨q1, h1, h⟩ := Option.bind_eq_some_iff.1 h
  obtain ⟨q2, h2, h⟩ := Option.bind_eq_some_iff.1 h
  obtain ⟨q3, h3, h⟩ := Option.bind_eq_some_iff.1 h
  obtain ⟨q4, h4, h⟩ := Option.bind_eq_some_iff.1 h
  unfold opC at h
  split at h
  · obtain ⟨h5, h6⟩ := finC_may h
    refine ⟨h5, ?_⟩
    rw [h6]
    unfold texts
    exact (by decide : op0.key.size < 4611686018427387904 ∧ op0.elem.size < 4611686018427387904)
  · split at h
    · obtain ⟨h5, h6⟩ := finC_may h
      refine ⟨h5, ?_⟩
      rw [h6]
      exact getOp_texts q4.2
    · cases h
end Ab
end Go.Proofs.YtdgeffphifgflaaGreat
namespace Go.Proofs.YtdgeffphifgflaaGreat
namespace Ab
open Go Go.RowKit
set_option linter.unusedVariables false
set_option linter.unusedSimpArgs false
abbrev rnd (l : Nat) : Fence := Fence.wide.inRound l
def notDefer : Oper → Bool
  | ⟨_, .defer _, _, _, _, _⟩ => false
  | _ => true
theorem notDefer_ok {o : Oper} (h : notDefer o = true) (c : Call) : o.op ≠ .defer c := by
  obtain ⟨d, op, t, p, a, g⟩ := o
  rintro rfl
  cases h
section
variable {P : Program} {ops : Array Oper} {Q : Exit → Act → World → Prop} {l m : Nat}
theorem upon_in {F : Fence} (hdp : F.depth = none) (hfn : ∀ f, F.fn f) (hcalls : ∀ {f args w R}, Calls P f args w R → CallsIn F (m - 1) P f args w R) (hrows : ∀ {row args w R}, Rows P row args w R → RowsIn F (m - 1) P row args w R)
    {o : Oper} {a : Act} {K K' : Act → World → Prop} (hK : ∀ a w, K a w → K' a w) (r : Result Next) (h : o.upon P a K Q r) : o.uponIn F m P a K' Q r := by
  have hn : F.depth.isSome = true → 1 ≤ m := by rw [hdp]; intro h; cases h
  cases r with
  | halt x w' => cases x <;> exact h
  | ok x w' =>
    cases x with
    | value v => exact hK _ _ h
    | skip => exact hK _ _ h
    | defer d => exact hK _ _ h
    | enter f args =>
      refine ⟨hn, hcalls (Calls.mono h ?_)⟩
      intro e w'' he
      cases e with
      | returned v => exact hK _ _ he
      | panicked c => exact he
      | outgrown => exact he
    | row row args => exact ⟨hn, (hrows h).mono fun v w'' h => hK _ _ h⟩
    | round l f tmps assign body => exact h.elim
    | _ => exact h
theorem wpOps_in (hd : ∀ o ∈ ops, notDefer o = true) (hQ : ¬ LetsOut Q) : ∀ (is : List Nat) (a : Act) (w : World), wpOps P ops Q is a w → wpOpsIn (rnd l) m P ops Q is a w
  | [], a, w, h => h
  | i :: is, a, w, h => by
    unfold wpOps at h
    unfold wpOpsIn
    cases ho : ops[i]? with
    | none => rw [ho] at h; exact wpOps_in hd hQ is a w h
    | some o =>
      rw [ho] at h
      dsimp only at h ⊢
      by_cases hw : Region.wanted o (yielded ops a.tmps) = true
      · rw [if_pos hw] at h ⊢
        rcases h with h | h
        · refine ⟨fun _ _ => trivial, ?_⟩
          have hm : o ∈ ops := Array.mem_of_getElem? ho
          rw [Oper.semAt_eq _ _ _ (notDefer_ok (hd o hm))]
          exact upon_in rfl (fun _ => trivial) (fun h => CallsIn.inRound l (callsIn_wide.2 h)) (fun h c cs _ => let ⟨v, w', r, s⟩ := h c cs; ⟨v, w', r, stepsIn_wide.2 s⟩) (fun a w h => wpOps_in hd hQ is a w h) _ h
        · exact (hQ h.2).elim
      · rw [if_neg hw] at h ⊢
        exact ⟨fun _ _ => trivial, wpOps_in hd hQ is _ w h⟩
end
section
variable {P : Program} {n : Nn} {w0 : World} {F : Nat → Prop} {l : Nat} {Q : Cont} {e : E} {Γ : List Fact} [Dr]
def JI (P : Program) (n : Nn) (w0 : World) (F : Nat → Prop) (l : Nat) (c : Code) (Q : Cont) (e : E) (Γ : List Fact) : Prop :=
  (∀ e Γ, ¬ Q .outgrown e Γ) → ∀ a w, Fr n e a → Hold w0 F Γ w → c.wpIn (rnd l) 1 P (up n w0 F Q) a w
theorem JI.skip (h : Q .normal e Γ) : JI P n w0 F l .skip Q e Γ := fun _ _ _ fr ho => wpIn_skip ⟨e, Γ, h, fr, ho⟩
theorem JI.ret (h : Q .ret e Γ) : JI P n w0 F l .ret Q e Γ := fun _ _ _ fr ho => wpIn_ret ⟨e, Γ, h, fr, ho⟩
theorem JI.seq {x y : Code} (h : JI P n w0 F l x (andThen (JI P n w0 F l y Q) Q) e Γ) : JI P n w0 F l (.seq x y) Q e Γ := by
  intro hq a w fr ho
  refine wpIn_seq (wpIn_mono (h hq a w fr ho) ?_)
  rintro x a w ⟨e, Γ, h, fr, ho⟩
  cases x <;> first | exact h hq a w fr ho | exact ⟨e, Γ, h, fr, ho⟩
theorem JI.cond_true {c : Operand} {x y : Code} [hc : Ev e c (.bool true)] (h : JI P n w0 F l x Q e Γ) : JI P n w0 F l (.cond c x y) Q e Γ :=
  fun hq a w fr ho => wpIn_cond_true (hc.ok n a fr) (h hq a w fr ho)
theorem JI.cond_false {c : Operand} {x y : Code} [hc : Ev e c (.bool false)] (h : JI P n w0 F l y Q e Γ) : JI P n w0 F l (.cond c x y) Q e Γ :=
  fun hq a w fr ho => wpIn_cond_false (hc.ok n a fr) (h hq a w fr ho)
theorem JI.block {id : Nat} {c : Code} (h : JI P n w0 F l c (inBlock id Q) e Γ) : JI P n w0 F l (.block id c) Q e Γ := by
  intro hq a w fr ho
  refine wpIn_block (wpIn_mono (h hq a w fr ho) ?_)
  rintro x a w ⟨e, Γ, hq, fr, ho⟩
  cases x with
  | exit id' =>
    simp only [inBlock, Exit.inBlock] at *
    split
    · rename_i he; rw [if_pos he] at hq; exact ⟨e, Γ, hq, fr, ho⟩
    · rename_i he; rw [if_neg he] at hq; exact ⟨e, Γ, hq, fr, ho⟩
  | _ => exact ⟨e, Γ, hq, fr, ho⟩
theorem JI.more {c : Code} {Γ' : List Fact} (h : ∀ w, Hold w0 F Γ w → Hold w0 F Γ' w) (k : JI P n w0 F l c Q e Γ') : JI P n w0 F l c Q e Γ := fun hq a w fr ho => k hq a w fr (h w ho)
theorem no_out (hq : ∀ e Γ, ¬ Q .outgrown e Γ) : ¬ LetsOut (up n w0 F Q) := by
  rintro ⟨a, w, e, Γ, h, _⟩
  exact hq e Γ h
theorem JI.region {id : Nat} {os : List Oper} (hd : os.all notDefer = true) (h : JO P n w0 F ⟨os⟩ 0 os Q e Γ) : JI P n w0 F l (.region id ⟨os⟩ false) Q e Γ := by
  intro hq a w fr ho
  refine wpIn_region ?_
  have e1 : List.range (Array.size ⟨os⟩ : Nat) = List.range' 0 os.length := by simp [List.range_eq_range']
  rw [e1]
  refine wpOps_in (fun o ho => ?_) (no_out hq) _ _ _ (h rfl a w fr ho)
  exact List.all_eq_true.1 hd o (by simpa using ho)
theorem JI.drawP {id : Nat} {ops : List Oper} (hm : P.follows .mixedOrders = true) (hd : ops.all notDefer = true) (h : JP P n w0 F ops [] ops.length (List.replicate ops.length false) Q e Γ) : JI P n w0 F l (.region id ⟨ops⟩ true) Q e Γ := by
  intro hq a w fr ho
  refine wpIn_region_draw fun t => ?_
  simp only [Region.schedule, hm, Bool.true_or, if_true]
  refine wpOps_in (fun o ho => List.all_eq_true.1 hd o (by simpa using ho)) (no_out hq) _ _ _ ?_
  have := pAny_wp exitP_up _ _ _ _ (h a w.drew fr ho.drew)
  have e1 : (⟨List.replicate ops.length false⟩ : Array Bool) = Array.replicate (⟨ops⟩ : Array Oper).size false := by apply Array.ext'; simp
  rw [e1] at this
  exact wpAny_sound _ t _ a _ this
def JY (P : Program) (n : Nn) (w0 : World) (F : Nat → Prop) (ops : Array Oper) (i : Nat) (os : List Oper) (Q : Cont) (e : E) (Γ : List Fact) : Prop :=
  ops.toList.drop i = os → ∀ a w, Fr n e a → Hold w0 F Γ w → wpOpsIn Fence.wide 2 P ops (up n w0 F Q) (List.range' i os.length) a w
theorem JC.regionY {id : Nat} {os : List Oper} (h : JY P n w0 F ⟨os⟩ 0 os Q e Γ) : JC P n w0 F (.region id ⟨os⟩ false) Q e Γ := by
  intro a w fr ho
  refine (wpIn_wide (n := 2)).1 (wpIn_region ?_)
  have e1 : List.range (Array.size ⟨os⟩ : Nat) = List.range' 0 os.length := by simp [List.range_eq_range']
  rw [e1]
  exact h rfl a w fr ho
theorem JY.nil {ops : Array Oper} {i : Nat} (h : Q .normal e Γ) : JY P n w0 F ops i [] Q e Γ :=
  fun _ a w fr ho => by show wpOpsIn Fence.wide 2 P ops (up n w0 F Q) [] a w; unfold wpOpsIn; exact ⟨e, Γ, h, fr, ho⟩
section
variable {ops : List Oper} {i d : Nat} {op : Op} {t : TypeId} {pos : String} {aft : Array Edge} {g : Option (Nat × Bool)} {os : List Oper}
theorem JY.val {v : Value} (hg : gtest ops e g = some true) (h : OpV P n w0 F ⟨some d, op, t, pos, aft, g⟩ e Γ v) (hd : Nat.blt d n.s = true) (k : JY P n w0 F ⟨ops⟩ (i + 1) os Q ((d, v) :: e) Γ) : JY P n w0 F ⟨ops⟩ i (⟨some d, op, t, pos, aft, g⟩ :: os) Q e Γ := by
  intro hdr a w fr ho
  obtain ⟨h1, h2⟩ := drop_at hdr
  simp only [List.length_cons, List.range'_succ, wpOpsIn]
  rw [h1]
  simp only [gtest_ok (o := ⟨some d, op, t, pos, aft, g⟩) hg fr, if_true]
  refine ⟨fun _ _ => trivial, ?_⟩
  show Oper.uponIn _ _ _ _ _ _ _ ((execOp a.eval ⟨some d, op, t, pos, aft, g⟩).run P w)
  rw [h a w fr ho]
  exact k h2 _ w (fr.put hd v) ho
theorem JY.omit (hg : gtest ops e g = some false) (hd : Nat.blt d n.s = true) (k : JY P n w0 F ⟨ops⟩ (i + 1) os Q ((d, undef) :: e) Γ) : JY P n w0 F ⟨ops⟩ i (⟨some d, op, t, pos, aft, g⟩ :: os) Q e Γ := by
  intro hdr a w fr ho
  obtain ⟨h1, h2⟩ := drop_at hdr
  simp only [List.length_cons, List.range'_succ, wpOpsIn]
  rw [h1]
  simp only [gtest_ok (o := ⟨some d, op, t, pos, aft, g⟩) hg fr, Bool.false_eq_true, if_false]
  exact ⟨fun _ _ => trivial, k h2 _ w (fr.put hd _) ho⟩
theorem JY.skip (hg : gskip ops e g = true) (hd : Nat.blt d n.s = true) (k : JY P n w0 F ⟨ops⟩ (i + 1) os Q ((d, undef) :: e) Γ) : JY P n w0 F ⟨ops⟩ i (⟨some d, op, t, pos, aft, g⟩ :: os) Q e Γ := by
  intro hdr a w fr ho
  obtain ⟨h1, h2⟩ := drop_at hdr
  simp only [List.length_cons, List.range'_succ, wpOpsIn]
  rw [h1]
  simp only [gskip_ok (o := ⟨some d, op, t, pos, aft, g⟩) hg fr, Bool.false_eq_true, if_false]
  exact ⟨fun _ _ => trivial, k h2 _ w (fr.put hd _) ho⟩
theorem JY.test (s : Nat) {b : Bool} {p : Prop} [hc : Lk e s (.bool b)] [hp : Says b p] (ht : p → JY P n w0 F ⟨ops⟩ i os Q ((s, .bool true) :: e) Γ) (hf : ¬ p → JY P n w0 F ⟨ops⟩ i os Q ((s, .bool false) :: e) Γ) : JY P n w0 F ⟨ops⟩ i os Q e Γ := by
  intro hd a w fr ho
  have key : Fr n ((s, .bool b) :: e) a := fr.again hc.ok
  cases b with
  | true => exact ht (hp.ok.1 rfl) hd a w key ho
  | false => exact hf (fun h => by have := hp.ok.2 h; cases this) hd a w key ho
theorem JY.reslot (s : Nat) {v : Value} (u : Value) [hs : Lk e s v] (h : v = u) (k : JY P n w0 F ⟨ops⟩ i os Q ((s, u) :: e) Γ) : JY P n w0 F ⟨ops⟩ i os Q e Γ :=
  fun hd a w fr ho => k hd a w (fr.again (by rw [← h]; exact hs.ok)) ho
theorem JY.more {Γ' : List Fact} (h : ∀ w, Hold w0 F Γ w → Hold w0 F Γ' w) (k : JY P n w0 F ⟨ops⟩ i os Q e Γ') : JY P n w0 F ⟨ops⟩ i os Q e Γ := fun hd a w fr ho => k hd a w fr (h w ho)
theorem JY.yield {f : Operand} {args : Array Operand} {ats : Array TypeId} {vs : List Value} {l : Nat} {κ ξ : Type} {Γt : ξ → List Fact} {Γf : κ → List Fact} (hg : gtest ops e g = some true) [hf : Ev e f (.func (.yield l) #[] #[])] [hv : ArgVs e args.toList vs] (hd : Nat.blt d n.s = true)
    (h : ∀ w, Hold w0 F Γ w → YieldAt Fence.wide 1 P l ⟨vs⟩ w fun x w' => (x = .returned (.bool true) ∧ ∃ s, Hold w0 F (Γt s) w') ∨ (x = .returned (.bool false) ∧ ∃ k, Hold w0 F (Γf k) w'))
    (kt : ∀ s, JY P n w0 F ⟨ops⟩ (i + 1) os Q ((d, .bool true) :: e) (Γt s)) (kf : ∀ k, JY P n w0 F ⟨ops⟩ (i + 1) os Q ((d, .bool false) :: e) (Γf k)) :
    JY P n w0 F ⟨ops⟩ i (⟨some d, .call ⟨.value f, args, ats⟩, t, pos, aft, g⟩ :: os) Q e Γ := by
  intro hdr a w fr ho
  obtain ⟨h1, h2⟩ := drop_at hdr
  simp only [List.length_cons, List.range'_succ, wpOpsIn]
  rw [h1]
  simp only [gtest_ok (o := ⟨some d, .call ⟨.value f, args, ats⟩, t, pos, aft, g⟩) hg fr, if_true]
  refine ⟨fun _ _ => trivial, ?_⟩
  obtain ⟨fn, tmps, assign, body, hy, hR⟩ := h w ho
  have e1 := hf.ok n a fr
  have e2 : args.map a.eval = ⟨vs⟩ := by apply Array.ext'; simp [hv.ok n a fr]
  have hrun : (execOp a.eval ⟨some d, .call ⟨.value f, args, ats⟩, t, pos, aft, g⟩).run P w = .ok (.round l fn tmps assign body) w := by
    have e3 : (resolve a.eval ⟨.value f, args, ats⟩ t).run P w = .ok ⟨.fn (.yield l) #[], ⟨vs⟩⟩ w := by
      simp [resolve, e1, Deferred.ofValue]
      apply Array.ext'; simp [hv.ok n a fr]
    have e4 : (⟨vs⟩ : Array Value) ++ (#[] : Array Value) = ⟨vs⟩ := by apply Array.ext'; simp
    simp only [execOp, Sem.run_bind, e3, Result.andThen_ok, invoke]
    simpa [e4] using hy
  show Oper.uponIn _ _ _ _ _ _ _ ((execOp a.eval ⟨some d, .call ⟨.value f, args, ats⟩, t, pos, aft, g⟩).run P w)
  rw [hrun]
  refine ⟨fun h => (by cases h), hR.mono ?_⟩
  rintro x w' (⟨rfl, s, ho'⟩ | ⟨rfl, k, ho'⟩)
  · exact kt s h2 _ w' (fr.put hd _) ho'
  · exact kf k h2 _ w' (fr.put hd _) ho'
end
end
theorem zip_two (p1 p2 : Nat) (v1 v2 : Value) (T : Array Value) : ((#[p1, p2] : Array Nat).zip (⟨[v1, v2]⟩ : Array Value)).foldl (fun t (p, v) => t.setIfInBounds p v) T = (T.setIfInBounds p1 v1).setIfInBounds p2 v2 := by
  simp
def tru (p : Prop) : Asn where
  holds _ _ := p
  mono _ _ _ _ h := h
  frame _ _ _ _ h := h
  within _ _ h := h
section
variable {P : Program} {n : Nn} {w0 : World} {F : Nat → Prop} {l : Nat} {Q : Cont} {e : E} {Γ : List Fact} [Dr]
theorem JI.know {c : Code} {p : Prop} (h : ∀ w, Hold w0 F Γ w → p) (k : p → JI P n w0 F l c Q e Γ) : JI P n w0 F l c Q e Γ := fun hq a w fr ho => k (h w ho) hq a w fr ho
end
section
variable {P : Program} {n : Nn} {w0 : World} {F : Nat → Prop} {l : Nat} {e : E} {Γ : List Fact} [Dr]
theorem Hold.turn {w : World} {r : Nat} {o o' : Obj} {Δ : List Fact} (h : Hold w0 F (.obj r o :: Δ) w) : Hold w0 F (.obj r o' :: Δ) (w.putObj r o') := setMapIter h
theorem Hold.objAt {w : World} {r : Nat} {o : Obj} {Δ : List Fact} (h : Hold w0 F (.obj r o :: Δ) w) : w.heap[r]? = some o := h.sat (.obj r o) (by simp)
def Iter (P : Program) (w0 : World) (F : Nat → Prop) (gf : FuncId) (lb : List Value) (N : Nat) {ι : Type} (v1 v2 : Nat → ι → Value) (G : Nat → ι → List Fact) (Γi : List Fact) : Prop :=
  ∀ (l : Nat) (κ ξ : Type) (M : Nat → ξ → List Fact) (X : κ → List Fact),
    (∀ i, i < N → ∀ (u : ι) (s : ξ) (Γ : List Fact) w, Hold w0 F (G i u ++ Γ ++ M i s) w → YieldAt Fence.wide 1 P l ⟨[v1 i u, v2 i u]⟩ w fun x w' => (x = .returned (.bool true) ∧ ∃ s, Hold w0 F (Γ ++ M (i + 1) s) w') ∨ (x = .returned (.bool false) ∧ ∃ k, Hold w0 F (Γ ++ X k) w')) →
    ∀ s w, Hold w0 F (Γi ++ M 0 s) w → Calls P gf ⟨.func (.yield l) #[] #[] :: lb⟩ w fun x w' => (∃ v, x = .returned v) ∧ ((∃ s, Hold w0 F (M N s) w') ∨ ∃ k, Hold w0 F (X k) w')
theorem JX.range {Q : Nn → Cont} {g : Operand} {p1 p2 : Nat} {assign body : Code} {gf : FuncId} {lb : List Value} {N : Nat} {ι ζ κ ξ : Type} {v1 v2 : Nat → ι → Value} {G : Nat → ι → List Fact} {Γi : List Fact}
    (M : Nat → ξ → List Fact) (X : κ → List Fact) (E2 : Nat → ι → ξ → ζ → E) (N2 : Nat → ι → ξ → ζ → List Fact) (s0 : ξ)
    [hg : Ev e g (.func (.func gf) #[] ⟨lb⟩)] [hb : Body P gf] (h1 : Nat.blt p1 n.s = true) (h2 : Nat.blt p2 n.s = true)
    (hi : Iter P w0 F gf lb N v1 v2 G Γi) (h0 : ∀ w, Hold w0 F Γ w → Hold w0 F (Γi ++ M 0 s0) w)
    (ha : ∀ i, i < N → ∀ (u : ι) (s : ξ) (Γ : List Fact) l, JI P ⟨n.s, []⟩ w0 F l assign (fun x e' Γ' => x = .normal ∧ ∃ z, Ent e' Γ' (E2 i u s z) (N2 i u s z ++ Γ)) ((p2, v2 i u) :: (p1, v1 i u) :: e) (G i u ++ M i s ++ Γ))
    (hbd : ∀ i, i < N → ∀ (u : ι) (s : ξ) (z : ζ) (Γ : List Fact) l, JI P ⟨n.s, []⟩ w0 F l body (fun x e' Γ' => (x = .normal ∧ ∃ s, ∀ w, Hold w0 F Γ' w → Hold w0 F (M (i + 1) s ++ Γ) w) ∨ (x = .ret ∧ ∃ k, ∀ w, Hold w0 F Γ' w → Hold w0 F (X k ++ Γ) w)) (E2 i u s z) (N2 i u s z ++ Γ))
    (kn : ∀ D s, Q ⟨n.s, ⟨.collected D, #[]⟩ :: n.ds⟩ .normal e (.obj D (.deferred (some [])) :: M N s))
    (kr : ∀ D k, Q ⟨n.s, ⟨.collected D, #[]⟩ :: n.ds⟩ .ret e (.obj D (.deferred (some [])) :: X k)) :
    JX P n w0 F (.rangeFunc g #[p1, p2] assign body) Q e Γ := by
  intro a w fr ho
  refine (wpIn_wide (n := 3)).1 (wpIn_rangeFunc ?_)
  intro fn hfn
  obtain ⟨rec, hrec⟩ : ∃ rec : LoopState → Option Code → Loop, rec = fun st pe => { state := st, pending := pe, fn, tmps := a.tmps, params := #[p1, p2], assign, body, defers := w.heap.size } := ⟨_, rfl⟩
  have ho1 : Hold w0 F (.obj (w.heap.size + 1) (.loop (rec .ready none)) :: .obj w.heap.size (.deferred (some [])) :: (Γi ++ M 0 s0)) ((w.alloc (.deferred (some []))).alloc (.loop (rec .ready none))) := by
    have a1 := (h0 w ho).push (f := .obj w.heap.size (.deferred (some []))) (fun _ => Iff.rfl) (fun _ _ h => h)
    have a2 := a1.push (f := .obj (w.alloc (.deferred (some []))).heap.size (.loop (rec .ready none))) (fun _ => Iff.rfl) (fun _ _ h => h)
    simpa only [World.size_alloc] using a2
  obtain ⟨W1, hW1⟩ : ∃ W1, (w.alloc (.deferred (some []))).alloc (.loop (rec .ready none)) = W1 := ⟨_, rfl⟩
  rw [hW1] at ho1
  obtain ⟨D, hD⟩ : ∃ D, D = w.heap.size := ⟨_, rfl⟩
  have eg := hg.ok n a fr
  have e3 : (#[.func (.yield (D + 1)) #[] #[]] : Array Value) ++ (⟨lb⟩ : Array Value) = ⟨.func (.yield (D + 1)) #[] #[] :: lb⟩ := by apply Array.ext'; simp
  have hLr : ∀ st pe, (rec st pe).state = st := fun st pe => by rw [hrec]
  have fr0 : Fr ⟨n.s, []⟩ e ⟨a.tmps, []⟩ := ⟨rfl, fr.size, fr.slot⟩
  refine ⟨D + 1, [{ target := .collected D, args := #[] }], W1, { target := .fn (.func gf) ⟨lb⟩, args := #[.func (.yield (D + 1)) #[] #[]] }, W1, gf, ⟨.func (.yield (D + 1)) #[] #[] :: lb⟩, W1, ?_, ?_, ?_, ?_, fun h => (by cases h), ?_⟩
  · rw [← hW1, hrec, hD]; exact run_enterLoop_outer _ _ _ _ _
  · simp only [resolve, eg]
    simp [go_sem, Deferred.ofValue]
  · intro f' _; trivial
  · simp only [invoke, e3, hb.ok]
  · rw [← hD] at ho1
    let M' : Nat → ξ → List Fact := fun i s => .obj (D + 1) (.loop (rec .ready none)) :: .obj D (.deferred (some [])) :: M i s
    let X' : κ → List Fact := fun k => .obj (D + 1) (.loop { rec .ready none with state := .done, pending := some .ret }) :: .obj D (.deferred (some [])) :: X k
    refine callsIn_wide.2 (Calls.mono (hi (D + 1) κ ξ M' X' ?_ s0 W1 (ho1.perm ?_)) ?_)
    · intro i hin u s Γ W hW
      have hW' : Hold w0 F (.obj (D + 1) (.loop (rec .ready none)) :: (G i u ++ M i s ++ .obj D (.deferred (some [])) :: Γ)) W := by
        refine hW.perm ?_
        show (G i u ++ Γ ++ .obj (D + 1) (.loop (rec .ready none)) :: .obj D (.deferred (some [])) :: M i s).Perm _
        refine List.perm_middle.trans (List.Perm.cons _ ?_)
        refine List.perm_middle.trans ((List.Perm.cons _ ?_).trans List.perm_middle.symm)
        rw [List.append_assoc, List.append_assoc]
        exact List.Perm.append_left _ List.perm_append_comm
      have hl := hW'.objAt
      have hy := run_yield (P := P) (args := ⟨[v1 i u, v2 i u]⟩) hl (by rw [hrec]; rfl)
      refine ⟨_, _, _, _, hy, roundIn_of_wpIn trivial ?_⟩
      have etm : ((rec .ready none).params.zip (⟨[v1 i u, v2 i u]⟩ : Array Value)).foldl (fun t (p, v) => t.setIfInBounds p v) (rec .ready none).tmps = (a.tmps.setIfInBounds p1 (v1 i u)).setIfInBounds p2 (v2 i u) := by
        rw [hrec]; exact zip_two p1 p2 _ _ _
      have ea : (rec .ready none).assign = assign := by rw [hrec]
      have eb : (rec .ready none).body = body := by rw [hrec]
      rw [etm, ea, eb]
      have fr1 := (fr0.put h1 (v1 i u)).put h2 (v2 i u)
      have hW2 : Hold w0 F (G i u ++ M i s ++ (.obj (D + 1) (.loop (rec .ready none)) :: .obj D (.deferred (some [])) :: Γ)) W := hW'.perm List.perm_middle.symm
      refine wpIn_mono (ha i hin u s _ (D + 1) (fun _ _ h => by cases h.1) _ W fr1 hW2) ?_
      rintro x a2 W2 ⟨e2, Γ2, ⟨rfl, z, hent⟩, fr2, ho2⟩
      have ho3 : Hold w0 F (.obj (D + 1) (.loop (rec .ready none)) :: (N2 i u s z ++ .obj D (.deferred (some [])) :: Γ)) W2 := (hent.facts w0 F W2 ho2).perm List.perm_middle
      have fr3 := hent.slots _ _ fr2
      refine ⟨_, run_beginRound ho3.objAt (hLr _ _), ?_⟩
      have ho4 := (ho3.turn (o' := .loop { rec .ready none with state := .busy })).perm (List.perm_middle (l₁ := N2 i u s z)).symm
      refine wpIn_mono (hbd i hin u s z _ (D + 1) (fun _ _ h => by rcases h with h | h <;> cases h.1) _ _ fr3 ho4) ?_
      rintro x a5 W5 ⟨e5, Γ5, hx, fr5, ho5⟩
      rcases hx with ⟨rfl, s2, hm⟩ | ⟨rfl, k, hm⟩
      · have ho6 := (hm _ ho5).perm (List.perm_middle (l₁ := M (i + 1) s2))
        refine ⟨_, _, run_endRound none ho6.objAt, .inl ⟨rfl, s2, ?_⟩⟩
        have ho7 := ho6.turn (o' := .loop (rec .ready none))
        have er : (Obj.loop { ({ rec .ready none with state := .busy } : Loop) with state := if (none : Option Code).isNone then .ready else .done, pending := none }) = .loop (rec .ready none) := by rw [hrec]; rfl
        rw [er]
        refine ho7.perm ?_
        show List.Perm _ (Γ ++ .obj (D + 1) (.loop (rec .ready none)) :: .obj D (.deferred (some [])) :: M (i + 1) s2)
        refine (List.Perm.cons _ ?_).trans List.perm_middle.symm
        refine List.perm_middle.trans ((List.Perm.cons _ List.perm_append_comm).trans List.perm_middle.symm)
      · have ho6 := (hm _ ho5).perm (List.perm_middle (l₁ := X k))
        refine ⟨_, _, run_endRound (some .ret) ho6.objAt, .inr ⟨rfl, k, ?_⟩⟩
        have ho7 := ho6.turn (o' := .loop { rec .ready none with state := .done, pending := some .ret })
        have er : (Obj.loop { ({ rec .ready none with state := .busy } : Loop) with state := if (some Code.ret : Option Code).isNone then .ready else .done, pending := some .ret }) = .loop { rec .ready none with state := .done, pending := some .ret } := by rfl
        rw [er]
        refine ho7.perm ?_
        show List.Perm _ (Γ ++ .obj (D + 1) (.loop { rec .ready none with state := .done, pending := some .ret }) :: .obj D (.deferred (some [])) :: X k)
        refine (List.Perm.cons _ ?_).trans List.perm_middle.symm
        refine List.perm_middle.trans ((List.Perm.cons _ List.perm_append_comm).trans List.perm_middle.symm)
    · show List.Perm _ (Γi ++ .obj (D + 1) (.loop (rec .ready none)) :: .obj D (.deferred (some [])) :: M 0 s0)
      refine (List.Perm.trans ?_ List.perm_middle.symm)
      exact List.Perm.cons _ List.perm_middle.symm
    · have frD : ∀ {W}, Hold w0 F Γ W → Fr ⟨n.s, ⟨.collected D, #[]⟩ :: n.ds⟩ e { a with defers := [⟨.collected D, #[]⟩] ++ a.defers } := fun _ => ⟨by show [_] ++ a.defers = _; rw [fr.defers]; rfl, fr.size, fr.slot⟩
      have frE := frD ho
      rintro x W3 ⟨⟨v, rfl⟩, ⟨s, hM⟩ | ⟨k, hX⟩⟩
      · refine ⟨none, W3.putObj (D + 1) (.loop { rec .ready none with state := .exhausted }), ?_, ?_⟩
        · have := run_endLoop (P := P) hM.objAt (by rw [hLr]; simp)
          have ep : (rec .ready none).pending = none := by rw [hrec]
          exact this.trans (congrArg (fun x => Result.ok x _) ep)
        · have ho9 := (hM.turn (o' := .loop { rec .ready none with state := .exhausted })).tail
          exact ⟨_, e, _, kn D s, frE, ho9⟩
      · refine ⟨some .ret, _, run_endLoop (P := P) hX.objAt (by simp), ?_⟩
        have ho9 := (hX.turn (o' := .loop { ({ rec .ready none with state := .done, pending := some .ret } : Loop) with state := .exhausted })).tail
        exact wpIn_ret ⟨_, e, _, kr D k, frE, ho9⟩
theorem JX.seqX {Q : Nn → Cont} {x y : Code} (h : JX P n w0 F x (fun n' => andThen (JC P n' w0 F y (Q n')) (Q n')) e Γ) : JX P n w0 F (.seq x y) Q e Γ := by
  intro a w fr ho
  refine wp_seq (wp_mono (h a w fr ho) ?_)
  rintro z a w ⟨n', e, Γ, hq, fr, ho⟩
  cases z <;> first | exact wp_mono (hq a w fr ho) (fun x a w ⟨e, Γ, hq⟩ => ⟨n', e, Γ, hq⟩) | exact ⟨n', e, Γ, hq, fr, ho⟩
theorem JX.block {Q : Nn → Cont} {id : Nat} {c : Code} (h : JX P n w0 F c (fun n' => inBlock id (Q n')) e Γ) : JX P n w0 F (.block id c) Q e Γ := by
  intro a w fr ho
  refine wp_block (wp_mono (h a w fr ho) ?_)
  rintro x a w ⟨n', e, Γ, hq, fr, ho⟩
  cases x with
  | exit id' =>
    simp only [inBlock, Exit.inBlock] at *
    split
    · rename_i he; rw [if_pos he] at hq; exact ⟨n', e, Γ, hq, fr, ho⟩
    · rename_i he; rw [if_neg he] at hq; exact ⟨n', e, Γ, hq, fr, ho⟩
  | _ => exact ⟨n', e, Γ, hq, fr, ho⟩
theorem gives_range {f : FuncId} {fn : Func} {c : Code} {rs : List ResultVar} {args : List Value} {w : World} {Y : Type} {v : Y → Value} {B : Y → List Fact}
    {m : Nat} (hf : P.funcs[f]? = some fn) (hb : fn.body = some c) (hn : fn.ntmps = m) (hr : fn.results = ⟨rs⟩) (hl : Nat.ble args.length m = true) (Γ : List Fact) (ho : Hold w F Γ w)
    (h : JX P ⟨m, []⟩ w F c (fun n' x e Γ => ∃ D Γ', n' = ⟨m, [⟨.collected D, #[]⟩]⟩ ∧ (x = .ret ∨ x = .normal) ∧ (∀ w1, Hold w F Γ w1 → Hold w F (.obj D (.deferred (some [])) :: Γ') w1) ∧ retTo P w F rs v B .ret e Γ') (enum 0 args) Γ) : Gives P f args w F v B := by
  refine callsIn_wide.1 (callsIn_of_wp_marks (F := Fence.wide) (n := 3) hf hb trivial ?_)
  rw [hn]
  refine wpIn_mono ((wpIn_wide (n := 3)).2 (h _ w (Fr.start hl) ho)) ?_
  rintro x a w' ⟨n', e, Γ, ⟨D, Γ', rfl, hx, hΓ, _, y, vs, hres, hpk, hB⟩, fr, ho'⟩
  have ho1 := hΓ w' ho'
  have ho2 := (ho1.turn (o' := .deferred none)).tail
  have fr' : Fr ⟨m, []⟩ e ⟨a.tmps, []⟩ := ⟨rfl, fr.size, fr.slot⟩
  have hrun := run_results (P := P) hr hres fr' ho2
  have key : LeavesInM Fence.wide 3 P fn a.tmps (fun x w' => ∃ y, x = .returned (v y) ∧ Bel w.heap.size w w' ∧ Fresh w.heap.size F (B y) w') a.defers .returning w' := by
    rw [fr.defers]
    refine ⟨by simp, .inl ⟨D, _, rfl, run_takeDeferred ho1.objAt, ?_⟩⟩
    exact ⟨_, hrun, y, by rw [hpk], ho2.below, (hB _ ho2).fresh⟩
  rcases hx with rfl | rfl <;> exact key
end
end Ab
end Go.Proofs.YtdgeffphifgflaaGreat
namespace Go.Proofs.YtdgeffphifgflaaGreat
namespace Ab
open Go Go.RowKit
set_option linter.unusedVariables false
set_option linter.unusedSimpArgs false
set_option synthInstance.maxSize 4000
set_option synthInstance.maxHeartbeats 400000
attribute [local irreducible] JC JO JR JQ andThen inBlock OpV Gives retTo JM JS
attribute [local irreducible] JY JI JX
theorem commits_store (w : World) (F : Nat → Prop) (a : Option Addr) (c : Nat) (b : List UInt8) (h : (sl a c b).holds F w) :
    Gives Tryz.prog 61 [.slice a b.length c] w F (fun y : Nat => .func (.func 121) #[] ⟨[.pointer (some ⟨y, 0, none⟩)]⟩) (fun y => [.own y 22 [.slice a b.length c]]) := by
  refine gives_of Tryz.func61 rfl Tryz.ntmps61 rfl rfl [.st (sl a c b)] (.start1 h) ?_
  repeat (first|refine Wa ?_|refine Wb ?_|refine Wc ?_|refine Wd ?_|refine We rfl ?_|refine Wf (by first|exact Vb|exact Vr) rfl ?_|(refine Wh rfl ?_; intro _)|refine Ws ?_)
  rename_i bx
  exact CT.done bx rfl (fun w ho => ho.ent)
noncomputable def comAt (b : List UInt8) (i : Nat) : Commit := (decL (readL b)).getD i com0
noncomputable def endAt (b : List UInt8) (i : Nat) : Nat := (framesL ((readL b).take (i + 1))).length
set_option maxHeartbeats 4000000 in
theorem iter_commits (w0 : World) (F : Nat → Prop) (bx : Nat) (a : Option Addr) (c : Nat) (b : List UInt8) (hb : b.length ≤ 1048576) :
    Iter Tryz.prog w0 F 121 [.pointer (some ⟨bx, 0, none⟩)] (decL (readL b)).length (ι := Option Addr × Nat) (fun i u => commitV (comAt b i) u.1 u.2) (fun i u => .int .i64 (endAt b i : Int))
      (fun i u => [.st (sl u.1 u.2 (comAt b i).parents)]) [.own bx 22 [.slice a b.length c], .st (sl a c b)] := by
  intro l κ ξ M X hY s0 w ho
  have hpre : framesL (readL b) <+: b := readF_pre _ _
  have hfl : (framesL (readL b)).length ≤ b.length := hpre.length_le
  have hrl := length_framesL (readL b)
  have hsm : ∀ x ∈ readL b, x.length ≤ 4000 := readL_small _ _
  have hdl := decL_le (readL b)
  refine Calls.mono (R := fun x w' => ∃ y : ξ ⊕ κ, x = .returned (.tuple ⟨[]⟩) ∧ Hold w0 F (match y with | .inl s => M (decL (readL b)).length s | .inr k => X k) w') ?key ?mono
  case mono =>
    rintro x w' ⟨y, rfl, hy⟩
    cases y with
    | inl s => exact ⟨⟨_, rfl⟩, .inl ⟨s, hy⟩⟩
    | inr k => exact ⟨⟨_, rfl⟩, .inr ⟨k, hy⟩⟩
  refine calls_of (Y := ξ ⊕ κ) (v := fun _ => .tuple ⟨[]⟩) (B := fun y => match y with | .inl s => M (decL (readL b)).length s | .inr k => X k) Tryz.func121 rfl Tryz.ntmps121 rfl rfl
    (.own bx 22 [.slice a b.length c] :: .st (sl a c b) :: M 0 s0) ho ?_
  repeat (first|refine Wb ?_|refine Wc ?_|refine We rfl ?_|refine Wf (by exact Vc) rfl ?_)
  refine JR.callSlT rfl (fun w1 hw => read_log w1 _ a c b (hw.get (A := sl a c b)) hb) ?_
  intro a3 c3
  generalize hrs : readL b = rs at hY hpre hfl hrl hsm hdl ⊢
  repeat (first|refine Wa ?_|refine Wb ?_|refine Wc ?_|refine Wd ?_|refine We rfl ?_|refine Wf (by first|exact Va|exact Vb|exact Vf|exact Vq) rfl ?_|refine Wn ?_)
  refine JC.reslot 5 (.int .i64 ((framesL (rs.take 0)).length : Int)) rfl ?_
  refine JC.loop2 (fun (i : Nat) (s : ξ) => [(0, .func (.yield l) #[] #[]), (5, .int .i64 ((framesL (rs.take i)).length : Int)), (18, .slice a3 rs.length c3), (19, .int .i64 (rs.length : Int)), (20, .int .i64 (i : Int))])
    (fun i s => .st (sl a3 c3 rs) :: M i s) (fun i _ => i ≤ (decL rs).length) (fun i _ => rs.length - i) 0 s0 (Nat.zero_le _) inferInstance ?_
  intro i s hi
  repeat (first|refine Wa ?_|refine Wb ?_|refine Wc ?_|refine Wd ?_|refine We rfl ?_|refine Wf (by exact Vg) rfl ?_)
  refine JC.test (fun h1 => ?_) (fun h1 => ?_)
  · have hlt : i < rs.length := by omega
    repeat (first|refine Wa ?_|refine Wb ?_|refine Wc ?_|refine We rfl ?_|refine Wl ?_|refine Wn ?_)
    have hx := hsm rs[i] (List.getElem_mem hlt)
    have hfr : frameT rs[i] = (frameL rs[i], 0) := if_neg (by omega)
    refine JR.indexBytes (k := i) rfl hlt ?_
    intro b5 o5 a5 c5
    repeat (first|refine Wa ?_|refine Wb ?_|refine Wc ?_|refine Wd ?_|refine We rfl ?_|refine Wf (by first|exact Va|exact Vb|exact Vc) rfl ?_)
    refine JR.callSlT rfl (fun w1 hw => frame_log w1 _ a5 c5 rs[i] (hw.get (A := sl a5 c5 rs[i]))) ?_
    rw [hfr]
    intro a6 c6
    dsimp only
    have hnx := framesL_next hlt
    have hle := framesL_take_le rs (i + 1)
    repeat (first|refine Wa ?_|refine Wb ?_|refine Wc ?_|refine Wd ?_|refine We rfl ?_|refine Wf (by first|exact Va|exact Vb|exact Vf|exact Vq|exact Vs (by omega)) rfl ?_)
    refine JR.call2 (B := fun y : GetY rs[i] => .st (sl y.pa y.pc (getT rs[i]).1.parents)) (C := fun y : GetY rs[i] => .st (sl y.ra y.rc (getT rs[i]).2.1)) rfl (fun w1 hw => get_com w1 _ a5 c5 rs[i] (hw.get (A := sl a5 c5 rs[i])) (by omega)) ?_
    rintro ⟨pa, pc, ra, rc⟩
    dsimp only
    by_cases hd : i < (decL rs).length
    · have hg := decL_at rs i hd hlt
      have hT : getT rs[i] = ((decL rs)[i], [], 0) := getT_some hg
      rw [hT]
      dsimp only
      have hcm : comAt b i = (decL rs)[i] := by unfold comAt; rw [hrs, List.getD_eq_getElem?_getD, List.getElem?_eq_getElem hd]; rfl
      have hend : endAt b i = (framesL (rs.take (i + 1))).length := by unfold endAt; rw [hrs]
      generalize (decL rs)[i] = cm at hg hcm ⊢
      repeat (first|refine Wd ?_|refine We rfl ?_|refine Wf (by first|exact Va|exact Vb|exact Vc|exact Vd|exact Ve|exact Vf|exact Vg|exact Vh|exact Vi|exact Vj|exact Vk (by omega)|exact Vl|exact Vm|exact Vn|exact Vo|exact Vp|exact Vq|exact Vr|exact Vs (by omega)|exact Vt (by omega)|exact Vu (by omega)|exact Vv (by omega)|exact Vw|exact Vx|exact Vy|exact Vz|exact VA|exact VB|exact VC|exact VD|exact VE|exact VF) rfl ?_|(refine Wg rfl ?_; intro _)|(refine Wh rfl ?_; intro _)|refine Wi ?_|refine Wv rfl rfl ?_)
      rename_i bc
      refine Wa ?_
      refine Wb ?_
      refine JC.regionY ?_
      repeat (first|refine JY.val rfl (by first|exact Va|exact Vb|exact Vc|exact Vd|exact Ve|exact Vf|exact Vg|exact Vh|exact Vi|exact Vj|exact Vk (by omega)|exact Vl|exact Vm|exact Vn|exact Vo|exact Vp|exact Vq|exact Vr|exact Vs (by omega)|exact Vt (by omega)|exact Vu (by omega)|exact Vv (by omega)|exact Vw|exact Vx|exact Vy|exact Vz|exact VA|exact VB|exact VC|exact VD|exact VE|exact VF) rfl ?_|refine JY.omit rfl rfl ?_|refine JY.skip rfl rfl ?_|refine JY.nil ?_)
      refine JY.reslot 49 (.int .i64 ((framesL (rs.take (i + 1))).length : Int)) (by congr 1; omega) ?_
      refine JY.reslot 5 (.int .i64 ((framesL (rs.take (i + 1))).length : Int)) (by congr 1; omega) ?_
      refine JY.yield (l := l) (κ := κ) (ξ := ξ) (Γt := fun s => .st (sl a3 c3 rs) :: M (i + 1) s) (Γf := fun k => .st (sl a3 c3 rs) :: X k) rfl rfl (fun w1 ho => ?_) (fun s2 => ?_) (fun k => ?_)
      · have hy := hY i hd (pa, pc) s [.st (sl a3 c3 rs)] w1
        dsimp only at hy
        rw [hcm, hend] at hy
        exact hy (ho.ent : Hold w0 F (.st (sl pa pc cm.parents) :: .st (sl a3 c3 rs) :: M i s) w1)
      · repeat (first|refine JY.val rfl (by first|exact Va|exact Vb|exact Vc|exact Vd|exact Ve|exact Vf|exact Vg|exact Vh|exact Vi|exact Vj|exact Vk (by omega)|exact Vl|exact Vm|exact Vn|exact Vo|exact Vp|exact Vq|exact Vr|exact Vs (by omega)|exact Vt (by omega)|exact Vu (by omega)|exact Vv (by omega)|exact Vw|exact Vx|exact Vy|exact Vz|exact VA|exact VB|exact VC|exact VD|exact VE|exact VF) rfl ?_|refine JY.omit rfl rfl ?_|refine JY.skip rfl rfl ?_|refine JY.nil ?_)
        repeat (first|refine Wa ?_|refine Wc ?_|refine Wd ?_|refine We rfl ?_|refine Wf (by first|exact Va|exact Vk (by omega)) rfl ?_|refine Wk ?_|refine Wl ?_|refine Wr ?_)
        exact ⟨i + 1, s2, by omega, by omega, inferInstance⟩
      · repeat (first|refine JY.val rfl (by first|exact Va|exact Vb|exact Vc|exact Vd|exact Ve|exact Vf|exact Vg|exact Vh|exact Vi|exact Vj|exact Vk (by omega)|exact Vl|exact Vm|exact Vn|exact Vo|exact Vp|exact Vq|exact Vr|exact Vs (by omega)|exact Vt (by omega)|exact Vu (by omega)|exact Vv (by omega)|exact Vw|exact Vx|exact Vy|exact Vz|exact VA|exact VB|exact VC|exact VD|exact VE|exact VF) rfl ?_|refine JY.omit rfl rfl ?_|refine JY.skip rfl rfl ?_|refine JY.nil ?_)
        repeat (first|refine Wa ?_|refine Wj ?_|refine Ws ?_|refine Wt ?_|refine Wu ?_)
        exact CT.done (.inr k) rfl (fun w ho => ho.ent)
    · obtain rfl : i = (decL rs).length := by omega
      have hne := decL_end rs hlt
      cases hg : getC (rs[(decL rs).length]) with
      | none =>
        rw [getT_none hg]
        dsimp only
        repeat (first|refine Wa ?_|refine Wb ?_|refine Wc ?_|refine Wd ?_|refine We rfl ?_|refine Wf (by first|exact Va|exact Vb|exact Vi|exact Vm|exact Vq) rfl ?_|(refine Wg rfl ?_; intro _)|refine Wi ?_|refine Wj ?_|refine Ws ?_|refine Wt ?_|refine Wu ?_|refine Wv rfl rfl ?_)
        exact CT.done (.inl s) rfl (fun w ho => ho.ent)
      | some q =>
        obtain ⟨cm, R⟩ := q
        rw [getT_some hg]
        dsimp only
        have hR : 0 < R.length := by
          cases R with
          | nil => exact (hne ⟨cm, hg⟩).elim
          | cons r R => simp
        repeat (first|refine Wa ?_|refine Wb ?_|refine Wc ?_|refine Wd ?_|refine We rfl ?_|refine Wf (by first|exact Va|exact Vb|exact Vf|exact Vj|exact Vm|exact Vo|exact Vq) rfl ?_|(refine Wg rfl ?_; intro _)|refine Wi ?_)
        refine JO.test 46 (fun h6 => ?_) (fun h6 => absurd h6 (by omega))
        repeat (first|refine Wa ?_|refine Wd ?_|refine We rfl ?_|refine Wf (by exact Vi) rfl ?_|refine Wj ?_|refine Ws ?_|refine Wt ?_|refine Wu ?_|refine Wv rfl rfl ?_)
        exact CT.done (.inl s) rfl (fun w ho => ho.ent)
  · obtain rfl : i = (decL rs).length := by omega
    repeat (first|refine Wm ?_|refine Wo ?_|refine Wp ?_)
    exact CT.doneN (.inl s) rfl (fun w ho => ho.ent)
end Ab
end Go.Proofs.YtdgeffphifgflaaGreat
namespace Go.Proofs.YtdgeffphifgflaaGreat
namespace Ab
open Go Go.RowKit
set_option linter.unusedVariables false
set_option linter.unusedSimpArgs false
set_option synthInstance.maxSize 4000
set_option synthInstance.maxHeartbeats 400000
attribute [local irreducible] JC JO JR JQ andThen inBlock OpV Gives retTo JM JS
attribute [local irreducible] JY JI JX hashC
theorem dec_fine {l : List (List UInt8)} {c : Commit} (h : c ∈ decL l) : fine c := by
  obtain ⟨i, hi, rfl⟩ := List.getElem_of_mem h
  obtain ⟨h1, h2⟩ := getC_may (decL_at l i hi (Nat.lt_of_lt_of_le hi (decL_le l)))
  exact ⟨h2, by have := may_parents h1; omega⟩
set_option maxHeartbeats 4000000 in
theorem load_store (w : World) (F : Nat → Prop) (a : Option Addr) (c : Nat) (b : List UInt8) (h : (sl a c b).holds F w) (hb : b.length ≤ 1048576) :
    GivesSlT Tryz.prog 17 [.slice a b.length c] w F (loadL b) [.int .i64 (loadEnd b : Int)] := by
  obtain ⟨xs, hxs⟩ : ∃ xs, xs = decL (readL b) := ⟨_, rfl⟩
  obtain ⟨rs, hrs⟩ : ∃ rs, rs = readL b := ⟨_, rfl⟩
  refine gives_range Tryz.func17 rfl Tryz.ntmps17 rfl rfl [.st (sl a c b)] (.start1 h) ?_
  refine JX.seq ?_
  repeat (first|refine Wc ?_|refine Wd ?_|refine We rfl ?_|(refine Wg rfl ?_; intro _))
  rename_i b2 b3
  refine ⟨rfl, JX.seq ?_⟩
  repeat (first|refine Wc ?_|refine Wd ?_|refine We rfl ?_|(refine Wg rfl ?_; intro _))
  rename_i b4
  refine ⟨rfl, JX.seq ?_⟩
  repeat (first|refine Wc ?_|refine Wd ?_|refine We rfl ?_|(refine Wg rfl ?_; intro _)|refine Wi ?_)
  rename_i b5
  refine ⟨rfl, JX.seqX (JX.seq ?_)⟩
  repeat (first|refine Wc ?_|refine We rfl ?_|refine Wf (by exact Va) rfl ?_)
  refine JR.call1 (B := fun y : Nat => .own y 22 [.slice a b.length c]) rfl (fun w1 hw => commits_store w1 _ a c b (hw.get (A := sl a c b))) ?_
  intro bx
  repeat (refine Wd ?_)
  refine ⟨rfl, JX.block ?_⟩
  let E0 : E := [(2, .pointer (some ⟨b2, 0, none⟩)), (3, .pointer (some ⟨b3, 0, none⟩)), (4, .pointer (some ⟨b4, 0, none⟩)), (5, .pointer (some ⟨b5, 0, none⟩))]
  have hiter := iter_commits w F bx a c b hb
  rw [← hxs] at hiter
  refine JX.range (ξ := Option Addr × Nat) (κ := Option Addr × Nat) (ζ := Nat)
    (fun i s => [.own b2 35 [.slice none 0 0], .own b3 3 [.int .i64 0], .own b4 35 [.slice s.1 (xs.take i).length s.2], .own b5 3 [.int .i64 ((framesL (rs.take i)).length : Int)], .res (buf s.1 s.2 29 (xs.take i)), .st (tru (closeF [] xs = closeF (xs.take i) (xs.drop i)))])
    (fun k => [.own b2 35 [.slice k.1 (loadL b).length k.2], .own b3 3 [.int .i64 (loadEnd b : Int)], .st (sl k.1 k.2 (loadL b))])
    (fun i u s z => (7, .int .i64 (endAt b i : Int)) :: (6, .pointer (some ⟨z, 0, none⟩)) :: E0)
    (fun i u s z => [.own z 29 [.int .i64 (comAt b i).ev.node, .int .i64 (comAt b i).ev.seq, .int .i64 (comAt b i).gen, .slice u.1 (comAt b i).parents.length u.2, .int .i64 (comAt b i).op.kind, .string (comAt b i).op.key, .string (comAt b i).op.elem, .int .i64 (comAt b i).op.n], .st (sl u.1 u.2 (comAt b i).parents),
      .own b2 35 [.slice none 0 0], .own b3 3 [.int .i64 0], .own b4 35 [.slice s.1 (xs.take i).length s.2], .own b5 3 [.int .i64 ((framesL (rs.take i)).length : Int)], .res (buf s.1 s.2 29 (xs.take i)), .st (tru (closeF [] xs = closeF (xs.take i) (xs.drop i)))])
    (none, 0) rfl rfl hiter ?h0 ?ha ?hbd ?kn ?kr
  case h0 =>
    intro w1 ho
    show Hold w F [.own bx 22 [.slice a b.length c], .st (sl a c b), .own b2 35 [.slice none 0 0], .own b3 3 [.int .i64 0], .own b4 35 [.slice none 0 0], .own b5 3 [.int .i64 0], .res (buf (α := Commit) none 0 29 []), .st (tru (closeF [] xs = closeF (xs.take 0) (xs.drop 0)))] w1
    have := ((ho.ent : Hold w F [.own bx 22 [.slice a b.length c], .st (sl a c b), .own b2 35 [.slice none 0 0], .own b3 3 [.int .i64 0], .own b4 35 [.slice none 0 0], .own b5 3 [.int .i64 0]] w1).add (A := tru (closeF [] xs = closeF (xs.take 0) (xs.drop 0))) rfl)
    exact (this.bufNil (α := Commit) (el := 29) (Γ' := .st (tru (closeF [] xs = closeF (xs.take 0) (xs.drop 0))) :: [.own bx 22 [.slice a b.length c], .st (sl a c b), .own b2 35 [.slice none 0 0], .own b3 3 [.int .i64 0], .own b4 35 [.slice none 0 0], .own b5 3 [.int .i64 0]])).ent
  case ha =>
    rintro i hi ⟨pa, pc⟩ ⟨p, q⟩ Γ l
    dsimp only [List.cons_append, List.nil_append]
    repeat (first|refine Wa ?_|refine JI.seq ?_|refine JI.region rfl ?_|refine Wd ?_|refine We rfl ?_|refine Wf (by first|exact Va|exact Vb|exact Vc|exact Vd|exact Ve|exact Vf|exact Vg|exact Vh|exact Vi|exact Vj|exact Vk (by omega)|exact Vl|exact Vm|exact Vn|exact Vo|exact Vp|exact Vq|exact Vr|exact Vs (by omega)|exact Vt (by omega)|exact Vu (by omega)|exact Vv (by omega)|exact Vw|exact Vx|exact Vy|exact Vz|exact VA|exact VB|exact VC|exact VD|exact VE|exact VF) rfl ?_|(refine Wg rfl ?_; intro _)|(refine Wh rfl ?_; intro _)|refine Wi ?_|refine JI.cond_true ?_|refine JI.cond_false ?_|refine JI.skip ?_|refine JI.ret ?_|refine Wt ?_|refine JI.block ?_|refine Wr ?_|refine Wu ?_|refine Wv rfl rfl ?_|(refine Ww rfl ⟨rfl, by decide, by decide, by decide⟩ ?_; intro _))
    rename_i z
    exact ⟨rfl, z, inferInstance⟩
  case hbd =>
    rintro i hi ⟨pa, pc⟩ ⟨p, q⟩ z Γ l
    dsimp only [List.cons_append, List.nil_append]
    have hxi : comAt b i = xs[i] := by unfold comAt; rw [← hxs, List.getD_eq_getElem?_getD, List.getElem?_eq_getElem hi]; rfl
    have hfn : ∀ x ∈ xs.take (i + 1), fine x := fun x hx => dec_fine (by rw [← hxs]; exact List.mem_of_mem_take hx)
    have hdl := decL_le (readL b)
    have hrl := length_framesL (readL b)
    have hpre : (framesL (readL b)).length ≤ b.length := (readF_pre _ _ : framesL (readL b) <+: b).length_le
    rw [← hxs] at hdl
    have hlen : (xs.take i).length = i := by rw [List.length_take]; omega
    have hnext : xs.take (i + 1) = xs.take i ++ [comAt b i] := by rw [hxi]; exact List.take_succ_eq_append_getElem hi
    refine JI.know (fun w1 ho => (ho.get (A := tru (closeF [] xs = closeF (xs.take i) (xs.drop i))))) ?_
    intro hcl
    generalize comAt b i = cm at hnext hxi ⊢
    repeat (first|refine Wa ?_|refine JI.seq ?_|refine JI.region rfl ?_|refine Wd ?_|refine We rfl ?_|refine Wf (by first|exact Va|exact Vb|exact Vc|exact Vd|exact Ve|exact Vf|exact Vg|exact Vh|exact Vi|exact Vj|exact Vk (by omega)|exact Vl|exact Vm|exact Vn|exact Vo|exact Vp|exact Vq|exact Vr|exact Vs (by omega)|exact Vt (by omega)|exact Vu (by omega)|exact Vv (by omega)|exact Vw|exact Vx|exact Vy|exact Vz|exact VA|exact VB|exact VC|exact VD|exact VE|exact VF) rfl ?_|(refine Wg rfl ?_; intro _)|(refine Wh rfl ?_; intro _)|refine Wi ?_|refine JI.cond_true ?_|refine JI.cond_false ?_|refine JI.skip ?_|refine JI.ret ?_|refine Wt ?_|refine JI.block ?_|refine Wr ?_|refine Wu ?_|refine Wv rfl rfl ?_|(refine Ww rfl ⟨rfl, by decide, by decide, by decide⟩ ?_; intro _))
    rename_i bl
    refine JR.append1 (L := xs.take i) (u := cm) rfl (by exact ⟨rfl, rfl, by decide⟩) (by omega) ?_
    intro a6 c6
    rw [← hnext]
    repeat (first|refine Wa ?_|refine JI.seq ?_|refine JI.region rfl ?_|refine Wd ?_|refine We rfl ?_|refine Wf (by first|exact Va|exact Vb|exact Vc|exact Vd|exact Ve|exact Vf|exact Vg|exact Vh|exact Vi|exact Vj|exact Vk (by omega)|exact Vl|exact Vm|exact Vn|exact Vo|exact Vp|exact Vq|exact Vr|exact Vs (by omega)|exact Vt (by omega)|exact Vu (by omega)|exact Vv (by omega)|exact Vw|exact Vx|exact Vy|exact Vz|exact VA|exact VB|exact VC|exact VD|exact VE|exact VF) rfl ?_|(refine Wg rfl ?_; intro _)|(refine Wh rfl ?_; intro _)|refine Wi ?_|refine JI.cond_true ?_|refine JI.cond_false ?_|refine JI.skip ?_|refine JI.ret ?_|refine Wt ?_|refine JI.block ?_|refine Wr ?_|refine Wu ?_|refine Wv rfl rfl ?_|(refine Ww rfl ⟨rfl, by decide, by decide, by decide⟩ ?_; intro _))
    have hend : endAt b i = (framesL (rs.take (i + 1))).length := by unfold endAt; rw [← hrs]
    rw [hend]
    have hlen1 : (xs.take (i + 1)).length = i + 1 := by rw [List.length_take]; omega
    by_cases hc : Closed (xs.take (i + 1))
    · have hst := closeF_step hi hcl hc
      refine JR.callV rfl (fun w1 hw => (closed_yes w1 (fun _ => True) a6 c6 (xs.take (i + 1)) (Hold.bufSlOf (α := Commit) (a := a6) (c := c6) (el := 29) (L := xs.take (i + 1)) hw) (by omega) hfn hc).any) ?_
      repeat (first|refine Wa ?_|refine JI.seq ?_|refine JI.region rfl ?_|refine Wd ?_|refine We rfl ?_|refine Wf (by first|exact Va|exact Vb|exact Vc|exact Vd|exact Ve|exact Vf|exact Vg|exact Vh|exact Vi|exact Vj|exact Vk (by omega)|exact Vl|exact Vm|exact Vn|exact Vo|exact Vp|exact Vq|exact Vr|exact Vs (by omega)|exact Vt (by omega)|exact Vu (by omega)|exact Vv (by omega)|exact Vw|exact Vx|exact Vy|exact Vz|exact VA|exact VB|exact VC|exact VD|exact VE|exact VF) rfl ?_|(refine Wg rfl ?_; intro _)|(refine Wh rfl ?_; intro _)|refine Wi ?_|refine JI.cond_true ?_|refine JI.cond_false ?_|refine JI.skip ?_|refine JI.ret ?_|refine Wt ?_|refine JI.block ?_|refine Wr ?_|refine Wu ?_|refine Wv rfl rfl ?_|(refine Ww rfl ⟨rfl, by decide, by decide, by decide⟩ ?_; intro _))
      refine .inl ⟨rfl, (a6, c6), fun w1 ho => ?_⟩
      exact (ho.add (A := tru (closeF [] xs = closeF (xs.take (i + 1)) (xs.drop (i + 1)))) hst).ent
    · have hst : loadL b = xs.take i := by unfold loadL; rw [← hxs]; exact closeF_stop hi hcl hc
      have hle : loadEnd b = (framesL (rs.take i)).length := by unfold loadEnd; rw [hst, hlen, ← hrs]
      rw [hst, hle]
      refine JR.callV rfl (fun w1 hw => (closed_no w1 (fun _ => True) a6 c6 (xs.take (i + 1)) (Hold.bufSlOf (α := Commit) (a := a6) (c := c6) (el := 29) (L := xs.take (i + 1)) hw) (by omega) hfn hc).any) ?_
      repeat (first|refine Wa ?_|refine JI.seq ?_|refine JI.region rfl ?_|refine Wd ?_|refine We rfl ?_|refine Wf (by first|exact Va|exact Vb|exact Vc|exact Vd|exact Ve|exact Vf|exact Vg|exact Vh|exact Vi|exact Vj|exact Vk (by omega)|exact Vl|exact Vm|exact Vn|exact Vo|exact Vp|exact Vq|exact Vr|exact Vs (by omega)|exact Vt (by omega)|exact Vu (by omega)|exact Vv (by omega)|exact Vw|exact Vx|exact Vy|exact Vz|exact VA|exact VB|exact VC|exact VD|exact VE|exact VF) rfl ?_|(refine Wg rfl ?_; intro _)|(refine Wh rfl ?_; intro _)|refine Wi ?_|refine JI.cond_true ?_|refine JI.cond_false ?_|refine JI.skip ?_|refine JI.ret ?_|refine Wt ?_|refine JI.block ?_|refine Wr ?_|refine Wu ?_|refine Wv rfl rfl ?_|(refine Ww rfl ⟨rfl, by decide, by decide, by decide⟩ ?_; intro _))
      refine JI.more (Γ' := .st (sl a6 c6 (xs.take (i + 1))) :: .own b2 35 [.slice none 0 0] :: .own b3 3 [.int .i64 0] :: .own b4 35 [.slice a6 (xs.take (i + 1)).length c6] :: .own b5 3 [.int .i64 ((framesL (rs.take i)).length : Int)] :: Γ) (fun w1 ho => (ho.ent : Hold w F (.res (buf a6 c6 29 (xs.take (i + 1))) :: .own b2 35 [.slice none 0 0] :: .own b3 3 [.int .i64 0] :: .own b4 35 [.slice a6 (xs.take (i + 1)).length c6] :: .own b5 3 [.int .i64 ((framesL (rs.take i)).length : Int)] :: Γ) w1).pub) ?_
      refine JI.drawP mixed rfl ?_
      refine JP.take 0 [.own b4 35 [.slice a6 (xs.take (i + 1)).length c6]] rfl (by kernel_rfl) rfl Vc rfl rfl ?_
      refine JP.take 1 [.own b4 35 [.slice a6 (xs.take (i + 1)).length c6]] rfl (by kernel_rfl) rfl Vc rfl rfl ?_
      refine JP.pure 2 rfl (by kernel_rfl) rfl (fun _ => Vf) rfl rfl ?_
      refine JP.pure 3 rfl (by kernel_rfl) rfl (fun _ => Vv (by omega)) rfl rfl ?_
      refine JP.reslot 22 (.int .i64 (i : Int)) (by congr 1; omega) ?_
      refine JP.take 4 [.st (sl a6 c6 (xs.take (i + 1)))] rfl (by kernel_rfl) rfl (OpV.sliceToV (k := i) (fun w1 ho => by have := (Hold.get (A := sl a6 c6 (xs.take (i + 1))) ho).1; omega)) rfl rfl ?_
      refine JP.take 5 [.own b5 3 [.int .i64 ((framesL (rs.take i)).length : Int)]] rfl (by kernel_rfl) rfl Vc rfl rfl ?_
      refine JP.op 6 (by kernel_rfl) rfl rfl (Wi (Wd ⟨rfl, (by repeat (first|exact Obs.nil|refine Obs.keep ?_|refine Obs.skip (by kernel_rfl) ?_)), ?_⟩))
      refine JP.op 7 (by kernel_rfl) rfl rfl (Wi (Wd ⟨rfl, (by repeat (first|exact Obs.nil|refine Obs.keep ?_|refine Obs.skip (by kernel_rfl) ?_)), ?_⟩))
      refine JP.nil (by kernel_rfl) ?_
      repeat (first|refine Wa ?_|refine JI.seq ?_|refine JI.region rfl ?_|refine Wd ?_|refine We rfl ?_|refine Wf (by first|exact Va|exact Vb|exact Vc|exact Vd|exact Ve|exact Vf|exact Vg|exact Vh|exact Vi|exact Vj|exact Vk (by omega)|exact Vl|exact Vm|exact Vn|exact Vo|exact Vp|exact Vq|exact Vr|exact Vs (by omega)|exact Vt (by omega)|exact Vu (by omega)|exact Vv (by omega)|exact Vw|exact Vx|exact Vy|exact Vz|exact VA|exact VB|exact VC|exact VD|exact VE|exact VF) rfl ?_|(refine Wg rfl ?_; intro _)|(refine Wh rfl ?_; intro _)|refine Wi ?_|refine JI.cond_true ?_|refine JI.cond_false ?_|refine JI.skip ?_|refine JI.ret ?_|refine Wt ?_|refine JI.block ?_|refine Wr ?_|refine Wu ?_|refine Wv rfl rfl ?_|(refine Ww rfl ⟨rfl, by decide, by decide, by decide⟩ ?_; intro _))
      refine .inr ⟨rfl, (a6, c6), fun w1 ho => ?_⟩
      have e1 := sl_take (k := i) (c' := c6) (ho.get (A := sl a6 c6 (xs.take (i + 1)))) (by omega) ⟨by have := (ho.get (A := sl a6 c6 (xs.take (i + 1)))).1; omega, Nat.le_refl _⟩
      rw [List.take_take, Nat.min_eq_left (by omega)] at e1
      have e2 := ho.add (A := sl a6 c6 (xs.take i)) e1
      dsimp only
      rw [hlen]
      exact e2.ent
  case kn =>
    rintro D ⟨p, q⟩
    refine Wr ?_
    refine Wa ?_
    dsimp only
    refine JC.know (fun w1 ho => (ho.get (A := tru (closeF [] xs = closeF (xs.take xs.length) (xs.drop xs.length))))) ?_
    intro hcl
    rw [List.take_length, List.drop_length] at hcl ⊢
    have hst : loadL b = xs := by unfold loadL; rw [← hxs]; exact hcl
    have hle : loadEnd b = (framesL (rs.take xs.length)).length := by unfold loadEnd; rw [hst, ← hrs]
    rw [hst, hle]
    refine JC.more (Γ' := .st (sl p q xs) :: .obj D (.deferred (some [])) :: .own b2 35 [.slice none 0 0] :: .own b3 3 [.int .i64 0] :: .own b4 35 [.slice p xs.length q] :: [.own b5 3 [.int .i64 ((framesL (rs.take xs.length)).length : Int)]]) (fun w1 ho => (ho.ent : Hold w F (.res (buf p q 29 xs) :: .obj D (.deferred (some [])) :: .own b2 35 [.slice none 0 0] :: .own b3 3 [.int .i64 0] :: .own b4 35 [.slice p xs.length q] :: [.own b5 3 [.int .i64 ((framesL (rs.take xs.length)).length : Int)]]) w1).pub) ?_
    refine Wb ?_
    refine JC.drawP mixed ?_
    refine JP.take 0 [.own b4 35 [.slice p xs.length q]] rfl (by kernel_rfl) rfl Vc rfl rfl ?_
    refine JP.take 1 [.own b5 3 [.int .i64 ((framesL (rs.take xs.length)).length : Int)]] rfl (by kernel_rfl) rfl Vc rfl rfl ?_
    refine JP.op 2 (by kernel_rfl) rfl rfl (Wi (Wd ⟨rfl, (by repeat (first|exact Obs.nil|refine Obs.keep ?_|refine Obs.skip (by kernel_rfl) ?_)), ?_⟩))
    refine JP.op 3 (by kernel_rfl) rfl rfl (Wi (Wd ⟨rfl, (by repeat (first|exact Obs.nil|refine Obs.keep ?_|refine Obs.skip (by kernel_rfl) ?_)), ?_⟩))
    refine JP.nil (by kernel_rfl) ?_
    repeat (first|refine Wa ?_|refine Ws ?_)
    refine ⟨D, [.own b2 35 [.slice p xs.length q], .own b3 3 [.int .i64 ((framesL (rs.take xs.length)).length : Int)], .st (sl p q xs)], rfl, .inl rfl, fun w1 ho => ho.ent, ?_⟩
    exact CT.done (p, q) rfl (fun w ho => ho.ent)
  case kr =>
    rintro D ⟨p, q⟩
    refine Wu ?_
    refine Wt ?_
    refine ⟨D, [.own b2 35 [.slice p (loadL b).length q], .own b3 3 [.int .i64 (loadEnd b : Int)], .st (sl p q (loadL b))], rfl, .inl rfl, fun w1 ho => ho.ent, ?_⟩
    exact CT.done (p, q) rfl (fun w ho => ho.ent)
end Ab
end Go.Proofs.YtdgeffphifgflaaGreat
namespace Go.Proofs.YtdgeffphifgflaaGreat
namespace Ab
open Go Go.RowKit
set_option linter.unusedVariables false
set_option linter.unusedSimpArgs false
set_option synthInstance.maxSize 4000
set_option synthInstance.maxHeartbeats 400000
attribute [local irreducible] JC JO JR JQ andThen inBlock OpV Gives retTo JM JS
theorem unfold_fold {n : Int} (h : -1099511627776 ≤ n ∧ n ≤ 1099511627776) : unfoldN (foldN n) = n := by
  unfold unfoldN foldN
  split
  · split <;> omega
  · split <;> omega
theorem strB_bytes (s : ByteArray) : strB (bytesOf s) = s := by
  cases s with
  | mk d => cases d; rfl
theorem cutT_text {s : ByteArray} {m : Nat} (h : s.size ≤ m) (hm : m ≤ 1048576) (r : List UInt8) : cutT (textL s ++ r) m = (s, r, true) := by
  have hb := bytesOf_length s
  have hN : getN (textL s ++ r) = (s.size, (numL s.size).length) := by
    unfold textL; rw [List.append_assoc]; exact getN_append (by omega) _
  have hp := numL_pos s.size
  have d1 : (textL s ++ r).drop (numL s.size).length = bytesOf s ++ r := by
    unfold textL; rw [List.append_assoc, List.drop_left' rfl]
  unfold cutT
  rw [hN]
  dsimp only
  rw [d1, if_neg (by unfold textL; rw [List.length_append, List.length_append, hb]; omega), List.take_left' hb, List.drop_left' hb, strB_bytes]
theorem keyOk_size {s : ByteArray} (h : keyOk s = true) : s.size ≤ 8 := by
  unfold keyOk at h
  simp only [Bool.and_eq_true, decide_eq_true_eq] at h
  exact h.2
theorem getOp_put {o : Op_} (h : opMay o = true) (r : List UInt8) : getOp (opPut o ++ r) = (o, r, 0) := by
  have hm := h
  unfold opMay at h
  by_cases h0 : o.kind = 0
  · rw [if_pos h0] at h
    simp only [Bool.and_eq_true, decide_eq_true_eq] at h
    obtain ⟨hk, ⟨⟨⟨hn0, hn1⟩, hn2⟩, he⟩⟩ := h
    have hs := keyOk_size hk
    have hf : -1099511627776 ≤ o.n ∧ o.n ≤ 1099511627776 := by omega
    have e0 : opPut o ++ r = numL 0 ++ (textL o.key ++ (numL (foldN o.n) ++ r)) := by
      unfold opPut; rw [if_pos h0, h0]; simp
    have hN : getN (opPut o ++ r) = (0, (numL 0).length) := by rw [e0]; exact getN_append (by omega) _
    have hd : (opPut o ++ r).drop (numL 0).length = textL o.key ++ (numL (foldN o.n) ++ r) := by rw [e0]; exact List.drop_left' rfl
    have hR : restOp 0 o.key (numL (foldN o.n) ++ r) = (o, r, true) := by
      unfold restOp
      rw [if_pos rfl, getN_append (foldN_lt hf)]
      dsimp only
      rw [unfold_fold hf, List.drop_left' rfl]
      have := numL_pos (foldN o.n)
      refine Prod.ext ?_ (Prod.ext rfl (decide_eq_true (by omega)))
      cases o
      simp only at h0 he
      subst h0 he
      rfl
    have hp := numL_pos 0
    unfold getOp
    rw [hN]
    dsimp only
    rw [hd, cutT_text hs (by decide), if_neg (by omega), if_neg (by simp)]
    dsimp only
    rw [hR, if_pos ⟨rfl, hm⟩]
  · rw [if_neg h0] at h
    split at h
    · rename_i hk3
      simp only [Bool.and_eq_true, decide_eq_true_eq] at h
      obtain ⟨hk, hn, he⟩ := h
      have hs := keyOk_size hk
      have hse := keyOk_size he
      have e0 : opPut o ++ r = numL o.kind.toNat ++ (textL o.key ++ (textL o.elem ++ r)) := by
        unfold opPut; rw [if_neg h0]; simp
      have hN : getN (opPut o ++ r) = (o.kind.toNat, (numL o.kind.toNat).length) := by rw [e0]; exact getN_append (by omega) _
      have hd : (opPut o ++ r).drop (numL o.kind.toNat).length = textL o.key ++ (textL o.elem ++ r) := by rw [e0]; exact List.drop_left' rfl
      have hR : restOp o.kind.toNat o.key (textL o.elem ++ r) = (o, r, true) := by
        unfold restOp
        rw [if_neg (by omega), cutT_text hse (by decide)]
        refine Prod.ext ?_ rfl
        have hk : ((o.kind.toNat : Nat) : Int) = o.kind := by omega
        rw [hk]
        cases o
        simp only at hn
        subst hn
        rfl
      have hp := numL_pos o.kind.toNat
      unfold getOp
      rw [hN]
      dsimp only
      rw [hd, cutT_text hs (by decide), if_neg (by omega), if_neg (by simp)]
      dsimp only
      rw [hR, if_pos ⟨rfl, hm⟩]
    · cases h
theorem getIds_ids : ∀ (ps : List ID) (r : List UInt8), getIds ps.length (idsL ps ++ r) = some (ps, r)
  | [], r => rfl
  | p :: ps, r => by
    have e0 : idsL (p :: ps) ++ r = p.1 ++ (idsL ps ++ r) := by simp [idsL]
    have hl : 32 ≤ (idsL (p :: ps) ++ r).length := by rw [e0, List.length_append, p.2]; omega
    have hd : (idsL (p :: ps) ++ r).drop 32 = idsL ps ++ r := by rw [e0]; exact List.drop_left' p.2
    show getIds (ps.length + 1) _ = _
    rw [getIds, dif_pos hl, hd, getIds_ids ps r]
    have ht : takeID (idsL (p :: ps) ++ r) hl = p := Subtype.ext (by show List.take 32 _ = _; rw [e0]; exact List.take_left' p.2)
    rw [ht]
    rfl
theorem uptoO_put {n m : Nat} (h : n ≤ m) (hm : m ≤ 1048576) (r : List UInt8) : uptoO m (numL n ++ r) = some (n, r) := by
  have := numL_pos n
  unfold uptoO
  rw [getN_append (by omega)]
  dsimp only
  rw [if_neg (by omega), List.drop_left' rfl]
theorem numO_put {n : Nat} (h : n < 18446744073709551616) (r : List UInt8) : numO (numL n ++ r) = some (n, r) := by
  have := numL_pos n
  unfold numO
  rw [getN_append h]
  dsimp only
  rw [if_neg (by omega), List.drop_left' rfl]
theorem getC_put {c : Commit} (h : may c = true) (r : List UInt8) : getC (commitPut c ++ r) = some (c, r) := by
  have hc := may_spec h
  have hnd := hc.node; have hsq := hc.seq; have hgn := hc.gen; have hpr := hc.par
  obtain ⟨X, hX⟩ : ∃ X, X = (if c.ev.node = -1 then r else opPut c.op ++ r) := ⟨_, rfl⟩
  have e0 : commitPut c ++ r = numL (foldN c.ev.node) ++ (numL c.ev.seq.toNat ++ (numL c.gen.toNat ++ (numL c.parents.length ++ (idsL c.parents ++ X)))) := by
    unfold commitPut headL
    rw [hX]
    split <;> simp
  have hf : -1099511627776 ≤ c.ev.node ∧ c.ev.node ≤ 1099511627776 := by omega
  unfold getC
  rw [e0, numO_put (foldN_lt hf), Option.bind_some]
  dsimp only
  rw [uptoO_put (by omega) (by decide), Option.bind_some]
  dsimp only
  rw [uptoO_put (by omega) (by decide), Option.bind_some]
  dsimp only
  rw [uptoO_put (by omega) (by decide), Option.bind_some]
  dsimp only
  rw [getIds_ids, Option.bind_some]
  dsimp only
  rw [unfold_fold hf]
  have hsn : ((c.ev.seq.toNat : Nat) : Int) = c.ev.seq := by omega
  have hgg : ((c.gen.toNat : Nat) : Int) = c.gen := by omega
  have hev : (⟨c.ev.node, c.ev.seq⟩ : Ev_) = c.ev := rfl
  unfold opC
  rw [hsn, hgg]
  by_cases hn : c.ev.node = -1
  · rw [if_pos hn, hX, if_pos hn]
    have hop : c.op = op0 := by
      have := h
      unfold may at this
      split at this
      · cases this
      · simp only [Bool.and_eq_true, decide_eq_true_eq] at this
        exact this.2
    have hcc : (⟨⟨c.ev.node, c.ev.seq⟩, c.gen, c.parents, op0⟩ : Commit) = c := by
      rw [← hop, hev]
    rw [hcc]
    unfold finC
    rw [if_pos h]
  · rw [if_neg hn, hX, if_neg hn, getOp_put (hc.op hn)]
    dsimp only
    rw [if_pos rfl]
    have hcc : (⟨⟨c.ev.node, c.ev.seq⟩, c.gen, c.parents, c.op⟩ : Commit) = c := by
      rw [hev]
    rw [hcc]
    unfold finC
    rw [if_pos h]
end Ab
end Go.Proofs.YtdgeffphifgflaaGreat
namespace Go.Proofs.YtdgeffphifgflaaGreat
namespace Ab
open Go Go.RowKit
set_option linter.unusedVariables false
set_option linter.unusedSimpArgs false
set_option synthInstance.maxSize 4000
set_option synthInstance.maxHeartbeats 400000
attribute [local irreducible] JC JO JR JQ andThen inBlock OpV Gives retTo JM JS
attribute [local irreducible] hashC
theorem loadEnd_le (b : List UInt8) : loadEnd b ≤ b.length := by
  have h1 := framesL_take_le (readL b) (loadL b).length
  have h2 : (framesL (readL b)).length ≤ b.length := (readF_pre _ _ : framesL (readL b) <+: b).length_le
  unfold loadEnd; omega
theorem open_store (w : World) (F : Nat → Prop) (a : Option Addr) (c : Nat) (b : List UInt8) (h : (sl a c b).holds F w) (hb : b.length ≤ 1048576) :
    GivesBuf Tryz.prog 20 [.slice a b.length c] w F 5 (b.take (loadEnd b)) := by
  have hle := loadEnd_le b
  refine gives_of Tryz.func20 rfl Tryz.ntmps20 rfl rfl [.st (sl a c b)] (.start1 h) ?_
  repeat (first|refine Wa ?_|refine Wb ?_|refine Wc ?_|refine Wd ?_|refine We rfl ?_|refine Wf (by first|exact Va|exact Vb) rfl ?_)
  refine JR.callSlT rfl (fun w1 hw => load_store w1 _ a c b hw.get hb) ?_
  intro a3 c3
  repeat (first|refine Wa ?_|refine Wb ?_|refine Wc ?_|refine Wd ?_|refine We rfl ?_|refine Wf (by first|exact Va|exact Vb|exact Vq) rfl ?_)
  refine JR.sliceTo (L := b) (k := loadEnd b) rfl rfl hle ?_
  intro a4 c4
  repeat (refine We rfl ?_)
  refine JR.callBuf rfl (fun w1 hw => clone_bytes w1 _ a4 c4 (b.take (loadEnd b)) (hw.get (A := sl a4 c4 (b.take (loadEnd b)))) (by rw [List.length_take]; omega)) ?_
  intro a5 c5
  repeat (first|refine Wa ?_|refine Wd ?_|refine We rfl ?_|refine Wf (by exact Vb) rfl ?_|refine Ws ?_)
  exact CT.done (a5, c5) rfl (fun w ho => ho.ent)
def lastF (l : List Commit) (node : Int) : Int := l.foldl (fun n c => if c.ev.node = node then max n c.ev.seq else n) 0
theorem lastF_next (l : List Commit) (node : Int) (i : Nat) (h : i < l.length) : lastF (l.take (i + 1)) node = if l[i].ev.node = node then max (lastF (l.take i) node) l[i].ev.seq else lastF (l.take i) node := by
  unfold lastF
  rw [List.take_succ_eq_append_getElem h, List.foldl_append]
  rfl
set_option maxHeartbeats 1000000 in
theorem last_store (w : World) (F : Nat → Prop) (a : Option Addr) (c : Nat) (l : List Commit) (node : Int) (h : (sl a c l).holds F w) :
    GivesV Tryz.prog 22 [.slice a l.length c, .int .i64 node] w F (.int .i64 (lastF l node)) := by
  have hl : l.length < 9223372036854775807 := by have := h.2.2.1; simp only [lim] at this; omega
  refine gives_of Tryz.func22 rfl Tryz.ntmps22 rfl rfl [.st (sl a c l)] (.start1 h) ?_
  repeat (first|refine Wa ?_|refine Wb ?_|refine Wc ?_|refine Wd ?_|refine We rfl ?_|refine Wf (by first|exact Va|exact Vb|exact Vf) rfl ?_|refine Wn ?_)
  refine JC.reslot 5 (.int .i64 (lastF (l.take 0) node)) rfl ?_
  refine JC.loop1 (fun (i : Nat) => [(1, .int .i64 node), (5, .int .i64 (lastF (l.take i) node)), (8, .slice a l.length c), (9, .int .i64 (l.length : Int)), (10, .int .i64 (i : Int))])
    (fun i => [.st (sl a c l)]) (fun i => i ≤ l.length) (fun i => l.length - i) 0 (Nat.zero_le _) inferInstance ?_
  intro i hi
  repeat (first|refine Wa ?_|refine Wb ?_|refine Wc ?_|refine Wd ?_|refine We rfl ?_|refine Wf (by exact Vg) rfl ?_)
  refine JC.test (fun h1 => ?_) (fun h1 => ?_)
  · have hlt : i < l.length := by omega
    have hn := lastF_next l node i hlt
    repeat (first|refine Wa ?_|refine Wb ?_|refine Wc ?_|refine We rfl ?_|refine Wl ?_|refine Wn ?_)
    refine JR.indexCommit (k := i) rfl hlt ?_
    intro b5 o5 p5 q5
    repeat (first|refine Wa ?_|refine Wb ?_|refine Wc ?_|refine Wd ?_|refine We rfl ?_|refine Wf (by first|exact Va|exact Vc|exact Vd|exact Vl) rfl ?_|(refine Wg rfl ?_; intro _)|refine Wi ?_)
    refine JC.test (fun h2 => ?_) (fun h2 => ?_)
    · rw [if_pos h2] at hn
      repeat (first|refine Wc ?_|refine We rfl ?_|refine Wf (by first|exact Va|exact Vc|exact Vd) rfl ?_)
      refine Wf OpV.max rfl ?_
      rw [← hn]
      repeat (first|refine Wa ?_|refine Wc ?_|refine Wd ?_|refine We rfl ?_|refine Wf (by first|exact Va|exact Vb|exact Vk (by omega)) rfl ?_|refine Wr ?_)
      exact ⟨i + 1, by omega, by omega, inferInstance⟩
    · rw [if_neg h2] at hn
      repeat (first|refine Wa ?_|refine Wc ?_|refine Wd ?_|refine We rfl ?_|refine Wf (by first|exact Va|exact Vk (by omega)) rfl ?_|refine Wl ?_|refine Wr ?_)
      exact ⟨i + 1, by omega, by omega, by rw [hn]; infer_instance⟩
  · obtain rfl : i = l.length := by omega
    rw [List.take_length]
    repeat (first|refine Wa ?_|refine Wb ?_|refine Wc ?_|refine Wd ?_|refine We rfl ?_|refine Wf (by first|exact Va|exact Vb) rfl ?_|refine Wm ?_|refine Wo ?_|refine Wp ?_|refine Ws ?_)
    exact CT.done () rfl (fun w ho => ho.ent)
def diskL (l : List Commit) : List UInt8 := framesL (l.map commitPut)
theorem readL_frames : ∀ (xs : List (List UInt8)), (∀ x ∈ xs, x.length ≤ 4000) → ∀ r, readL (framesL xs ++ r) = xs ++ readL r
  | [], _, r => rfl
  | x :: xs, h, r => by
    have h1 : readStep (framesL (x :: xs) ++ r) = some (x, framesL xs ++ r) := by
      rw [framesL_cons, List.append_assoc]; exact readStep_frame (h x (by simp)) _
    rw [readL_some h1, readL_frames xs (fun y hy => h y (by simp [hy])) r]
    rfl
theorem readL_nil : readL [] = [] := rfl
theorem readStep_partial {x t : List UInt8} (hx : x.length ≤ 4000) (hp : t <+: frameL x) (hl : t.length < (frameL x).length) : readStep t = none := by
  cases h : readStep t with
  | none => rfl
  | some q =>
    obtain ⟨y, r⟩ := q
    obtain ⟨hy, ht⟩ := readStep_some h
    obtain ⟨u, hu⟩ := hp
    have h1 := readStep_frame hx []
    rw [List.append_nil, ← hu, ht, List.append_assoc, readStep_frame hy] at h1
    injection h1 with h1
    injection h1 with h2 h3
    subst h2
    have h4 := congrArg List.length h3
    have h5 := congrArg List.length ht
    rw [List.length_append] at h4 h5
    simp at h4
    omega
theorem decL_map : ∀ (l : List Commit), (∀ c ∈ l, may c = true) → ∀ m, decL (l.map commitPut ++ m) = l ++ decL m
  | [], _, m => rfl
  | c :: l, h, m => by
    have h1 := getC_put (h c (by simp)) []
    rw [List.append_nil] at h1
    show decL (commitPut c :: (l.map commitPut ++ m)) = _
    rcases decL_cons (commitPut c) (l.map commitPut ++ m) with ⟨d, hd, he⟩ | ⟨hn, _⟩
    · rw [h1] at hd
      cases hd
      rw [he, decL_map l (fun d hd => h d (by simp [hd])) m]
      rfl
    · exact (hn ⟨c, h1⟩).elim
theorem closeF_all : ∀ (l acc : List Commit), (∀ j, j < l.length → Closed (acc ++ l.take (j + 1))) → ∀ m, closeF acc (l ++ m) = closeF (acc ++ l) m
  | [], acc, _, m => by simp
  | c :: l, acc, h, m => by
    have h0 := h 0 (by simp)
    show closeF acc (c :: (l ++ m)) = _
    rw [closeF, if_pos (by simpa using h0), closeF_all l (acc ++ [c]) (fun j hj => by simpa using h (j + 1) (by simpa using hj)) m]
    simp
theorem le_fold (L : List Commit) : ∀ (ps : List ID) (g : Int), g ≤ ps.foldl (fun g p => max g (genAt L p)) g ∧ ∀ p ∈ ps, genAt L p ≤ ps.foldl (fun g p => max g (genAt L p)) g
  | [], g => ⟨Int.le_refl _, by simp⟩
  | q :: ps, g => by
    obtain ⟨h1, h2⟩ := le_fold L ps (max g (genAt L q))
    refine ⟨by simp only [List.foldl_cons]; omega, fun p hp => ?_⟩
    simp only [List.foldl_cons]
    rcases List.mem_cons.1 hp with rfl | hp
    · omega
    · exact h2 p hp
theorem le_maxGen {L : List Commit} {p : ID} {ps : List ID} (h : p ∈ ps) : genAt L p ≤ maxGen L ps := (le_fold L ps 0).2 p h
theorem Closed.take {s : List Commit} (h : Closed s) (hs : s.Pairwise leS) (k : Nat) : Closed (s.take k) := by
  refine h.sub (fun c hc => List.mem_of_mem_take hc) (nodup_sub h.nodup (List.take_sublist k s)) fun c hc p hp => ?_
  obtain ⟨i, hi, rfl⟩ := List.getElem_of_mem hc
  rw [List.length_take] at hi
  rw [List.getElem_take] at hp
  have hm : s[i] ∈ s := List.getElem_mem _
  have hf := h.fine s[i] hm
  obtain ⟨d, hd, rfl⟩ := mem_cids.1 (hf.here p hp)
  obtain ⟨j, hj, rfl⟩ := List.getElem_of_mem hd
  have hg : genAt s (idC s[j]) ≤ maxGen s s[i].parents := le_maxGen hp
  rw [genAt_of h.nodup hd] at hg
  have hg2 := hf.gen
  have hji : j < i := by
    rcases Nat.lt_trichotomy j i with h1 | h1 | h1
    · exact h1
    · subst h1; omega
    · have := List.pairwise_iff_getElem.1 hs i j (by omega) hj h1
      rcases this with h2 | ⟨h2, _⟩ <;> omega
  exact mem_cids.2 ⟨s[j], List.mem_of_getElem? (i := j) (by rw [List.getElem?_take_of_lt (by omega), List.getElem?_eq_getElem hj]), rfl⟩
theorem small_puts {l : List Commit} (h : ∀ c ∈ l, may c = true) : ∀ x ∈ l.map commitPut, x.length ≤ 4000 := by
  intro x hx
  obtain ⟨c, hc, rfl⟩ := List.mem_map.1 hx
  have := commitPut_length (h c hc)
  omega
theorem loadL_disk {l : List Commit} (h : ∀ c ∈ l, may c = true) {r : List UInt8} (hr : readL r = []) : readL (diskL l ++ r) = l.map commitPut ∧ loadL (diskL l ++ r) = closeF [] l := by
  have h1 : readL (diskL l ++ r) = l.map commitPut := by unfold diskL; rw [readL_frames _ (small_puts h), hr, List.append_nil]
  refine ⟨h1, ?_⟩
  unfold loadL
  rw [h1]
  have := decL_map l h []
  rw [List.append_nil] at this
  rw [this]
  have e : decL [] = [] := rfl
  rw [e, List.append_nil]
theorem loadL_closed {l : List Commit} (h : ∀ c ∈ l, may c = true) (hc : ∀ j, j < l.length → Closed (l.take (j + 1))) {r : List UInt8} (hr : readL r = []) : loadL (diskL l ++ r) = l ∧ loadEnd (diskL l ++ r) = (diskL l).length := by
  obtain ⟨h1, h2⟩ := loadL_disk h hr
  have h3 : closeF [] l = l := by
    have := closeF_all l [] (fun j hj => by simpa using hc j hj) []
    simpa [closeF] using this
  rw [h3] at h2
  refine ⟨h2, ?_⟩
  unfold loadEnd
  rw [h1, h2, ← List.map_take, List.take_length]
  rfl
theorem closed_l0 : Closed [l0] := closed_two.sub (by simp) (by simp [cids]) (by simp [l0])
theorem mays_l0 : ∀ c ∈ [l0], may c = true := fun c hc => closed_l0.may c hc
theorem disk_l0 : diskL [l0] = frameL (commitPut l0) := by simp [diskL, framesL]
theorem put_l0 : storeT [] 100 l0 = (diskL [l0], 0) := by
  have hp : putCommit l0 = (commitPut l0, 0) := by unfold putCommit; rw [mays_l0 l0 (by simp)]; rfl
  have hl : (commitPut l0).length ≤ 60 := by decide +kernel
  have hn := numL_length (commitPut l0).length
  unfold storeT
  rw [hp]
  dsimp only
  rw [if_pos rfl]
  unfold writeT
  rw [if_neg (by omega), if_neg (by rw [frameL_length]; simp; omega), disk_l0]
  rfl
theorem load_l0 : loadL (diskL [l0]) = [l0] ∧ loadEnd (diskL [l0]) = (diskL [l0]).length := by
  have := loadL_closed mays_l0 (fun j hj => by
    have : j = 0 := by simpa using hj
    subst this
    exact closed_l0) (r := []) readL_nil
  rwa [List.append_nil] at this
theorem load_nil : loadL [] = [] ∧ loadEnd [] = 0 := ⟨rfl, rfl⟩
theorem load_five : loadEnd ((diskL [l0]).take 5) = 0 := by
  have hl : (commitPut l0).length ≤ 60 := by decide +kernel
  have h0 : 5 ≤ (commitPut l0).length := by decide +kernel
  have h1 : readL ((diskL [l0]).take 5) = [] := by
    refine readL_none (readStep_partial (x := commitPut l0) (by omega) ?_ ?_)
    · rw [disk_l0]; exact List.take_prefix 5 _
    · rw [disk_l0, List.length_take, frameL_length]; omega
  unfold loadEnd loadL
  rw [h1]
  rfl
set_option maxHeartbeats 2000000 in
theorem awake_store (w : World) (F : Nat → Prop) : GivesV Tryz.prog 13 [] w F (.bool true) := by
  have htx : texts l0 := by unfold texts; constructor <;> decide
  have hdl : 5 ≤ (diskL [l0]).length ∧ (diskL [l0]).length ≤ 1000 := by
    have hl : (commitPut l0).length ≤ 60 := by decide +kernel
    have h0 : 5 ≤ (commitPut l0).length := by decide +kernel
    have hn := numL_length (commitPut l0).length
    rw [disk_l0, frameL_length]; omega
  obtain ⟨hld, hle⟩ := load_l0
  have h5 := load_five
  have hp := put_l0
  generalize diskL [l0] = D at hdl hld hle h5 hp
  refine gives_of Tryz.func13 rfl Tryz.ntmps13 rfl rfl [] (.start w F) ?_
  repeat (first|refine Wa ?_|refine Wb ?_|refine Wc ?_|refine Wd ?_|refine We rfl ?_|refine Wf (by exact Vb) rfl ?_)
  refine JR.callV rfl (fun w1 hw => some_law w1 _) ?_
  repeat (refine We rfl ?_)
  refine JR.call1 (B := fun y : Option Addr × Nat => .res (buf y.1 y.2 5 (storeT [] 100 l0).1)) rfl (fun w1 hw => put_store w1 _ none none 0 0 [] 100 l0 sl_nil sl_nil htx (by decide)) ?_
  rintro ⟨a1, c1⟩
  rw [hp]
  dsimp only
  refine JO.more (fun w ho => ho.pub) ?_
  repeat (first|refine Wa ?_|refine Wb ?_|refine Wc ?_|refine Wd ?_|refine We rfl ?_|refine Wf (by first|exact Va|exact Vb|exact Vq) rfl ?_)
  refine JR.callSlT rfl (fun w1 hw => load_store w1 _ a1 c1 D (hw.get (A := sl a1 c1 D)) (by omega)) ?_
  rw [hld, hle]
  intro a2 c2
  repeat (first|refine Wa ?_|refine Wb ?_|refine Wc ?_|refine Wd ?_|refine We rfl ?_|refine Wf (by first|exact Va|exact Vb|exact Vq) rfl ?_)
  refine JR.callSlT rfl (fun w1 hw => load_store w1 _ none 0 [] sl_nil (by decide)) ?_
  rw [load_nil.1, load_nil.2]
  intro a3 c3
  repeat (first|refine Wa ?_|refine Wb ?_|refine Wc ?_|refine Wd ?_|refine We rfl ?_|refine Wf (by first|exact Va|exact Vb|exact Vf|exact Vi|exact Vl|exact Vq) rfl ?_)
  refine JO.test 34 (fun _ => ?_) (fun h => absurd rfl h)
  repeat (first|refine We rfl ?_|refine Wf (by first|exact Va|exact Vf|exact Vi|exact Vl) rfl ?_)
  refine JR.callV rfl (fun w1 hw => last_store w1 _ a2 c2 [l0] 0 (hw.get (A := sl a2 c2 [l0]))) ?_
  rw [show lastF [l0] 0 = 1 from by decide]
  repeat (first|refine We rfl ?_|refine Wf (by first|exact Va|exact Vi|exact Vl) rfl ?_)
  refine JR.callV rfl (fun w1 hw => last_store w1 _ a2 c2 [l0] 1 (hw.get (A := sl a2 c2 [l0]))) ?_
  rw [show lastF [l0] 1 = 0 from by decide]
  repeat (first|refine We rfl ?_|refine Wf (by first|exact Va|exact Vi|exact Vl) rfl ?_)
  refine JR.sliceTo (L := D) (k := 5) rfl rfl hdl.1 ?_
  intro a5 c5
  repeat (refine We rfl ?_)
  refine JR.callBuf rfl (fun w1 hw => open_store w1 _ a5 c5 (D.take 5) (hw.get (A := sl a5 c5 (D.take 5))) (by rw [List.length_take]; omega)) ?_
  rw [h5, List.take_zero]
  intro a6 c6
  repeat (first|refine Wa ?_|refine Wd ?_|refine We rfl ?_|refine Wf (by first|exact Vb|exact Vf|exact Vi|exact Vl) rfl ?_|refine Ws ?_)
  exact CT.done () rfl (fun w ho => ho.ent)
end Ab
end Go.Proofs.YtdgeffphifgflaaGreat
namespace Go.Proofs.YtdgeffphifgflaaGreat
namespace Ab
open Go Go.RowKit
set_option linter.unusedVariables false
set_option linter.unusedSimpArgs false
set_option synthInstance.maxSize 4000
set_option synthInstance.maxHeartbeats 400000
attribute [local irreducible] JC JO JR JQ andThen inBlock OpV Gives retTo JM JS
theorem ref_at {b : List UInt8} {k : Nat} (hk : k < b.length) (hg : ∀ c ∈ b.take k, 128 ≤ c.toNat) (hs : b[k].toNat < 128) :
    getN b = if numL (numV (b.take (k + 1)) % 18446744073709551616) = b.take (k + 1) then (numV (b.take (k + 1)) % 18446744073709551616, k + 1) else (0, 0) := by
  have hlen : (b.take (k + 1)).length = k + 1 := by rw [List.length_take]; omega
  split
  · rename_i h
    rw [getN_of (b := b) (Nat.mod_lt _ (by decide)) ⟨b.drop (k + 1), by rw [h]; exact List.take_append_drop _ _⟩, h, hlen]
  · rename_i h
    refine getN_none ?_
    rintro ⟨n, hn, t, ht⟩
    obtain ⟨hv, i, l, e1, hd⟩ := numL_digits hn
    have hb : b = b.take k ++ b[k] :: b.drop (k + 1) := by
      rw [← List.drop_eq_getElem_cons hk, List.take_append_drop]
    have h1 : i ++ l :: t = b.take k ++ b[k] :: b.drop (k + 1) := by
      rw [← hb, ← ht, e1]; simp
    obtain ⟨h2, h3, _⟩ := digits_same hd.great hg hd.small hs h1
    apply h
    have h4 : numL n = b.take (k + 1) := by rw [e1, h2, h3]; exact (List.take_succ_eq_append_getElem hk).symm
    rw [← h4, hv, Nat.mod_eq_of_lt hn]
theorem numV_mod {b : List UInt8} {i : Nat} (h : i < b.length) : numV (b.take (i + 1)) % 18446744073709551616 = (numV (b.take i) % 18446744073709551616 + (128 ^ i % 18446744073709551616 * (b[i].toNat % 128)) % 18446744073709551616) % 18446744073709551616 := by
  rw [numV_next h, ← pow7, Nat.mul_comm (b[i].toNat % 128)]
  conv => rhs; rw [Nat.mod_mul_mod]
  rw [← Nat.add_mod]
theorem mod_u8 (x : UInt8) : ((x.toNat : Int).tmod 128) = ((x.toNat % 128 : Nat) : Int) := rfl
set_option maxHeartbeats 4000000 in
theorem get_ref3 (w : World) (F : Nat → Prop) (a : Option Addr) (c : Nat) (b : List UInt8) (h : (sl a c b).holds F w) :
    GivesV Tryz.prog 124 [.slice a b.length c] w F (.tuple ⟨[.int .u64 ((getN b).1 : Int), .int .i64 ((getN b).2 : Int)]⟩) := by
  have hL : b.length < 9223372036854775807 := by have := h.2.2.1; simp only [lim] at this; omega
  refine gives_of Tryz.func124 rfl Tryz.ntmps124 rfl rfl [.st (sl a c b)] (.start1 h) ?_
  repeat (first|refine Wa ?_|refine Wb ?_|refine Wc ?_|refine Wd ?_|refine We rfl ?_|refine Wf (by exact Vb) rfl ?_|refine Wn ?_)
  refine JC.reslot 4 (.int .u64 ((numV (b.take 0) % 18446744073709551616 : Nat) : Int)) (by simp [numV]) ?_
  refine JC.reslot 5 (.int .u64 ((128 ^ 0 % 18446744073709551616 : Nat) : Int)) (by simp) ?_
  refine JC.loop1 (fun (i : Nat) => [(0, .slice a b.length c), (4, .int .u64 ((numV (b.take i) % 18446744073709551616 : Nat) : Int)), (5, .int .u64 ((128 ^ i % 18446744073709551616 : Nat) : Int)), (6, .int .i64 (i : Int))]) (fun _ => [.st (sl a c b)])
    (fun i => i ≤ b.length ∧ i ≤ 10 ∧ ∀ x ∈ b.take i, 128 ≤ x.toNat) (fun i => b.length - i) 0 ⟨Nat.zero_le _, by decide, by simp⟩ inferInstance ?_
  rintro i ⟨hi, hi10, hg⟩
  repeat (first|refine Wb ?_|refine Wc ?_|refine We rfl ?_|refine Wf (by first|exact Va|exact Vf|exact Vg) rfl ?_)
  by_cases hlt : i < b.length
  case neg =>
    have e1 : getN b = (0, 0) := getN_great (fun x hx => hg x (by
      have : i = b.length := by omega
      rw [this, List.take_length]
      exact List.mem_of_mem_take hx))
    rw [e1]
    refine JO.reslot 11 (.bool false) (by congr 1; exact decide_eq_false (by omega)) ?_
    repeat (first|refine Wa ?_|refine Wb ?_|refine Wc ?_|refine Wd ?_|refine We rfl ?_|refine Wf (by first|exact Vb|exact Vj) rfl ?_|refine Wk ?_|refine Wm ?_|refine Wo ?_|refine Wp ?_|refine Ws ?_|refine Wv rfl rfl ?_)
    exact CT.done () rfl (fun w ho => ho.ent)
  refine JO.reslot 11 (.bool true) (by congr 1; exact decide_eq_true (by omega)) ?_
  repeat (first|refine Wa ?_|refine Wd ?_|refine We rfl ?_|refine Wf (by first|exact Va|exact Vg|exact Vi) rfl ?_)
  by_cases h10 : i < 10
  case neg =>
    have e1 : getN b = (0, 0) := getN_great (fun x hx => hg x (by
      have : i = 10 := by omega
      rw [this]; exact hx))
    rw [e1]
    refine JC.reslot 14 (.bool false) (by congr 1; exact decide_eq_false (by omega)) ?_
    repeat (first|refine Wa ?_|refine Wb ?_|refine Wc ?_|refine Wd ?_|refine We rfl ?_|refine Wf (by exact Vb) rfl ?_|refine Wk ?_|refine Wm ?_|refine Wo ?_|refine Wp ?_|refine Ws ?_)
    exact CT.done () rfl (fun w ho => ho.ent)
  refine JC.reslot 14 (.bool true) (by congr 1; exact decide_eq_true (by omega)) ?_
  have hnv := numV_mod hlt
  have hat := ref_at hlt hg
  have htk : ∀ x ∈ b.take (i + 1), x ∈ b.take i ∨ x = b[i] := fun x hx => by
    rw [List.take_succ_eq_append_getElem hlt, List.mem_append, List.mem_singleton] at hx
    exact hx
  have hx256 := b[i].toNat_lt
  repeat (first|refine Wa ?_|refine Wb ?_|refine Wc ?_|refine We rfl ?_|refine Wf (by exact Va) rfl ?_|refine Wj ?_|refine Wl ?_|refine Wn ?_)
  refine JR.indexByte (k := i) rfl hlt ?_
  intro b5 o5
  generalize hbi : b[i] = bi at hnv hat htk hx256 ⊢
  have hpw : 128 ^ i % 18446744073709551616 * 128 % 18446744073709551616 = 128 ^ (i + 1) % 18446744073709551616 := by rw [Nat.mod_mul_mod, Nat.pow_succ]
  generalize numV (b.take i) % 18446744073709551616 = N at hnv ⊢
  generalize 128 ^ i % 18446744073709551616 = P at hnv hpw ⊢
  generalize hP2 : 128 ^ (i + 1) % 18446744073709551616 = P2 at hpw
  generalize hN2 : numV (b.take (i + 1)) % 18446744073709551616 = N2 at hnv hat
  repeat (first|refine We rfl ?_|refine Wf (by exact Vc) rfl ?_)
  refine Wf (OpV.rem (by decide)) rfl ?_
  refine JO.reslot 23 (.int .u8 ((bi.toNat % 128 : Nat) : Int)) (by rw [mod_u8]) ?_
  repeat (refine We rfl ?_)
  refine Wf OpV.conv rfl ?_
  refine JO.reslot 24 (.int .u64 ((bi.toNat % 128 : Nat) : Int)) (by rw [wrap64, Nat.mod_eq_of_lt (by omega)]) ?_
  repeat (refine We rfl ?_)
  refine Wf OpV.mulw rfl ?_
  refine JO.reslot 25 (.int .u64 ((P * (bi.toNat % 128) % 18446744073709551616 : Nat) : Int)) (by rw [← Int.natCast_mul, wrap64]) ?_
  repeat (refine We rfl ?_)
  refine Wf OpV.addw rfl ?_
  refine JO.reslot 26 (.int .u64 (N2 : Int)) (by rw [← Int.natCast_add, wrap64, hnv]) ?_
  repeat (first|refine Wa ?_|refine Wb ?_|refine Wc ?_|refine Wd ?_|refine We rfl ?_|refine Wf (by first|exact Va|exact Vb) rfl ?_)
  refine Wf OpV.mulw rfl ?_
  refine JO.reslot 28 (.int .u64 (P2 : Int)) (by rw [show (128 : Int) = ((128 : Nat) : Int) from rfl, ← Int.natCast_mul, wrap64, hpw]) ?_
  repeat (first|refine Wa ?_|refine Wb ?_|refine Wc ?_|refine Wd ?_|refine We rfl ?_|refine Wf (by first|exact Va|exact Vb) rfl ?_)
  refine JR.indexByte (k := i) rfl hlt ?_
  intro b6 o6
  rw [hbi]
  refine We rfl ?_
  refine Wf Vc rfl ?_
  refine We rfl ?_
  refine Wf Vg rfl ?_
  by_cases hs : bi.toNat < 128
  · refine JO.reslot 33 (.bool true) (congrArg Value.bool (decide_eq_true (by omega))) ?_
    refine Wd ?_
    refine Wa ?_
    refine Wj ?_
    have hat := hat hs
    have hN : N2 < 18446744073709551616 := by rw [← hN2]; exact Nat.mod_lt _ (by decide)
    have htl : (b.take (i + 1)).length = i + 1 := by rw [List.length_take]; omega
    clear hpw hnv hP2 hN2 hg htk
    repeat (refine Wb ?_)
    refine JC.more (Γ' := [.st (sl a c (b.take (i + 1))), .st (sl a c b)]) (fun w1 ho => ?_) ?_
    · exact (ho.add (A := sl a c (b.take (i + 1))) (sl_take (k := i + 1) (c' := c) (ho.get (A := sl a c b)) hlt ⟨by have h9 := (ho.get (A := sl a c b)).1; clear hat hN; omega, Nat.le_refl _⟩)).ent
    refine JC.drawP mixed ?_
    refine JP.pure 0 rfl (by kernel_rfl) rfl (fun _ => Va) rfl rfl ?_
    refine JP.pure 3 rfl (by kernel_rfl) rfl (fun _ => Va) rfl rfl ?_
    refine JP.pure 4 rfl (by kernel_rfl) rfl (fun _ => Va) rfl rfl ?_
    refine JP.pure 5 rfl (by kernel_rfl) rfl (fun _ => Vt (by omega)) rfl rfl ?_
    refine JP.reslot 39 (.int .i64 ((i + 1 : Nat) : Int)) rfl ?_
    refine JP.take 6 [.st (sl a c b)] rfl (by kernel_rfl) rfl (OpV.sliceToV (k := i + 1) (fun w1 ho => by have := (Hold.get (A := sl a c b) ho).1; omega)) rfl rfl ?_
    refine JP.reslot 40 (.slice a (b.take (i + 1)).length c) (by rw [htl]) ?_
    refine JP.take 7 [.st (sl a c (b.take (i + 1)))] rfl (by kernel_rfl) rfl (OpV.bytesStr (L := b.take (i + 1))) rfl rfl ?_
    refine JP.op 1 (by kernel_rfl) rfl rfl (JR.callBuf rfl (fun w1 hw => num_ref N2 hN w1 _) fun a5 c5 => Wd ⟨rfl, (by repeat (first|exact Obs.nil|refine Obs.keep ?_|refine Obs.skip (by kernel_rfl) ?_)), ?_⟩)
    refine JP.more (fun w1 ho => ho.pub) ?_
    refine JP.take 2 [.st (sl a5 c5 (numL N2))] rfl (by kernel_rfl) rfl (OpV.bytesStr (L := numL N2)) rfl rfl ?_
    refine JP.pure 8 rfl (by kernel_rfl) rfl (fun _ => VB) rfl rfl ?_
    refine JP.nil (by kernel_rfl) ?_
    refine Wa ?_
    have hss : ∀ x y : List UInt8, strB x = strB y ↔ x = y := fun _ _ => strB_inj
    by_cases hsame : numL N2 = b.take (i + 1)
    · rw [if_pos hsame] at hat
      rw [hat]
      refine JC.reslot 42 (.bool true) (congrArg Value.bool (decide_eq_true ((hss _ _).2 hsame))) ?_
      repeat (first|refine Wa ?_|refine Wb ?_|refine Wc ?_|refine Wd ?_|refine We rfl ?_|refine Wf (by first|exact Va|exact Vb|exact Vk (by omega)) rfl ?_|refine Wj ?_|refine Ws ?_|refine Wt ?_|refine Wu ?_)
      exact CT.done () rfl (fun w ho => ho.ent)
    · rw [if_neg hsame] at hat
      rw [hat]
      refine JC.reslot 42 (.bool false) (congrArg Value.bool (decide_eq_false (fun h => hsame ((hss _ _).1 h)))) ?_
      repeat (first|refine Wa ?_|refine Wb ?_|refine Wc ?_|refine Wd ?_|refine We rfl ?_|refine Wf (by exact Vb) rfl ?_|refine Wk ?_|refine Wl ?_|refine Ws ?_|refine Wt ?_|refine Wu ?_)
      exact CT.done () rfl (fun w ho => ho.ent)
  · refine JO.reslot 33 (.bool false) (congrArg Value.bool (decide_eq_false (by omega))) ?_
    repeat (first|refine Wa ?_|refine Wc ?_|refine Wd ?_|refine We rfl ?_|refine Wf (by first|exact Va|exact Vb|exact Vk (by omega)) rfl ?_|refine Wk ?_|refine Wl ?_|refine Wr ?_)
    exact ⟨i + 1, ⟨by omega, by omega, fun x hx => by
      rcases htk x hx with hx | rfl
      · exact hg x hx
      · omega⟩, by omega, by rw [hN2, hP2]; infer_instance⟩
theorem unfold_ref (w : World) (F : Nat → Prop) (m : Nat) (h : m < 18446744073709551616) : GivesV Tryz.prog 125 [.int .u64 (m : Int)] w F (.int .i64 (unfoldN m)) := by
  have e1 : (m : Int).tmod 2 = ((m % 2 : Nat) : Int) := by rw [Int.tmod_eq_emod_of_nonneg (by omega)]; rfl
  have e2 : (m : Int).tdiv 2 = ((m / 2 : Nat) : Int) := by rw [Int.tdiv_eq_ediv_of_nonneg (by omega)]; rfl
  refine gives_of Tryz.func125 rfl Tryz.ntmps125 rfl rfl [] (.start w F) ?_
  repeat (first|refine Wa ?_|refine Wb ?_|refine Wc ?_|refine Wd ?_|refine We rfl ?_|refine Wf (by first|exact Va|exact Vb) rfl ?_)
  refine Wf (OpV.rem (by decide)) rfl ?_
  refine JO.reslot 4 (.int .u64 ((m % 2 : Nat) : Int)) (by rw [e1]) ?_
  refine We rfl ?_
  refine Wf Vl rfl ?_
  refine Wd ?_
  refine Wa ?_
  refine JC.test (fun hs => ?_) (fun hs => ?_)
  · repeat (first|refine Wb ?_|refine Wc ?_|refine We rfl ?_|refine Wf (by exact Va) rfl ?_)
    refine Wf (OpV.quo (by decide)) rfl ?_
    refine JO.reslot 7 (.int .u64 ((m / 2 : Nat) : Int)) (by rw [e2, wrap64, Nat.mod_eq_of_lt (by omega)]) ?_
    refine We rfl ?_
    refine Wf OpV.conv rfl ?_
    refine JO.reslot 8 (.int .i64 (unfoldN m)) (by rw [wrap_in (by omega), unfoldN, if_pos (by omega)]) ?_
    repeat (first|refine Wa ?_|refine Wd ?_|refine We rfl ?_|refine Wf (by exact Vb) rfl ?_|refine Ws ?_|refine Wt ?_)
    exact CT.done () rfl (fun w ho => ho.ent)
  · repeat (first|refine Wa ?_|refine Wb ?_|refine Wc ?_|refine We rfl ?_|refine Wf (by exact Va) rfl ?_|refine Wl ?_)
    refine Wf (OpV.quo (by decide)) rfl ?_
    refine JO.reslot 10 (.int .u64 ((m / 2 : Nat) : Int)) (by rw [e2, wrap64, Nat.mod_eq_of_lt (by omega)]) ?_
    refine We rfl ?_
    refine Wf OpV.conv rfl ?_
    refine JO.reslot 11 (.int .i64 ((m / 2 : Nat) : Int)) (by rw [wrap_in (by omega)]) ?_
    refine We rfl ?_
    refine Wf (Vv (by omega)) rfl ?_
    refine JO.reslot 12 (.int .i64 (unfoldN m)) (by rw [unfoldN, if_neg (by omega)]) ?_
    repeat (first|refine Wa ?_|refine Wd ?_|refine We rfl ?_|refine Wf (by exact Vb) rfl ?_|refine Ws ?_)
    exact CT.done () rfl (fun w ho => ho.ent)
set_option maxHeartbeats 4000000 in
theorem cut_ref (w : World) (F : Nat → Prop) (a : Option Addr) (c : Nat) (b : List UInt8) (m : Nat) (h : (sl a c b).holds F w) (hl : b.length ≤ 34359738368) (hm : m ≤ 1048576) :
    Gives Tryz.prog 184 [.slice a b.length c, .int .i64 (m : Int)] w F (fun y : Option Addr × Nat => .tuple ⟨[.string (cutT b m).1, .slice y.1 (cutT b m).2.1.length y.2, .bool (cutT b m).2.2]⟩) (fun y => [.st (sl y.1 y.2 (cutT b m).2.1)]) := by
  have hkl := (getN_le b).1
  have hn64 := getN_lt b
  refine gives_of Tryz.func184 rfl Tryz.ntmps184 rfl rfl [.st (sl a c b)] (.start1 h) ?_
  repeat (first|refine Wa ?_|refine Wb ?_|refine Wc ?_|refine Wd ?_|refine We rfl ?_|refine Wf (by first|exact Va|exact Vb) rfl ?_)
  refine JR.callV rfl (fun w1 hw => get_ref3 w1 _ a c b hw.get) ?_
  repeat (first|refine Wa ?_|refine Wb ?_|refine Wc ?_|refine Wd ?_|refine We rfl ?_|refine Wf (by first|exact Va|exact Vb|exact Vl|exact Vq) rfl ?_)
  refine JO.test 17 (fun h0 => ?_) (fun h0 => ?_)
  · have e : cutT b m = (.empty, [], false) := by unfold cutT; rw [if_pos (.inl (by omega))]
    rw [e]
    repeat (first|refine Wa ?_|refine Wb ?_|refine Wc ?_|refine Wd ?_|refine We rfl ?_|refine Wf (by first|exact Va|exact Vb|exact Vi) rfl ?_|refine Wj ?_|refine Ws ?_|refine Wt ?_|refine Wv rfl rfl ?_)
    exact CT.done (none, 0) rfl (fun w ho => (ho.ent : Hold _ _ [] w).add sl_nil)
  repeat (first|refine We rfl ?_|refine Wf (by first|exact Va|exact Vg|exact Vj) rfl ?_)
  refine Wf OpV.conv rfl ?_
  refine JO.reslot 24 (.int .u64 (m : Int)) (by rw [wrap64]; congr 2; omega) ?_
  repeat (first|refine We rfl ?_|refine Wf (by first|exact Va|exact Vj|exact Vo) rfl ?_)
  refine JO.test 27 (fun h1 => ?_) (fun h1 => ?_)
  · have e : cutT b m = (.empty, [], false) := by unfold cutT; rw [if_pos (.inr (.inl (by omega)))]
    rw [e]
    repeat (first|refine Wa ?_|refine Wb ?_|refine Wc ?_|refine Wd ?_|refine We rfl ?_|refine Wf (by first|exact Vb|exact Vi) rfl ?_|refine Wj ?_|refine Ws ?_|refine Wt ?_|refine Wv rfl rfl ?_)
    exact CT.done (none, 0) rfl (fun w ho => (ho.ent : Hold _ _ [] w).add sl_nil)
  repeat (first|refine We rfl ?_|refine Wf (by first|exact Va|exact Vf|exact Vu (by omega)) rfl ?_)
  refine Wf OpV.conv rfl ?_
  refine JO.reslot 33 (.int .u64 ((b.length - (getN b).2 : Nat) : Int)) (by
    rw [wrap64]; congr 2; omega) ?_
  repeat (first|refine Wa ?_|refine Wd ?_|refine We rfl ?_|refine Wf (by first|exact Vj|exact Vo) rfl ?_)
  refine JC.test (fun h2 => ?_) (fun h2 => ?_)
  · have e : cutT b m = (.empty, [], false) := by unfold cutT; rw [if_pos (.inr (.inr (by omega)))]
    rw [e]
    repeat (first|refine Wa ?_|refine Wb ?_|refine Wc ?_|refine Wd ?_|refine We rfl ?_|refine Wf (by exact Vb) rfl ?_|refine Ws ?_|refine Wt ?_)
    exact CT.done (none, 0) rfl (fun w ho => (ho.ent : Hold _ _ [] w).add sl_nil)
  have e : cutT b m = (strB ((b.drop (getN b).2).take (getN b).1), (b.drop (getN b).2).drop (getN b).1, true) := by unfold cutT; rw [if_neg (by omega)]
  rw [e]
  obtain ⟨n, hn⟩ : ∃ n, n = (getN b).1 := ⟨_, rfl⟩
  obtain ⟨l, hl'⟩ : ∃ l, l = (getN b).2 := ⟨_, rfl⟩
  rw [← hn] at h1 h2 hn64 ⊢
  rw [← hl'] at h0 h2 hkl ⊢
  repeat (first|refine Wa ?_|refine Wb ?_|refine Wc ?_|refine We rfl ?_|refine Wf (by exact Va) rfl ?_|refine Wl ?_)
  refine Wf OpV.conv rfl ?_
  refine JO.reslot 38 (.int .i64 (n : Int)) (by rw [wrap_in (by omega)]) ?_
  repeat (first|refine Wa ?_|refine Wb ?_|refine Wd ?_|refine We rfl ?_|refine Wf (by first|exact Vb|exact Vs (by omega)) rfl ?_)
  refine JC.reslot 9 (.int .i64 ((l + n : Nat) : Int)) rfl ?_
  rw [List.drop_drop]
  have hm2 : ((b.take (l + n)).drop l).length = n := by rw [List.length_drop, List.length_take]; omega
  refine JC.more (Γ' := [.st (sl (fromA a c l 1) (c - l) ((b.drop l).take n)), .st (sl (fromA a c (l + n) 1) (c - (l + n)) (b.drop (l + n))), .st (sl a c b)]) (fun w1 ho => ?_) ?_
  · have h1 := ho.add (A := sl (fromA a c (l + n) 1) (c - (l + n)) (b.drop (l + n))) (sl_from (k := l + n) (ho.get (A := sl a c b)) (by omega))
    have h2 := h1.add (A := sl (fromA a c l 1) (c - l) (b.drop l)) (sl_from (k := l) (h1.get (A := sl a c b)) (by omega))
    have h3 := h2.add (A := sl (fromA a c l 1) (c - l) ((b.drop l).take n)) (sl_take (k := n) (c' := c - l) (h2.get (A := sl (fromA a c l 1) (c - l) (b.drop l))) (by rw [List.length_drop]; omega) ⟨by have := (h2.get (A := sl a c b)).1; omega, Nat.le_refl _⟩)
    exact h3.ent
  refine JC.drawP mixed ?_
  refine JP.pure 0 rfl (by kernel_rfl) rfl (fun _ => Va) rfl rfl ?_
  refine JP.pure 1 rfl (by kernel_rfl) rfl (fun _ => Va) rfl rfl ?_
  refine JP.pure 2 rfl (by kernel_rfl) rfl (fun _ => Va) rfl rfl ?_
  refine JP.take 3 [.st (sl a c b)] rfl (by kernel_rfl) rfl (OpV.sliceMidA (l := l) (h := l + n) (s := 1) rfl (fun w1 ho => ⟨by omega, by have := (Hold.get (A := sl a c b) ho).1; omega⟩)) rfl rfl ?_
  refine JP.reslot 43 (.slice (fromA a c l 1) ((b.drop l).take n).length (c - l)) (by congr 1; rw [List.length_take, List.length_drop]; omega) ?_
  refine JP.take 4 [.st (sl (fromA a c l 1) (c - l) ((b.drop l).take n))] rfl (by kernel_rfl) rfl (OpV.bytesStr (L := (b.drop l).take n)) rfl rfl ?_
  refine JP.pure 5 rfl (by kernel_rfl) rfl (fun _ => Va) rfl rfl ?_
  refine JP.pure 6 rfl (by kernel_rfl) rfl (fun _ => Va) rfl rfl ?_
  refine JP.take 7 [.st (sl a c b)] rfl (by kernel_rfl) rfl (OpV.sliceFromA (l := l + n) (s := 1) rfl (fun w1 ho => ⟨by omega, (Hold.get (A := sl a c b) ho).1⟩)) rfl rfl ?_
  refine JP.reslot 47 (.slice (fromA a c (l + n) 1) (b.drop (l + n)).length (c - (l + n))) (by congr 1; rw [List.length_drop]) ?_
  refine JP.op 8 (by kernel_rfl) rfl rfl (JR.appendNil (L' := b.drop (l + n)) rfl (by exact ⟨rfl, rfl, by decide⟩) (by rw [List.length_drop]; omega) fun a5 c5 => Wd ⟨rfl, (by repeat (first|exact Obs.nil|refine Obs.keep ?_|refine Obs.skip (by kernel_rfl) ?_)), ?_⟩)
  refine JP.more (fun w1 ho => ho.pub) ?_
  refine JP.pure 9 rfl (by kernel_rfl) rfl (fun _ => Vb) rfl rfl ?_
  refine JP.pure 10 rfl (by kernel_rfl) rfl (fun _ => Vb) rfl rfl ?_
  refine JP.pure 11 rfl (by kernel_rfl) rfl (fun _ => Vb) rfl rfl ?_
  refine JP.nil (by kernel_rfl) ?_
  repeat (first|refine Wa ?_|refine Ws ?_)
  exact CT.done (a5, c5) rfl (fun w ho => ho.ent)
set_option maxHeartbeats 4000000 in
theorem frame_ref (w : World) (F : Nat → Prop) (a : Option Addr) (c : Nat) (L : List UInt8) (h : (sl a c L).holds F w) :
    GivesSlT Tryz.prog 65 [.slice a L.length c] w F (frameT L).1 [.int .i64 (frameT L).2] := by
  obtain ⟨s0, s1, s2, s3, r, h1, h2⟩ := four (sumL_length L)
  have hq : quadL L = [s0, s1, s2, s3] := h2
  have hi : idc (sumI L) = (s0 :: s1 :: s2 :: s3 :: r).map byteV := by
    show (sumI L).1.map byteV = _
    rw [sumI_val, h1]
  have hm : (s0 :: s1 :: s2 :: s3 :: r).length = 32 := by rw [← h1]; exact sumL_length L
  refine gives_of Tryz.func65 rfl Tryz.ntmps65 rfl rfl [.st (sl a c L)] (.start1 h) ?_
  repeat (first|refine Wa ?_|refine Wb ?_|refine Wc ?_|refine Wd ?_|refine We rfl ?_|refine Wf (by first|exact Va|exact Vb|exact Vf|exact Vo) rfl ?_)
  refine JC.test (fun h4 => ?_) (fun h4 => ?_)
  · have e : frameT L = ([], 5) := if_pos (by omega)
    rw [e]
    repeat (first|refine Wa ?_|refine Wb ?_|refine Wc ?_|refine Wd ?_|refine We rfl ?_|refine Wf (by exact Vb) rfl ?_|refine Ws ?_|refine Wt ?_)
    exact CT.done (none, 0) rfl (fun w ho => (ho.ent : Hold _ _ [] w).add sl_nil)
  · have e : frameT L = (frameL L, 0) := if_neg (by omega)
    rw [e]
    repeat (first|refine Wa ?_|refine Wb ?_|refine Wc ?_|refine We rfl ?_|refine Wf (by exact Va) rfl ?_|refine Wl ?_)
    refine JR.callV rfl (fun w1 hw => sum_ref w1 _ a c L hw.get (by omega)) ?_
    repeat (first|refine Wa ?_|refine Wb ?_|refine Wc ?_|refine Wd ?_|refine We rfl ?_|refine Wf (by first|exact Va|exact Vf) rfl ?_|(refine Wg rfl ?_; intro _)|refine Wi ?_)
    rename_i b4
    refine Wf OpV.conv rfl ?_
    refine JO.reslot 13 (.int .u64 (L.length : Int)) (by rw [wrap64]; congr 2; omega) ?_
    repeat (refine We rfl ?_)
    refine JR.callBuf rfl (fun w1 hw => num_ref L.length (by omega) w1 _) ?_
    intro a5 c5
    repeat (first|refine We rfl ?_|refine Wf (by exact Va) rfl ?_)
    refine JR.appendSl (L' := L) rfl (by exact ⟨rfl, rfl, by decide⟩) (by have := numL_length L.length; omega) ?_
    intro a6 c6
    repeat (first|refine Wa ?_|refine Wb ?_|refine Wc ?_|refine Wd ?_|refine We rfl ?_|refine Wf (by first|exact Va|exact Vb) rfl ?_)
    refine JR.more (Γ' := [.own b4 81 ((s0 :: s1 :: s2 :: s3 :: r).map byteV), .res (buf a6 c6 5 (numL L.length ++ L))]) (fun w1 ho => by rw [← hi]; exact ho.ent) ?_
    refine Wf (OpV.indexArr (k := 0) (by decide)) rfl ?_
    refine We rfl ?_
    refine Wf (OpV.getW (L := s0 :: s1 :: s2 :: s3 :: r) 0 (by rw [hm]; decide) rfl rfl) rfl ?_
    refine JO.reslot 19 (byteV s0) rfl ?_
    refine We rfl ?_
    refine Wf (OpV.indexArr (k := 1) (by decide)) rfl ?_
    refine We rfl ?_
    refine Wf (OpV.getW (L := s0 :: s1 :: s2 :: s3 :: r) 1 (by rw [hm]; decide) rfl rfl) rfl ?_
    refine JO.reslot 21 (byteV s1) rfl ?_
    refine We rfl ?_
    refine Wf (OpV.indexArr (k := 2) (by decide)) rfl ?_
    refine We rfl ?_
    refine Wf (OpV.getW (L := s0 :: s1 :: s2 :: s3 :: r) 2 (by rw [hm]; decide) rfl rfl) rfl ?_
    refine JO.reslot 23 (byteV s2) rfl ?_
    refine We rfl ?_
    refine Wf (OpV.indexArr (k := 3) (by decide)) rfl ?_
    refine We rfl ?_
    refine Wf (OpV.getW (L := s0 :: s1 :: s2 :: s3 :: r) 3 (by rw [hm]; decide) rfl rfl) rfl ?_
    refine JO.reslot 25 (byteV s3) rfl ?_
    refine We rfl ?_
    refine Ww rfl ⟨rfl, by decide, by decide, by decide⟩ ?_
    intro bl
    refine We rfl ?_
    refine JR.appendBytes (M := quadL L) rfl (by rw [hq]; rfl) rfl (quadL_length L) (by exact ⟨rfl, rfl, by decide⟩) (by have := numL_length L.length; rw [List.length_append]; omega) ?_
    intro a7 c7
    repeat (first|refine Wa ?_|refine Wd ?_|refine We rfl ?_|refine Wf (by exact Vb) rfl ?_|refine Ws ?_)
    exact CT.done (a7, c7) rfl (fun w ho => (ho.ent : Hold _ _ [.res (buf a7 c7 5 (numL L.length ++ L ++ quadL L))] w).pub)
set_option maxHeartbeats 1000000 in
theorem write_ref (w : World) (F : Nat → Prop) (a a2 : Option Addr) (c c2 : Nat) (b L : List UInt8) (room : Int) (h : (sl a c b).holds F w) (h2 : (sl a2 c2 L).holds F w) (hb : b.length ≤ 34359730000) :
    GivesSlT Tryz.prog 60 [.slice a b.length c, .int .i64 room, .slice a2 L.length c2] w F (writeT b room L).1 [.int .i64 (writeT b room L).2] := by
  refine gives_of Tryz.func60 rfl Tryz.ntmps60 rfl rfl [.st (sl a c b), .st (sl a2 c2 L)] (.start2 h h2) ?_
  repeat (first|refine Wa ?_|refine Wb ?_|refine Wc ?_|refine Wd ?_|refine We rfl ?_|refine Wf (by first|exact Va|exact Vb) rfl ?_)
  refine JR.callSlT rfl (fun w1 hw => frame_ref w1 _ a2 c2 L (hw.get (A := sl a2 c2 L))) ?_
  intro a3 c3
  by_cases h4 : 4000 < L.length
  · have e : frameT L = ([], 5) := if_pos h4
    have e2 : writeT b room L = ([], 5) := if_pos h4
    rw [e, e2]
    dsimp only
    repeat (first|refine Wa ?_|refine Wb ?_|refine Wc ?_|refine Wd ?_|refine We rfl ?_|refine Wf (by first|exact Va|exact Vb|exact Vm|exact Vq) rfl ?_|refine Wj ?_|refine Ws ?_|refine Wt ?_)
    exact CT.done (none, 0) rfl (fun w ho => (ho.ent : Hold _ _ [] w).add sl_nil)
  · have e : frameT L = (frameL L, 0) := if_neg h4
    have hfl := frameL_length L
    have hnl := numL_length L.length
    rw [e]
    dsimp only
    repeat (first|refine Wa ?_|refine Wb ?_|refine Wc ?_|refine Wd ?_|refine We rfl ?_|refine Wf (by first|exact Va|exact Vb|exact Vf|exact Vm|exact Vo|exact Vq|exact Vs (by omega)) rfl ?_|refine Wk ?_|refine Wl ?_)
    refine JC.test (fun h5 => ?_) (fun h5 => ?_)
    · have e2 : writeT b room L = ([], 4) := by unfold writeT; rw [if_neg h4, if_pos (by omega)]
      rw [e2]
      repeat (first|refine Wa ?_|refine Wb ?_|refine Wc ?_|refine Wd ?_|refine We rfl ?_|refine Wf (by exact Vb) rfl ?_|refine Ws ?_|refine Wt ?_)
      exact CT.done (none, 0) rfl (fun w ho => (ho.ent : Hold _ _ [] w).add sl_nil)
    · have e2 : writeT b room L = (b ++ frameL L, 0) := by unfold writeT; rw [if_neg h4, if_neg (by omega)]
      rw [e2]
      repeat (first|refine Wa ?_|refine Wb ?_|refine Wc ?_|refine We rfl ?_|refine Wf (by exact Va) rfl ?_|refine Wl ?_)
      refine JR.appendNil (L' := b) rfl (by exact ⟨rfl, rfl, by decide⟩) (by omega) ?_
      intro a5 c5
      repeat (first|refine We rfl ?_|refine Wf (by exact Va) rfl ?_)
      refine JR.appendSl (L' := frameL L) rfl (by exact ⟨rfl, rfl, by decide⟩) (by omega) ?_
      intro a6 c6
      repeat (first|refine Wa ?_|refine Wd ?_|refine We rfl ?_|refine Wf (by exact Vb) rfl ?_|refine Ws ?_)
      exact CT.done (a6, c6) rfl (fun w ho => (ho.ent : Hold _ _ [.res (buf a6 c6 5 (b ++ frameL L))] w).pub)
set_option maxHeartbeats 1000000 in
theorem put_ref15 (w : World) (F : Nat → Prop) (a a2 : Option Addr) (k k2 : Nat) (b : List UInt8) (room : Int) (c : Commit) (h : (sl a k b).holds F w) (h2 : (sl a2 k2 c.parents).holds F w) (ht : texts c) (hb : b.length ≤ 1048576) :
    GivesSlT Tryz.prog 16 [.slice a b.length k, .int .i64 room, commitV c a2 k2] w F (storeT b room c).1 [.int .i64 (storeT b room c).2] := by
  refine gives_of Tryz.func16 rfl Tryz.ntmps16 rfl rfl [.st (sl a k b), .st (sl a2 k2 c.parents)] (.start2 h h2) ?_
  repeat (first|refine Wa ?_|refine Wb ?_|refine Wc ?_|refine Wd ?_|refine We rfl ?_|refine Wf (by first|exact Vb|exact Vc) rfl ?_|(refine Wh rfl ?_; intro _))
  refine JR.callSlT rfl (fun w1 hw => putcom_ref w1 _ c a2 k2 (hw.get (A := sl a2 k2 c.parents)) ht) ?_
  intro a3 c3
  repeat (first|refine Wa ?_|refine Wb ?_|refine Wc ?_|refine Wd ?_|refine We rfl ?_|refine Wf (by first|exact Va|exact Vb|exact Vm|exact Vq) rfl ?_)
  refine JC.test (fun h5 => ?_) (fun h5 => ?_)
  · have e2 : storeT b room c = ([], (putCommit c).2) := if_neg h5
    rw [e2]
    repeat (first|refine Wa ?_|refine Wb ?_|refine Wc ?_|refine Wd ?_|refine We rfl ?_|refine Wf (by first|exact Va|exact Vb) rfl ?_|refine Ws ?_|refine Wt ?_)
    exact CT.done (none, 0) rfl (fun w ho => (ho.ent : Hold _ _ [] w).add sl_nil)
  · have e2 : storeT b room c = writeT b room (putCommit c).1 := if_pos (by omega)
    rw [e2]
    repeat (first|refine Wa ?_|refine Wb ?_|refine Wc ?_|refine We rfl ?_|refine Wf (by exact Va) rfl ?_|refine Wl ?_)
    refine JR.callSlT rfl (fun w1 hw => write_ref w1 _ a a3 k c3 b (putCommit c).1 room (hw.get (A := sl a k b)) (hw.get (A := sl a3 c3 (putCommit c).1)) (by omega)) ?_
    intro a6 c6
    repeat (first|refine Wa ?_|refine Wb ?_|refine Wc ?_|refine Wd ?_|refine We rfl ?_|refine Wf (by first|exact Va|exact Vb|exact Vq) rfl ?_|refine Ws ?_)
    exact CT.done (a6, c6) rfl (fun w ho => ho.ent)
set_option maxHeartbeats 1000000 in
theorem last_ref (w : World) (F : Nat → Prop) (a : Option Addr) (c : Nat) (l : List Commit) (node : Int) (h : (sl a c l).holds F w) :
    GivesV Tryz.prog 23 [.slice a l.length c, .int .i64 node] w F (.int .i64 (lastF l node)) := by
  have hl : l.length < 9223372036854775807 := by have := h.2.2.1; simp only [lim] at this; omega
  refine gives_of Tryz.func23 rfl Tryz.ntmps23 rfl rfl [.st (sl a c l)] (.start1 h) ?_
  repeat (first|refine Wa ?_|refine Wb ?_|refine Wc ?_|refine Wd ?_|refine We rfl ?_|refine Wf (by exact Vb) rfl ?_|refine Wn ?_)
  refine JC.reslot 5 (.int .i64 (lastF (l.take 0) node)) rfl ?_
  refine JC.loop1 (fun (i : Nat) => [(0, .slice a l.length c), (1, .int .i64 node), (5, .int .i64 (lastF (l.take i) node)), (6, .int .i64 (i : Int))])
    (fun i => [.st (sl a c l)]) (fun i => i ≤ l.length) (fun i => l.length - i) 0 (Nat.zero_le _) inferInstance ?_
  intro i hi
  repeat (first|refine Wa ?_|refine Wb ?_|refine Wc ?_|refine Wd ?_|refine We rfl ?_|refine Wf (by first|exact Va|exact Vf|exact Vg) rfl ?_)
  refine JC.test (fun hlt => ?_) (fun hge => ?_)
  · have hi' : i < l.length := by omega
    have hn := lastF_next l node i hi'
    repeat (first|refine Wa ?_|refine Wb ?_|refine Wc ?_|refine We rfl ?_|refine Wf (by exact Va) rfl ?_|refine Wl ?_|refine Wn ?_)
    refine JR.indexCommit (k := i) rfl hi' ?_
    intro b5 o5 p5 q5
    repeat (first|refine We rfl ?_|refine Wf (by first|exact Va|exact Vc|exact Vd|exact Vl) rfl ?_)
    by_cases h2 : l[i].ev.node = node
    case neg =>
      rw [if_neg h2] at hn
      refine JO.reslot 21 (.bool false) (congrArg Value.bool (decide_eq_false h2)) ?_
      repeat (first|refine Wa ?_|refine Wc ?_|refine Wd ?_|refine We rfl ?_|refine Wf (by first|exact Va|exact Vb|exact Vj|exact Vk (by omega)) rfl ?_|refine Wk ?_|refine Wl ?_|refine Wr ?_|refine Wv rfl rfl ?_)
      exact ⟨i + 1, by omega, by omega, by rw [hn]; infer_instance⟩
    rw [if_pos h2] at hn
    refine JO.reslot 21 (.bool true) (congrArg Value.bool (decide_eq_true h2)) ?_
    repeat (first|refine We rfl ?_|refine Wf (by exact Va) rfl ?_)
    refine JR.indexCommit (k := i) rfl hi' ?_
    intro b6 o6 p6 q6
    repeat (first|refine Wa ?_|refine Wd ?_|refine We rfl ?_|refine Wf (by first|exact Va|exact Vc|exact Vd|exact Vi|exact Vo) rfl ?_)
    refine JC.test (fun h3 => ?_) (fun h3 => ?_)
    · repeat (first|refine Wc ?_|refine We rfl ?_|refine Wf (by exact Va) rfl ?_)
      refine JR.indexCommit (k := i) rfl hi' ?_
      intro b7 o7 p7 q7
      repeat (first|refine Wa ?_|refine Wc ?_|refine Wd ?_|refine We rfl ?_|refine Wf (by first|exact Va|exact Vb|exact Vc|exact Vd|exact Vk (by omega)) rfl ?_|refine Wr ?_)
      exact ⟨i + 1, by omega, by omega, by rw [hn, Int.max_eq_right (by omega)]; infer_instance⟩
    · repeat (first|refine Wa ?_|refine Wc ?_|refine Wd ?_|refine We rfl ?_|refine Wf (by first|exact Va|exact Vb|exact Vk (by omega)) rfl ?_|refine Wl ?_|refine Wr ?_)
      exact ⟨i + 1, by omega, by omega, by rw [hn, Int.max_eq_left (by omega)]; infer_instance⟩
  · obtain rfl : i = l.length := by omega
    rw [List.take_length]
    repeat (first|refine Wa ?_|refine Wb ?_|refine Wc ?_|refine Wd ?_|refine We rfl ?_|refine Wf (by first|exact Va|exact Vb) rfl ?_|refine Wm ?_|refine Wo ?_|refine Wp ?_|refine Ws ?_)
    exact CT.done () rfl (fun w ho => ho.ent)
theorem frame_same {R : List UInt8} (h0 : (getN R).2 ≠ 0) (hl : (getN R).2 + (getN R).1 + 4 ≤ R.length) :
    (frameL ((R.drop (getN R).2).take (getN R).1) = R.take ((getN R).2 + (getN R).1 + 4)) ↔ quadL ((R.drop (getN R).2).take (getN R).1) = (R.drop ((getN R).2 + (getN R).1)).take 4 := by
  obtain ⟨h1, h2, h3, h4⟩ := getN_some (b := R) h0
  generalize (getN R).1 = n at *
  generalize (getN R).2 = k at *
  have hx : ((R.drop k).take n).length = n := by rw [List.length_take, List.length_drop]; omega
  have hR : R.take (k + n + 4) = numL n ++ (R.drop k).take n ++ (R.drop (k + n)).take 4 := by
    conv => lhs; rw [h3]
    rw [List.take_append, List.take_of_length_le (l := numL n) (by omega), h2, show (numL n).length + n + 4 - (numL n).length = n + 4 by omega, List.take_add, List.append_assoc, List.drop_drop]
  rw [hR, frameL, hx, List.append_cancel_left_eq]
set_option maxHeartbeats 4000000 in
theorem read_ref (w : World) (F : Nat → Prop) (a : Option Addr) (c : Nat) (b : List UInt8) (h : (sl a c b).holds F w) (hb : b.length ≤ 1048576) :
    GivesSlT Tryz.prog 62 [.slice a b.length c] w F (readL b) [.int .i64 (readEnd b : Int)] := by
  refine gives_of Tryz.func62 rfl Tryz.ntmps62 rfl rfl [.st (sl a c b)] (.start1 h) ?_
  repeat (first|refine Wa ?_|refine Wb ?_|refine Wc ?_|refine Wd ?_|refine We rfl ?_|refine Wf (by exact Vb) rfl ?_|refine Wn ?_)
  refine JC.more (Γ' := .res (buf (α := List UInt8) none 0 22 []) :: [.st (sl a c b)]) (fun w ho => ho.bufNil) ?_
  refine JC.loop3 (fun (l : List (List UInt8)) (R : List UInt8) (p : Option Addr × Nat) => [(0, .slice a b.length c), (4, .slice p.1 l.length p.2), (5, .int .i64 ((framesL l).length : Int))])
    (fun l R p => [.st (sl a c b), .res (buf p.1 p.2 22 l)]) (fun l R p => b = framesL l ++ R ∧ readL b = l ++ readL R) (fun l R p => R.length) [] b (none, 0) ⟨rfl, rfl⟩ (show Ent _ _ [(0, .slice a b.length c), (4, .slice none 0 0), (5, .int .i64 0)] [.st (sl a c b), .res (buf (α := List UInt8) none 0 22 [])] from inferInstance) ?_
  rintro l R ⟨p, q⟩ ⟨hb1, hb2⟩
  dsimp only at hb1 hb2 ⊢
  have hbl : b.length = (framesL l).length + R.length := by rw [hb1, List.length_append]
  have hdrop : b.drop (framesL l).length = R := by rw [hb1]; exact List.drop_left' rfl
  repeat (first|refine Wa ?_|refine Wb ?_|refine Wc ?_|refine Wd ?_|refine We rfl ?_|refine Wf (by first|exact Va|exact Vf|exact Vg) rfl ?_)
  refine JC.test (fun h9 => ?_) (fun h9 => ?_)
  case refine_2 =>
    have hs : readStep R = none := by
      have hR0 : R = [] := List.eq_nil_of_length_eq_zero (by omega)
      rw [hR0]
      exact if_pos (.inl (by have := (getN_le []).1; simpa using this))
    have hL : readL b = l := by rw [hb2, readL_none hs, List.append_nil]
    have hE : readEnd b = (framesL l).length := by unfold readEnd; rw [hL]
    rw [hL, hE]
    repeat (first|refine Wa ?_|refine Wb ?_|refine Wc ?_|refine Wd ?_|refine We rfl ?_|refine Wf (by first|exact Va|exact Vb) rfl ?_|refine Wm ?_|refine Wo ?_|refine Wp ?_|refine Ws ?_)
    exact CT.done (p, q) rfl (fun w ho => (ho.ent : Hold _ _ [.res (buf p q 22 l)] w).pub)
  repeat (first|refine Wa ?_|refine Wb ?_|refine Wc ?_|refine We rfl ?_|refine Wf (by exact Va) rfl ?_|refine Wl ?_|refine Wn ?_)
  refine JR.sliceFrom (L := b) (k := (framesL l).length) rfl rfl (by omega) ?_
  rw [hdrop]
  intro a1 c1
  repeat (refine We rfl ?_)
  refine JR.callV rfl (fun w1 hw => get_ref3 w1 _ a1 c1 R (hw.get (A := sl a1 c1 R))) ?_
  have hk10 := getN_le R
  have hn64 := getN_lt R
  have hsame := frame_same (R := R)
  repeat (first|refine Wa ?_|refine Wb ?_|refine Wc ?_|refine Wd ?_|refine We rfl ?_|refine Wf (by first|exact Va|exact Vb|exact Vl|exact Vq) rfl ?_)
  refine JO.test 24 (fun h0 => ?_) (fun h0 => ?_)
  · have hs : readStep R = none := if_pos (.inl (by omega))
    have hL : readL b = l := by rw [hb2, readL_none hs, List.append_nil]
    have hE : readEnd b = (framesL l).length := by unfold readEnd; rw [hL]
    rw [hL, hE]
    repeat (first|refine Wa ?_|refine Wb ?_|refine Wc ?_|refine Wd ?_|refine We rfl ?_|refine Wf (by first|exact Va|exact Vb|exact Vi) rfl ?_|refine Wj ?_|refine Wm ?_|refine Wo ?_|refine Wp ?_|refine Wq rfl ?_|refine Ws ?_|refine Wv rfl rfl ?_)
    exact CT.done (p, q) rfl (fun w ho => (ho.ent : Hold _ _ [.res (buf p q 22 l)] w).pub)
  repeat (first|refine We rfl ?_|refine Wf (by first|exact Va|exact Vj|exact Vo) rfl ?_)
  refine JO.test 28 (fun h1 => ?_) (fun h1 => ?_)
  · have hs : readStep R = none := if_pos (.inr (.inl (by omega)))
    have hL : readL b = l := by rw [hb2, readL_none hs, List.append_nil]
    have hE : readEnd b = (framesL l).length := by unfold readEnd; rw [hL]
    rw [hL, hE]
    repeat (first|refine Wa ?_|refine Wb ?_|refine Wc ?_|refine Wd ?_|refine We rfl ?_|refine Wf (by first|exact Va|exact Vb|exact Vi) rfl ?_|refine Wj ?_|refine Wm ?_|refine Wo ?_|refine Wp ?_|refine Wq rfl ?_|refine Ws ?_|refine Wv rfl rfl ?_)
    exact CT.done (p, q) rfl (fun w ho => (ho.ent : Hold _ _ [.res (buf p q 22 l)] w).pub)
  repeat (first|refine We rfl ?_|refine Wf (by first|exact Va|exact Vs (by omega)) rfl ?_)
  refine Wf OpV.conv rfl ?_
  refine JO.reslot 33 (.int .i64 ((getN R).1 : Int)) (by rw [wrap_in (by omega)]) ?_
  repeat (first|refine Wa ?_|refine Wd ?_|refine We rfl ?_|refine Wf (by first|exact Va|exact Vf|exact Vj|exact Vo|exact Vs (by omega)) rfl ?_)
  refine JC.test (fun h2 => ?_) (fun h2 => ?_)
  · have hs : readStep R = none := if_pos (.inr (.inr (by omega)))
    have hL : readL b = l := by rw [hb2, readL_none hs, List.append_nil]
    have hE : readEnd b = (framesL l).length := by unfold readEnd; rw [hL]
    rw [hL, hE]
    repeat (first|refine Wa ?_|refine Wb ?_|refine Wc ?_|refine Wd ?_|refine We rfl ?_|refine Wf (by first|exact Va|exact Vb) rfl ?_|refine Wm ?_|refine Wo ?_|refine Wp ?_|refine Wq rfl ?_|refine Ws ?_)
    exact CT.done (p, q) rfl (fun w ho => (ho.ent : Hold _ _ [.res (buf p q 22 l)] w).pub)
  replace hsame := hsame (by omega) (by omega)
  repeat (first|refine Wa ?_|refine Wb ?_|refine Wc ?_|refine We rfl ?_|refine Wf (by first|exact Va|exact Vs (by omega)) rfl ?_|refine Wl ?_)
  generalize hk : (getN R).2 = k at *
  generalize hn : (getN R).1 = n at *
  obtain ⟨x, hx⟩ : ∃ x, x = (R.drop k).take n := ⟨_, rfl⟩
  have hxl : x.length = n := by rw [hx, List.length_take, List.length_drop]; omega
  obtain ⟨m, hm⟩ : ∃ m, m = (framesL l).length := ⟨_, rfl⟩
  rw [← hm] at hbl hdrop
  have hxb : (b.drop (m + k)).take (m + k + n - (m + k)) = x := by
    rw [← List.drop_drop, hdrop, hx, show m + k + n - (m + k) = n by omega]
  have hft : frameT x = (frameL x, 0) := if_neg (by omega)
  have hfl := frameL_length x
  have hnl := numL_length x.length
  obtain ⟨_, g2, _, _⟩ := getN_some (b := R) (by omega)
  rw [hk, hn, ← hxl] at g2
  rw [← hx] at hsame
  rw [← hm]
  refine Wf OpV.conv rfl ?_
  refine JO.reslot 48 (.int .i64 (n : Int)) (by rw [wrap_in (by omega)]) ?_
  repeat (first|refine We rfl ?_|refine Wf (by exact Vs (by omega)) rfl ?_)
  refine JR.reslot 43 (.int .i64 ((m + k : Nat) : Int)) rfl ?_
  refine JR.reslot 49 (.int .i64 ((m + k + n : Nat) : Int)) rfl ?_
  refine JR.sliceMid (L := b) (l := m + k) (k := m + k + n) rfl rfl ⟨by omega, by omega⟩ ?_
  rw [hxb]
  intro ax cx
  repeat (refine We rfl ?_)
  refine JR.appendNil (L' := x) rfl (by exact ⟨rfl, rfl, by decide⟩) (by omega) ?_
  intro a5 c5
  refine JO.more (fun w ho => ho.pub) ?_
  repeat (first|refine Wa ?_|refine Wb ?_|refine Wc ?_|refine Wd ?_|refine We rfl ?_|refine Wf (by first|exact Va|exact Vb) rfl ?_)
  refine JR.callSlT rfl (fun w1 hw => frame_ref w1 _ a5 c5 x (hw.get (A := sl a5 c5 x))) ?_
  intro a6 c6
  rw [hft]
  dsimp only
  repeat (first|refine Wa ?_|refine Wb ?_|refine Wd ?_|refine We rfl ?_|refine Wf (by first|exact Va|exact Vb|exact Vq) rfl ?_)
  have hfk : (frameL x).length = k + n + 4 := by omega
  have htb : (b.drop m).take (frameL x).length = R.take (k + n + 4) := by rw [hdrop, hfk]
  have htl : (R.take (k + n + 4)).length = (frameL x).length := by rw [List.length_take]; omega
  refine JC.more (Γ' := .st (sl (fromA a c m 1) (c - m) (R.take (k + n + 4))) :: .st (sl a6 c6 (frameL x)) :: .st (sl a5 c5 x) :: [.st (sl a c b), .res (buf p q 22 l)]) (fun w1 ho => ?_) ?_
  · have e2 := sl_mid (l := m) (m := (frameL x).length) (ho.get (A := sl a c b)) (by omega)
    rw [htb] at e2
    exact (ho.add e2).ent
  refine JC.drawP mixed ?_
  refine JP.pure 0 rfl (by kernel_rfl) rfl (fun _ => Va) rfl rfl ?_
  refine JP.take 1 [.st (sl a6 c6 (frameL x))] rfl (by kernel_rfl) rfl (OpV.bytesStr (L := frameL x)) rfl rfl ?_
  refine JP.pure 2 rfl (by kernel_rfl) rfl (fun _ => Va) rfl rfl ?_
  refine JP.pure 3 rfl (by kernel_rfl) rfl (fun _ => Va) rfl rfl ?_
  refine JP.pure 4 rfl (by kernel_rfl) rfl (fun _ => Va) rfl rfl ?_
  refine JP.pure 5 rfl (by kernel_rfl) rfl (fun _ => Va) rfl rfl ?_
  refine JP.pure 6 rfl (by kernel_rfl) rfl (fun _ => Vf) rfl rfl ?_
  refine JP.pure 7 rfl (by kernel_rfl) rfl (fun _ => Vs (k := m) (m := (frameL x).length) (by omega)) rfl rfl ?_
  refine JP.take 8 [.st (sl a c b)] rfl (by kernel_rfl) rfl (OpV.sliceMidA (l := m) (h := m + (frameL x).length) (s := 1) rfl (fun w1 ho => ⟨by omega, by have := (Hold.get (A := sl a c b) ho).1; omega⟩)) rfl rfl ?_
  refine JP.reslot 65 (.slice (fromA a c m 1) (R.take (k + n + 4)).length (c - m)) (by rw [htl]; congr 1; omega) ?_
  refine JP.take 9 [.st (sl (fromA a c m 1) (c - m) (R.take (k + n + 4)))] rfl (by kernel_rfl) rfl (OpV.bytesStr (L := R.take (k + n + 4))) rfl rfl ?_
  refine JP.pure 10 rfl (by kernel_rfl) rfl (fun _ => VC) rfl rfl ?_
  refine JP.nil (by kernel_rfl) ?_
  refine Wa ?_
  have hss : ∀ x y : List UInt8, strB x = strB y ↔ x = y := fun _ _ => strB_inj
  by_cases hq : frameL x = R.take (k + n + 4)
  case neg =>
    have hs : readStep R = none := by
      unfold readStep
      rw [hk, hn, ← hx, if_neg (by omega), if_neg (fun h => hq (hsame.2 h))]
    refine JC.reslot 67 (.bool true) (by rw [decide_eq_false (fun h => hq ((hss _ _).1 h))]; rfl) ?_
    have hL : readL b = l := by rw [hb2, readL_none hs, List.append_nil]
    have hE : readEnd b = m := by unfold readEnd; rw [hL, hm]
    rw [hL, hE]
    repeat (first|refine Wa ?_|refine Wb ?_|refine Wc ?_|refine Wd ?_|refine We rfl ?_|refine Wf (by first|exact Va|exact Vb) rfl ?_|refine Wj ?_|refine Wm ?_|refine Wo ?_|refine Wp ?_|refine Wq rfl ?_|refine Ws ?_)
    exact CT.done (p, q) rfl (fun w ho => (ho.ent : Hold _ _ [.res (buf p q 22 l)] w).pub)
  · refine JC.reslot 67 (.bool false) (by rw [decide_eq_true ((hss _ _).2 hq)]; rfl) ?_
    refine JC.more (Γ' := [.st (sl a5 c5 x), .st (sl a c b), .res (buf p q 22 l)]) (fun w ho => ho.ent) ?_
    have hs : readStep R = some (x, R.drop (k + n + 4)) := by
      unfold readStep
      rw [hk, hn, ← hx, if_neg (by omega), if_pos (hsame.1 hq)]
    have hlt := readStep_lt hs
    have hL2 : readL b = (l ++ [x]) ++ readL (R.drop (k + n + 4)) := by rw [hb2, readL_some hs]; simp
    have hR2 : b = framesL (l ++ [x]) ++ R.drop (k + n + 4) := by rw [hb1, framesL_append, framesL_one, List.append_assoc, ← (readStep_some hs).2]
    have hfl2 : (framesL (l ++ [x])).length = m + (frameL x).length := by
      rw [framesL_append, framesL_one, List.length_append, hm]
    have hll : l.length ≤ b.length := by
      have : ∀ l : List (List UInt8), l.length ≤ (framesL l).length := by
        intro l
        induction l with
        | nil => simp
        | cons y l ih => rw [framesL_cons, List.length_append, frameL_length, List.length_cons]; omega
      have := this l
      omega
    repeat (first|refine Wa ?_|refine Wb ?_|refine Wc ?_|refine We rfl ?_|refine Wf (by exact Va) rfl ?_|refine Wk ?_|refine Wl ?_|(refine Ww rfl ⟨rfl, by decide, by decide, by decide⟩ ?_; intro _))
    refine JR.append1 (L := l) (u := x) rfl (by exact ⟨rfl, rfl, by decide⟩) (by omega) ?_
    intro a7 c7
    repeat (first|refine Wa ?_|refine Wc ?_|refine Wd ?_|refine We rfl ?_|refine Wf (by first|exact Va|exact Vb|exact Vf|exact Vs (by omega)) rfl ?_|refine Wr ?_)
    refine ⟨l ++ [x], R.drop (k + n + 4), (a7, c7), ⟨hR2, hL2⟩, by omega, ?_⟩
    show Ent _ _ [(0, .slice a b.length c), (4, .slice a7 (l ++ [x]).length c7), (5, .int .i64 ((framesL (l ++ [x])).length : Int))] [.st (sl a c b), .res (buf a7 c7 22 (l ++ [x]))]
    rw [hfl2]
    exact inferInstance
set_option maxHeartbeats 4000000 in
theorem getop_ref (w : World) (F : Nat → Prop) (a : Option Addr) (c : Nat) (b : List UInt8) (h : (sl a c b).holds F w) (hl : b.length ≤ 34359738368) :
    Gives Tryz.prog 128 [.slice a b.length c] w F (fun y : Option Addr × Nat => .tuple ⟨[opV (getOp b).1, .slice y.1 (getOp b).2.1.length y.2, .int .i64 (getOp b).2.2]⟩) (fun y => [.st (sl y.1 y.2 (getOp b).2.1)]) := by
  have hkl := (getN_le b).1
  have hn64 := getN_lt b
  refine gives_of Tryz.func128 rfl Tryz.ntmps128 rfl rfl [.st (sl a c b)] (.start1 h) ?_
  repeat (first|refine Wa ?_|refine Wb ?_|refine Wc ?_|refine Wd ?_|refine We rfl ?_|refine Wf (by exact Vb) rfl ?_|(refine Wg rfl ?_; intro _))
  refine Wf (OpV.build [.int .i64 0, .string .empty, .string .empty, .int .i64 0] (by kernel_rfl)) rfl ?_
  repeat (first|refine Wa ?_|refine Wb ?_|refine Wc ?_|refine Wd ?_|refine We rfl ?_|refine Wf (by exact Va) rfl ?_|(refine Wg rfl ?_; intro _)|refine Wi ?_)
  rename_i b2 b5
  refine JR.callV rfl (fun w1 hw => get_ref3 w1 _ a c b hw.get) ?_
  repeat (first|refine Wa ?_|refine Wb ?_|refine Wc ?_|refine Wd ?_|refine We rfl ?_|refine Wf (by first|exact Va|exact Vb|exact Vl|exact Vq) rfl ?_)
  refine JO.test 25 (fun h0 => ?_) (fun h0 => ?_)
  · have e : getOp b = (op0, [], 2) := by unfold getOp; rw [if_pos (.inl (by omega))]
    rw [e]
    repeat (first|refine Wa ?_|refine Wb ?_|refine Wc ?_|refine Wd ?_|refine We rfl ?_|refine Wf (by first|exact Vb|exact Vc|exact Vi) rfl ?_|refine Wi ?_|refine Wj ?_|refine Ws ?_|refine Wt ?_|refine Wv rfl rfl ?_)
    exact CT.done (none, 0) rfl (fun w ho => (ho.ent : Hold _ _ [] w).add sl_nil)
  repeat (first|refine Wa ?_|refine Wd ?_|refine We rfl ?_|refine Wf (by first|exact Va|exact Vj|exact Vp) rfl ?_)
  refine JC.test (fun h1 => ?_) (fun h1 => ?_)
  · have e : getOp b = (op0, [], 2) := by unfold getOp; rw [if_pos (.inr (by omega))]
    rw [e]
    repeat (first|refine Wa ?_|refine Wb ?_|refine Wc ?_|refine Wd ?_|refine We rfl ?_|refine Wf (by first|exact Vb|exact Vc) rfl ?_|refine Wi ?_|refine Ws ?_|refine Wt ?_)
    exact CT.done (none, 0) rfl (fun w ho => (ho.ent : Hold _ _ [] w).add sl_nil)
  obtain ⟨k, hk⟩ : ∃ k, k = (getN b).1 := ⟨_, rfl⟩
  have hk4 : k < 4 := by omega
  obtain ⟨B, hB⟩ : ∃ B, B = b.drop (getN b).2 := ⟨_, rfl⟩
  have hBl : B.length ≤ b.length := by rw [hB, List.length_drop]; omega
  have hg : getOp b = if (cutT B 8).2.2 = false then (op0, [], 2) else if (restOp k (cutT B 8).1 (cutT B 8).2.1).2.2 = true ∧ opMay (restOp k (cutT B 8).1 (cutT B 8).2.1).1 = true then ((restOp k (cutT B 8).1 (cutT B 8).2.1).1, (restOp k (cutT B 8).1 (cutT B 8).2.1).2.1, 0) else (op0, [], 2) := by
    rw [hk, hB]; unfold getOp; rw [if_neg (by omega)]
  rw [← hk]
  repeat (first|refine Wa ?_|refine Wb ?_|refine Wc ?_|refine We rfl ?_|refine Wf (by exact Va) rfl ?_|refine Wl ?_)
  refine Wf OpV.conv rfl ?_
  refine JO.reslot 31 (.int .i64 (k : Int)) (by rw [wrap_in (by omega)]) ?_
  repeat (first|refine We rfl ?_|refine Wf (by exact Vd) rfl ?_)
  refine JR.reslot 32 (.pointer (some ⟨b5, 0, none⟩)) rfl ?_
  refine Wi ?_
  repeat (first|refine Wa ?_|refine Wb ?_|refine Wc ?_|refine Wd ?_|refine We rfl ?_|refine Wf (by exact Va) rfl ?_)
  refine JR.sliceFrom (L := b) (k := (getN b).2) rfl rfl hkl ?_
  rw [← hB]
  intro a1 c1
  repeat (refine We rfl ?_)
  refine JR.call1 (B := fun y : Option Addr × Nat => .st (sl y.1 y.2 (cutT B 8).2.1)) rfl (fun w1 hw => cut_ref w1 _ a1 c1 B 8 hw.get (by omega) (by decide)) ?_
  rintro ⟨a3, c3⟩
  dsimp only
  obtain ⟨key, T, is, hcut⟩ : ∃ key T is, cutT B 8 = (key, T, is) := ⟨_, _, _, rfl⟩
  have hks : key.size ≤ 8 := by have := cutT_size B 8; rw [hcut] at this; exact this
  have hTl : T.length ≤ B.length := by have := cutT_len B 8; rw [hcut] at this; exact this
  rw [hcut] at hg ⊢
  dsimp only at hg ⊢
  repeat (first|refine Wa ?_|refine Wb ?_|refine Wc ?_|refine Wd ?_|refine We rfl ?_|refine Wf (by first|exact Va|exact Vb|exact Vh|exact Vq) rfl ?_)
  cases is with
  | false =>
    rw [if_pos rfl] at hg
    rw [hg]
    repeat (first|refine Wb ?_|refine Wc ?_|refine We rfl ?_|refine Wj ?_)
    skip
    refine Wf (OpV.build [.int .i64 0, .string .empty, .string .empty, .int .i64 0] (by kernel_rfl)) rfl ?_
    repeat (first|refine Wa ?_|refine Wd ?_|refine We rfl ?_|refine Wf (by exact Vb) rfl ?_|refine Wi ?_|refine Ws ?_|refine Wt ?_)
    exact CT.done (none, 0) rfl (fun w ho => (ho.ent : Hold _ _ [] w).add sl_nil)
  | true =>
    rw [if_neg (by simp)] at hg
    have hrt := restOp_texts k key T hks
    have hrl := restOp_len k key T
    have hTk := (getN_le T).1
    have hTn := getN_lt T
    by_cases hk0 : k = 0
    · subst hk0
      have hre : restOp 0 key T = (⟨0, key, .empty, unfoldN (getN T).1⟩, T.drop (getN T).2, decide (0 < (getN T).2)) := by simp [restOp]
      rw [hre] at hg hrt hrl
      dsimp only at hg hrt hrl
      repeat (first|refine Wa ?_|refine Wb ?_|refine Wc ?_|refine Wd ?_|refine We rfl ?_|refine Wf (by first|exact Va|exact Vc|exact Vd|exact Vl) rfl ?_|refine Wi ?_|refine Wj ?_|refine Wk ?_|refine Wl ?_)
      refine JR.callV rfl (fun w1 hw => get_ref3 w1 _ a3 c3 T hw.get) ?_
      repeat (first|refine Wa ?_|refine Wb ?_|refine Wc ?_|refine Wd ?_|refine We rfl ?_|refine Wf (by first|exact Va|exact Vb|exact Vl|exact Vq) rfl ?_)
      refine JC.test (fun h2 => ?_) (fun h2 => ?_)
      · rw [if_neg (by rintro ⟨h3, _⟩; have := of_decide_eq_true h3; omega)] at hg
        rw [hg]
        repeat (first|refine Wb ?_|refine Wc ?_|refine We rfl ?_)
        skip
        refine Wf (OpV.build [.int .i64 0, .string .empty, .string .empty, .int .i64 0] (by kernel_rfl)) rfl ?_
        repeat (first|refine Wa ?_|refine Wd ?_|refine We rfl ?_|refine Wf (by exact Vb) rfl ?_|refine Wi ?_|refine Ws ?_|refine Wt ?_)
        exact CT.done (none, 0) rfl (fun w ho => (ho.ent : Hold _ _ [] w).add sl_nil)
      have hok : decide (0 < (getN T).2) = true := decide_eq_true (by omega)
      repeat (first|refine Wa ?_|refine Wb ?_|refine Wc ?_|refine We rfl ?_|refine Wf (by exact Va) rfl ?_|refine Wl ?_)
      refine JR.callV rfl (fun w1 hw => unfold_ref w1 _ (getN T).1 hTn) ?_
      repeat (first|refine Wa ?_|refine Wc ?_|refine Wd ?_|refine We rfl ?_|refine Wf (by first|exact Va|exact Vd) rfl ?_|refine Wi ?_)
      refine JR.sliceFrom (L := T) (k := (getN T).2) rfl rfl hTk ?_
      intro a5 c5
      repeat (first|refine Wa ?_|refine Wb ?_|refine Wc ?_|refine Wd ?_|refine We rfl ?_|refine Wf (by first|exact Vb|exact Vc) rfl ?_)
      refine JR.callV rfl (fun w1 hw => opmay_ref w1 _ ⟨0, key, .empty, unfoldN (getN T).1⟩ hrt.1 hrt.2) ?_
      cases hm : opMay ⟨0, key, .empty, unfoldN (getN T).1⟩ with
      | false =>
        rw [if_neg (by simp [hm])] at hg
        rw [hg]
        repeat (first|refine Wa ?_|refine Wb ?_|refine Wc ?_|refine Wd ?_|refine We rfl ?_|refine Wf (by first|exact Va|exact Vb|exact Vh) rfl ?_|refine Wj ?_)
        skip
        refine Wf (OpV.build [.int .i64 0, .string .empty, .string .empty, .int .i64 0] (by kernel_rfl)) rfl ?_
        repeat (first|refine Wa ?_|refine Wd ?_|refine We rfl ?_|refine Wf (by exact Vb) rfl ?_|refine Wi ?_|refine Ws ?_|refine Wt ?_)
        exact CT.done (none, 0) rfl (fun w ho => (ho.ent : Hold _ _ [] w).add sl_nil)
      | true =>
        rw [if_pos ⟨hok, hm⟩] at hg
        rw [hg]
        repeat (first|refine Wa ?_|refine Wb ?_|refine Wc ?_|refine Wd ?_|refine We rfl ?_|refine Wf (by first|exact Va|exact Vb|exact Vc|exact Vh) rfl ?_|refine Wi ?_|refine Wk ?_|refine Wl ?_|refine Ws ?_)
        exact CT.done (a5, c5) rfl (fun w ho => ho.ent)
    · have hre : restOp k key T = (⟨(k : Int), key, (cutT T 8).1, 0⟩, (cutT T 8).2.1, (cutT T 8).2.2) := by simp [restOp, hk0]
      rw [hre] at hg hrt hrl
      dsimp only at hg hrt hrl
      repeat (first|refine Wa ?_|refine Wb ?_|refine Wc ?_|refine Wd ?_|refine We rfl ?_|refine Wf (by first|exact Va|exact Vc|exact Vd|exact Vl) rfl ?_|refine Wi ?_|refine Wk ?_|refine Wl ?_)
      refine JC.reslot 48 (.bool false) (congrArg Value.bool (decide_eq_false (by omega))) ?_
      repeat (first|refine Wb ?_|refine Wc ?_|refine We rfl ?_|refine Wf (by exact Va) rfl ?_|refine Wk ?_)
      refine JR.call1 (B := fun y : Option Addr × Nat => .st (sl y.1 y.2 (cutT T 8).2.1)) rfl (fun w1 hw => cut_ref w1 _ a3 c3 T 8 hw.get (by omega) (by decide)) ?_
      rintro ⟨a5, c5⟩
      dsimp only
      obtain ⟨elem, R, ok, hcut2⟩ : ∃ elem R ok, cutT T 8 = (elem, R, ok) := ⟨_, _, _, rfl⟩
      rw [hcut2] at hg hrt hrl ⊢
      dsimp only at hg hrt hrl ⊢
      repeat (first|refine Wa ?_|refine Wb ?_|refine Wc ?_|refine Wd ?_|refine We rfl ?_|refine Wf (by first|exact Va|exact Vb|exact Vh|exact Vq) rfl ?_)
      cases ok with
      | false =>
        rw [if_neg (by simp)] at hg
        rw [hg]
        repeat (first|refine Wb ?_|refine Wc ?_|refine We rfl ?_|refine Wj ?_)
        skip
        refine Wf (OpV.build [.int .i64 0, .string .empty, .string .empty, .int .i64 0] (by kernel_rfl)) rfl ?_
        repeat (first|refine Wa ?_|refine Wd ?_|refine We rfl ?_|refine Wf (by exact Vb) rfl ?_|refine Wi ?_|refine Ws ?_|refine Wt ?_)
        exact CT.done (none, 0) rfl (fun w ho => (ho.ent : Hold _ _ [] w).add sl_nil)
      | true =>
      have hok : true = true := rfl
      repeat (first|refine Wa ?_|refine Wb ?_|refine Wc ?_|refine Wd ?_|refine We rfl ?_|refine Wf (by first|exact Va|exact Vb|exact Vc|exact Vd) rfl ?_|refine Wi ?_|refine Wk ?_|refine Wl ?_)
      trace_state
      refine JR.callV rfl (fun w1 hw => opmay_ref w1 _ ⟨(k : Int), key, elem, 0⟩ hrt.1 hrt.2) ?_
      cases hm : opMay ⟨(k : Int), key, elem, 0⟩ with
      | false =>
        rw [if_neg (by simp [hm])] at hg
        rw [hg]
        repeat (first|refine Wa ?_|refine Wb ?_|refine Wc ?_|refine Wd ?_|refine We rfl ?_|refine Wf (by first|exact Va|exact Vb|exact Vh) rfl ?_|refine Wj ?_)
        skip
        refine Wf (OpV.build [.int .i64 0, .string .empty, .string .empty, .int .i64 0] (by kernel_rfl)) rfl ?_
        repeat (first|refine Wa ?_|refine Wd ?_|refine We rfl ?_|refine Wf (by exact Vb) rfl ?_|refine Wi ?_|refine Ws ?_|refine Wt ?_)
        exact CT.done (none, 0) rfl (fun w ho => (ho.ent : Hold _ _ [] w).add sl_nil)
      | true =>
        rw [if_pos ⟨hok, hm⟩] at hg
        rw [hg]
        repeat (first|refine Wa ?_|refine Wb ?_|refine Wc ?_|refine Wd ?_|refine We rfl ?_|refine Wf (by first|exact Va|exact Vb|exact Vc|exact Vh) rfl ?_|refine Wi ?_|refine Wk ?_|refine Wl ?_|refine Ws ?_)
        exact CT.done (a5, c5) rfl (fun w ho => ho.ent)
def fillB (B : List UInt8) (k : Nat) : List UInt8 := B.take k ++ List.replicate (32 - k) 0
theorem fillB_zero (B : List UInt8) : (fillB B 0).map byteV = idc id0 := by
  simp [fillB, idc, id0]
theorem fillB_len (B : List UInt8) {k : Nat} (hk : k ≤ 32) (h : 32 ≤ B.length) : (fillB B k).length = 32 := by
  simp [fillB]; omega
theorem fillB_all (B : List UInt8) (h : 32 ≤ B.length) : (fillB B 32).map byteV = idc (takeID B h) := by
  simp [fillB, idc, takeID]
theorem fillB_set (B : List UInt8) {k : Nat} (hk : k < 32) (h : 32 ≤ B.length) : (fillB B k).set k (B[k]'(by omega)) = fillB B (k + 1) := by
  have h1 : (B.take k).length = k := by rw [List.length_take]; omega
  rw [fillB, List.set_append_right _ _ (by omega), h1, Nat.sub_self, show 32 - k = (32 - (k + 1)) + 1 by omega, List.replicate_succ, List.set_cons_zero, fillB, List.take_succ_eq_append_getElem (by omega), List.append_assoc]
  rfl
def idR (B : List UInt8) : ID := if h : 32 ≤ B.length then takeID B h else id0
def idS (B : List UInt8) : List UInt8 := if 32 ≤ B.length then B.drop 32 else B
section
variable {w0 w : World} {F : Nat → Prop} {Γ : List Fact} {br : Nat} {a : Option Addr} {c : Nat} {L : List UInt8} {bad : Bool}
set_option maxHeartbeats 4000000 in
theorem num_rd (hl : L.length ≤ 34359738368) (ho : Hold w0 F (.own br 152 [.slice a L.length c, .bool bad] :: .st (sl a c L) :: Γ) w) :
    Calls Tryz.prog 126 ⟨[.pointer (some ⟨br, 0, none⟩)]⟩ w fun x w' => ∃ y : Option Addr × Nat, x = .returned (.int .u64 ((getN L).1 : Int)) ∧
      Hold w0 F (.own br 152 [.slice y.1 (L.drop (getN L).2).length y.2, .bool (bad || decide ((getN L).2 = 0))] :: .st (sl y.1 y.2 (L.drop (getN L).2)) :: Γ) w' := by
  have hkl := (getN_le L).1
  refine calls_of (v := fun y : Option Addr × Nat => .int .u64 ((getN L).1 : Int)) (B := fun y => .own br 152 [.slice y.1 (L.drop (getN L).2).length y.2, .bool (bad || decide ((getN L).2 = 0))] :: .st (sl y.1 y.2 (L.drop (getN L).2)) :: Γ) Tryz.func126 rfl Tryz.ntmps126 rfl rfl _ ho ?_
  repeat (first|refine Wa ?_|refine Wb ?_|refine Wc ?_|refine Wd ?_|refine We rfl ?_|refine Wf (by first|exact Va|exact Vb) rfl ?_)
  refine Wf OpV.nilCheck rfl ?_
  repeat (first|refine We rfl ?_|refine Wf (by first|exact Vc|exact Vd) rfl ?_)
  refine JR.callV rfl (fun w1 hw => get_ref3 w1 _ a c L hw.get) ?_
  repeat (first|refine Wa ?_|refine Wb ?_|refine Wc ?_|refine Wd ?_|refine We rfl ?_|refine Wf (by first|exact Va|exact Vb|exact Vl|exact Vq) rfl ?_)
  refine JC.test (fun h0 => ?_) (fun h0 => ?_)
  · have hz : (getN L).2 = 0 := by omega
    rw [hz, show (bad || decide (0 = 0)) = true by simp]
    repeat (first|refine Wc ?_|refine We rfl ?_|refine Wf (by exact Va) rfl ?_)
    refine Wf OpV.nilCheck rfl ?_
    repeat (first|refine Wa ?_|refine Wb ?_|refine Wc ?_|refine Wd ?_|refine We rfl ?_|refine Wf (by first|exact Va|exact Vd) rfl ?_|refine Wi ?_)
    refine Wf OpV.nilCheck rfl ?_
    repeat (first|refine We rfl ?_|refine Wf (by first|exact Va|exact Vc|exact Vd) rfl ?_)
    refine JR.sliceFrom (L := L) (k := 0) rfl rfl (Nat.zero_le _) ?_
    intro a2 c2
    repeat (refine We rfl ?_)
    refine Wf OpV.nilCheck rfl ?_
    repeat (first|refine We rfl ?_|refine Wf (by exact Vd) rfl ?_)
    refine JR.reslot 26 (.pointer (some ⟨br, 0, none⟩)) rfl ?_
    refine Wi ?_
    repeat (first|refine Wa ?_|refine Wb ?_|refine Wc ?_|refine Wd ?_|refine We rfl ?_|refine Wf (by first|exact Va|exact Vb) rfl ?_|refine Ws ?_)
    exact CT.done (a2, c2) rfl (fun w ho => ho.ent)
  · rw [show (bad || decide ((getN L).2 = 0)) = bad by rw [decide_eq_false (by omega), Bool.or_false]]
    repeat (first|refine Wa ?_|refine Wb ?_|refine Wc ?_|refine We rfl ?_|refine Wf (by exact Va) rfl ?_|refine Wl ?_)
    refine Wf OpV.nilCheck rfl ?_
    repeat (first|refine We rfl ?_|refine Wf (by first|exact Va|exact Vc|exact Vd) rfl ?_)
    refine JR.sliceFrom (L := L) (k := (getN L).2) rfl rfl hkl ?_
    intro a2 c2
    repeat (refine We rfl ?_)
    refine Wf OpV.nilCheck rfl ?_
    repeat (first|refine We rfl ?_|refine Wf (by exact Vd) rfl ?_)
    refine JR.reslot 26 (.pointer (some ⟨br, 0, none⟩)) rfl ?_
    refine Wi ?_
    repeat (first|refine Wa ?_|refine Wb ?_|refine Wc ?_|refine Wd ?_|refine We rfl ?_|refine Wf (by first|exact Va|exact Vb) rfl ?_|refine Ws ?_)
    exact CT.done (a2, c2) rfl (fun w ho => ho.ent)
set_option maxHeartbeats 4000000 in
theorem id_rd (hl : L.length ≤ 34359738368) (ho : Hold w0 F (.own br 152 [.slice a L.length c, .bool bad] :: .st (sl a c L) :: Γ) w) :
    Calls Tryz.prog 127 ⟨[.pointer (some ⟨br, 0, none⟩)]⟩ w fun x w' => ∃ y : Option Addr × Nat, x = .returned (.agg ⟨idc (idR L)⟩) ∧
      Hold w0 F (.own br 152 [.slice y.1 (idS L).length y.2, .bool (bad || decide (L.length < 32))] :: .st (sl y.1 y.2 (idS L)) :: Γ) w' := by
  refine calls_of (v := fun y : Option Addr × Nat => .agg ⟨idc (idR L)⟩) (B := fun y => .own br 152 [.slice y.1 (idS L).length y.2, .bool (bad || decide (L.length < 32))] :: .st (sl y.1 y.2 (idS L)) :: Γ) Tryz.func127 rfl Tryz.ntmps127 rfl rfl _ ho ?_
  repeat (first|refine Wa ?_|refine Wb ?_|refine Wc ?_|refine Wd ?_|refine We rfl ?_|(refine Wg rfl ?_; intro _))
  refine Wf (OpV.build (List.replicate 32 (Value.int .u8 0)) (by kernel_rfl)) rfl ?_
  repeat (first|refine We rfl ?_|(refine Wg rfl ?_; intro _))
  rename_i b2 b3
  refine JR.more (Γ' := .own b3 81 (idc id0) :: .own b2 81 (idc id0) :: .own br 152 [.slice a L.length c, .bool bad] :: .st (sl a c L) :: Γ) (fun w1 ho => by rw [← idc_zero]; exact ho.ent) ?_
  refine JR.reslot 5 (.agg ⟨idc id0⟩) (by rw [← idc_zero]) ?_
  refine Wi ?_
  repeat (first|refine Wa ?_|refine Wb ?_|refine Wc ?_|refine Wd ?_|refine We rfl ?_|refine Wf (by exact Va) rfl ?_)
  refine Wf OpV.nilCheck rfl ?_
  repeat (first|refine Wa ?_|refine Wd ?_|refine We rfl ?_|refine Wf (by first|exact Vc|exact Vd|exact Vf|exact Vg) rfl ?_)
  refine JC.test (fun h0 => ?_) (fun h0 => ?_)
  · have e1 : idR L = id0 := dif_neg (by omega)
    have e2 : idS L = L := if_neg (by omega)
    rw [e1, e2, show (bad || decide (L.length < 32)) = true by rw [decide_eq_true (by omega), Bool.or_true]]
    repeat (first|refine Wb ?_|refine Wc ?_|refine We rfl ?_|refine Wf (by exact Va) rfl ?_)
    refine Wf OpV.nilCheck rfl ?_
    repeat (first|refine Wa ?_|refine Wb ?_|refine Wc ?_|refine Wd ?_|refine We rfl ?_|refine Wf (by first|exact Vc|exact Vd) rfl ?_|refine Wi ?_|refine Ws ?_|refine Wt ?_)
    exact CT.done (a, c) rfl (fun w ho => ho.ent)
  · have h32 : 32 ≤ L.length := by omega
    have e1 : idR L = takeID L h32 := dif_pos h32
    have e2 : idS L = L.drop 32 := if_pos h32
    rw [e1, e2, show (bad || decide (L.length < 32)) = bad by rw [decide_eq_false (by omega), Bool.or_false]]
    repeat (first|refine Wa ?_|refine Wb ?_|refine Wc ?_|refine Wd ?_|refine We rfl ?_|refine Wf (by exact Vb) rfl ?_|refine Wl ?_|refine Wn ?_)
    refine JC.reown b3 ((fillB L 0).map byteV) (fillB_zero L).symm ?_
    refine JC.loop1 (fun k : Nat => [(0, .pointer (some ⟨br, 0, none⟩)), (2, .pointer (some ⟨b2, 0, none⟩)), (3, .pointer (some ⟨b3, 0, none⟩)), (4, .int .i64 (k : Int))])
      (fun k => .own b3 81 ((fillB L k).map byteV) :: .own b2 81 (idc id0) :: .own br 152 [.slice a L.length c, .bool bad] :: .st (sl a c L) :: Γ)
      (fun k => k ≤ 32) (fun k => 32 - k) 0 (Nat.zero_le _) inferInstance ?_
    intro k hk
    repeat (first|refine Wa ?_|refine Wb ?_|refine Wc ?_|refine Wd ?_|refine We rfl ?_|refine Wf (by first|exact Va|exact Vg) rfl ?_)
    refine JC.test (fun hlt => ?_) (fun hge => ?_)
    · have hk' : k < 32 := by omega
      have hkl : k < L.length := by omega
      repeat (first|refine Wa ?_|refine Wb ?_|refine Wc ?_|refine We rfl ?_|refine Wf (by exact Va) rfl ?_|refine Wl ?_|refine Wn ?_)
      refine Wf OpV.nilCheck rfl ?_
      repeat (first|refine We rfl ?_|refine Wf (by first|exact Va|exact Vc|exact Vd) rfl ?_)
      refine JR.indexByte (k := k) rfl (by omega) ?_
      intro b5 o5
      repeat (first|refine We rfl ?_|refine Wf (by exact Vc) rfl ?_)
      refine Wf (OpV.indexArr hk') rfl ?_
      refine We rfl ?_
      refine JR.setW k (L[k]'hkl) (by rw [fillB_len L hk h32]; exact hk') (by omega) rfl ?_
      rw [fillB_set L hk' h32]
      repeat (first|refine Wa ?_|refine Wc ?_|refine Wd ?_|refine We rfl ?_|refine Wf (by first|exact Va|exact Vb|exact Vk (by omega)) rfl ?_|refine Wr ?_)
      exact ⟨k + 1, by omega, by omega, inferInstance⟩
    · obtain rfl : k = 32 := by omega
      repeat (first | refine Wa ?_ | refine Wo ?_ | refine Wp ?_ | refine Wq rfl ?_ | refine Wr ?_ | refine Wm ?_)
      refine JC.reown b3 (idc (takeID L h32)) (fillB_all L h32) ?_
      repeat (first|refine Wb ?_|refine Wc ?_|refine We rfl ?_|refine Wf (by exact Va) rfl ?_)
      refine Wf OpV.nilCheck rfl ?_
      repeat (first|refine We rfl ?_|refine Wf (by first|exact Vc|exact Vd) rfl ?_)
      refine JR.sliceFrom (L := L) (k := 32) rfl rfl h32 ?_
      intro a2 c2
      repeat (refine We rfl ?_)
      refine Wf OpV.nilCheck rfl ?_
      repeat (first|refine We rfl ?_|refine Wf (by exact Vd) rfl ?_)
      refine JR.reslot 36 (.pointer (some ⟨br, 0, none⟩)) rfl ?_
      refine Wi ?_
      repeat (first|refine Wa ?_|refine Wb ?_|refine Wc ?_|refine Wd ?_|refine We rfl ?_|refine Wf (by exact Vc) rfl ?_|refine Wi ?_|refine Ws ?_)
      exact CT.done (a2, c2) rfl (fun w ho => ho.ent)
end
theorem getIds_length : ∀ (n : Nat) (b : List UInt8) (q), getIds n b = some q → q.1.length = n
  | 0, b, q, h => by cases h; rfl
  | n + 1, b, q, h => by
    unfold getIds at h
    split at h
    · cases hq : getIds n (b.drop 32) with
      | none => rw [hq] at h; cases h
      | some q1 =>
        rw [hq] at h; cases h
        have := getIds_length n _ q1 hq
        show q1.1.length + 1 = n + 1
        omega
    · cases h
theorem wrap_big {m : Nat} (h : m < 18446744073709551616) (h0 : 0 ≤ IntKind.i64.wrap (m : Int)) (h1 : IntKind.i64.wrap (m : Int) ≤ 1048576) : m ≤ 1048576 := by
  by_cases h2 : m ≤ 9223372036854775807
  · rw [wrap_in (by omega)] at h1; omega
  · exfalso
    have : IntKind.i64.wrap (m : Int) = (m : Int) - 18446744073709551616 := by
      simp [IntKind.wrap, IntKind.bits, IntKind.signed]; omega
    omega
theorem may_seq {c : Commit} (h : may c = true) : 0 ≤ c.ev.seq ∧ c.ev.seq ≤ 1048576 := by
  unfold may at h
  split at h
  · cases h
  · split at h
    · simp only [Bool.and_eq_true, decide_eq_true_eq] at h; omega
    · simp only [Bool.and_eq_true, inB, decide_eq_true_eq] at h; omega
noncomputable def opR (n0 z1 z2 : Int) (ps : List ID) (B : List UInt8) : Option (Commit × List UInt8) :=
  if n0 = -1 then finC ⟨⟨n0, z1⟩, z2, ps, op0⟩ B else if (getOp B).2.2 = 0 then finC ⟨⟨n0, z1⟩, z2, ps, (getOp B).1⟩ (getOp B).2.1 else none
theorem finC_none {c : Commit} {B : List UInt8} (h : ¬ (0 ≤ c.ev.seq ∧ c.ev.seq ≤ 1048576 ∧ 1 ≤ c.gen ∧ c.gen ≤ 1048576 ∧ c.parents.length ≤ 8)) : finC c B = none := by
  unfold finC
  split
  · rename_i hm
    exact (h ⟨(may_seq hm).1, (may_seq hm).2, (may_gen hm).1, (may_gen hm).2, may_parents hm⟩).elim
  · rfl
theorem opR_none {n0 z1 z2 : Int} {ps : List ID} {B : List UInt8} (h : ¬ (0 ≤ z1 ∧ z1 ≤ 1048576 ∧ 1 ≤ z2 ∧ z2 ≤ 1048576 ∧ ps.length ≤ 8)) : opR n0 z1 z2 ps B = none := by
  unfold opR
  split
  · exact finC_none h
  · split
    · exact finC_none h
    · rfl
section
variable {b B1 B2 B3 B4 : List UInt8} (h1 : B1 = b.drop (getN b).2) (h2 : B2 = B1.drop (getN B1).2) (h3 : B3 = B2.drop (getN B2).2) (h4 : B4 = B3.drop (getN B3).2)
include h1 h2 h3 h4
omit h4 in
theorem getC_bad (h : (getN b).2 = 0 ∨ (getN B1).2 = 0 ∨ (getN B2).2 = 0 ∨ (getN B3).2 = 0) : getC b = none := by
  unfold getC
  by_cases e0 : (getN b).2 = 0
  · rw [numO, if_pos e0]; rfl
  rw [numO, if_neg e0, Option.bind_some]
  dsimp only
  rw [← h1, uptoO]
  split
  · rfl
  rename_i e1
  rw [Option.bind_some]
  dsimp only
  rw [← h2, uptoO]
  split
  · rfl
  rename_i e2
  rw [Option.bind_some]
  dsimp only
  rw [← h3, uptoO, if_pos (by omega)]; rfl
theorem getC_good (g0 : (getN b).2 ≠ 0) (g1 : (getN B1).2 ≠ 0) (g2 : (getN B2).2 ≠ 0) (g3 : (getN B3).2 ≠ 0) :
    getC b = (getIds (getN B3).1 B4).bind fun q => opR (unfoldN (getN b).1) (IntKind.i64.wrap ((getN B1).1 : Int)) (IntKind.i64.wrap ((getN B2).1 : Int)) q.1 q.2 := by
  have l1 := getN_lt B1
  have l2 := getN_lt B2
  by_cases hb : (getN B1).1 ≤ 1048576 ∧ (getN B2).1 ≤ 1048576 ∧ (getN B3).1 ≤ 8
  · unfold getC
    rw [numO, if_neg g0, Option.bind_some]
    dsimp only
    rw [← h1, uptoO, if_neg (by omega), Option.bind_some]
    dsimp only
    rw [← h2, uptoO, if_neg (by omega), Option.bind_some]
    dsimp only
    rw [← h3, uptoO, if_neg (by omega), Option.bind_some]
    dsimp only
    rw [← h4, wrap_in (m := ((getN B1).1 : Int)) (by omega), wrap_in (m := ((getN B2).1 : Int)) (by omega)]
    rfl
  · have hr : ((getIds (getN B3).1 B4).bind fun q => opR (unfoldN (getN b).1) (IntKind.i64.wrap ((getN B1).1 : Int)) (IntKind.i64.wrap ((getN B2).1 : Int)) q.1 q.2) = none := by
      cases hq : getIds (getN B3).1 B4 with
      | none => rfl
      | some q =>
        have hl := getIds_length _ _ q hq
        rw [Option.bind_some]
        refine opR_none (fun ⟨a1, a2, a3, a4, a5⟩ => hb ⟨wrap_big l1 a1 a2, wrap_big l2 (by omega) a4, by omega⟩)
    rw [hr]
    unfold getC
    rw [numO, if_neg g0, Option.bind_some]
    dsimp only
    rw [← h1, uptoO]
    split
    · rfl
    rename_i e1
    rw [Option.bind_some]
    dsimp only
    rw [← h2, uptoO]
    split
    · rfl
    rename_i e2
    rw [Option.bind_some]
    dsimp only
    rw [← h3, uptoO, if_pos (by omega)]; rfl
end
end Ab
end Go.Proofs.YtdgeffphifgflaaGreat
