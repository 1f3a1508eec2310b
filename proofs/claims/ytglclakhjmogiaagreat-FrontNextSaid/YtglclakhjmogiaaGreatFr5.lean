/- Lemmas for the walks, part 5 of 5: RfE, RfF, RfG, LawD, FrA, FrB, FrE, FrC, Entry, Shut, Bytes, LwE, LwF. -/
import Derived.Test.YtglclakhjmogiaaGreatFr4
import Derived.Test.YtglclakhjmogiaaGreatFr3
import Derived.Test.YtglclakhjmogiaaGreatFr2
import Derived.SizedLaws
import Derived.ChangeArms
import Derived.KernelRfl
import Derived.OpenShut
import Derived.Test.YtglclakhjmogiaaGreatRows
import Derived.ProofKit
import Derived.Carry
import Derived.Laws.BytesArg
/- Contracts of the document's layer 11: Anc, Part. -/
namespace Go.Proofs.YtglclakhjmogiaaGreat
namespace Ab
open Go Go.RowKit
set_option linter.unusedVariables false
set_option linter.unusedSimpArgs false
set_option synthInstance.maxSize 4000
set_option synthInstance.maxHeartbeats 400000
attribute [local irreducible] JC JO JR JQ andThen inBlock OpV Gives retTo JM JS

attribute [local irreducible] hashC
def hitI (L : List Commit) (A : List ID) (i j : Nat) : Prop := ∃ y, ∃ hy : y < L.length, y < j ∧ idC L[y] ∈ A ∧ knowsI L y i
theorem hitI_zero {L : List Commit} {A : List ID} {i : Nat} : ¬ hitI L A i 0 := fun ⟨_, _, h, _⟩ => by omega
theorem hitI_succ {L : List Commit} {A : List ID} {i j : Nat} (hj : j < L.length) : hitI L A i (j + 1) ↔ hitI L A i j ∨ (idC L[j] ∈ A ∧ knowsI L j i) := by
  constructor
  · rintro ⟨y, hy, hyj, h⟩
    by_cases e : y = j
    · subst e; exact .inr h
    · exact .inl ⟨y, hy, by omega, h⟩
  · rintro (⟨y, hy, hyj, h⟩ | h)
    · exact ⟨y, hy, by omega, h⟩
    · exact ⟨j, hj, by omega, h⟩
theorem inAnc_iff {L : List Commit} (hc : Closed L) {A : List ID} {i : Nat} (hi : i < L.length) : inAnc L A (idC L[i]) ↔ idC L[i] ∈ A ∨ hitI L A i L.length := by
  have hx : idC L[i] ∈ cids L := List.mem_map_of_mem (List.getElem_mem hi)
  constructor
  · rintro ⟨_, h | ⟨y, hy, hk⟩⟩
    · exact .inl h
    · have hyc := (knows_ids hk).1
      obtain ⟨z, hz, hze⟩ := List.getElem_of_mem hyc
      have hz' : z < L.length := by rw [← cids_length]; exact hz
      rw [cids_get L z hz] at hze
      subst hze
      exact .inr ⟨z, hz', hz', hy, (knowsI_iff hc.nodup hz' hi).2 hk⟩
  · rintro (h | ⟨z, hz, _, hA, hk⟩)
    · exact ⟨hx, .inl h⟩
    · exact ⟨hx, .inr ⟨_, hA, (knowsI_iff hc.nodup hz hi).1 hk⟩⟩
theorem ancR_of {L : List Commit} (hc : Closed L) {A out : List ID} (h : ∀ x, x ∈ out ↔ ∃ i, ∃ hi : i < L.length, i < L.length ∧ x = idC L[i] ∧ inAnc L A x) : AncR L A (sortL (setOf out)) := by
  refine ⟨sortL_pairwise _, (sortL_perm' _).nodup_iff.2 (setOf_nodup _), fun _ x => ?_, fun hn => (hn hc).elim⟩
  rw [mem_sortL, mem_setOf, h]
  constructor
  · rintro ⟨_, _, _, _, h⟩; exact h
  · intro h
    obtain ⟨i, hi, hie⟩ := List.getElem_of_mem h.1
    have hi' : i < L.length := by rw [← cids_length]; exact hi
    exact ⟨i, hi', hi', by rw [← hie, cids_get L i hi], h⟩
set_option maxHeartbeats 4000000 in
theorem anc_ref (w : World) (F : Nat → Prop) (a d : Option Addr) (k m : Nat) (L : List Commit) (A : List ID) (h : (sl a k L).holds F w) (h' : (sl d m A).holds F w) (hl : L.length ≤ 1000) (hf : ∀ x ∈ L, fine x) (hq : ∀ x ∈ L, x.parents.length ≤ 1000) :
    Gives Tryz.prog 60 [.slice a L.length k, .slice d A.length m] w F (fun y : AncY L A => .slice y.1.2.1 y.1.1.length y.1.2.2) (fun y => [.st (sl y.1.2.1 y.1.2.2 y.1.1)]) := by
  refine gives_of Tryz.func60 rfl Tryz.ntmps60 rfl rfl [.st (sl a k L), .st (sl d m A)] (.start2 h h') ?_
  repeat (first|refine Wa ?_|refine Wb ?_|refine Wc ?_|refine Wd ?_|refine We rfl ?_|refine Wf (by first|exact Va|exact Vb) rfl ?_)
  refine JR.call (v := fun y : IsClosed L => .bool y.1) (B := fun _ => []) rfl (fun w1 hw => closed_ref w1 _ a k L hw.get hl hf hq) ?_
  rintro ⟨b, hb⟩
  simp only [List.nil_append]
  cases b with
  | false =>
    have hno : ¬ Closed L := fun hc => by have := hb.2 hc; cases this
    repeat (first|refine Wa ?_|refine Wb ?_|refine Wc ?_|refine Wd ?_|refine We rfl ?_|refine Wf (by first|exact Va|exact Vb|exact Vh) rfl ?_|refine Wj ?_|refine Ws ?_|refine Wt ?_)
    exact CT.done (Y := AncY L A) ⟨([], none, 0), ⟨List.Pairwise.nil, List.nodup_nil, fun hc => (hno hc).elim, fun _ => rfl⟩⟩ rfl (fun w ho => (Hold.add (A := sl (α := ID) none 0 []) (ho.ent : Hold _ _ [] w) sl_nil))
  | true =>
  have hc := hb.1 rfl
  have hids := idsP_all hc.may
  have hcl := cids_length L
  repeat (first|refine Wa ?_|refine Wb ?_|refine Wc ?_|refine Wd ?_|refine We rfl ?_|refine Wf (by first|exact Va|exact Vb|exact Vh) rfl ?_|refine Wk ?_|refine Wl ?_)
  refine JR.callSl rfl (fun w1 hw => ids_ref w1 _ a k L hw.get (by omega) hf) ?_
  intro e n
  rw [hids]
  repeat (first|refine Wa ?_|refine Wb ?_|refine Wc ?_|refine Wd ?_|refine We rfl ?_|refine Wf (by first|exact Va|exact Vb) rfl ?_)
  refine JR.call1 (v := fun y : KnowsY L => .slice y.1.2.1 y.1.1.length y.1.2.2) (B := fun y => .st (sl y.1.2.1 y.1.2.2 y.1.1)) rfl (fun w1 hw => knows_ref w1 _ a e k n L hw.get hw.get hl hq) ?_
  rintro ⟨⟨K, f, o⟩, hK⟩
  dsimp only at hK ⊢
  repeat (first|refine Wa ?_|refine Wb ?_|refine Wc ?_|refine Wd ?_|refine We rfl ?_|refine Wf (by exact Vb) rfl ?_|refine Wn ?_)
  refine JC.buf_nil (α := ID) 47 ?_
  refine JC.loop4 (fun (i : Nat) (out : List ID) r s => [(0, .slice a L.length k), (1, .slice d A.length m), (6, .slice e (cids L).length n), (7, .slice f K.length o), (8, .slice r out.length s), (9, .int .i64 (i : Int))])
    (fun i out r s => [.res (buf r s 47 out), .st (sl e n (cids L)), .st (sl f o K), .st (sl a k L), .st (sl d m A)])
    (fun i out r s => i ≤ L.length ∧ out.length ≤ i ∧ ∀ x, x ∈ out ↔ ∃ y, ∃ hy : y < L.length, y < i ∧ x = idC L[y] ∧ inAnc L A x) (fun i _ _ _ => L.length - i) 0 [] none 0 ⟨Nat.zero_le _, by simp, fun x => by simp⟩ inferInstance ?_
  intro i out r s ⟨hi, hol, hom⟩
  repeat (first|refine Wa ?_|refine Wb ?_|refine Wc ?_|refine Wd ?_|refine We rfl ?_|refine Wf (by first|exact Va|exact Vf|exact Vg) rfl ?_)
  refine JC.test (fun hlt => ?_) (fun hge => ?_)
  · have hlt' : i < L.length := by omega
    have hxe : (cids L)[i]'(by omega) = idC L[i] := cids_get L i (by omega)
    have hnx : ∀ x, (∃ y, ∃ hy : y < L.length, y < i + 1 ∧ x = idC L[y] ∧ inAnc L A x) ↔ x ∈ out ∨ (x = idC L[i] ∧ inAnc L A x) := fun x => by
      rw [hom]
      constructor
      · rintro ⟨y, hy, hyi, h⟩
        by_cases e : y = i
        · subst e; exact .inr h
        · exact .inl ⟨y, hy, by omega, h⟩
      · rintro (⟨y, hy, hyi, h⟩ | h)
        · exact ⟨y, hy, by omega, h⟩
        · exact ⟨i, hlt', by omega, h⟩
    repeat (first|refine Wa ?_|refine Wb ?_|refine Wc ?_|refine We rfl ?_|refine Wf (by exact Va) rfl ?_|refine Wl ?_|refine Wn ?_)
    refine JR.indexID (L := cids L) (k := i) rfl (by omega) ?_
    intro b1 o1
    rw [hxe]
    repeat (first|refine We rfl ?_|refine Wf (by exact Vc) rfl ?_)
    refine JR.callV rfl (fun w1 hw => hasid_ref w1 _ d m A (idC L[i]) hw.get) ?_
    repeat (first|refine Wa ?_|refine Wb ?_|refine Wc ?_|refine Wd ?_|refine We rfl ?_|refine Wf (by exact Vb) rfl ?_|refine Wn ?_)
    refine JC.loop2 (fun (j : Nat) (b : Bool) => [(0, .slice a L.length k), (1, .slice d A.length m), (6, .slice e (cids L).length n), (7, .slice f K.length o), (8, .slice r out.length s), (9, .int .i64 (i : Int)), (10, .bool b), (11, .int .i64 (j : Int))]) (fun j b => [.res (buf r s 47 out), .st (sl e n (cids L)), .st (sl f o K), .st (sl a k L), .st (sl d m A)])
      (fun j b => j ≤ L.length ∧ (b = true ↔ idC L[i] ∈ A ∨ hitI L A i j)) (fun j _ => L.length - j) 0 (decide (idC L[i] ∈ A)) ⟨Nat.zero_le _, by rw [decide_eq_true_iff]; exact ⟨.inl, fun h => h.elim id fun h => (hitI_zero h).elim⟩⟩ inferInstance ?_
    intro j b ⟨hj, hbj⟩
    repeat (first|refine Wa ?_|refine Wb ?_|refine Wc ?_|refine Wd ?_|refine We rfl ?_|refine Wf (by first|exact Va|exact Vf|exact Vg) rfl ?_)
    refine JC.test (fun hltj => ?_) (fun hgej => ?_)
    · have hj' : j < L.length := by omega
      have hKj : j < K.length := by rw [hK.square.1]; exact hj'
      have hKjl : K[j].length = L.length := hK.square.2 j hKj
      have hye : (cids L)[j]'(by omega) = idC L[j] := cids_get L j (by omega)
      repeat (first|refine Wa ?_|refine Wb ?_|refine Wc ?_|refine We rfl ?_|refine Wf (by exact Va) rfl ?_|refine Wl ?_|refine Wn ?_)
      refine JR.indexID (L := cids L) (k := j) rfl (by omega) ?_
      intro b2 o2
      rw [hye]
      repeat (first|refine We rfl ?_|refine Wf (by exact Vc) rfl ?_)
      refine JR.callV rfl (fun w1 hw => hasid_ref w1 _ d m A (idC L[j]) hw.get) ?_
      cases b with
      | true =>
        repeat (first|refine Wa ?_|refine Wc ?_|refine Wd ?_|refine We rfl ?_|refine Wf (by first|exact Va|exact Vb|exact Vi|exact Vk (by omega)) rfl ?_|refine Wr ?_|refine Wv rfl rfl ?_|refine Wx rfl rfl ?_)
        exact ⟨j + 1, true, ⟨by omega, ⟨fun _ => (hbj.1 rfl).imp id fun h => (hitI_succ hj').2 (.inl h), fun _ => rfl⟩⟩, by omega, inferInstance⟩
      | false =>
        cases hhas : decide (idC L[j] ∈ A) with
        | true =>
          have hA := of_decide_eq_true hhas
          repeat (first|refine Wa ?_|refine Wc ?_|refine Wd ?_|refine We rfl ?_|refine Wf (by first|exact Va|exact Vb) rfl ?_)
          refine JR.indexRow (L := K) (k := j) rfl hKj ?_
          intro b6 o6 p6 q6
          repeat (first|refine We rfl ?_|refine Wf (by first|exact Va|exact Vc) rfl ?_)
          refine JR.indexBool (L := K[j]) (k := i) rfl (by omega) ?_
          intro b7 o7
          repeat (first|refine Wa ?_|refine Wc ?_|refine Wd ?_|refine We rfl ?_|refine Wf (by first|exact Va|exact Vb|exact Vc|exact Vi|exact Vj|exact Vk (by omega)) rfl ?_|refine Wr ?_)
          refine ⟨j + 1, K[j][i]'(by omega), ⟨by omega, ?_⟩, by omega, inferInstance⟩
          have h1 := hK.iff j i
          rw [get_eq hKj (by omega)] at h1
          rw [h1]
          constructor
          · exact fun h => .inr ((hitI_succ hj').2 (.inr ⟨hA, h⟩))
          · rintro (h | h)
            · have := hbj.2 (.inl h); cases this
            · rcases (hitI_succ hj').1 h with h | h
              · have := hbj.2 (.inr h); cases this
              · exact h.2
        | false =>
          have hA := of_decide_eq_false hhas
          repeat (first|refine Wa ?_|refine Wc ?_|refine Wd ?_|refine We rfl ?_|refine Wf (by first|exact Va|exact Vb|exact Vj|exact Vk (by omega)) rfl ?_|refine Wr ?_|refine Wv rfl rfl ?_)
          refine ⟨j + 1, false, ⟨by omega, ⟨fun h => Bool.noConfusion h, fun h => hbj.2 (Or.imp id (fun h => ?_) h)⟩⟩, by omega, inferInstance⟩
          exact ((hitI_succ hj').1 h).elim id fun h => (hA h.1).elim
    · obtain rfl : j = L.length := by omega
      have hin : inAnc L A (idC L[i]) ↔ b = true := (inAnc_iff hc hlt').trans hbj.symm
      repeat (first|refine Wa ?_|refine Wb ?_|refine Wc ?_|refine Wd ?_|refine We rfl ?_|refine Wf (by exact Va) rfl ?_|refine Wm ?_|refine Wo ?_|refine Wp ?_)
      cases b with
      | true =>
        repeat (first|refine Wc ?_|refine We rfl ?_|refine Wf (by exact Va) rfl ?_|refine Wj ?_)
        refine JR.indexID (L := cids L) (k := i) rfl (by omega) ?_
        intro b3 o3
        rw [hxe]
        repeat (first|refine We rfl ?_|refine Wf (by exact Vc) rfl ?_|(refine Ww rfl ⟨rfl, by decide, by decide, by decide⟩ ?_; intro _))
        refine JR.append1 (u := idC L[i]) rfl (by exact ⟨rfl, rfl, by decide⟩) (by omega) ?_
        intro r2 s2
        repeat (first|refine Wa ?_|refine Wc ?_|refine Wd ?_|refine We rfl ?_|refine Wf (by first|exact Va|exact Vb|exact Vk (by omega)) rfl ?_|refine Wr ?_)
        refine ⟨i + 1, out ++ [idC L[i]], r2, s2, ⟨by omega, by simp; omega, fun x => ?_⟩, by omega, inferInstance⟩
        rw [hnx, List.mem_append, List.mem_singleton]
        exact or_congr_right ⟨fun h => ⟨h, h ▸ hin.2 rfl⟩, fun h => h.1⟩
      | false =>
        repeat (first|refine Wa ?_|refine Wc ?_|refine Wd ?_|refine We rfl ?_|refine Wf (by first|exact Va|exact Vb|exact Vk (by omega)) rfl ?_|refine Wk ?_|refine Wl ?_|refine Wr ?_)
        refine ⟨i + 1, out, r, s, ⟨by omega, by omega, fun x => ?_⟩, by omega, inferInstance⟩
        rw [hnx]
        refine ⟨.inl, fun h => h.elim id fun h => ?_⟩
        have := hin.1 (h.1 ▸ h.2)
        cases this
  · obtain rfl : i = L.length := by omega
    refine JC.more (fun w1 ho => ho.pub) ?_
    repeat (first|refine Wa ?_|refine Wb ?_|refine Wc ?_|refine We rfl ?_|refine Wf (by exact Va) rfl ?_|refine Wm ?_|refine Wo ?_|refine Wp ?_)
    refine JR.callSl rfl (fun w1 hw => sort_ref w1 _ r s out hw.get (by omega)) ?_
    intro p2 q2
    repeat (first|refine Wa ?_|refine Wd ?_|refine We rfl ?_|refine Wf (by exact Vb) rfl ?_|refine Ws ?_)
    exact CT.done (Y := AncY L A) ⟨(sortL (setOf out), p2, q2), ancR_of hc hom⟩ rfl (fun w ho => ho.ent)
end Ab
end Go.Proofs.YtglclakhjmogiaaGreat

/- Contract of the document's layer 11: Part. -/
namespace Go.Proofs.YtglclakhjmogiaaGreat
namespace Ab
open Go Go.RowKit
set_option linter.unusedVariables false
set_option linter.unusedSimpArgs false
set_option synthInstance.maxSize 4000
set_option synthInstance.maxHeartbeats 400000
attribute [local irreducible] JC JO JR JQ andThen inBlock OpV Gives retTo JM JS

attribute [local irreducible] hashC
set_option maxHeartbeats 4000000 in
theorem part_ref (w : World) (F : Nat → Prop) (a d : Option Addr) (k m : Nat) (L : List Commit) (A : List ID) (h : (sl a k L).holds F w) (h' : (sl d m A).holds F w) (hl : L.length ≤ 1000) (hf : ∀ x ∈ L, fine x) (hq : ∀ x ∈ L, x.parents.length ≤ 1000) :
    Gives Tryz.prog 64 [.slice a L.length k, .slice d A.length m] w F (fun y : PartY L A => .slice y.1.2.1 y.1.1.length y.1.2.2) (fun y => [.st (sl y.1.2.1 y.1.2.2 y.1.1)]) := by
  refine gives_of Tryz.func64 rfl Tryz.ntmps64 rfl rfl [.st (sl a k L), .st (sl d m A)] (.start2 h h') ?_
  repeat (first|refine Wa ?_|refine Wb ?_|refine Wc ?_|refine Wd ?_|refine We rfl ?_|refine Wf (by first|exact Va|exact Vb) rfl ?_)
  refine JR.call (v := fun y : IsClosed L => .bool y.1) (B := fun _ => []) rfl (fun w1 hw => closed_ref w1 _ a k L hw.get hl hf hq) ?_
  rintro ⟨b, hb⟩
  simp only [List.nil_append]
  cases b with
  | false =>
    have hno : ¬ Closed L := fun hc => by have := hb.2 hc; cases this
    repeat (first|refine Wa ?_|refine Wb ?_|refine Wc ?_|refine Wd ?_|refine We rfl ?_|refine Wf (by first|exact Va|exact Vb|exact Vh) rfl ?_|refine Wj ?_|refine Ws ?_|refine Wt ?_)
    exact CT.done (Y := PartY L A) ⟨([], none, 0), ⟨fun hc => (hno hc).elim, fun _ => rfl⟩⟩ rfl (fun w ho => (Hold.add (A := sl (α := Commit) none 0 []) (ho.ent : Hold _ _ [] w) sl_nil))
  | true =>
  have hc := hb.1 rfl
  have hids := idsP_all hc.may
  have hcl := cids_length L
  repeat (first|refine Wa ?_|refine Wb ?_|refine Wc ?_|refine Wd ?_|refine We rfl ?_|refine Wf (by first|exact Va|exact Vb|exact Vh) rfl ?_|refine Wk ?_|refine Wl ?_)
  refine JR.callSl rfl (fun w1 hw => ids_ref w1 _ a k L hw.get (by omega) hf) ?_
  intro e n
  rw [hids]
  repeat (first|refine Wa ?_|refine Wb ?_|refine Wc ?_|refine Wd ?_|refine We rfl ?_|refine Wf (by exact Vb) rfl ?_|refine Wn ?_)
  refine JC.buf_nil (α := Commit) 34 ?_
  refine JC.loop4 (fun (i : Nat) (out : List Commit) r s => [(0, .slice a L.length k), (1, .slice d A.length m), (6, .slice e (cids L).length n), (7, .slice r out.length s), (8, .int .i64 (i : Int))])
    (fun i out r s => [.res (buf r s 34 out), .st (sl e n (cids L)), .st (sl a k L), .st (sl d m A)]) (fun i out _ _ => i ≤ L.length ∧ out.length ≤ i ∧ out = (L.take i).filter (fun c => decide (idC c ∈ A))) (fun i _ _ _ => L.length - i) 0 [] none 0 ⟨Nat.zero_le _, by simp, by simp⟩ inferInstance ?_
  intro i out r s ⟨hi, hol, hout⟩
  repeat (first|refine Wa ?_|refine Wb ?_|refine Wc ?_|refine Wd ?_|refine We rfl ?_|refine Wf (by first|exact Va|exact Vf|exact Vg) rfl ?_)
  refine JC.test (fun hlt => ?_) (fun hge => ?_)
  · have hlt' : i < L.length := by omega
    have hxe : (cids L)[i]'(by omega) = idC L[i] := cids_get L i (by omega)
    have hnx : (L.take (i + 1)).filter (fun c => decide (idC c ∈ A)) = out ++ (if idC L[i] ∈ A then [L[i]] else []) := by
      rw [List.take_succ_eq_append_getElem hlt', List.filter_append, ← hout]
      congr 1
      by_cases hA : idC L[i] ∈ A <;> simp [hA]
    repeat (first|refine Wa ?_|refine Wb ?_|refine Wc ?_|refine We rfl ?_|refine Wf (by exact Va) rfl ?_|refine Wl ?_|refine Wn ?_)
    refine JR.indexID (L := cids L) (k := i) rfl (by omega) ?_
    intro bi oi
    rw [hxe]
    repeat (first|refine We rfl ?_|refine Wf (by exact Vc) rfl ?_)
    refine JR.callV rfl (fun w1 hw => hasid_ref w1 _ d m A (idC L[i]) hw.get) ?_
    repeat (first|refine Wa ?_|refine Wb ?_|refine Wc ?_|refine Wd ?_|refine We rfl ?_|refine Wf (by first|exact Va|exact Vb) rfl ?_)
    refine JC.test (fun hA => ?_) (fun hA => ?_)
    · repeat (first|refine Wc ?_|refine We rfl ?_|refine Wf (by exact Va) rfl ?_)
      refine JR.indexCommit rfl hlt' ?_
      intro b1 o1 p1 q1
      repeat (first|refine We rfl ?_|refine Wf (by exact Vc) rfl ?_|(refine Ww rfl ⟨rfl, by decide, by decide, by decide⟩ ?_; intro _))
      refine JR.append1 (u := L[i]) rfl (by exact ⟨rfl, rfl, by decide⟩) (by omega) ?_
      intro r2 s2
      repeat (first|refine Wa ?_|refine Wc ?_|refine Wd ?_|refine We rfl ?_|refine Wf (by first|exact Va|exact Vb|exact Vk (by omega)) rfl ?_|refine Wr ?_)
      exact ⟨i + 1, out ++ [L[i]], r2, s2, ⟨by omega, by simp; omega, by rw [hnx, if_pos hA]⟩, by omega, inferInstance⟩
    · repeat (first|refine Wa ?_|refine Wc ?_|refine Wd ?_|refine We rfl ?_|refine Wf (by first|exact Va|exact Vb|exact Vk (by omega)) rfl ?_|refine Wl ?_|refine Wr ?_)
      exact ⟨i + 1, out, r, s, ⟨by omega, by omega, by rw [hnx, if_neg hA, List.append_nil]⟩, by omega, inferInstance⟩
  · obtain rfl : i = L.length := by omega
    rw [List.take_length] at hout
    refine JC.more (fun w1 ho => ho.pub) ?_
    repeat (first|refine Wa ?_|refine Wb ?_|refine Wc ?_|refine Wd ?_|refine We rfl ?_|refine Wf (by first|exact Va|exact Vb) rfl ?_|refine Wm ?_|refine Wo ?_|refine Wp ?_|refine Ws ?_)
    exact CT.done (Y := PartY L A) ⟨(out, r, s), ⟨fun _ => hout, fun hn => (hn hc).elim⟩⟩ rfl (fun w ho => ho.ent)
end Ab
end Go.Proofs.YtglclakhjmogiaaGreat

/- Contract of the document's layer 11: Sorted. -/
namespace Go.Proofs.YtglclakhjmogiaaGreat
namespace Ab
open Go Go.RowKit
set_option linter.unusedVariables false
set_option linter.unusedSimpArgs false
set_option synthInstance.maxSize 4000
set_option synthInstance.maxHeartbeats 400000
attribute [local irreducible] JC JO JR JQ andThen inBlock OpV Gives retTo JM JS

attribute [local irreducible] hashC
instance : Cell Nat where
  Ix := Unit
  sz := 1
  cells n _ := [natV n]
  facts _ _ := []
  len _ _ := rfl
  one _ _ := One.ok
  pos := by decide
instance {Γ : List Fact} {n : Nat} : Typed Γ [natV n] n := ⟨(), rfl, by simp [Cell.facts]⟩
instance {Γ : List Fact} {n : Nat} : Typed Γ [.int .i64 (n : Int)] n := ⟨(), rfl, by simp [Cell.facts]⟩
section
variable {P : Program} {n : Nat} {w0 : World} {F : Nat → Prop} {ops : Array Oper} {i d : Nat} {t : TypeId} {pos : String} {aft : Array Edge} {g : Option (Nat × Bool)} {os : List Oper} {Q : Cont} {e : E} {Γ : List Fact} [Dr]
end
theorem leS_trans {a b c : Commit} (h1 : leS a b) (h2 : leS b c) : leS a c := by
  rcases h1 with h1 | ⟨h1, h3⟩ <;> rcases h2 with h2 | ⟨h2, h4⟩
  · exact .inl (by omega)
  · exact .inl (by omega)
  · exact .inl (by omega)
  · exact .inr ⟨by omega, idLe_trans h3 h4⟩
def atC (L : List Commit) (i : Nat) : Commit := L.getD i commit0
structure Ins (L : List Commit) (i : Nat) (O : List Nat) : Prop where
  perm : O.Perm (List.range i)
  sorted : O.Pairwise (fun x y => leS (atC L x) (atC L y))
theorem Ins.length {L : List Commit} {i : Nat} {O : List Nat} (h : Ins L i O) : O.length = i := by rw [h.perm.length_eq, List.length_range]
theorem Ins.lt {L : List Commit} {i : Nat} {O : List Nat} (h : Ins L i O) {j : Nat} (hj : j < O.length) : O[j] < i := List.mem_range.1 (h.perm.mem_iff.1 (List.getElem_mem hj))
theorem Ins.next {L : List Commit} {i : Nat} {O : List Nat} (h : Ins L i O) (at_ : Nat) (hle : at_ ≤ O.length) (hup : ∀ j (hj : j < O.length), at_ ≤ j → leS (atC L i) (atC L O[j]))
    (hdn : ∀ (h0 : 0 < at_), leS (atC L (O[at_ - 1]'(by omega))) (atC L i)) : Ins L (i + 1) (O.take at_ ++ [i] ++ O.drop at_) := by
  refine ⟨?_, ?_⟩
  · rw [List.range_succ, List.append_assoc]
    refine List.Perm.trans ((List.perm_append_comm (l₁ := [i]) (l₂ := O.drop at_)).append_left _) ?_
    rw [← List.append_assoc, List.take_append_drop]
    exact h.perm.append_right _
  · have hs2 : (O.take at_ ++ O.drop at_).Pairwise (fun x y => leS (atC L x) (atC L y)) := by rw [List.take_append_drop]; exact h.sorted
    rw [List.pairwise_append] at hs2
    rw [List.append_assoc, List.pairwise_append]
    refine ⟨hs2.1, ?_, ?_⟩
    · rw [List.singleton_append, List.pairwise_cons]
      refine ⟨fun y hy => ?_, hs2.2.1⟩
      obtain ⟨j, hj, rfl⟩ := List.getElem_of_mem hy
      rw [List.length_drop] at hj
      rw [List.getElem_drop]
      exact hup _ (by omega) (by omega)
    · intro y hy z hz
      rcases List.mem_append.1 hz with hz | hz
      · rw [List.mem_singleton.1 hz]
        obtain ⟨j, hj, rfl⟩ := List.getElem_of_mem hy
        rw [List.length_take] at hj
        have h0 : 0 < at_ := by omega
        rw [List.getElem_take]
        by_cases hja : j = at_ - 1
        · subst hja; exact hdn h0
        · exact leS_trans (List.pairwise_iff_getElem.1 h.sorted j (at_ - 1) (by omega) (by omega) (by omega)) (hdn h0)
      · exact hs2.2.2 y hy z hz
end Ab
end Go.Proofs.YtglclakhjmogiaaGreat

/- The law DagTells returns true. -/
namespace Go.Proofs.YtglclakhjmogiaaGreat
namespace Ab
open Go Go.RowKit
set_option linter.unusedVariables false
set_option linter.unusedSimpArgs false
set_option synthInstance.maxSize 4000
set_option synthInstance.maxHeartbeats 400000
attribute [local irreducible] JC JO JR JQ andThen inBlock OpV Gives retTo JM JS

attribute [local irreducible] hashC idA l0 l1 ents
theorem isClosed_unique {L : List Commit} {b c : Bool} (h : b = true ↔ Closed L) (k : c = true ↔ Closed L) : b = c := Bool.eq_iff_iff.2 (h.trans k.symm)
theorem PartR.unique {L : List Commit} {A : List ID} {M N : List Commit} (h : PartR L A M) (k : PartR L A N) : M = N := by
  by_cases hc : Closed L
  · rw [h.part hc, k.part hc]
  · rw [h.not hc, k.not hc]
theorem SortedR.unique {L M N : List Commit} (h : SortedR L M) (k : SortedR L N) : M = N := by
  by_cases hc : Closed L
  · exact sorted_uniqueC hc.nodup (h.perm hc) (k.perm hc) (h.sorted hc) (k.sorted hc)
  · rw [h.not hc, k.not hc]
theorem closed_dagV (w : World) (F : Nat → Prop) (a : Option Addr) (k : Nat) (L : List Commit) (b : Bool) (h : (sl a k L).holds F w) (hl : L.length ≤ 1000) (hf : ∀ x ∈ L, fine x) (hb : b = true ↔ Closed L) :
    GivesV Tryz.prog 29 [.slice a L.length k] w F (.bool b) := by
  have h0 := closed_dag w F a k L h (by omega) hf
  unfold Gives at h0
  unfold GivesV Gives
  refine Calls.mono h0 ?_
  rintro e w' ⟨y, rfl, h1, hB⟩
  refine ⟨(), ?_, h1, hB⟩
  have := isClosed_unique y.2 hb
  dsimp only
  rw [this]
theorem closed_refV (w : World) (F : Nat → Prop) (a : Option Addr) (k : Nat) (L : List Commit) (b : Bool) (h : (sl a k L).holds F w) (hl : L.length ≤ 1000) (hf : ∀ x ∈ L, fine x) (hq : ∀ x ∈ L, x.parents.length ≤ 1000) (hb : b = true ↔ Closed L) :
    GivesV Tryz.prog 54 [.slice a L.length k] w F (.bool b) := by
  have h0 := closed_ref w F a k L h hl hf hq
  unfold Gives at h0
  unfold GivesV Gives
  refine Calls.mono h0 ?_
  rintro e w' ⟨y, rfl, h1, hB⟩
  refine ⟨(), ?_, h1, hB⟩
  have := isClosed_unique y.2 hb
  dsimp only
  rw [this]
theorem anc_refS (w : World) (F : Nat → Prop) (a d : Option Addr) (k m : Nat) (L : List Commit) (A M : List ID) (h : (sl a k L).holds F w) (h' : (sl d m A).holds F w) (hl : L.length ≤ 1000) (hf : ∀ x ∈ L, fine x) (hq : ∀ x ∈ L, x.parents.length ≤ 1000) (hM : AncR L A M) :
    GivesSl Tryz.prog 60 [.slice a L.length k, .slice d A.length m] w F M := by
  have h0 := anc_ref w F a d k m L A h h' hl hf hq
  unfold Gives at h0
  unfold GivesSl Gives
  refine Calls.mono h0 ?_
  rintro e w' ⟨⟨⟨N, p, q⟩, hN⟩, rfl, hb, hB⟩
  have : N = M := hN.unique hM
  subst this
  exact ⟨(p, q), rfl, hb, hB⟩
theorem part_refS (w : World) (F : Nat → Prop) (a d : Option Addr) (k m : Nat) (L M : List Commit) (A : List ID) (h : (sl a k L).holds F w) (h' : (sl d m A).holds F w) (hl : L.length ≤ 1000) (hf : ∀ x ∈ L, fine x) (hq : ∀ x ∈ L, x.parents.length ≤ 1000) (hM : PartR L A M) :
    GivesSl Tryz.prog 64 [.slice a L.length k, .slice d A.length m] w F M := by
  have h0 := part_ref w F a d k m L A h h' hl hf hq
  unfold Gives at h0
  unfold GivesSl Gives
  refine Calls.mono h0 ?_
  rintro e w' ⟨⟨⟨N, p, q⟩, hN⟩, rfl, hb, hB⟩
  have : N = M := hN.unique hM
  subst this
  exact ⟨(p, q), rfl, hb, hB⟩
theorem part_dagS (w : World) (F : Nat → Prop) (a d : Option Addr) (k m : Nat) (L M : List Commit) (A : List ID) (h : (sl a k L).holds F w) (h' : (sl d m A).holds F w) (hl : L.length ≤ 1000) (hf : ∀ x ∈ L, fine x) (hM : PartR L A M) :
    GivesSl Tryz.prog 61 [.slice a L.length k, .slice d A.length m] w F M := by
  have h0 := part_dag w F a d k m L A h h' hl hf
  unfold Gives at h0
  unfold GivesSl Gives
  refine Calls.mono h0 ?_
  rintro e w' ⟨⟨⟨N, p, q⟩, hN⟩, rfl, hb, hB⟩
  have : N = M := hN.unique hM
  subst this
  exact ⟨(p, q), rfl, hb, hB⟩
end Ab
end Go.Proofs.YtglclakhjmogiaaGreat

/- Contracts: front.top, Front, Join, Head, Base. -/
namespace Go.Proofs.YtglclakhjmogiaaGreat
namespace Ab
open Go Go.RowKit
set_option linter.unusedVariables false
set_option linter.unusedSimpArgs false
set_option synthInstance.maxSize 4000
set_option synthInstance.maxHeartbeats 400000
attribute [local irreducible] JC JO JR JQ andThen inBlock OpV Gives retTo JM JS

attribute [local irreducible] hashC idA l0 l1 ents
theorem topL_next {L : List Commit} {i : Nat} (h : i < L.length) : topL (L.take (i + 1)) = max (topL (L.take i)) L[i].gen := by
  simp only [topL, List.take_succ_eq_append_getElem h, List.foldl_append, List.foldl_cons, List.foldl_nil]
theorem may_parents {c : Commit} (h : may c = true) : c.parents.length ≤ 8 := by
  unfold may at h
  split at h
  · cases h
  · rename_i hn
    simp only [Bool.or_eq_true, not_or, decide_eq_true_eq] at hn
    omega
theorem parents_may : ∀ {L : List Commit}, (∀ c ∈ L, may c = true) → (parentsL L).length ≤ 8 * L.length
  | [], _ => by simp [parentsL]
  | c :: L, h => by
    have h1 := parents_may (L := L) fun d hd => h d (by simp [hd])
    have h2 := may_parents (h c (by simp))
    simp only [parentsL, List.flatMap_cons, List.length_append, List.length_cons] at h1 ⊢
    omega
theorem partF_sub {L : List Commit} {A : List ID} : (partF L A).Sublist L := by
  unfold partF
  split
  · exact List.filter_sublist
  · exact List.nil_sublist _
theorem topL_le {M N : List Commit} (h : ∀ c ∈ M, c ∈ N) : topL M ≤ topL N := by
  rcases (topL_key M 0).2.2 with h3 | ⟨d, hd, h3⟩
  · have : topL M = 0 := h3
    have := topL_pos N
    omega
  · have : d.gen = topL M := h3
    have := topL_ge N (h d hd)
    omega
theorem topL_part {L : List Commit} (A : List ID) (hl : L.length ≤ 1000) : topL (partF L A) ≤ 1000 := by
  by_cases hc : Closed L
  · have h1 := topL_le (fun c hm => partF_sub.mem hm : ∀ c ∈ partF L A, c ∈ L)
    have h2 := topL_few hc
    omega
  · rw [(partF_ok L A).not hc]; decide
set_option maxHeartbeats 1000000 in
theorem top_front (w : World) (F : Nat → Prop) (a : Option Addr) (k : Nat) (L : List Commit) (h : (sl a k L).holds F w) :
    GivesV Tryz.prog 63 [.slice a L.length k] w F (.int .i64 (topL L)) := by
  have hL : L.length < 9223372036854775807 := by have := h.2.2.1; simp only [lim] at this; omega
  refine gives_of Tryz.func63 rfl Tryz.ntmps63 rfl rfl [.st (sl a k L)] (.start1 h) ?_
  repeat (first|refine Wa ?_|refine Wb ?_|refine Wc ?_|refine Wd ?_|refine We rfl ?_|refine Wf (by first|exact Va|exact Vb|exact Vf) rfl ?_|refine Wn ?_)
  refine JC.loop1 (fun i : Nat => [(3, .int .i64 (topL (L.take i))), (6, .slice a L.length k), (7, .int .i64 (L.length : Int)), (8, .int .i64 (i : Int))]) (fun i => [.st (sl a k L)]) (fun i => i ≤ L.length) (fun i => L.length - i) 0 (Nat.zero_le _) (by rw [List.take_zero, show topL [] = 0 from rfl]; infer_instance) ?_
  intro i hi
  repeat (first|refine Wa ?_|refine Wb ?_|refine Wc ?_|refine Wd ?_|refine We rfl ?_|refine Wf (by exact Vg) rfl ?_)
  refine JC.test (fun hlt => ?_) (fun hge => ?_)
  · have hlt' : i < L.length := by omega
    repeat (first|refine Wa ?_|refine Wb ?_|refine Wc ?_|refine We rfl ?_|refine Wl ?_|refine Wn ?_)
    refine JR.indexCommit rfl hlt' ?_
    intro b1 o1 p1 q1
    repeat (first|refine Wa ?_|refine Wc ?_|refine Wd ?_|refine We rfl ?_|refine Wf (by first|exact Va|exact Vc|exact Vd) rfl ?_|(refine Wg rfl ?_; intro _)|refine Wi ?_)
    refine Wf OpV.max rfl ?_
    repeat (first|refine Wa ?_|refine Wc ?_|refine Wd ?_|refine We rfl ?_|refine Wf (by first|exact Va|exact Vb|exact Vk (by omega)) rfl ?_|refine Wr ?_)
    exact ⟨i + 1, by omega, by omega, by rw [topL_next hlt']; infer_instance⟩
  · obtain rfl : i = L.length := by omega
    rw [List.take_length]
    repeat (first|refine Wa ?_|refine Wb ?_|refine Wc ?_|refine Wd ?_|refine We rfl ?_|refine Wf (by first|exact Va|exact Vb) rfl ?_|refine Wm ?_|refine Wo ?_|refine Wp ?_|refine Ws ?_)
    exact CT.done () rfl (fun w ho => ho.ent)
set_option maxHeartbeats 1000000 in
theorem front_front (w : World) (F : Nat → Prop) (a : Option Addr) (k : Nat) (L : List Commit) (h : (sl a k L).holds F w) (hl : L.length ≤ 1000) (hf : ∀ x ∈ L, fine x) :
    GivesSl Tryz.prog 18 [.slice a L.length k] w F (frontF L) := by
  refine gives_of Tryz.func18 rfl Tryz.ntmps18 rfl rfl [.st (sl a k L)] (.start1 h) ?_
  repeat (first|refine Wa ?_|refine Wb ?_|refine Wc ?_|refine Wd ?_|refine We rfl ?_|refine Wf (by first|exact Va|exact Vb) rfl ?_)
  refine JR.callV rfl (fun w1 hw => closed_dagV w1 _ a k L (closedB L) hw.get (by omega) hf closedB_iff) ?_
  cases hb : closedB L with
  | false =>
    repeat (first|refine Wa ?_|refine Wb ?_|refine Wc ?_|refine Wd ?_|refine We rfl ?_|refine Wf (by first|exact Vb|exact Vh) rfl ?_|refine Wj ?_|refine Ws ?_|refine Wt ?_)
    rw [front_not (fun hc => by rw [closedB_yes hc] at hb; cases hb)]
    exact CT.done (none, 0) rfl (fun w ho => (ho.ent : Hold _ _ [] w).add sl_nil)
  | true =>
  have hc := closedB_iff.1 hb
  have hpl := parents_may hc.may
  repeat (first|refine Wa ?_|refine Wb ?_|refine Wc ?_|refine Wd ?_|refine We rfl ?_|refine Wf (by first|exact Va|exact Vb|exact Vf|exact Vh) rfl ?_|refine Wk ?_|refine Wl ?_|refine Wn ?_)
  refine JC.buf_nil (α := ID) 47 ?_
  refine JC.loop3 (fun (i : Nat) p q => [(0, .slice a L.length k), (3, .slice p (parentsL (L.take i)).length q), (9, .slice a L.length k), (10, .int .i64 (L.length : Int)), (11, .int .i64 (i : Int))])
    (fun i p q => [.res (buf p q 47 (parentsL (L.take i))), .st (sl a k L)]) (fun i _ _ => i ≤ L.length) (fun i _ _ => L.length - i) 0 none 0 (Nat.zero_le _) (by rw [List.take_zero, show parentsL [] = [] from rfl]; infer_instance) ?_
  intro i p q hi
  repeat (first|refine Wa ?_|refine Wb ?_|refine Wc ?_|refine Wd ?_|refine We rfl ?_|refine Wf (by exact Vg) rfl ?_)
  refine JC.test (fun hlt => ?_) (fun hge => ?_)
  · have hlt' : i < L.length := by omega
    have h2 := parentsL_le L (i + 1)
    rw [parentsL_next L i hlt', List.length_append] at h2
    repeat (first|refine Wa ?_|refine Wb ?_|refine Wc ?_|refine We rfl ?_|refine Wl ?_|refine Wn ?_)
    refine JR.indexCommit rfl hlt' ?_
    intro b1 o1 p1 q1
    repeat (first|refine Wa ?_|refine Wc ?_|refine Wd ?_|refine We rfl ?_|refine Wf (by first|exact Va|exact Vc|exact Vd) rfl ?_|(refine Wg rfl ?_; intro _)|refine Wi ?_)
    refine JR.appendSl rfl (by exact ⟨rfl, rfl, by decide⟩) (by omega) ?_
    intro r s
    repeat (first|refine Wa ?_|refine Wc ?_|refine Wd ?_|refine We rfl ?_|refine Wf (by first|exact Va|exact Vb|exact Vk (by omega)) rfl ?_|refine Wr ?_)
    exact ⟨i + 1, r, s, by omega, by omega, by rw [parentsL_next L i hlt']; infer_instance⟩
  · obtain rfl : i = L.length := by omega
    rw [List.take_length]
    refine JC.more (fun w1 ho => ho.pub) ?_
    repeat (first|refine Wa ?_|refine Wb ?_|refine Wc ?_|refine We rfl ?_|refine Wf (by exact Va) rfl ?_|refine Wm ?_|refine Wo ?_|refine Wp ?_)
    refine JR.callSl (L := cids L) rfl (fun w1 hw => by have := ids_dag w1 _ a k L hw.get (by omega) hf; rwa [idsP_all hc.may] at this) ?_
    intro a1 k1
    repeat (first|refine We rfl ?_|refine Wf (by exact Va) rfl ?_)
    refine JR.callBuf rfl (fun w1 hw => without_ids w1 _ a1 p k1 q (cids L) (parentsL L) hw.get hw.get (by rw [cids_length]; omega)) ?_
    intro a2 k2
    refine JO.more (fun w1 ho => ho.pub) ?_
    repeat (first|refine Wa ?_|refine Wd ?_|refine We rfl ?_|refine Wf (by exact Vb) rfl ?_|refine Ws ?_)
    have e1 : frontF L = someIds (cids L) (parentsL L) false := by rw [frontF, hb]; rfl
    rw [e1]
    exact CT.done (a2, k2) rfl (fun w ho => ho.ent)
theorem joinF_nil {L : List Commit} {A : List ID} (h : frontF (partF L (ancF L A)) = []) : joinF L A = (commit0, false) := by unfold joinF; rw [h]
theorem joinF_one {L : List Commit} {A : List ID} {x : ID} (h : frontF (partF L (ancF L A)) = [x]) : joinF L A = findR L x := by unfold joinF; rw [h]
theorem joinF_more {L : List Commit} {A f : List ID} {x y : ID} (h : frontF (partF L (ancF L A)) = x :: y :: f) : joinF L A = mergeR (topL (partF L (x :: y :: f)) + 1) (x :: y :: f) := by unfold joinF; rw [h]
set_option maxHeartbeats 2000000 in
theorem join_front (w : World) (F : Nat → Prop) (a d : Option Addr) (k m : Nat) (L : List Commit) (A : List ID) (h : (sl a k L).holds F w) (h' : (sl d m A).holds F w) (hl : L.length ≤ 1000) (hA : A.length ≤ 1000) (hf : ∀ x ∈ L, fine x) :
    Gives Tryz.prog 22 [.slice a L.length k, .slice d A.length m] w F (fun y : Option Addr × Nat => .tuple ⟨[commitV (joinF L A).1 y.1 y.2, .bool (joinF L A).2]⟩) (fun y => [.st (sl y.1 y.2 (joinF L A).1.parents)]) := by
  obtain ⟨P1, hP1⟩ : ∃ P1, P1 = partF L (ancF L A) := ⟨_, rfl⟩
  have hPs : P1.Sublist L := hP1 ▸ partF_sub
  have hPl := hPs.length_le
  have hPf : ∀ x ∈ P1, fine x := fun x hx => hf x (hPs.mem hx)
  obtain ⟨f, hfr⟩ : ∃ f, f = frontF P1 := ⟨_, rfl⟩
  have hjf := hfr
  rw [hP1] at hjf
  refine gives_of Tryz.func22 rfl Tryz.ntmps22 rfl rfl [.st (sl a k L), .st (sl d m A)] (.start2 h h') ?_
  repeat (first|refine Wa ?_|refine Wb ?_|refine Wc ?_|refine Wd ?_|refine We rfl ?_|refine Wf (by first|exact Va|exact Vb) rfl ?_|(refine Wg rfl ?_; intro _))
  rename_i b4
  refine JR.callSl (L := ancF L A) rfl (fun w1 hw => anc_sl w1 _ a d k m L A _ hw.get hw.get (by omega) (by omega) hf (ancF_ok L A)) ?_
  intro a1 k1
  repeat (refine We rfl ?_)
  refine JR.callSl (L := P1) rfl (fun w1 hw => part_dagS w1 _ a a1 k k1 L P1 (ancF L A) hw.get hw.get hl hf (hP1 ▸ partF_ok L _)) ?_
  intro a2 k2
  repeat (first|refine Wa ?_|refine Wb ?_|refine Wc ?_|refine Wd ?_|refine We rfl ?_|refine Wf (by first|exact Va|exact Vb) rfl ?_)
  refine JR.callSl (L := f) rfl (fun w1 hw => hfr ▸ front_front w1 _ a2 k2 P1 hw.get (by omega) hPf) ?_
  intro a3 k3
  cases f with
  | nil =>
    rw [joinF_nil hjf.symm]
    repeat (first|refine Wa ?_|refine Wb ?_|refine Wc ?_|refine Wd ?_|refine We rfl ?_|refine Wf (by first|exact Va|exact Vb|exact Vf|exact Vl) rfl ?_|refine Wj ?_|refine Wn ?_)
    refine Wf (OpV.build [.int .i64 0, .int .i64 0, .int .i64 0, .slice none 0 0, .int .i64 0, .string .empty, .string .empty, .int .i64 0] (by kernel_rfl)) rfl ?_
    repeat (first|refine Wa ?_|refine Wd ?_|refine We rfl ?_|refine Wf (by exact Vb) rfl ?_|refine Wi ?_|refine Ws ?_|refine Wt ?_|refine Wu ?_)
    exact CT.done (none, 0) rfl (fun w ho => (ho.ent : Hold _ _ [] w).add sl_nil)
  | cons x l =>
    cases l with
    | nil =>
      rw [joinF_one hjf.symm]
      repeat (first|refine Wa ?_|refine Wb ?_|refine Wc ?_|refine Wd ?_|refine We rfl ?_|refine Wf (by first|exact Va|exact Vb|exact Vf|exact Vl) rfl ?_|refine Wj ?_|refine Wk ?_|refine Wn ?_)
      refine JR.indexID (L := [x]) (k := 0) rfl (by simp) ?_
      intro b1 o1
      simp only [List.getElem_cons_zero]
      repeat (first|refine We rfl ?_|refine Wf (by exact Vc) rfl ?_)
      refine JR.call1 rfl (fun w1 hw => find_dag w1 _ a k L x hw.get hf) ?_
      rintro ⟨p2, q2⟩
      dsimp only
      repeat (first|refine Wa ?_|refine Wd ?_|refine We rfl ?_|refine Wf (by first|exact Vb|exact Vq) rfl ?_|refine Wi ?_|refine Ws ?_|refine Wt ?_|refine Wu ?_)
      exact CT.done (p2, q2) rfl (fun w ho => ho.ent)
    | cons y l =>
      rw [joinF_more hjf.symm]
      obtain ⟨f, hf2⟩ : ∃ f, f = x :: y :: l := ⟨_, rfl⟩
      have hfl : 2 ≤ f.length := by rw [hf2]; simp
      rw [← hf2]
      obtain ⟨P2, hP2⟩ : ∃ P2, P2 = partF L f := ⟨_, rfl⟩
      have hg := topL_part (L := L) f hl
      have hg0 := topL_pos (partF L f)
      rw [← hP2] at hg hg0 ⊢
      repeat (first|refine Wa ?_|refine Wb ?_|refine Wc ?_|refine Wd ?_|refine We rfl ?_|refine Wf (by first|exact Va|exact Vb|exact Vf|exact Vl) rfl ?_|refine Wn ?_)
      refine JC.reslot 18 (.bool false) (by congr 1; exact decide_eq_false (by omega)) ?_
      repeat (first|refine Wa ?_|refine Wb ?_|refine Wc ?_|refine Wd ?_|refine We rfl ?_|refine Wf (by first|exact Vb|exact Vl) rfl ?_|refine Wk ?_)
      refine JC.reslot 21 (.bool false) (by congr 1; exact decide_eq_false (by omega)) ?_
      repeat (first|refine Wa ?_|refine Wb ?_|refine Wc ?_|refine We rfl ?_|refine Wk ?_|refine Wl ?_|refine Wr ?_)
      refine Wf (OpV.build [.int .i64 (-1), .int .i64 0] (by kernel_rfl)) rfl ?_
      repeat (first|refine We rfl ?_|refine Wf (by exact Va) rfl ?_)
      refine JR.callSl (L := P2) rfl (fun w1 hw => part_dagS w1 _ a a3 k k3 L P2 f hw.get hw.get hl hf (hP2 ▸ partF_ok L _)) ?_
      intro a5 k5
      repeat (refine We rfl ?_)
      refine JR.callV rfl (fun w1 hw => top_front w1 _ a5 k5 P2 hw.get) ?_
      repeat (first|refine We rfl ?_|refine Wf (by first|exact Va|exact Vt (by omega)) rfl ?_)
      refine Wf (OpV.build [.int .i64 (-1), .int .i64 0, .int .i64 (topL P2 + 1), .slice a3 f.length k3, .int .i64 0, .string .empty, .string .empty, .int .i64 0] (by kernel_rfl)) rfl ?_
      repeat (first|refine Wa ?_|refine Wb ?_|refine Wc ?_|refine Wd ?_|refine We rfl ?_|refine Wf (by exact Vc) rfl ?_|(refine Wg rfl ?_; intro _)|refine Wi ?_)
      refine JR.callV rfl (fun w1 hw => merge_commit w1 _ (headC (topL P2 + 1) f) a3 k3 (hw.get (A := sl a3 k3 f)) (show texts ⟨⟨-1, 0⟩, _, _, op0⟩ from ⟨(by decide : ByteArray.empty.size < 4611686018427387904), (by decide : ByteArray.empty.size < 4611686018427387904)⟩)) ?_
      cases hm : merge (headC (topL P2 + 1) f) with
      | false =>
        rw [show mergeR (topL P2 + 1) f = (commit0, false) by rw [mergeR, hm]; rfl]
        repeat (first|refine Wa ?_|refine Wb ?_|refine Wc ?_|refine Wd ?_|refine We rfl ?_|refine Wf (by exact Vh) rfl ?_|refine Wj ?_)
        refine Wf (OpV.build [.int .i64 0, .int .i64 0, .int .i64 0, .slice none 0 0, .int .i64 0, .string .empty, .string .empty, .int .i64 0] (by kernel_rfl)) rfl ?_
        repeat (first|refine Wa ?_|refine Wd ?_|refine We rfl ?_|refine Wf (by exact Vb) rfl ?_|refine Wi ?_|refine Ws ?_|refine Wt ?_)
        exact CT.done (none, 0) rfl (fun w ho => (ho.ent : Hold _ _ [] w).add sl_nil)
      | true =>
        rw [show mergeR (topL P2 + 1) f = (headC (topL P2 + 1) f, true) by rw [mergeR, hm]; rfl]
        repeat (first|refine Wa ?_|refine Wb ?_|refine Wc ?_|refine Wd ?_|refine We rfl ?_|refine Wf (by first|exact Vb|exact Vc|exact Vh) rfl ?_|refine Wi ?_|refine Wk ?_|refine Wl ?_|refine Ws ?_)
        exact CT.done (a3, k3) rfl (fun w ho => (ho.ent : Hold _ _ [.st (sl a3 k3 f)] w))
theorem head_front (w : World) (F : Nat → Prop) (a : Option Addr) (k : Nat) (L : List Commit) (h : (sl a k L).holds F w) (hl : L.length ≤ 1000) (hf : ∀ x ∈ L, fine x) :
    Gives Tryz.prog 24 [.slice a L.length k] w F (fun y : Option Addr × Nat => .tuple ⟨[commitV (headF L).1 y.1 y.2, .bool (headF L).2]⟩) (fun y => [.st (sl y.1 y.2 (headF L).1.parents)]) := by
  have hil := idsP_length L
  refine gives_of Tryz.func24 rfl Tryz.ntmps24 rfl rfl [.st (sl a k L)] (.start1 h) ?_
  repeat (first|refine Wa ?_|refine Wb ?_|refine Wc ?_|refine Wd ?_|refine We rfl ?_|refine Wf (by first|exact Va|exact Vb) rfl ?_|(refine Wg rfl ?_; intro _))
  refine JR.callSl rfl (fun w1 hw => ids_dag w1 _ a k L hw.get (by omega) hf) ?_
  intro a1 k1
  repeat (refine We rfl ?_)
  refine JR.call1 rfl (fun w1 hw => join_front w1 _ a a1 k k1 L (idsP L) hw.get hw.get hl (by omega) hf) ?_
  rintro ⟨p2, q2⟩
  dsimp only
  repeat (first|refine Wa ?_|refine Wd ?_|refine We rfl ?_|refine Wf (by first|exact Vb|exact Vq) rfl ?_|refine Wi ?_|refine Ws ?_)
  exact CT.done (p2, q2) rfl (fun w ho => (ho.ent : Hold _ _ [.st (sl p2 q2 (joinF L (idsP L)).1.parents)] w))
theorem base_front (w : World) (F : Nat → Prop) (a b d : Option Addr) (k m n : Nat) (L : List Commit) (A B : List ID) (h : (sl a k L).holds F w) (h' : (sl b m A).holds F w) (h2 : (sl d n B).holds F w) (hl : L.length ≤ 1000) (hA : A.length ≤ 1000) (hB : B.length ≤ 1000) (hf : ∀ x ∈ L, fine x) :
    GivesSl Tryz.prog 20 [.slice a L.length k, .slice b A.length m, .slice d B.length n] w F (baseF L A B) := by
  have hx := anc_len (ancF_ok L A)
  refine gives_of Tryz.func20 rfl Tryz.ntmps20 rfl rfl [.st (sl a k L), .st (sl b m A), .st (sl d n B)] (.start3 h h' h2) ?_
  repeat (first|refine Wa ?_|refine Wb ?_|refine Wc ?_|refine Wd ?_|refine We rfl ?_|refine Wf (by first|exact Va|exact Vb) rfl ?_)
  refine JR.callSl (L := ancF L A) rfl (fun w1 hw => anc_sl w1 _ a b k m L A _ hw.get hw.get (by omega) (by omega) hf (ancF_ok L A)) ?_
  intro a1 k1
  repeat (first|refine We rfl ?_|refine Wf (by exact Va) rfl ?_)
  refine JR.callSl (L := ancF L B) rfl (fun w1 hw => anc_sl w1 _ a d k n L B _ hw.get hw.get (by omega) (by omega) hf (ancF_ok L B)) ?_
  intro a2 k2
  repeat (refine We rfl ?_)
  refine JR.callBuf rfl (fun w1 hw => common_ids w1 _ a1 a2 k1 k2 (ancF L A) (ancF L B) hw.get hw.get (by omega)) ?_
  intro a4 k4
  refine JO.more (fun w1 ho => ho.pub) ?_
  repeat (first|refine Wa ?_|refine Wd ?_|refine We rfl ?_|refine Wf (by exact Vb) rfl ?_|refine Ws ?_)
  exact CT.done (a4, k4) rfl (fun w ho => (ho.ent : Hold _ _ [.st (sl a4 k4 (someIds (ancF L A) (ancF L B) true))] w))
end Ab
end Go.Proofs.YtglclakhjmogiaaGreat

/- Contracts: slices.Clone of commits; front.Next. -/
namespace Go.Proofs.YtglclakhjmogiaaGreat
namespace Ab
open Go Go.RowKit
set_option linter.unusedVariables false
set_option linter.unusedSimpArgs false
set_option synthInstance.maxSize 4000
set_option synthInstance.maxHeartbeats 400000
attribute [local irreducible] JC JO JR JQ andThen inBlock OpV Gives retTo JM JS

attribute [local irreducible] hashC idA l0 l1 ents
theorem clone_commits (w : World) (F : Nat → Prop) (a : Option Addr) (c : Nat) (L : List Commit) (h : (sl a c L).holds F w) (hl : L.length ≤ 34359738368) :
    GivesBuf Tryz.prog 68 [.slice a L.length c] w F 34 L := by
  refine gives_of Tryz.func68 rfl Tryz.ntmps68 rfl rfl [.st (sl a c L)] (.start1 h) ?_
  repeat (first|refine Wa ?_|refine Wb ?_|refine Wc ?_|refine Wd ?_|refine We rfl ?_|refine Wf (by first|exact Va|exact Vb|exact VD) rfl ?_)
  refine JC.test (fun ha => ?_) (fun ha => ?_)
  · cases a with
    | some a => cases ha
    | none =>
      obtain rfl := nil_of_none h
      repeat (first|refine Wa ?_|refine Wb ?_|refine Wc ?_|refine Wd ?_|refine We rfl ?_|refine Wf (by exact Vb) rfl ?_|refine Ws ?_|refine Wt ?_)
      exact CT.done (none, 0) rfl (fun w ho => ho.bufNil)
  · repeat (first|refine Wa ?_|refine Wb ?_|refine Wc ?_|refine We rfl ?_|refine Wl ?_)
    refine JR.lit0 (α := Commit) rfl ?_
    intro a2
    repeat (first|refine We rfl ?_|refine Wf (by exact Va) rfl ?_)
    refine JR.appendSl rfl (by exact ⟨rfl, rfl, by decide⟩) (by simpa using hl) ?_
    intro a3 c3
    rw [List.nil_append]
    repeat (first|refine Wa ?_|refine Wd ?_|refine We rfl ?_|refine Wf (by exact Vb) rfl ?_|refine Ws ?_)
    exact CT.done (a3, c3) rfl (fun w ho => ho.ent)
theorem nextF_not {L : List Commit} {ev : Ev_} {o : Op_} (h : ¬ Closed L) : nextF L ev o = (commit0, false) := by
  unfold nextF; rw [closedB_no h]; rfl
theorem nextF_may {L : List Commit} {ev : Ev_} {o : Op_} (h : may (nextC L ev o) = false) : nextF L ev o = (commit0, false) := by
  unfold nextF; rw [h, Bool.and_false]; rfl
theorem nextF_no {L : List Commit} {ev : Ev_} {o : Op_} (h : ¬ Closed (L ++ [nextC L ev o])) : nextF L ev o = (commit0, false) := by
  unfold nextF; rw [closedB_no h, Bool.and_false]; rfl
theorem nextF_yes {L : List Commit} {ev : Ev_} {o : Op_} (h : Closed L) (h1 : may (nextC L ev o) = true) (h2 : Closed (L ++ [nextC L ev o])) : nextF L ev o = (nextC L ev o, true) := by
  unfold nextF; rw [closedB_yes h, closedB_yes h2, h1]; rfl
set_option maxHeartbeats 4000000 in
theorem nxt_front (w : World) (F : Nat → Prop) (a : Option Addr) (k : Nat) (L : List Commit) (ev : Ev_) (o : Op_) (h : (sl a k L).holds F w) (hl : L.length ≤ 900) (hf : ∀ x ∈ L, fine x) (hot : o.key.size < 4611686018427387904 ∧ o.elem.size < 4611686018427387904) :
    Gives Tryz.prog 26 [.slice a L.length k, .agg ⟨[.int .i64 ev.node, .int .i64 ev.seq]⟩, opV o] w F (fun y : Option Addr × Nat => .tuple ⟨[commitV (nextF L ev o).1 y.1 y.2, .bool (nextF L ev o).2]⟩) (fun y => [.st (sl y.1 y.2 (nextF L ev o).1.parents)]) := by
  obtain ⟨g, hg⟩ : ∃ g, g = IntKind.i64.wrap (topL L + 1) := ⟨_, rfl⟩
  refine gives_of Tryz.func26 rfl Tryz.ntmps26 rfl rfl [.st (sl a k L)] (.start1 h) ?_
  repeat (first|refine Wa ?_|refine Wb ?_|refine Wc ?_|refine Wd ?_|refine We rfl ?_|refine Wf (by exact Vb) rfl ?_|(refine Wg rfl ?_; intro _)|(refine Wh rfl ?_; intro _))
  rename_i b4 b5 b6
  refine JC.cut (fun y : (Option Addr × Nat) × Nat => [(0, .slice a L.length k), (6, .pointer (some ⟨b6, 0, none⟩)), (7, .bool false), (8, .pointer (some ⟨y.2, 0, none⟩))])
    (fun y => [.own y.2 34 [.int .i64 ev.node, .int .i64 ev.seq, .int .i64 g, .slice y.1.1 (frontF L).length y.1.2, .int .i64 o.kind, .string o.key, .string o.elem, .int .i64 o.n], .st (sl y.1.1 y.1.2 (frontF L)), .own b6 34 [.int .i64 0, .int .i64 0, .int .i64 0, .slice none 0 0, .int .i64 0, .string .empty, .string .empty, .int .i64 0], .st (sl a k L)]) ?_ ?_
  · refine JC.draw 9 mixed ?_
    refine JM.take 0 rfl (by kernel_rfl) rfl Vc rfl rfl ?_
    refine JM.take 1 rfl (by kernel_rfl) rfl Va rfl rfl ?_
    refine JM.takeCall 2 rfl (by kernel_rfl) rfl (fun w1 hw => top_front w1 _ a k L hw.get) rfl rfl ?_
    refine JM.take 3 rfl (by kernel_rfl) rfl OpV.addw rfl rfl ?_
    refine JM.reslot 12 (.int .i64 g) (by rw [hg]) ?_
    refine JM.take 4 rfl (by kernel_rfl) rfl Va rfl rfl ?_
    refine JM.take 6 rfl (by kernel_rfl) rfl Vc rfl rfl ?_
    refine JM.two 5 8 (by kernel_rfl) rfl rfl rfl rfl rfl rfl rfl rfl (JS.callSl rfl (fun w1 hw => front_front w1 _ a k L hw.get (by omega) hf) fun af kf => ?_) (JS.alloc rfl fun b8 => ?_)
    · refine JM.take 7 rfl (by kernel_rfl) rfl (OpV.build [.int .i64 ev.node, .int .i64 ev.seq, .int .i64 g, .slice af (frontF L).length kf, .int .i64 o.kind, .string o.key, .string o.elem, .int .i64 o.n] (by kernel_rfl)) rfl rfl ?_
      refine JM.one 8 (by kernel_rfl) rfl rfl rfl rfl (JS.alloc rfl fun b8 => ?_)
      refine JM.last 9 (by kernel_rfl) rfl rfl rfl (Wi (Wd ⟨rfl, ?_⟩))
      exact JM.nil (by kernel_rfl) ⟨rfl, ((af, kf), b8), inferInstance⟩
    · refine JM.one 5 (by kernel_rfl) rfl rfl rfl rfl (JS.callSl rfl (fun w1 hw => front_front w1 _ a k L hw.get (by omega) hf) fun af kf => ?_)
      refine JM.take 7 rfl (by kernel_rfl) rfl (OpV.build [.int .i64 ev.node, .int .i64 ev.seq, .int .i64 g, .slice af (frontF L).length kf, .int .i64 o.kind, .string o.key, .string o.elem, .int .i64 o.n] (by kernel_rfl)) rfl rfl ?_
      refine JM.last 9 (by kernel_rfl) rfl rfl rfl (Wi (Wd ⟨rfl, ?_⟩))
      exact JM.nil (by kernel_rfl) ⟨rfl, ((af, kf), b8), inferInstance⟩
  rintro ⟨⟨af, kf⟩, b8⟩
  dsimp only
  repeat (refine Wb ?_)
  by_cases hc : Closed L
  case neg =>
    rw [nextF_not hc]
    refine JC.draw 17 mixed ?_
    refine JM.take 0 rfl (by kernel_rfl) rfl Va rfl rfl ?_
    refine JM.takeCall 1 rfl (by kernel_rfl) rfl (fun w1 hw => closed_no w1 _ a k L hw.get (by omega) hf hc) rfl rfl ?_
    refine JM.take 2 rfl (by kernel_rfl) rfl Vh rfl rfl ?_
    refine JM.take 3 rfl (by kernel_rfl) rfl Va rfl rfl ?_
    refine JM.omit 4 rfl (by kernel_rfl) rfl rfl rfl ?_
    refine JM.omit 5 rfl (by kernel_rfl) rfl rfl rfl ?_
    refine JM.omit 6 rfl (by kernel_rfl) rfl rfl rfl ?_
    refine JM.take 7 rfl (by kernel_rfl) rfl Vi rfl rfl ?_
    refine JM.take 8 rfl (by kernel_rfl) rfl Va rfl rfl ?_
    refine JM.omit 9 rfl (by kernel_rfl) rfl rfl rfl ?_
    refine JM.omit 10 rfl (by kernel_rfl) rfl rfl rfl ?_
    refine JM.omit 11 rfl (by kernel_rfl) rfl rfl rfl ?_
    refine JM.omit 12 rfl (by kernel_rfl) rfl rfl rfl ?_
    refine JM.omit 13 rfl (by kernel_rfl) rfl rfl rfl ?_
    refine JM.omit 14 rfl (by kernel_rfl) rfl rfl rfl ?_
    refine JM.omit 15 rfl (by kernel_rfl) rfl rfl rfl ?_
    refine JM.take 16 rfl (by kernel_rfl) rfl Vi rfl rfl ?_
    refine JM.nil (by kernel_rfl) ?_
    repeat (first|refine Wa ?_|refine Wb ?_|refine Wc ?_|refine We rfl ?_|refine Wj ?_)
    refine Wf (OpV.build [.int .i64 0, .int .i64 0, .int .i64 0, .slice none 0 0, .int .i64 0, .string .empty, .string .empty, .int .i64 0] (by kernel_rfl)) rfl ?_
    repeat (first|refine Wa ?_|refine Wd ?_|refine We rfl ?_|refine Wf (by exact Vb) rfl ?_|refine Wi ?_|refine Ws ?_|refine Wt ?_)
    exact CT.done (none, 0) rfl (fun w ho => (ho.ent : Hold _ _ [] w).add sl_nil)
  case pos =>
  have hgt : g = topL L + 1 := by
    have h1 := topL_few hc
    have h2 := topL_pos L
    rw [hg, wrap_in (by omega)]
  subst hgt
  have hfc : fine (nextC L ev o) := ⟨hot, by have := front_few hc; show (frontF L).length ≤ _; omega⟩
  have hfn : ∀ x ∈ L ++ [nextC L ev o], fine x := fun x hx => by
    rcases List.mem_append.1 hx with hx | hx
    · exact hf x hx
    · rw [List.mem_singleton] at hx; subst hx; exact hfc
  cases hm : may (nextC L ev o) with
  | false =>
    rw [nextF_may hm]
    refine JC.draw 17 mixed ?_
    refine JM.take 0 rfl (by kernel_rfl) rfl Va rfl rfl ?_
    refine JM.takeCall 1 rfl (by kernel_rfl) rfl (fun w1 hw => closed_yes w1 _ a k L hw.get (by omega) hf hc) rfl rfl ?_
    refine JM.take 2 rfl (by kernel_rfl) rfl Vh rfl rfl ?_
    refine JM.take 3 rfl (by kernel_rfl) rfl Va rfl rfl ?_
    refine JM.take 4 rfl (by kernel_rfl) rfl Vc rfl rfl ?_
    refine JM.takeCall 5 rfl (by kernel_rfl) rfl (fun w1 hw => may_commit w1 _ (nextC L ev o) af kf (hw.get (A := sl af kf (frontF L))) hfc.1) rfl rfl ?_
    rw [hm]
    refine JM.take 6 rfl (by kernel_rfl) rfl Vh rfl rfl ?_
    refine JM.take 7 rfl (by kernel_rfl) rfl Vj rfl rfl ?_
    refine JM.take 8 rfl (by kernel_rfl) rfl Va rfl rfl ?_
    refine JM.omit 9 rfl (by kernel_rfl) rfl rfl rfl ?_
    refine JM.omit 10 rfl (by kernel_rfl) rfl rfl rfl ?_
    refine JM.omit 11 rfl (by kernel_rfl) rfl rfl rfl ?_
    refine JM.omit 12 rfl (by kernel_rfl) rfl rfl rfl ?_
    refine JM.omit 13 rfl (by kernel_rfl) rfl rfl rfl ?_
    refine JM.omit 14 rfl (by kernel_rfl) rfl rfl rfl ?_
    refine JM.omit 15 rfl (by kernel_rfl) rfl rfl rfl ?_
    refine JM.take 16 rfl (by kernel_rfl) rfl Vi rfl rfl ?_
    refine JM.nil (by kernel_rfl) ?_
    repeat (first|refine Wa ?_|refine Wb ?_|refine Wc ?_|refine We rfl ?_|refine Wj ?_)
    refine Wf (OpV.build [.int .i64 0, .int .i64 0, .int .i64 0, .slice none 0 0, .int .i64 0, .string .empty, .string .empty, .int .i64 0] (by kernel_rfl)) rfl ?_
    repeat (first|refine Wa ?_|refine Wd ?_|refine We rfl ?_|refine Wf (by exact Vb) rfl ?_|refine Wi ?_|refine Ws ?_|refine Wt ?_)
    exact CT.done (none, 0) rfl (fun w ho => (ho.ent : Hold _ _ [] w).add sl_nil)
  | true =>
    refine JC.draw 13 mixed ?_
    refine JM.take 0 rfl (by kernel_rfl) rfl Va rfl rfl ?_
    refine JM.takeCall 1 rfl (by kernel_rfl) rfl (fun w1 hw => closed_yes w1 _ a k L hw.get (by omega) hf hc) rfl rfl ?_
    refine JM.take 2 rfl (by kernel_rfl) rfl Vh rfl rfl ?_
    refine JM.take 3 rfl (by kernel_rfl) rfl Va rfl rfl ?_
    refine JM.take 4 rfl (by kernel_rfl) rfl Vc rfl rfl ?_
    refine JM.takeCall 5 rfl (by kernel_rfl) rfl (fun w1 hw => may_commit w1 _ (nextC L ev o) af kf (hw.get (A := sl af kf (frontF L))) hfc.1) rfl rfl ?_
    rw [hm]
    refine JM.take 6 rfl (by kernel_rfl) rfl Vh rfl rfl ?_
    refine JM.take 7 rfl (by kernel_rfl) rfl Vj rfl rfl ?_
    refine JM.take 8 rfl (by kernel_rfl) rfl Va rfl rfl ?_
    refine JM.take 9 rfl (by kernel_rfl) rfl Va rfl rfl ?_
    refine JM.take 11 rfl (by kernel_rfl) rfl Vc rfl rfl ?_
    refine JM.two 10 12 (by kernel_rfl) rfl rfl rfl rfl rfl rfl rfl rfl (JS.callBuf rfl (fun w1 hw => clone_commits w1 _ a k L hw.get (by omega)) fun a9 k9 => ?_) (JS.lit rfl ⟨rfl, by decide, by decide, by decide⟩ fun lb => ?_)
    · refine JM.one 12 (by kernel_rfl) rfl rfl rfl rfl (JS.lit rfl ⟨rfl, by decide, by decide, by decide⟩ fun lb => ?_)
      refine JM.last 13 (by kernel_rfl) rfl rfl rfl (JR.append1 (L := L) (u := nextC L ev o) rfl (by exact ⟨rfl, rfl, by decide⟩) (by omega) (fun r s => Wd ⟨rfl, ?_⟩))
      refine JM.more (Γ' := .st (sl r s (L ++ [nextC L ev o])) :: [.own b8 34 [.int .i64 ev.node, .int .i64 ev.seq, .int .i64 (topL L + 1), .slice af (frontF L).length kf, .int .i64 o.kind, .string o.key, .string o.elem, .int .i64 o.n], .st (sl af kf (frontF L)), .own b6 34 [.int .i64 0, .int .i64 0, .int .i64 0, .slice none 0 0, .int .i64 0, .string .empty, .string .empty, .int .i64 0], .st (sl a k L)]) (fun w1 ho => (ho.ent : Hold _ _ (.res (buf r s 34 (L ++ [nextC L ev o])) :: [.own b8 34 [.int .i64 ev.node, .int .i64 ev.seq, .int .i64 (topL L + 1), .slice af (frontF L).length kf, .int .i64 o.kind, .string o.key, .string o.elem, .int .i64 o.n], .st (sl af kf (frontF L)), .own b6 34 [.int .i64 0, .int .i64 0, .int .i64 0, .slice none 0 0, .int .i64 0, .string .empty, .string .empty, .int .i64 0], .st (sl a k L)]) w1).pub) ?_
      refine JM.last 14 (by kernel_rfl) rfl rfl rfl (JR.callV rfl (fun w1 hw => closed_dagV w1 _ r s (L ++ [nextC L ev o]) (closedB (L ++ [nextC L ev o])) (hw.get (A := sl r s (L ++ [nextC L ev o]))) (by simp; omega) hfn closedB_iff) (Wd ⟨rfl, ?_⟩))
      refine JM.last 15 (by kernel_rfl) rfl rfl rfl (Wf Vh rfl (Wd ⟨rfl, ?_⟩))
      refine JM.last 16 (by kernel_rfl) rfl rfl rfl (Wf Vj rfl (Wd ⟨rfl, ?_⟩))
      refine JM.nil (by kernel_rfl) ?_
      cases hcn : closedB (L ++ [nextC L ev o]) with
      | false =>
        rw [nextF_no (fun h => by rw [closedB_yes h] at hcn; cases hcn)]
        repeat (first|refine Wa ?_|refine Wb ?_|refine Wc ?_|refine We rfl ?_|refine Wj ?_)
        refine Wf (OpV.build [.int .i64 0, .int .i64 0, .int .i64 0, .slice none 0 0, .int .i64 0, .string .empty, .string .empty, .int .i64 0] (by kernel_rfl)) rfl ?_
        repeat (first|refine Wa ?_|refine Wd ?_|refine We rfl ?_|refine Wf (by exact Vb) rfl ?_|refine Wi ?_|refine Ws ?_|refine Wt ?_)
        exact CT.done (none, 0) rfl (fun w ho => (ho.ent : Hold _ _ [] w).add sl_nil)
      | true =>
        rw [nextF_yes hc hm (closedB_iff.1 hcn)]
        repeat (first|refine Wa ?_|refine Wb ?_|refine Wc ?_|refine Wd ?_|refine We rfl ?_|refine Wf (by first|exact Vb|exact Vc) rfl ?_|refine Wi ?_|refine Wk ?_|refine Wl ?_|refine Ws ?_)
        exact CT.done (af, kf) rfl (fun w ho => (ho.ent : Hold _ _ [.st (sl af kf (frontF L))] w))
    · refine JM.one 10 (by kernel_rfl) rfl rfl rfl rfl (JS.callBuf rfl (fun w1 hw => clone_commits w1 _ a k L hw.get (by omega)) fun a9 k9 => ?_)
      refine JM.last 13 (by kernel_rfl) rfl rfl rfl (JR.append1 (L := L) (u := nextC L ev o) rfl (by exact ⟨rfl, rfl, by decide⟩) (by omega) (fun r s => Wd ⟨rfl, ?_⟩))
      refine JM.more (Γ' := .st (sl r s (L ++ [nextC L ev o])) :: [.own b8 34 [.int .i64 ev.node, .int .i64 ev.seq, .int .i64 (topL L + 1), .slice af (frontF L).length kf, .int .i64 o.kind, .string o.key, .string o.elem, .int .i64 o.n], .st (sl af kf (frontF L)), .own b6 34 [.int .i64 0, .int .i64 0, .int .i64 0, .slice none 0 0, .int .i64 0, .string .empty, .string .empty, .int .i64 0], .st (sl a k L)]) (fun w1 ho => (ho.ent : Hold _ _ (.res (buf r s 34 (L ++ [nextC L ev o])) :: [.own b8 34 [.int .i64 ev.node, .int .i64 ev.seq, .int .i64 (topL L + 1), .slice af (frontF L).length kf, .int .i64 o.kind, .string o.key, .string o.elem, .int .i64 o.n], .st (sl af kf (frontF L)), .own b6 34 [.int .i64 0, .int .i64 0, .int .i64 0, .slice none 0 0, .int .i64 0, .string .empty, .string .empty, .int .i64 0], .st (sl a k L)]) w1).pub) ?_
      refine JM.last 14 (by kernel_rfl) rfl rfl rfl (JR.callV rfl (fun w1 hw => closed_dagV w1 _ r s (L ++ [nextC L ev o]) (closedB (L ++ [nextC L ev o])) (hw.get (A := sl r s (L ++ [nextC L ev o]))) (by simp; omega) hfn closedB_iff) (Wd ⟨rfl, ?_⟩))
      refine JM.last 15 (by kernel_rfl) rfl rfl rfl (Wf Vh rfl (Wd ⟨rfl, ?_⟩))
      refine JM.last 16 (by kernel_rfl) rfl rfl rfl (Wf Vj rfl (Wd ⟨rfl, ?_⟩))
      refine JM.nil (by kernel_rfl) ?_
      cases hcn : closedB (L ++ [nextC L ev o]) with
      | false =>
        rw [nextF_no (fun h => by rw [closedB_yes h] at hcn; cases hcn)]
        repeat (first|refine Wa ?_|refine Wb ?_|refine Wc ?_|refine We rfl ?_|refine Wj ?_)
        refine Wf (OpV.build [.int .i64 0, .int .i64 0, .int .i64 0, .slice none 0 0, .int .i64 0, .string .empty, .string .empty, .int .i64 0] (by kernel_rfl)) rfl ?_
        repeat (first|refine Wa ?_|refine Wd ?_|refine We rfl ?_|refine Wf (by exact Vb) rfl ?_|refine Wi ?_|refine Ws ?_|refine Wt ?_)
        exact CT.done (none, 0) rfl (fun w ho => (ho.ent : Hold _ _ [] w).add sl_nil)
      | true =>
        rw [nextF_yes hc hm (closedB_iff.1 hcn)]
        repeat (first|refine Wa ?_|refine Wb ?_|refine Wc ?_|refine Wd ?_|refine We rfl ?_|refine Wf (by first|exact Vb|exact Vc) rfl ?_|refine Wi ?_|refine Wk ?_|refine Wl ?_|refine Ws ?_)
        exact CT.done (af, kf) rfl (fun w ho => (ho.ent : Hold _ _ [.st (sl af kf (frontF L))] w))
end Ab
end Go.Proofs.YtglclakhjmogiaaGreat

/- The laws' example of layer 12, in plain words: two commits of two nodes, their head, and what comes next. -/
namespace Go.Proofs.YtglclakhjmogiaaGreat
namespace Ab
open Go Go.RowKit
set_option linter.unusedVariables false
set_option linter.unusedSimpArgs false
set_option synthInstance.maxSize 4000
set_option synthInstance.maxHeartbeats 400000
attribute [local irreducible] JC JO JR JQ andThen inBlock OpV Gives retTo JM JS

def m1 : Commit := ⟨⟨1, 1⟩, 1, [], ⟨0, keyA, .empty, 1⟩⟩
theorem may_m1 : may m1 = true := by decide +kernel
def idP : ID := (hashC m1).1
theorem idP_eq : idP = sumI (commitPut m1) := by simp only [idP, hashC, may_m1, if_true]
set_option maxRecDepth 100000 in
theorem sums_pair : Lib.compareBytes (sumL (commitPut l0)) (sumL (commitPut m1)) < 0 := by decide +kernel
theorem idP_lt : idLt idA idP = true := by
  rw [idA_eq, idP_eq]
  exact decide_eq_true sums_pair
theorem cids_pair : cids [l0, m1] = [idA, idP] := rfl
theorem par_pair {x y : ID} : ¬ par [l0, m1] x y := by
  rintro ⟨c, hc, rfl, hy, _⟩
  simp only [List.mem_cons, List.not_mem_nil, or_false] at hc
  rcases hc with rfl | rfl
  · simp [l0] at hy
  · simp [m1] at hy
theorem knows_pair {x y : ID} : ¬ knows [l0, m1] x y := fun h => by
  cases h with
  | single h1 => exact par_pair h1
  | tail _ h1 => exact par_pair h1
theorem idA_neP : idA ≠ idP := fun e => by
  have h := idP_lt
  rw [e, idLt_irrefl] at h; cases h
theorem closed_pair : Closed [l0, m1] := by
  have hn : (cids [l0, m1]).Nodup := by rw [cids_pair]; simp [idA_neP]
  refine ⟨by simp [may_l0, may_m1], hn, fun c hc => ?_, fun c hc d hd hne hnode => ?_⟩
  · simp only [List.mem_cons, List.not_mem_nil, or_false] at hc
    rcases hc with rfl | rfl
    · exact ⟨by simp [merge, l0], by simp [l0], by simp [l0], by simp [l0, maxGen]⟩
    · exact ⟨by simp [merge, m1], by simp [m1], by simp [m1], by simp [m1, maxGen]⟩
  · simp only [List.mem_cons, List.not_mem_nil, or_false] at hc hd
    rcases hc with rfl | rfl <;> rcases hd with rfl | rfl
    · exact (hne rfl).elim
    · simp [l0, m1] at hnode
    · simp [l0, m1] at hnode
    · exact (hne rfl).elim
theorem front_pair : frontF [l0, m1] = [idA, idP] := by
  refine sorted_unique ((List.perm_ext_iff_of_nodup (front_nodup _) (by simp [idA_neP])).2 fun x => ?_) (front_sorted _) (by simp [idLt_asymm idP_lt])
  rw [mem_front closed_pair, cids_pair]
  simp [l0, m1]
theorem top_pair : topL [l0, m1] = 1 := by simp [topL, l0, m1]; decide
theorem head_pair : headF [l0, m1] = (headC 2 [idA, idP], true) ∧ merge (headC 2 [idA, idP]) = true := by
  have := head_merge closed_pair (by simp) (by rw [front_pair]; simp)
  rwa [top_pair, front_pair] at this
def o5 : Op_ := ⟨0, keyA, .empty, 5⟩
def n1 : Commit := ⟨⟨0, 2⟩, 2, [idA, idP], o5⟩
theorem nextC_pair : nextC [l0, m1] ⟨0, 2⟩ o5 = n1 := by
  rw [nextC, top_pair, front_pair]; rfl
set_option maxRecDepth 100000 in
theorem may_n1 : may n1 = true := by decide +kernel
theorem merge_n1 : merge n1 = false := by simp [merge, n1]
set_option maxRecDepth 100000 in
theorem sums_n1 : sumL (commitPut n1) ≠ sumL (commitPut l0) ∧ sumL (commitPut n1) ≠ sumL (commitPut m1) := by decide +kernel
theorem idC_n1 : idC n1 = sumI (commitPut n1) := by simp only [idC, hashC, may_n1, if_true]
set_option maxRecDepth 100000 in
theorem n1_new : idC n1 ∉ cids [l0, m1] := by
  rw [cids_pair, idC_n1, idA_eq, idP_eq]
  simp only [List.mem_cons, List.not_mem_nil, or_false, not_or]
  exact ⟨fun e => sums_n1.1 (congrArg Subtype.val e), fun e => sums_n1.2 (congrArg Subtype.val e)⟩
/-- One more commit behind closed ones. -/
theorem Closed.snoc {L : List Commit} (h : Closed L) {c : Commit} (hm : Ab.may c = true) (hg : Ab.merge c = false) (hn : idC c ∉ cids L) (hh : ∀ p ∈ c.parents, p ∈ cids L) (hf : ∀ p ∈ c.parents, ∀ q ∈ c.parents, ¬ knows L p q)
    (hgen : c.gen = maxGen L c.parents + 1) (he : ∀ d ∈ L, d.ev.node = c.ev.node → d.ev.seq < c.ev.seq ∧ ∃ p ∈ c.parents, idC d = p ∨ knows L p (idC d)) : Closed (L ++ [c]) := by
  have hnd : (cids (L ++ [c])).Nodup := by
    rw [cids_snoc]
    exact List.nodup_append.2 ⟨h.nodup, by simp, fun x hx y hy => by simp at hy; subst hy; exact fun e => hn (e ▸ hx)⟩
  have hs : ∀ d ∈ L, d ∈ L ++ [c] := fun d hd => List.mem_append_left _ hd
  have hk : ∀ {x : ID}, x ∈ cids L → ∀ y, knows L x y ↔ knows (L ++ [c]) x y := fun hx y => knows_sub hs hnd (fun d hd p hp => (h.fine d hd).here p hp) hx y
  have hga : ∀ {x : ID}, x ∈ cids L → genAt L x = genAt (L ++ [c]) x := fun hx => genAt_sub hs hnd h.nodup hx
  have hid : ∀ {d : Commit}, d ∈ L → idC d ∈ cids L := fun hd => mem_cids.2 ⟨_, hd, rfl⟩
  have hup : ∀ {x : ID}, x ∈ cids L → x ∈ cids (L ++ [c]) := fun hx => by rw [cids_snoc]; exact List.mem_append_left _ hx
  refine ⟨fun d hd => ?_, hnd, fun d hd => ?_, fun d hd d' hd' hne hnode => ?_⟩
  · rcases List.mem_append.1 hd with hd | hd
    · exact h.may d hd
    · rw [List.mem_singleton] at hd; subst hd; exact hm
  · rcases List.mem_append.1 hd with hd | hd
    · have h1 := h.fine d hd
      exact ⟨h1.merge, fun p hp => hup (h1.here p hp), fun p hp q hq hk' => h1.free p hp q hq ((hk (h1.here p hp) q).2 hk'), by rw [h1.gen, maxGen_congr fun p hp => hga (h1.here p hp)]⟩
    · rw [List.mem_singleton] at hd; subst hd
      exact ⟨hg, fun p hp => hup (hh p hp), fun p hp q hq hk' => hf p hp q hq ((hk (hh p hp) q).2 hk'), by rw [hgen, maxGen_congr fun p hp => hga (hh p hp)]⟩
  · rcases List.mem_append.1 hd with hd | hd <;> rcases List.mem_append.1 hd' with hd' | hd'
    · obtain ⟨h1, h2⟩ := h.ev d hd d' hd' hne hnode
      exact ⟨h1, fun h3 => (hk (hid hd) _).1 (h2 h3)⟩
    · rw [List.mem_singleton] at hd'; rw [hd'] at hnode ⊢
      obtain ⟨h1, _⟩ := he d hd hnode
      exact ⟨by omega, fun h3 => by omega⟩
    · rw [List.mem_singleton] at hd; rw [hd] at hnode ⊢
      obtain ⟨h1, p, hp, h2⟩ := he d' hd' hnode.symm
      refine ⟨by omega, fun _ => (knows_iff hnd (by simp) (fun q hq => hup (hh q hq)) _).2 ⟨p, hp, ?_⟩⟩
      exact h2.imp id fun h2 => (hk (hh p hp) _).1 h2
    · rw [List.mem_singleton] at hd hd'; rw [hd, hd'] at hne; exact (hne rfl).elim
theorem closed_next : Closed ([l0, m1] ++ [n1]) := by
  have hg0 : genAt [l0, m1] idA = 1 := genAt_of closed_pair.nodup (c := l0) (by simp)
  have hg1 : genAt [l0, m1] idP = 1 := genAt_of closed_pair.nodup (c := m1) (by simp)
  refine closed_pair.snoc may_n1 merge_n1 n1_new (fun p hp => by rw [cids_pair]; exact hp) (fun p _ q _ => knows_pair) ?_ (fun d hd hnode => ?_)
  · show (2 : Int) = maxGen [l0, m1] [idA, idP] + 1
    rw [maxGen, List.foldl_cons, List.foldl_cons, List.foldl_nil, hg0, hg1]; rfl
  · simp only [List.mem_cons, List.not_mem_nil, or_false] at hd
    rcases hd with rfl | rfl
    · exact ⟨by simp [l0, n1], idA, by simp [n1], .inl idC_l0⟩
    · simp [m1, n1] at hnode
theorem next_pair : nextF [l0, m1] ⟨0, 2⟩ o5 = (n1, true) := by
  have h1 := closedB_yes closed_pair
  have h2 := closedB_yes closed_next
  unfold nextF
  rw [nextC_pair, h1, h2, may_n1]; rfl
theorem base_pair : baseF [l0, m1] [idA, idP] [] = [] := by
  rw [List.eq_nil_iff_forall_not_mem]
  intro x hx
  have h := (mem_base.1 hx).2
  rw [(ancF_ok _ _).mem closed_pair] at h
  rcases h.2 with h1 | ⟨y, h1, _⟩ <;> cases h1
theorem ids_pair : idsP [l0, m1] = [idA, idP] := by rw [idsP_all closed_pair.may, cids_pair]
theorem fine_pair : ∀ x ∈ [l0, m1], fine x := by
  intro x hx
  simp only [List.mem_cons, List.not_mem_nil, or_false] at hx
  rcases hx with rfl | rfl
  · exact fine_l0
  · exact ⟨⟨by decide, by decide⟩, by simp [m1]⟩
end Ab
end Go.Proofs.YtglclakhjmogiaaGreat

/- The laws' example of layer 12: Pair, awake. -/
namespace Go.Proofs.YtglclakhjmogiaaGreat
namespace Ab
open Go Go.RowKit
set_option linter.unusedVariables false
set_option linter.unusedSimpArgs false
set_option synthInstance.maxSize 4000
set_option synthInstance.maxHeartbeats 400000
attribute [local irreducible] JC JO JR JQ andThen inBlock OpV Gives retTo JM JS

attribute [local irreducible] hashC idA l0 l1 ents
theorem some_m (w : World) (F : Nat → Prop) : GivesV Tryz.prog 80 [] w F (.agg ⟨[.int .i64 0, .int .i64 1, .int .i64 1, .slice none 0 0, .int .i64 0, .string keyA, .string .empty, .int .i64 1]⟩) := by
  have := some_law w F
  rw [show commitV l0 none 0 = (.agg ⟨[.int .i64 0, .int .i64 1, .int .i64 1, .slice none 0 0, .int .i64 0, .string keyA, .string .empty, .int .i64 1]⟩ : Value) by unfold l0; rfl] at this
  exact this
theorem cells_l0 : commitCells l0 none 0 = [.int .i64 0, .int .i64 1, .int .i64 1, .slice none 0 0, .int .i64 0, .string keyA, .string .empty, .int .i64 1] := by unfold l0; rfl
theorem cells_m1 : commitCells m1 none 0 = [.int .i64 1, .int .i64 1, .int .i64 1, .slice none 0 0, .int .i64 0, .string keyA, .string .empty, .int .i64 1] := rfl
theorem parents_l0 : l0.parents = [] := by unfold l0; rfl
theorem pair_law (w : World) (F : Nat → Prop) : GivesSl Tryz.prog 52 [] w F [l0, m1] := by
  refine gives_of Tryz.func52 rfl Tryz.ntmps52 rfl rfl [] (.start w F) ?_
  repeat (first|refine Wa ?_|refine Wb ?_|refine Wc ?_|refine Wd ?_|refine We rfl ?_|refine Wf (by exact Vb) rfl ?_)
  refine JR.callV rfl (fun w1 hw => some_m w1 _) ?_
  repeat (first|refine Wa ?_|refine Wb ?_|refine Wc ?_|refine Wd ?_|refine We rfl ?_|refine Wf (by first|exact Vc|exact Vd) rfl ?_|(refine Wg rfl ?_; intro _)|refine Wi ?_)
  rename_i b1 b2
  refine JR.reslot 6 (.pointer (some ⟨b2, 0, none⟩)) rfl ?_
  refine Wi ?_
  repeat (first|refine Wa ?_|refine Wb ?_|refine Wc ?_|refine Wd ?_|refine We rfl ?_|refine Wf (by first|exact Vb|exact Vc) rfl ?_|refine Ws ?_|(refine Ww rfl ⟨rfl, by decide, by decide, by decide⟩ ?_; intro _))
  rename_i lb
  refine CT.done (some ⟨lb, 0, none⟩, 2) rfl (fun w ho => ?_)
  have h0 : Hold _ _ [.own lb 34 [.int .i64 0, .int .i64 1, .int .i64 1, .slice none 0 0, .int .i64 0, .string keyA, .string .empty, .int .i64 1, .int .i64 1, .int .i64 1, .int .i64 1, .slice none 0 0, .int .i64 0, .string keyA, .string .empty, .int .i64 1]] w := ho.ent
  have e : ([.int .i64 0, .int .i64 1, .int .i64 1, .slice none 0 0, .int .i64 0, .string keyA, .string .empty, .int .i64 1, .int .i64 1, .int .i64 1, .int .i64 1, .slice none 0 0, .int .i64 0, .string keyA, .string .empty, .int .i64 1] : List Value) = commitCells l0 none 0 ++ commitCells m1 none 0 := by rw [cells_l0, cells_m1]; rfl
  rw [e] at h0
  have h4 : Hold _ _ (.own lb 34 (commitCells l0 none 0 ++ commitCells m1 none 0) :: [.st (sl none 0 ([] : List ID))]) w :=
    (h0.add (A := sl none 0 ([] : List ID)) sl_nil).perm (List.Perm.swap _ _ _)
  have h5 := Hold.pubRow [(l0, ((none, 0) : Cell.Ix Commit)), (m1, ((none, 0) : Cell.Ix Commit))] h4 (by simp [flat]; rfl) (by simp [Cell.facts, parents_l0, m1]) (by simp)
  exact Hold.left (Γ := [.st (sl (some ⟨lb, 0, none⟩) 2 [l0, m1])]) h5
theorem ids_pr (w : World) (F : Nat → Prop) (a : Option Addr) (k : Nat) (h : (sl a k [l0, m1]).holds F w) : GivesSl Tryz.prog 32 [.slice a [l0, m1].length k] w F [idA, idP] := by
  have := ids_dag w F a k [l0, m1] h (by simp) fine_pair
  rwa [ids_pair] at this
theorem head_pr (w : World) (F : Nat → Prop) (a : Option Addr) (k : Nat) (h : (sl a k [l0, m1]).holds F w) :
    Gives Tryz.prog 24 [.slice a [l0, m1].length k] w F (fun y : Option Addr × Nat => .tuple ⟨[commitV (headC 2 [idA, idP]) y.1 y.2, .bool true]⟩) (fun y => [.st (sl y.1 y.2 [idA, idP])]) := by
  have := head_front w F a k [l0, m1] h (by simp) fine_pair
  rw [head_pair.1] at this
  exact this
theorem next_pr (w : World) (F : Nat → Prop) (a : Option Addr) (k : Nat) (h : (sl a k [l0, m1]).holds F w) :
    Gives Tryz.prog 26 [.slice a [l0, m1].length k, .agg ⟨[.int .i64 0, .int .i64 2]⟩, .agg ⟨[.int .i64 0, .string keyA, .string .empty, .int .i64 5]⟩] w F (fun y : Option Addr × Nat => .tuple ⟨[commitV n1 y.1 y.2, .bool true]⟩) (fun y => [.st (sl y.1 y.2 [idA, idP])]) := by
  have := nxt_front w F a k [l0, m1] ⟨0, 2⟩ o5 h (by simp) fine_pair ⟨by decide, by decide⟩
  rw [next_pair] at this
  exact this
theorem front_pr (w : World) (F : Nat → Prop) (a : Option Addr) (k : Nat) (h : (sl a k [l0, m1]).holds F w) : GivesSl Tryz.prog 18 [.slice a [l0, m1].length k] w F [idA, idP] := by
  have := front_front w F a k [l0, m1] h (by simp) fine_pair
  rwa [front_pair] at this
theorem base_pr (w : World) (F : Nat → Prop) (a b : Option Addr) (k m : Nat) (h : (sl a k [l0, m1]).holds F w) (h' : (sl b m [idA, idP]).holds F w) : GivesSl Tryz.prog 20 [.slice a [l0, m1].length k, .slice b [idA, idP].length m, .slice none 0 0] w F ([] : List ID) := by
  have := base_front w F a b none k m 0 [l0, m1] [idA, idP] [] h h' sl_nil (by simp) (by simp) (by simp) fine_pair
  rwa [base_pair] at this
set_option maxHeartbeats 4000000 in
theorem awake_front (w : World) (F : Nat → Prop) : GivesV Tryz.prog 15 [] w F (.bool true) := by
  refine gives_of Tryz.func15 rfl Tryz.ntmps15 rfl rfl [] (.start w F) ?_
  repeat (first|refine Wa ?_|refine Wb ?_|refine Wc ?_|refine Wd ?_|refine We rfl ?_|refine Wf (by exact Vb) rfl ?_)
  refine JR.callSl (L := [l0, m1]) rfl (fun w1 hw => pair_law w1 _) ?_
  intro a1 k1
  repeat (refine We rfl ?_)
  refine JR.call1 (B := fun y : Option Addr × Nat => .st (sl y.1 y.2 [idA, idP])) rfl (fun w1 hw => head_pr w1 _ a1 k1 hw.get) ?_
  rintro ⟨p2, q2⟩
  dsimp only
  repeat (first|refine Wa ?_|refine Wb ?_|refine Wc ?_|refine Wd ?_|refine We rfl ?_|refine Wf (by first|exact Va|exact Vb|exact Vq) rfl ?_|(refine Wg rfl ?_; intro _)|refine Wi ?_)
  refine JR.callSl (L := [l0, m1]) rfl (fun w1 hw => pair_law w1 _) ?_
  intro a3 k3
  repeat (refine We rfl ?_)
  refine Wf (OpV.build [.int .i64 0, .int .i64 2] (by kernel_rfl)) rfl ?_
  repeat (refine We rfl ?_)
  refine Wf (OpV.build [.int .i64 0, .string keyA, .string .empty, .int .i64 5] (by kernel_rfl)) rfl ?_
  repeat (refine We rfl ?_)
  refine JR.call1 (B := fun y : Option Addr × Nat => .st (sl y.1 y.2 [idA, idP])) rfl (fun w1 hw => next_pr w1 _ a3 k3 hw.get) ?_
  rintro ⟨p4, q4⟩
  dsimp only
  repeat (first|refine Wa ?_|refine Wb ?_|refine Wc ?_|refine Wd ?_|refine We rfl ?_|refine Wf (by first|exact Va|exact Vb|exact Vc|exact Vi|exact Vq) rfl ?_|(refine Wg rfl ?_; intro _)|refine Wi ?_)
  refine JR.callV (v := .bool true) rfl (fun w1 hw => by have := merge_commit w1 (fp _ _ _) (headC 2 [idA, idP]) p2 q2 (hw.get (A := sl p2 q2 [idA, idP])) ⟨(by decide : ByteArray.empty.size < 4611686018427387904), (by decide : ByteArray.empty.size < 4611686018427387904)⟩; rwa [head_pair.2] at this) ?_
  repeat (first|refine We rfl ?_|refine Wf (by first|exact Va|exact Vc|exact Vd|exact Vf|exact Vi|exact Vl) rfl ?_)
  refine JR.callSl (L := [l0, m1]) rfl (fun w1 hw => pair_law w1 _) ?_
  intro a5 k5
  repeat (refine We rfl ?_)
  refine JR.callSl (L := [idA, idP]) rfl (fun w1 hw => front_pr w1 _ a5 k5 hw.get) ?_
  intro a6 k6
  repeat (first|refine We rfl ?_|refine Wf (by first|exact Va|exact Vf|exact Vi|exact Vl) rfl ?_)
  refine JR.callSl (L := [l0, m1]) rfl (fun w1 hw => pair_law w1 _) ?_
  intro a7 k7
  repeat (refine We rfl ?_)
  refine JR.callSl (L := [l0, m1]) rfl (fun w1 hw => pair_law w1 _) ?_
  intro a8 k8
  repeat (refine We rfl ?_)
  refine JR.callSl (L := [idA, idP]) rfl (fun w1 hw => ids_pr w1 _ a8 k8 hw.get) ?_
  intro a9 k9
  repeat (refine We rfl ?_)
  refine JR.callSl (L := ([] : List ID)) rfl (fun w1 hw => base_pr w1 _ a7 a9 k7 k9 hw.get hw.get) ?_
  intro b1 c1
  repeat (first|refine Wa ?_|refine Wd ?_|refine We rfl ?_|refine Wf (by first|exact Vb|exact Vf|exact Vi|exact Vl) rfl ?_|refine Ws ?_)
  exact CT.done () rfl (fun w ho => ho.ent)
end Ab
end Go.Proofs.YtglclakhjmogiaaGreat

/- Arguments that read as data, told as the layer tells memory. -/
namespace Go.Proofs.YtglclakhjmogiaaGreat
namespace Ab
open Go Go.RowKit
set_option linter.unusedVariables false
set_option linter.unusedSimpArgs false

/-- Cells of type t that read as data are those of some element. -/
structure OpenT (P : Program) (α : Type) [Cell α] (t : TypeId) : Prop where
  ok : ∀ {H : Type} {enc : TypeId × Value → H} {w : World} {sp : Nat → Bool} {held : Bool} {fuel : Nat} {cs : List Value} {x : DataW H × List MemPlace},
    DataW.trod enc P w 0 sp held fuel t cs = some x → (∀ n ∈ x.1.weights P t, n ≤ reachBytes) → ∃ (u : α) (y : Cell.Ix α), cs = Cell.cells u y ∧ ∀ A ∈ Cell.facts u y, A.holds (fun _ => True) w

theorem weightsAll_mem {H : Type} {P : Program} {e : TypeId} {d : DataW H} {n : Nat} (hn : n ∈ d.weights P e) : ∀ {ds : List (DataW H)}, d ∈ ds → n ∈ DataW.weightsAll P e ds
  | [], h => by cases h
  | d' :: ds, h => by
    simp only [DataW.weightsAll, List.mem_append]
    rcases List.mem_cons.1 h with rfl | h
    · exact .inl hn
    · exact .inr (weightsAll_mem hn h)

theorem add_zero_addr (a : Addr) : (a.add 0).add 0 = a := by simp [Addr.add]
theorem cells_get {w : World} {a : Addr} {n : Nat} {ci : List Value} (h : w.cells? 0 a n = some ci) (j : Nat) (v : Value) (hv : ci[j]? = some v) : w.cell? (a.add j) = some v := by
  unfold World.cells? at h
  rw [if_pos (Nat.zero_le _)] at h
  have hl := mapM_some_length h
  have hj : j < n := by
    have := (List.getElem?_eq_some_iff.1 hv).1
    rw [hl, List.length_range] at this
    exact this
  have := mapM_some_get h j j (by simp [hj])
  rw [this, hv]

theorem OpenT.slice {P : Program} {α : Type} [Cell α] {t e : TypeId} (hO : OpenT P α e) (ht : P.underlying t = some (.slice e)) (hc : P.cellsOf e = Cell.sz α) (hb : 1 ≤ P.bytesOf e)
    {H : Type} {enc : TypeId × Value → H} {w : World} {sp : Nat → Bool} {held : Bool} {fuel : Nat} {cs : List Value} {x : DataW H × List MemPlace}
    (h : DataW.trod enc P w 0 sp held fuel t cs = some x) (hw : ∀ n ∈ x.1.weights P t, n ≤ reachBytes) :
    ∃ (a : Option Addr) (c : Nat) (L : List α), cs = [.slice a L.length c] ∧ (sl a c L).holds (fun _ => True) w := by
  rcases DataW.trod_slice ht h with ⟨rfl, rfl⟩ | ⟨a, len, cap, elems, rest, n, _, rfl, rfl, _, hlc, hcm, hlen, helems, _, _⟩
  · exact ⟨none, 0, [], rfl, sl_nil⟩
  · simp only [DataW.weights, ht] at hw
    have hw1 : len ≤ reachBytes := by
      have := hw _ (List.mem_cons_self ..)
      simp only [List.length_map] at this
      have h2 : (elems.length + rest.length) * 1 ≤ (elems.length + rest.length) * P.bytesOf e := Nat.mul_le_mul_left _ hb
      omega
    have key : ∀ i (hi : i < len), ∃ (u : α), ∃ (y : Cell.Ix α), (∀ j v, (Cell.cells u y)[j]? = some v → w.cell? ((a.add (i * Cell.sz α)).add j) = some v) ∧ ∀ A ∈ Cell.facts u y, A.holds (fun _ => True) w := by
      intro i hi
      have h1 := helems i hi
      have hi' : i < elems.length := by omega
      rw [List.getElem?_eq_getElem hi', hc] at h1
      obtain ⟨ci, hci, hd⟩ := Option.bind_eq_some_iff.1 h1
      obtain ⟨u, y, rfl, hf⟩ := hO.ok hd (fun n hn => hw n (List.mem_cons_of_mem _ (List.mem_append_left _ (weightsAll_mem hn (List.mem_map_of_mem (List.getElem_mem hi'))))))
      exact ⟨u, y, fun j v hv => cells_get hci j v hv, hf⟩
    obtain ⟨f, hf⟩ := Classical.axiomOfChoice (fun i : Fin len => key i.1 i.2)
    refine ⟨some a, cap, List.ofFn f, by simp, ?_⟩
    have hR : reachBytes = 140737488351232 := rfl
    refine ⟨by simpa using hlc, hcm, by simp only [List.length_ofFn, lim]; omega, fun hne => ?_⟩
    have h0 : 0 < len := by
      have := List.length_pos_iff.2 hne
      simpa using this
    obtain ⟨y0, hy0, _⟩ := hf ⟨0, h0⟩
    have hpos : 0 < (Cell.cells (f ⟨0, h0⟩) y0).length := by rw [Cell.len]; exact Cell.pos
    have hc0 := hy0 0 _ (List.getElem?_eq_getElem hpos)
    simp only [Nat.zero_mul, add_zero_addr] at hc0
    obtain ⟨b, off, spot⟩ := a
    have hspot : spot = none := by
      cases spot with
      | none => rfl
      | some s =>
        unfold World.cell? at hc0
        split at hc0
        · simp at hc0
        · cases hc0
    subst hspot
    refine ⟨b, off, rfl, trivial, ?_, fun i hi => ?_⟩
    · rcases Nat.lt_or_ge b w.heap.size with h | h
      · exact h
      · unfold World.cell? at hc0
        simp [Array.getElem?_eq_none h] at hc0
    · have hi' : i < len := by simpa using hi
      obtain ⟨y, hy, hfa⟩ := hf ⟨i, hi'⟩
      refine ⟨y, fun j v hv => ?_, fun A hA => ?_⟩
      · simp only [List.getElem_ofFn] at hv
        have := hy j v hv
        rw [Addr.add_mid, Addr.add_mid] at this
        exact this
      · simp only [List.getElem_ofFn] at hA
        exact hfa A hA

def byteOfV : Value → UInt8
  | .int _ n => UInt8.ofNat n.toNat
  | _ => 0
set_option maxRecDepth 100000 in
theorem open_id : OpenT Tryz.prog ID 47 := ⟨fun {H enc w sp held fuel cs x} h _ => by
  have hcell : Tryz.prog.cellsOf 5 = 1 := by kernel_rfl
  have hcell2 : Tryz.prog.cellsOf 47 = 32 := by kernel_rfl
  obtain ⟨xs, m, rfl, rfl, hl, hlx, hx⟩ := DataW.trod_array Tryz.underlying47 h
  rw [hcell2] at hl
  have key : ∀ i (hi : i < cs.length), cs[i] = byteV (byteOfV cs[i]) := by
    intro i hi
    have h1 := hx i (by omega)
    rw [hcell, Nat.mul_one, List.getElem?_eq_getElem (by omega)] at h1
    have h2 : (cs.drop i).take 1 = [cs[i]] := by
      rw [List.drop_eq_getElem_cons hi]; rfl
    rw [h2] at h1
    obtain ⟨n, hn, _, hw⟩ := DataW.trod_int Tryz.underlying5 h1
    injection hn with hn
    have hb : 0 ≤ n ∧ n ≤ 255 := by simpa [Lit.wf, IntKind.min, IntKind.max, IntKind.signed, IntKind.bits] using hw
    rw [hn]
    simp only [byteOfV, byteV, Value.int.injEq, true_and]
    rw [UInt8.toNat_ofNat']
    omega
  refine ⟨⟨cs.map byteOfV, by rw [List.length_map]; exact hl⟩, (), ?_, by simp [Cell.facts]⟩
  show cs = (cs.map byteOfV).map byteV
  apply List.ext_getElem
  · simp
  · intro i h1 h2
    simp only [List.getElem_map]
    exact key i h1⟩

set_option maxRecDepth 100000 in
theorem open_commit : OpenT Tryz.prog Commit 34 := ⟨fun {H enc w sp held fuel cs x} h hw => by
  have c24 : Tryz.prog.cellsOf 25 = 2 := by kernel_rfl
  have c27 : Tryz.prog.cellsOf 27 = 4 := by kernel_rfl
  have c29 : Tryz.prog.cellsOf 34 = 8 := by kernel_rfl
  have c25 : Tryz.prog.cellsOf 23 = 1 := by kernel_rfl
  have c3 : Tryz.prog.cellsOf 3 = 1 := by kernel_rfl
  have c9 : Tryz.prog.cellsOf 9 = 1 := by kernel_rfl
  obtain ⟨xs, m, rfl, rfl, hl, hlx, hx⟩ := DataW.trod_struct Tryz.underlying34 h
  rw [c29] at hl
  match cs, hl with
  | [v0, v1, v2, v3, v4, v5, v6, v7], _ =>
  match xs, hlx with
  | [x0, x1, x2, x3], _ =>
  have h0 := hx 0 _ rfl
  have h1 := hx 1 _ rfl
  have h2 := hx 2 _ rfl
  have h3 := hx 3 _ rfl
  simp only [List.getElem_toArray, List.getElem_cons_zero, List.getElem_cons_succ, c24, c3, c25, c27, List.drop_zero, List.drop_succ_cons, List.take_succ_cons, List.take_zero, List.getElem?_cons_zero, List.getElem?_cons_succ] at h0 h1 h2 h3
  obtain ⟨ys, m', rfl, rfl, _, hly, hy⟩ := DataW.trod_struct Tryz.underlying25 h0
  match ys, hly with
  | [y0, y1], _ =>
  have e0 := hy 0 _ rfl
  have e1 := hy 1 _ rfl
  simp only [List.getElem_toArray, List.getElem_cons_zero, List.getElem_cons_succ, c3, List.drop_zero, List.drop_succ_cons, List.take_succ_cons, List.take_zero, List.getElem?_cons_zero, List.getElem?_cons_succ] at e0 e1
  obtain ⟨n0, q0, _, _⟩ := DataW.trod_int Tryz.underlying3 e0
  obtain ⟨n1, q1, _, _⟩ := DataW.trod_int Tryz.underlying3 e1
  obtain ⟨n2, q2, _, _⟩ := DataW.trod_int Tryz.underlying3 h1
  obtain ⟨zs, m2, hm2, rfl, _, hlz, hz⟩ := DataW.trod_struct Tryz.underlying27 h3
  match zs, hlz with
  | [z0, z1, z2, z3], _ =>
  have g0 := hz 0 _ rfl
  have g1 := hz 1 _ rfl
  have g2 := hz 2 _ rfl
  have g3 := hz 3 _ rfl
  simp only [List.getElem_toArray, List.getElem_cons_zero, List.getElem_cons_succ, c3, c9, List.drop_zero, List.drop_succ_cons, List.take_succ_cons, List.take_zero, List.getElem?_cons_zero, List.getElem?_cons_succ] at g0 g1 g2 g3
  obtain ⟨k0, r0, _, _⟩ := DataW.trod_int Tryz.underlying3 g0
  obtain ⟨s1, r1, r1x, _⟩ := DataW.trod_string Tryz.underlying9 g1
  obtain ⟨s2, r2, r2x, _⟩ := DataW.trod_string Tryz.underlying9 g2
  obtain ⟨k3, r3, _, _⟩ := DataW.trod_int Tryz.underlying3 g3
  simp only [DataW.weights, Tryz.underlying34, List.map_cons, List.map_nil, DataW.weightsEach, List.append_nil, List.mem_append, List.map_toArray] at hw
  obtain ⟨pa, pc, L, q3, hsl⟩ := open_id.slice Tryz.underlying23 (by kernel_rfl) (by rw [show Tryz.prog.bytesOf 47 = 32 by kernel_rfl]; decide) h2 (fun n hn => hw n (by simp [hn]))
  injection q0 with q0
  injection q1 with q1
  injection q2 with q2
  injection q3 with q3
  injection r0 with r0
  injection r1 with r1
  injection r2 with r2
  injection r3 with r3
  subst q0 q1 q2 q3 r0 r1 r2 r3
  exact ⟨⟨⟨n0, n1⟩, n2, L, ⟨k0, s1, s2, k3⟩⟩, (pa, pc), rfl, fun A hA => by simp only [Cell.facts, List.mem_singleton] at hA; subst hA; exact hsl⟩⟩
end Ab
end Go.Proofs.YtglclakhjmogiaaGreat

/- Arguments of the laws, opened. -/
namespace Go.Proofs.YtglclakhjmogiaaGreat
open Go Go.ChangeShapes Go.WideShapes Go.ChangeAt Go.RowKit
set_option linter.unusedVariables false

theorem knobs : ownKnob Tryz.prog.godebug = none := by kernel_rfl
theorem laid : laidOutB Tryz.prog = true := by kernel_rfl

theorem arg_sl {P : Program} {H : Type} {enc : TypeId × Value → H} {W : World} {α : Type} [Ab.Cell α] {t e : TypeId} (hO : Ab.OpenT P α e) (ht : P.underlying t = some (.slice e)) (hc : P.cellsOf e = Ab.Cell.sz α) (hb : 1 ≤ P.bytesOf e)
    {r : Reach} {base : Nat} {v : Value} {d : DataW H} {p : List MemPlace} (hv : Value.okWide P W r base t v) (h : DataW.Trod enc P W 0 (fun _ => true) true t v d p) (hw : ∀ n ∈ d.weights P t, n ≤ reachBytes) :
    ∃ (a : Option Addr) (c : Nat) (L : List α), v = .slice a L.length c ∧ (Ab.sl a c L).holds (fun _ => True) W := by
  obtain ⟨a, len, cap, rfl⟩ := okWide_slice ht hv
  obtain ⟨fuel, hf⟩ := h
  obtain ⟨a', c', L, hcs, hsl⟩ := hO.slice ht hc hb hf hw
  simp [Value.cells] at hcs
  obtain ⟨rfl, rfl, rfl⟩ := hcs
  exact ⟨_, _, L, rfl, hsl⟩

theorem bytes_commit : Tryz.prog.bytesOf 34 = 96 := by kernel_rfl
theorem bytes_id : Tryz.prog.bytesOf 47 = 32 := by kernel_rfl
section
variable {H : Type} {enc : TypeId × Value → H} {W : World} {r : Reach} {base : Nat} {v : Value} {d : DataW H} {p : List MemPlace}
set_option maxRecDepth 100000 in
theorem arg_commits (hv : Value.okWide Tryz.prog W r base 22 v) (h : DataW.Trod enc Tryz.prog W 0 (fun _ => true) true 22 v d p) (hw : ∀ n ∈ d.weights Tryz.prog 22, n ≤ reachBytes) :
    ∃ (a : Option Addr) (c : Nat) (L : List Ab.Commit), v = .slice a L.length c ∧ (Ab.sl a c L).holds (fun _ => True) W :=
  arg_sl Ab.open_commit Tryz.underlying22 (by kernel_rfl) (by rw [bytes_commit]; decide) hv h hw
set_option maxRecDepth 100000 in
theorem arg_ids (hv : Value.okWide Tryz.prog W r base 23 v) (h : DataW.Trod enc Tryz.prog W 0 (fun _ => true) true 23 v d p) (hw : ∀ n ∈ d.weights Tryz.prog 23, n ≤ reachBytes) :
    ∃ (a : Option Addr) (c : Nat) (L : List Ab.ID), v = .slice a L.length c ∧ (Ab.sl a c L).holds (fun _ => True) W :=
  arg_sl Ab.open_id Tryz.underlying23 (by kernel_rfl) (by rw [bytes_id]; decide) hv h hw
set_option maxRecDepth 100000 in
theorem arg_id (hv : Value.okWide Tryz.prog W r base 47 v) (h : DataW.Trod enc Tryz.prog W 0 (fun _ => true) true 47 v d p) (hw : ∀ n ∈ d.weights Tryz.prog 47, n ≤ reachBytes) :
    ∃ x : Ab.ID, v = .agg ⟨Ab.idc x⟩ := by
  unfold Value.okWide at hv
  rw [Tryz.underlying47] at hv
  obtain ⟨cs, rfl, _, _⟩ := hv
  obtain ⟨fuel, hf⟩ := h
  obtain ⟨u, y, hcs, _⟩ := Ab.open_id.ok hf hw
  have hcs' : cs.toList = Ab.idc u := hcs
  exact ⟨u, by rw [← hcs']⟩
set_option maxRecDepth 100000 in
theorem arg_event (hv : Value.okWide Tryz.prog W r base 25 v) (h : DataW.Trod enc Tryz.prog W 0 (fun _ => true) true 25 v d p) : ∃ e : Ab.Ev_, v = .agg ⟨[.int .i64 e.node, .int .i64 e.seq]⟩ := by
  have c24 : Tryz.prog.cellsOf 25 = 2 := by kernel_rfl
  have c3 : Tryz.prog.cellsOf 3 = 1 := by kernel_rfl
  unfold Value.okWide at hv
  rw [Tryz.underlying25] at hv
  obtain ⟨⟨cs⟩, rfl, _, _⟩ := hv
  obtain ⟨fuel, hf⟩ := h
  obtain ⟨ys, m', _, _, hl, hly, hy⟩ := DataW.trod_struct Tryz.underlying25 hf
  rw [c24] at hl
  match cs, hl, ys, hly with
  | [v0, v1], _, [y0, y1], _ =>
  have e0 := hy 0 _ rfl
  have e1 := hy 1 _ rfl
  simp only [Value.cells, List.getElem_toArray, List.getElem_cons_zero, List.getElem_cons_succ, c3, List.drop_zero, List.drop_succ_cons, List.take_succ_cons, List.take_zero, List.getElem?_cons_zero, List.getElem?_cons_succ] at e0 e1
  obtain ⟨n0, q0, _, _⟩ := DataW.trod_int Tryz.underlying3 e0
  obtain ⟨n1, q1, _, _⟩ := DataW.trod_int Tryz.underlying3 e1
  injection q0 with q0
  injection q1 with q1
  subst q0 q1
  exact ⟨⟨n0, n1⟩, rfl⟩
set_option maxRecDepth 100000 in
theorem arg_op (hv : Value.okWide Tryz.prog W r base 27 v) (h : DataW.Trod enc Tryz.prog W 0 (fun _ => true) true 27 v d p) : ∃ o : Ab.Op_, v = Ab.opV o := by
  have c27 : Tryz.prog.cellsOf 27 = 4 := by kernel_rfl
  have c3 : Tryz.prog.cellsOf 3 = 1 := by kernel_rfl
  have c9 : Tryz.prog.cellsOf 9 = 1 := by kernel_rfl
  unfold Value.okWide at hv
  rw [Tryz.underlying27] at hv
  obtain ⟨⟨cs⟩, rfl, _, _⟩ := hv
  obtain ⟨fuel, hf⟩ := h
  obtain ⟨ys, m', _, _, hl, hly, hy⟩ := DataW.trod_struct Tryz.underlying27 hf
  rw [c27] at hl
  match cs, hl, ys, hly with
  | [v0, v1, v2, v3], _, [y0, y1, y2, y3], _ =>
  have g0 := hy 0 _ rfl
  have g1 := hy 1 _ rfl
  have g2 := hy 2 _ rfl
  have g3 := hy 3 _ rfl
  simp only [Value.cells, List.getElem_toArray, List.getElem_cons_zero, List.getElem_cons_succ, c3, c9, List.drop_zero, List.drop_succ_cons, List.take_succ_cons, List.take_zero, List.getElem?_cons_zero, List.getElem?_cons_succ] at g0 g1 g2 g3
  obtain ⟨k0, r0, _, _⟩ := DataW.trod_int Tryz.underlying3 g0
  obtain ⟨s1, r1, _, _⟩ := DataW.trod_string Tryz.underlying9 g1
  obtain ⟨s2, r2, _, _⟩ := DataW.trod_string Tryz.underlying9 g2
  obtain ⟨k3, r3, _, _⟩ := DataW.trod_int Tryz.underlying3 g3
  injection r0 with r0
  injection r1 with r1
  injection r2 with r2
  injection r3 with r3
  subst r0 r1 r2 r3
  exact ⟨⟨k0, s1, s2, k3⟩, rfl⟩
end
section
variable {H : Type} {enc : TypeId × Value → H} {P : Program} {w : World} {base : Nat} {spare : Nat → Bool} {held : Bool}
theorem trodAll_five {t t' t'' t3 t4 : TypeId} {args : Array Value} {ds : List (DataW H)} {ps : List MemPlace} (h : DataW.TrodAll enc P w base spare held [t, t', t'', t3, t4] args.toList ds ps) :
    ∃ v v' v'' v3 v4 d d' d'' d3 d4 p p' p'' p3 p4, args = #[v, v', v'', v3, v4] ∧ ds = [d, d', d'', d3, d4] ∧ ps = p ++ p' ++ p'' ++ p3 ++ p4 ∧ DataW.Trod enc P w base spare held t v d p ∧ DataW.Trod enc P w base spare held t' v' d' p' ∧ DataW.Trod enc P w base spare held t'' v'' d'' p'' ∧ DataW.Trod enc P w base spare held t3 v3 d3 p3 ∧ DataW.Trod enc P w base spare held t4 v4 d4 p4 := by
  obtain ⟨v, vs, d, ds1, p, q, hargs, rfl, rfl, hd, hrest⟩ := trodAll_cons h
  obtain ⟨v', vs', d', ds2, p', q', rfl, rfl, rfl, hd', hrest'⟩ := trodAll_cons hrest
  obtain ⟨v'', vs'', d'', ds3, p'', q'', rfl, rfl, rfl, hd'', hrest''⟩ := trodAll_cons hrest'
  obtain ⟨v3, vs3, d3, ds4, p3, q3, rfl, rfl, rfl, hd3, hrest3⟩ := trodAll_cons hrest''
  obtain ⟨v4, vs4, d4, ds5, p4, q4, rfl, rfl, rfl, hd4, hrest4⟩ := trodAll_cons hrest3
  obtain ⟨rfl, rfl, rfl⟩ := trodAll_nil hrest4
  exact ⟨v, v', v'', v3, v4, d, d', d'', d3, d4, p, p', p'', p3, p4, by cases args; simp_all, rfl, by simp, hd, hd', hd'', hd3, hd4⟩
theorem trodAll_mk5 {t t' t'' t3 t4 : TypeId} {v v' v'' v3 v4 : Value} {d d' d'' d3 d4 : DataW H} {p p' p'' p3 p4 : List MemPlace} (h : DataW.Trod enc P w base spare held t v d p) (h' : DataW.Trod enc P w base spare held t' v' d' p')
    (h'' : DataW.Trod enc P w base spare held t'' v'' d'' p'') (h3 : DataW.Trod enc P w base spare held t3 v3 d3 p3) (h4 : DataW.Trod enc P w base spare held t4 v4 d4 p4) : DataW.TrodAll enc P w base spare held [t, t', t'', t3, t4] [v, v', v'', v3, v4] [d, d', d'', d3, d4] (p ++ (p' ++ (p'' ++ (p3 ++ p4)))) := ⟨p, p' ++ (p'' ++ (p3 ++ p4)), h, trodAll_mk4 h' h'' h3 h4, rfl⟩
end
end Go.Proofs.YtglclakhjmogiaaGreat

/- Bytes told as a string. Program-independent. -/
namespace Go.Proofs.YtglclakhjmogiaaGreat
namespace Ab
open Go Go.RowKit
set_option linter.unusedVariables false
set_option linter.unusedSimpArgs false
def strB (L : List UInt8) : ByteArray := ⟨L.toArray⟩
theorem strOf_bytes (L : List UInt8) : strOfNums (L.map fun b => (b.toNat : Int)) = strB L := by
  simp only [strOfNums, strB, List.map_map]
  congr 2
  conv => rhs; rw [← List.map_id L]
  apply List.map_congr_left
  intro b _
  simp
theorem OpV.bytesStr [Dr] {P : Program} {n : Nat} {w0 : World} {F : Nat → Prop} {d : Option Nat} {t : TypeId} {pos : String} {aft : Array Edge} {g : Option (Nat × Bool)} {e : E} {Γ : List Fact}
    {x : Operand} {src dst el : TypeId} {v : Value} {L : List UInt8} {s1 b1 s2 b2 s3 b3 : Nat} {z1 z2 z3 : Value} [hx : Ev e x v] [hL : HasSl Γ v UInt8 inferInstance L]
    [hs : Ty P src (.slice el) s1 b1 z1] [hE : Ty P el (.int .u8) s2 b2 z2] [hD : Ty P dst .string s3 b3 z3] : OpV P n w0 F ⟨d, .convert src dst x, t, pos, aft, g⟩ e Γ (.string (strB L)) :=
  fun a w fr ho => by
    obtain ⟨a0, c, rfl, hsl⟩ := hL.holds ho
    have key : (convert src dst (.slice a0 L.length c)).run P w = .ok (.string (strB L)) w := by
      by_cases hne : L = []
      · subst hne
        cases a0 with
        | none => exact run_convert_bytes_nil w src el hs.und hE.und _ _ dst hD.und
        | some a0 =>
          obtain ⟨b, off, sp⟩ := a0
          rw [run_convert_bytes_string w src dst el _ _ _ hs.und hE.und hD.und]
          have hl : (loadCells ⟨b, off, sp⟩ ([] : List UInt8).length).run P w = .ok (([] : List Int).map (Value.int .u8)).toArray w := by
            have := run_loadCells_list (P := P) w ⟨b, off, sp⟩ ([] : List Value) (fun j v hj => by simp at hj)
            simpa using this
          rw [run_bytesToString w _ _ c [] hl]; rfl
      · obtain ⟨b, off, rfl, _, _, hr⟩ := hsl.2.2.2 hne
        have := run_convert_bytes_arg w src el hs.und hE.und b off L.length c (L.map fun b => (b.toNat : Int)) (by simp) (fun i hi => by
          obtain ⟨y, h1, _⟩ := hr i hi
          have h2 := h1 0 (byteV L[i]) rfl
          have e : off + i * Cell.sz UInt8 + 0 = off + i := by show off + i * 1 + 0 = off + i; omega
          rw [e] at h2
          rw [h2]
          simp [byteV, List.getD_eq_getElem?_getD, hi]) dst hD.und
        rw [strOf_bytes] at this
        exact this
    simp [execOp, hx.ok n a fr, key]
end Ab
end Go.Proofs.YtglclakhjmogiaaGreat

/- The law FrontJoins returns true. -/
namespace Go.Proofs.YtglclakhjmogiaaGreat
namespace Ab
open Go Go.RowKit
set_option linter.unusedVariables false
set_option linter.unusedSimpArgs false
set_option synthInstance.maxSize 4000
set_option synthInstance.maxHeartbeats 400000
attribute [local irreducible] JC JO JR JQ andThen inBlock OpV Gives retTo JM JS

attribute [local irreducible] hashC idA l0 l1 ents
theorem find_fine {L : List Commit} (hf : ∀ x ∈ L, fine x) (x : ID) : fine (findR L x).1 := by
  unfold findR
  cases h : findC L x with
  | none => exact ⟨⟨by decide, by decide⟩, by decide⟩
  | some c => exact hf c (List.mem_of_find?_eq_some h)
theorem fine_headC (g : Int) {f : List ID} (h : f.length ≤ 34359738368) : fine (headC g f) := ⟨⟨(by decide : ByteArray.empty.size < 4611686018427387904), (by decide : ByteArray.empty.size < 4611686018427387904)⟩, h⟩
theorem front_le {L : List Commit} : (frontF L).length ≤ 8 := by
  by_cases hc : Closed L
  · exact front_few hc
  · rw [front_not hc]; decide
theorem join_fine {L : List Commit} (hf : ∀ x ∈ L, fine x) (A : List ID) : fine (joinF L A).1 := by
  have h8 := front_le (L := partF L (ancF L A))
  unfold joinF
  split
  · exact ⟨⟨by decide, by decide⟩, by decide⟩
  · exact find_fine hf _
  · unfold mergeR
    split
    · exact fine_headC _ (by omega)
    · exact ⟨⟨by decide, by decide⟩, by decide⟩
theorem put_may {c : Commit} (h : may c = true) : putCommit c = (commitPut c, 0) := by simp [putCommit, h]
set_option maxHeartbeats 4000000 in
theorem law_frontjoins (w : World) (F : Nat → Prop) (a b d : Option Addr) (k m n : Nat) (L : List Commit) (A B : List ID) (h : (sl a k L).holds F w) (h1 : (sl b m A).holds F w) (h2 : (sl d n B).holds F w) :
    GivesV Tryz.prog 7 [.slice a L.length k, .slice b A.length m, .slice d B.length n] w F (.bool true) := by
  refine gives_of Tryz.func7 rfl Tryz.ntmps7 rfl rfl [.st (sl a k L), .st (sl b m A), .st (sl d n B)] (.start3 h h1 h2) ?_
  repeat (first|refine Wa ?_|refine Wb ?_|refine Wc ?_|refine Wd ?_|refine We rfl ?_|refine Wf (by exact Vb) rfl ?_)
  refine JR.callV rfl (fun w1 hw => awake_front w1 _) ?_
  repeat (first|refine Wa ?_|refine Wb ?_|refine Wc ?_|refine Wd ?_|refine We rfl ?_|refine Wf (by first|exact Va|exact Vb) rfl ?_)
  refine JR.callV rfl (fun w1 hw => few_all w1 _ a k L 10 hw.get) ?_
  cases hfew : fewL L 10 with
  | false =>
    repeat (first|refine Wa ?_|refine Wb ?_|refine Wc ?_|refine Wd ?_|refine We rfl ?_|refine Wf (by first|exact Va|exact Vb|exact Vh|exact Vi|exact Vj) rfl ?_|refine Wj ?_|refine Ws ?_|refine Wt ?_|refine Wv rfl rfl ?_)
    exact CT.done () rfl (fun w ho => ho.ent)
  | true =>
  obtain ⟨hL, hf⟩ := few_fine hfew
  repeat (first|refine Wa ?_|refine Wb ?_|refine Wc ?_|refine Wd ?_|refine We rfl ?_|refine Wf (by first|exact Va|exact Vb|exact Vf|exact Vh|exact Vj|exact Vo) rfl ?_)
  refine JO.test 35 (fun hA => ?_) (fun hA => ?_)
  · repeat (first|refine Wa ?_|refine Wb ?_|refine Wc ?_|refine Wd ?_|refine We rfl ?_|refine Wf (by first|exact Va|exact Vb|exact Vi) rfl ?_|refine Wj ?_|refine Ws ?_|refine Wt ?_|refine Wv rfl rfl ?_)
    exact CT.done () rfl (fun w ho => ho.ent)
  repeat (first|refine We rfl ?_|refine Wf (by first|exact Va|exact Vf|exact Vj|exact Vo) rfl ?_)
  refine JO.test 40 (fun hB => ?_) (fun hB => ?_)
  · repeat (first|refine Wa ?_|refine Wb ?_|refine Wc ?_|refine Wd ?_|refine We rfl ?_|refine Wf (by first|exact Va|exact Vb|exact Vi) rfl ?_|refine Wj ?_|refine Ws ?_|refine Wt ?_|refine Wv rfl rfl ?_)
    exact CT.done () rfl (fun w ho => ho.ent)
  by_cases hc : Closed L
  case neg =>
    repeat (first|refine We rfl ?_|refine Wf (by exact Va) rfl ?_)
    refine JR.callV rfl (fun w1 hw => closed_no w1 _ a k L hw.get (by omega) hf hc) ?_
    repeat (first|refine Wa ?_|refine Wb ?_|refine Wc ?_|refine Wd ?_|refine We rfl ?_|refine Wf (by first|exact Va|exact Vb|exact Vh|exact Vj) rfl ?_|refine Wj ?_|refine Ws ?_|refine Wt ?_)
    exact CT.done () rfl (fun w ho => ho.ent)
  repeat (first|refine We rfl ?_|refine Wf (by exact Va) rfl ?_)
  refine JR.callV rfl (fun w1 hw => closed_yes w1 _ a k L hw.get (by omega) hf hc) ?_
  repeat (first|refine Wa ?_|refine Wb ?_|refine Wc ?_|refine Wd ?_|refine We rfl ?_|refine Wf (by first|exact Va|exact Vb|exact Vf|exact Vh|exact Vj|exact Vv (by omega)) rfl ?_|refine Wk ?_|refine Wl ?_|refine Wn ?_)
  refine JC.buf_nil (α := Commit) 34 ?_
  refine JC.loop4 (fun (j : Nat) (v : Int) r s => [(0, .slice a L.length k), (1, .slice b A.length m), (2, .slice d B.length n), (9, .slice r (L.reverse.take j).length s), (10, .int .i64 v)])
    (fun j v r s => [.res (buf r s 34 (L.reverse.take j)), .st (sl a k L), .st (sl b m A), .st (sl d n B)])
    (fun j v _ _ => j ≤ L.length ∧ v = (L.length : Int) - 1 - j) (fun j _ _ _ => L.length - j) 0 ((L.length : Int) - 1) none 0 ⟨Nat.zero_le _, by omega⟩ (by rw [List.take_zero]; infer_instance) ?_
  intro j v r s ⟨hj, hv⟩
  repeat (first|refine Wa ?_|refine Wb ?_|refine Wc ?_|refine Wd ?_|refine We rfl ?_|refine Wf (by first|exact Va|exact Vp) rfl ?_)
  refine JC.test (fun hlt => ?_) (fun hge => ?_)
  · have hjl : j < L.length := by omega
    have hjx : L.length - 1 - j < L.length := by omega
    have hrl : (L.reverse.take j).length = j := by rw [List.length_take, List.length_reverse]; omega
    have hnx : L.reverse.take (j + 1) = L.reverse.take j ++ [L[L.length - 1 - j]'hjx] := by
      rw [List.take_succ_eq_append_getElem (by simpa using hjl), List.getElem_reverse]
    refine JC.reslot 10 (.int .i64 ((L.length - 1 - j : Nat) : Int)) (by congr 1 <;> omega) ?_
    repeat (first|refine Wa ?_|refine Wb ?_|refine Wc ?_|refine We rfl ?_|refine Wf (by exact Va) rfl ?_|refine Wl ?_|refine Wn ?_)
    refine JR.indexCommit (L := L) (k := L.length - 1 - j) rfl hjx ?_
    intro b1 o1 p1 q1
    repeat (first|refine We rfl ?_|refine Wf (by exact Vc) rfl ?_|(refine Ww rfl ⟨rfl, by decide, by decide, by decide⟩ ?_; intro _))
    refine JR.append1 (u := L[L.length - 1 - j]'hjx) rfl (by exact ⟨rfl, rfl, by decide⟩) (by omega) ?_
    intro r2 s2
    repeat (first|refine Wa ?_|refine Wc ?_|refine Wd ?_|refine We rfl ?_|refine Wf (by first|exact Va|exact Vb|exact Vv (by omega)) rfl ?_|refine Wr ?_)
    exact ⟨j + 1, ((L.length - 1 - j : Nat) : Int) - 1, r2, s2, ⟨by omega, by omega⟩, by omega, by rw [hnx]; infer_instance⟩
  have hjl : j = L.length := by omega
  subst hjl
  rw [List.take_of_length_le (by simp)]
  obtain ⟨R, hR⟩ : ∃ R, R = L.reverse := ⟨_, rfl⟩
  have hRl : R.length = L.length := by rw [hR, List.length_reverse]
  have hRf : ∀ x ∈ R, fine x := fun x hx => hf x (by rw [hR] at hx; simpa using hx)
  have hRp : L.Perm R := hR ▸ (List.reverse_perm L).symm
  rw [← hR]
  refine JC.more (fun w1 ho => ho.pub) ?_
  obtain ⟨cj, bj, hj⟩ : ∃ c b, joinF L (A ++ B) = (c, b) := ⟨_, _, rfl⟩
  have hcf : fine cj := by have := join_fine hf (A ++ B); rwa [hj] at this
  have hj2 : joinF R (B ++ A) = (cj, bj) := by rw [← hj]; exact (join_perm hRp fun x => by simp [or_comm]).symm
  obtain ⟨X, hX⟩ : ∃ X, X = ancF L (A ++ B) := ⟨_, rfl⟩
  have hXl : X.length ≤ L.length := hX ▸ anc_len (ancF_ok L (A ++ B))
  have hj3 : joinF L X = (cj, bj) := by rw [hX, join_anc hc, hj]
  repeat (first|refine Wa ?_|refine Wb ?_|refine Wc ?_|refine We rfl ?_|refine Wf (by exact Va) rfl ?_|refine Wm ?_|refine Wo ?_|refine Wp ?_)
  refine JR.appendNil (L' := A) rfl (by exact ⟨rfl, rfl, by decide⟩) (by omega) ?_
  intro a3 k3
  repeat (first|refine We rfl ?_|refine Wf (by exact Va) rfl ?_)
  refine JR.appendSl (L := A) (L' := B) rfl (by exact ⟨rfl, rfl, by decide⟩) (by omega) ?_
  intro a4 k4
  refine JO.more (fun w1 ho => ho.pub) ?_
  repeat (refine We rfl ?_)
  refine JR.call1 (v := fun y : Option Addr × Nat => .tuple ⟨[commitV cj y.1 y.2, .bool bj]⟩) (B := fun y => .st (sl y.1 y.2 cj.parents)) rfl (fun w1 hw => by have := join_front w1 _ a a4 k k4 L (A ++ B) hw.get hw.get (by omega) (by rw [List.length_append]; omega) hf; rwa [hj] at this) ?_
  rintro ⟨p1, q1⟩
  dsimp only
  repeat (first|refine Wa ?_|refine Wb ?_|refine Wc ?_|refine Wd ?_|refine We rfl ?_|refine Wf (by first|exact Va|exact Vb|exact Vq) rfl ?_|(refine Wg rfl ?_; intro _)|refine Wi ?_)
  refine JR.appendNil (L' := B) rfl (by exact ⟨rfl, rfl, by decide⟩) (by omega) ?_
  intro a5 k5
  repeat (first|refine We rfl ?_|refine Wf (by exact Va) rfl ?_)
  refine JR.appendSl (L := B) (L' := A) rfl (by exact ⟨rfl, rfl, by decide⟩) (by omega) ?_
  intro a6 k6
  refine JO.more (fun w1 ho => ho.pub) ?_
  repeat (refine We rfl ?_)
  refine JR.call1 (v := fun y : Option Addr × Nat => .tuple ⟨[commitV cj y.1 y.2, .bool bj]⟩) (B := fun y => .st (sl y.1 y.2 cj.parents)) rfl (fun w1 hw => by have := join_front w1 _ r a6 s k6 R (B ++ A) hw.get hw.get (by omega) (by rw [List.length_append]; omega) hRf; rwa [hj2] at this) ?_
  rintro ⟨p2, q2⟩
  dsimp only
  repeat (first|refine Wa ?_|refine Wb ?_|refine Wc ?_|refine Wd ?_|refine We rfl ?_|refine Wf (by first|exact Va|exact Vb|exact Vq) rfl ?_|(refine Wg rfl ?_; intro _)|refine Wi ?_)
  refine JR.appendNil (L' := A) rfl (by exact ⟨rfl, rfl, by decide⟩) (by omega) ?_
  intro a7 k7
  repeat (first|refine We rfl ?_|refine Wf (by exact Va) rfl ?_)
  refine JR.appendSl (L := A) (L' := B) rfl (by exact ⟨rfl, rfl, by decide⟩) (by omega) ?_
  intro a8 k8
  refine JO.more (fun w1 ho => ho.pub) ?_
  repeat (refine We rfl ?_)
  refine JR.callSl (L := X) rfl (fun w1 hw => hX ▸ anc_sl w1 _ a a8 k k8 L (A ++ B) _ hw.get hw.get (by omega) (by rw [List.length_append]; omega) hf (ancF_ok L (A ++ B))) ?_
  intro a9 k9
  repeat (refine We rfl ?_)
  refine JR.call1 (v := fun y : Option Addr × Nat => .tuple ⟨[commitV cj y.1 y.2, .bool bj]⟩) (B := fun y => .st (sl y.1 y.2 cj.parents)) rfl (fun w1 hw => by have := join_front w1 _ a a9 k k9 L X hw.get hw.get (by omega) (by omega) hf; rwa [hj3] at this) ?_
  rintro ⟨p3, q3⟩
  dsimp only
  repeat (first|refine Wa ?_|refine Wb ?_|refine Wc ?_|refine Wd ?_|refine We rfl ?_|refine Wf (by first|exact Va|exact Vb|exact Vq|exact VF) rfl ?_|(refine Wg rfl ?_; intro _)|refine Wi ?_)
  refine JO.reslot 92 (.bool false) (by simp) ?_
  repeat (first|refine Wa ?_|refine Wd ?_|refine We rfl ?_|refine Wf (by first|exact Va|exact Vj|exact VF) rfl ?_)
  refine JC.reslot 96 (.bool false) (by simp) ?_
  repeat (first|refine Wa ?_|refine Wb ?_|refine Wc ?_|refine Wd ?_|refine We rfl ?_|refine Wf (by first|exact Va|exact Vh) rfl ?_|refine Wk ?_|refine Wl ?_)
  cases bj with
  | false =>
    repeat (first|refine Wa ?_|refine Wb ?_|refine Wc ?_|refine Wd ?_|refine We rfl ?_|refine Wf (by exact Vb) rfl ?_|refine Wj ?_|refine Ws ?_|refine Wt ?_)
    exact CT.done () rfl (fun w ho => ho.ent)
  | true =>
    have hm : may cj = true := join_may hj
    have hp := put_may hm
    repeat (first|refine Wa ?_|refine Wb ?_|refine Wc ?_|refine We rfl ?_|refine Wf (by exact Vc) rfl ?_|refine Wk ?_|refine Wl ?_)
    refine JR.callSlT (L := commitPut cj) (us' := [.int .i64 0]) rfl (fun w1 hw => by have := put_commit w1 (fp _ _ _) cj p1 q1 hw.get hcf.1; rwa [hp] at this) ?_
    intro a10 k10
    repeat (first|refine Wa ?_|refine Wb ?_|refine Wc ?_|refine Wd ?_|refine We rfl ?_|refine Wf (by first|exact Va|exact Vb|exact Vc|exact Vq) rfl ?_)
    refine JR.callSlT (L := commitPut cj) (us' := [.int .i64 0]) rfl (fun w1 hw => by have := put_commit w1 (fp _ _ _) cj p2 q2 hw.get hcf.1; rwa [hp] at this) ?_
    intro a11 k11
    repeat (first|refine Wa ?_|refine Wb ?_|refine Wc ?_|refine Wd ?_|refine We rfl ?_|refine Wf (by first|exact Va|exact Vb|exact Vi|exact Vl|exact Vq) rfl ?_)
    refine Wf (OpV.bytesStr (L := commitPut cj)) rfl ?_
    repeat (first|refine We rfl ?_|refine Wf (by exact Va) rfl ?_)
    refine Wf (OpV.bytesStr (L := commitPut cj)) rfl ?_
    repeat (first|refine We rfl ?_|refine Wf (by first|exact Va|exact Vi|exact VB) rfl ?_)
    refine JO.reslot 122 (.bool true) (by simp) ?_
    repeat (first|refine We rfl ?_|refine Wf (by exact Vc) rfl ?_)
    refine JR.callV rfl (fun w1 hw => same_commit w1 _ cj cj p1 p3 q1 q3 hw.get hw.get) ?_
    refine JO.reslot 125 (.bool true) (by simp) ?_
    repeat (first|refine Wa ?_|refine Wd ?_|refine We rfl ?_|refine Wf (by first|exact Vb|exact Vi) rfl ?_|refine Ws ?_)
    exact CT.done () rfl (fun w ho => ho.ent)
end Ab
end Go.Proofs.YtglclakhjmogiaaGreat

/- The law FrontSame returns true. -/
namespace Go.Proofs.YtglclakhjmogiaaGreat
namespace Ab
open Go Go.RowKit
set_option linter.unusedVariables false
set_option linter.unusedSimpArgs false
set_option synthInstance.maxSize 4000
set_option synthInstance.maxHeartbeats 400000
attribute [local irreducible] JC JO JR JQ andThen inBlock OpV Gives retTo JM JS

attribute [local irreducible] hashC idA l0 l1 ents
theorem head_fine {L : List Commit} (hf : ∀ x ∈ L, fine x) : fine (headF L).1 := join_fine hf _
theorem hash_may {c : Commit} (h : may c = true) : hashC c = (idC c, 0) := by
  have h1 := (hash_err c).2 h
  unfold idC
  rw [← h1]
theorem head_may {L : List Commit} {c : Commit} (h : headF L = (c, true)) : may c = true := join_may h
set_option maxHeartbeats 4000000 in
theorem law_frontsame (w : World) (F : Nat → Prop) (a : Option Addr) (k : Nat) (L : List Commit) (v : Int) (h : (sl a k L).holds F w) :
    GivesV Tryz.prog 8 [.slice a L.length k, .int .i64 v] w F (.bool true) := by
  refine gives_of Tryz.func8 rfl Tryz.ntmps8 rfl rfl [.st (sl a k L)] (.start1 h) ?_
  repeat (first|refine Wa ?_|refine Wb ?_|refine Wc ?_|refine Wd ?_|refine We rfl ?_|refine Wf (by exact Vb) rfl ?_)
  refine JR.callV rfl (fun w1 hw => awake_front w1 _) ?_
  repeat (first|refine Wa ?_|refine Wb ?_|refine Wc ?_|refine Wd ?_|refine We rfl ?_|refine Wf (by first|exact Va|exact Vb) rfl ?_)
  refine JR.callV rfl (fun w1 hw => few_all w1 _ a k L 10 hw.get) ?_
  cases hfew : fewL L 10 with
  | false =>
    repeat (first|refine Wa ?_|refine Wb ?_|refine Wc ?_|refine Wd ?_|refine We rfl ?_|refine Wf (by first|exact Va|exact Vb|exact Vh|exact Vi|exact Vj) rfl ?_|refine Wj ?_|refine Ws ?_|refine Wt ?_|refine Wv rfl rfl ?_)
    exact CT.done () rfl (fun w ho => ho.ent)
  | true =>
  obtain ⟨hL, hf⟩ := few_fine hfew
  by_cases hc : Closed L
  case neg =>
    repeat (first|refine Wa ?_|refine Wb ?_|refine Wc ?_|refine Wd ?_|refine We rfl ?_|refine Wf (by first|exact Va|exact Vb|exact Vh|exact Vj) rfl ?_)
    refine JR.callV rfl (fun w1 hw => closed_no w1 _ a k L hw.get (by omega) hf hc) ?_
    repeat (first|refine Wa ?_|refine Wb ?_|refine Wc ?_|refine Wd ?_|refine We rfl ?_|refine Wf (by first|exact Va|exact Vb|exact Vh|exact Vi|exact Vj) rfl ?_|refine Wj ?_|refine Ws ?_|refine Wt ?_|refine Wv rfl rfl ?_)
    exact CT.done () rfl (fun w ho => ho.ent)
  repeat (first|refine Wa ?_|refine Wb ?_|refine Wc ?_|refine Wd ?_|refine We rfl ?_|refine Wf (by first|exact Va|exact Vb|exact Vh|exact Vj) rfl ?_)
  refine JR.callV rfl (fun w1 hw => closed_yes w1 _ a k L hw.get (by omega) hf hc) ?_
  repeat (first|refine We rfl ?_|refine Wf (by first|exact Va|exact Vf|exact Vh|exact Vj|exact Vl) rfl ?_)
  refine JO.test 35 (fun h0 => ?_) (fun h0 => ?_)
  · repeat (first|refine Wa ?_|refine Wb ?_|refine Wc ?_|refine Wd ?_|refine We rfl ?_|refine Wf (by first|exact Va|exact Vb|exact Vi) rfl ?_|refine Wj ?_|refine Ws ?_|refine Wt ?_|refine Wv rfl rfl ?_)
    exact CT.done () rfl (fun w ho => ho.ent)
  repeat (first|refine We rfl ?_|refine Wf (by first|exact Va|exact Vg|exact Vj) rfl ?_)
  refine JO.test 39 (fun h1 => ?_) (fun h1 => ?_)
  · repeat (first|refine Wa ?_|refine Wb ?_|refine Wc ?_|refine Wd ?_|refine We rfl ?_|refine Wf (by first|exact Va|exact Vb|exact Vi) rfl ?_|refine Wj ?_|refine Ws ?_|refine Wt ?_|refine Wv rfl rfl ?_)
    exact CT.done () rfl (fun w ho => ho.ent)
  obtain ⟨i, rfl⟩ := Int.eq_ofNat_of_zero_le (by omega : 0 ≤ v)
  repeat (first|refine Wa ?_|refine Wd ?_|refine We rfl ?_|refine Wf (by first|exact Va|exact Vf|exact Vj|exact Vp) rfl ?_)
  refine JC.test (fun h2 => ?_) (fun h2 => ?_)
  · repeat (first|refine Wa ?_|refine Wb ?_|refine Wc ?_|refine Wd ?_|refine We rfl ?_|refine Wf (by first|exact Va|exact Vb) rfl ?_|refine Ws ?_|refine Wt ?_)
    exact CT.done () rfl (fun w ho => ho.ent)
  have hi : i < L.length := by omega
  obtain ⟨D, hD⟩ : ∃ D, D = L.drop i := ⟨_, rfl⟩
  obtain ⟨T, hT⟩ : ∃ T, T = L.take i := ⟨_, rfl⟩
  have hDl : D.length = L.length - i := by rw [hD, List.length_drop]
  have hTl : T.length = i := by rw [hT, List.length_take]; omega
  have hp : L.Perm (D ++ T) := by
    rw [hD, hT]
    have := List.perm_append_comm (l₁ := L.take i) (l₂ := L.drop i)
    rwa [List.take_append_drop] at this
  have hf2 : ∀ x ∈ D ++ T, fine x := fun x hx => hf x (hp.mem_iff.2 hx)
  obtain ⟨cj, bj, hj⟩ : ∃ c b, headF L = (c, b) := ⟨_, _, rfl⟩
  have hj2 : headF (D ++ T) = (cj, bj) := by rw [← head_perm hp, hj]
  have hcf : fine cj := by have := head_fine hf; rwa [hj] at this
  repeat (first|refine Wa ?_|refine Wb ?_|refine Wl ?_)
  refine JC.more (Γ' := [.st (sl (fromA a k i 8) (k - i) D), .st (sl a k T), .st (sl a k L)]) (fun w1 ho => ?_) ?_
  · have h1 := ho.add (A := sl a k T) (hT ▸ sl_take (k := i) (c' := k) (ho.get (A := sl a k L)) (by omega) ⟨by have := (ho.get (A := sl a k L)).1; omega, Nat.le_refl _⟩)
    have h2 := h1.add (A := sl (fromA a k i 8) (k - i) D) (hD ▸ sl_from (k := i) (h1.get (A := sl a k L)) (by omega))
    exact h2.ent
  refine JC.cut (fun y : Option Addr × Nat => [(0, .slice a L.length k), (7, .slice y.1 (D ++ T).length y.2)]) (fun y => [.res (buf y.1 y.2 34 (D ++ T)), .st (sl a k L)]) ?_ ?_
  · refine JC.draw 7 mixed ?_
    refine JM.take 0 rfl (by kernel_rfl) rfl Va rfl rfl ?_
    refine JM.take 1 rfl (by kernel_rfl) rfl Va rfl rfl ?_
    refine JM.take 2 rfl (by kernel_rfl) rfl (OpV.sliceFromA (l := i) (s := 8) rfl (fun w1 ho => ⟨by omega, (Hold.get (A := sl a k L) ho).1⟩)) rfl rfl ?_
    refine JM.reslot 48 (.slice (fromA a k i 8) D.length (k - i)) (by congr 1; omega) ?_
    refine JM.take 4 rfl (by kernel_rfl) rfl Va rfl rfl ?_
    refine JM.take 5 rfl (by kernel_rfl) rfl Va rfl rfl ?_
    refine JM.take 6 rfl (by kernel_rfl) rfl (OpV.sliceToV (k := i) (fun w1 ho => by have := (Hold.get (A := sl a k L) ho).1; omega)) rfl rfl ?_
    refine JM.reslot 52 (.slice a T.length k) (by congr 1; omega) ?_
    refine JM.one 3 (by kernel_rfl) rfl rfl rfl rfl (JS.appendNil (L' := D) rfl (by exact ⟨rfl, rfl, by decide⟩) (by omega) fun a3 k3 => ?_)
    refine JM.last 7 (by kernel_rfl) rfl rfl rfl (JR.appendSl (L := D) (L' := T) rfl (by exact ⟨rfl, rfl, by decide⟩) (by omega) (fun a4 k4 => Wd ⟨rfl, ?_⟩))
    refine JM.last 8 (by kernel_rfl) rfl rfl rfl (Wf Vb rfl (Wd ⟨rfl, ?_⟩))
    exact JM.nil (by kernel_rfl) ⟨rfl, (a4, k4), inferInstance⟩
  rintro ⟨a4, k4⟩
  dsimp only
  refine JC.more (fun w1 ho => ho.pub) ?_
  repeat (first|refine Wb ?_|refine Wc ?_|refine We rfl ?_|refine Wf (by exact Va) rfl ?_)
  refine JR.call1 (v := fun y : Option Addr × Nat => .tuple ⟨[commitV cj y.1 y.2, .bool bj]⟩) (B := fun y => .st (sl y.1 y.2 cj.parents)) rfl (fun w1 hw => by have := head_front w1 _ a k L hw.get (by omega) hf; rwa [hj] at this) ?_
  rintro ⟨p1, q1⟩
  dsimp only
  repeat (first|refine Wa ?_|refine Wb ?_|refine Wc ?_|refine Wd ?_|refine We rfl ?_|refine Wf (by first|exact Va|exact Vb|exact Vq) rfl ?_|(refine Wg rfl ?_; intro _)|refine Wi ?_)
  refine JR.call1 (v := fun y : Option Addr × Nat => .tuple ⟨[commitV cj y.1 y.2, .bool bj]⟩) (B := fun y => .st (sl y.1 y.2 cj.parents)) rfl (fun w1 hw => by have := head_front w1 _ a4 k4 (D ++ T) hw.get (by rw [List.length_append]; omega) hf2; rwa [hj2] at this) ?_
  rintro ⟨p2, q2⟩
  dsimp only
  repeat (first|refine Wa ?_|refine Wb ?_|refine Wc ?_|refine Wd ?_|refine We rfl ?_|refine Wf (by first|exact Va|exact Vb|exact Vq|exact VF) rfl ?_|(refine Wg rfl ?_; intro _)|refine Wi ?_)
  refine JC.reslot 66 (.bool false) (by simp) ?_
  repeat (first|refine Wa ?_|refine Wb ?_|refine Wc ?_|refine We rfl ?_|refine Wf (by exact Vc) rfl ?_|refine Wk ?_|refine Wl ?_)
  refine JR.callV rfl (fun w1 hw => hash_commit w1 _ cj p1 q1 hw.get hcf.1) ?_
  repeat (first|refine Wa ?_|refine Wb ?_|refine Wc ?_|refine Wd ?_|refine We rfl ?_|refine Wf (by first|exact Va|exact Vb|exact Vc|exact Vq) rfl ?_|(refine Wg rfl ?_; intro _)|refine Wi ?_)
  refine JR.callV rfl (fun w1 hw => hash_commit w1 _ cj p2 q2 hw.get hcf.1) ?_
  repeat (first|refine Wa ?_|refine Wb ?_|refine Wc ?_|refine Wd ?_|refine We rfl ?_|refine Wf (by first|exact Va|exact Vb|exact Vh|exact Vq) rfl ?_|(refine Wg rfl ?_; intro _)|refine Wi ?_)
  cases bj with
  | false =>
    repeat (first|refine Wa ?_|refine Wd ?_|refine We rfl ?_|refine Wf (by first|exact Vb|exact Vi) rfl ?_|refine Ws ?_|refine Wv rfl rfl ?_|refine Wx rfl rfl ?_)
    exact CT.done () rfl (fun w ho => ho.ent)
  | true =>
    have hm := hash_may (head_may hj)
    rw [hm]
    repeat (first|refine We rfl ?_|refine Wf (by first|exact Va|exact Vc|exact Vi|exact Vl|exact Vx) rfl ?_)
    refine JO.reslot 91 (.bool true) (by simp) ?_
    repeat (first|refine We rfl ?_|refine Wf (by exact Vc) rfl ?_)
    refine JR.callV rfl (fun w1 hw => same_commit w1 _ cj cj p1 p2 q1 q2 hw.get hw.get) ?_
    refine JO.reslot 94 (.bool true) (by simp) ?_
    repeat (first|refine Wa ?_|refine Wd ?_|refine We rfl ?_|refine Wf (by first|exact Vb|exact Vi|exact Vj) rfl ?_|refine Ws ?_)
    exact CT.done () rfl (fun w ho => ho.ent)
end Ab
end Go.Proofs.YtglclakhjmogiaaGreat
