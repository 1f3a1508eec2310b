/- Lemmas for the walks, part 4 of 5: WalkU, WalkV, Dag, WalkW, WalkX, DagC, More10, More11, RefOps, More12, More13, WalkB2, DagA, Draw2, DagB, DagE, Cmp, Sort2, Lays3, DagD. -/
import Derived.Test.YtcmfemfndadfmaaGreatDa3
import Derived.Test.YtcmfemfndadfmaaGreatDa2
import Derived.Test.YtcmfemfndadfmaaGreatDa1
import Derived.Shelf.SlSortCmp.NoneTotal
import Derived.Test.YtcmfemfndadfmaaGreatChecked
import Derived.KernelRfl
/- Contracts: commit.Put, commit.Hash. -/
namespace Go.Proofs.YtcmfemfndadfmaaGreat
namespace Ab
open Go Go.RowKit
set_option linter.unusedVariables false
set_option linter.unusedSimpArgs false
set_option synthInstance.maxSize 4000
set_option synthInstance.maxHeartbeats 400000
attribute [local irreducible] JC JO JR JQ andThen inBlock OpV Gives retTo JM JS

attribute [local irreducible] sumI numL textL opPut
/-- A commit in bytes. -/
def headL (c : Commit) : List UInt8 := ((numL (foldN c.ev.node) ++ numL c.ev.seq.toNat) ++ numL c.gen.toNat) ++ numL c.parents.length
def idsL (L : List ID) : List UInt8 := (L.map (·.1)).flatten
def commitPut (c : Commit) : List UInt8 := if c.ev.node = -1 then headL c ++ idsL c.parents else headL c ++ idsL c.parents ++ opPut c.op
def putCommit (c : Commit) : List UInt8 × Int := if may c then (commitPut c, 0) else ([], 1)
theorem idsL_length (L : List ID) : (idsL L).length = 32 * L.length := by
  induction L with
  | nil => rfl
  | cons x L ih => simp only [idsL, List.map_cons, List.flatten_cons, List.length_append, List.length_cons] at ih ⊢; rw [ih, x.2]; omega
theorem idsL_next (L : List ID) (k : Nat) (hk : k < L.length) : idsL (L.take (k + 1)) = idsL (L.take k) ++ (L[k]).1 := by
  rw [idsL, idsL, List.take_succ_eq_append_getElem hk, List.map_append, List.flatten_append]; simp
theorem headL_length (c : Commit) : (headL c).length ≤ 40 := by
  have h1 := numL_length (foldN c.ev.node); have h2 := numL_length c.ev.seq.toNat; have h3 := numL_length c.gen.toNat; have h4 := numL_length c.parents.length
  simp only [headL, List.length_append]; omega
/-- What is known of a commit that may be. -/
structure MayC (c : Commit) : Prop where
  node : -1 ≤ c.ev.node ∧ c.ev.node ≤ 7
  seq : 0 ≤ c.ev.seq ∧ c.ev.seq ≤ 1048576
  gen : 1 ≤ c.gen ∧ c.gen ≤ 1048576
  par : c.parents.length ≤ 8
  op : c.ev.node ≠ -1 → opMay c.op = true
theorem may_spec {c : Commit} (h : may c = true) : MayC c := by
  unfold may at h
  split at h
  · cases h
  · rename_i h1
    simp only [inB, Bool.or_eq_true, Bool.not_eq_true', not_or, Bool.not_eq_false, decide_eq_true_eq, Bool.and_eq_true, Nat.not_lt] at h1
    obtain ⟨⟨⟨hg, hp⟩, _⟩, _⟩ := h1
    split at h
    · rename_i h2
      simp only [Bool.and_eq_true, decide_eq_true_eq] at h
      exact ⟨by omega, by omega, hg, hp, fun hn => (hn h2).elim⟩
    · rename_i h2
      simp only [inB, Bool.and_eq_true, decide_eq_true_eq] at h
      exact ⟨by omega, by omega, hg, hp, fun _ => h.2⟩

theorem pub4 {w0 w : World} {F : Nat → Prop} {b : Nat} {t u : TypeId} {A B C D : List UInt8} {aA aB aC aD : Option Addr} {cA cB cC cD : Nat} {Γ : List Fact}
    (h : Hold w0 F (.res (buf aA cA u A) :: .res (buf aB cB u B) :: .res (buf aC cC u C) :: .res (buf aD cD u D) :: .own b t [.slice aA A.length cA, .slice aB B.length cB, .slice aC C.length cC, .slice aD D.length cD] :: Γ) w) :
    Hold w0 F (.st (sl (some ⟨b, 0, none⟩) 4 [A, B, C, D]) :: Γ) w := by
  have rot : ∀ {X : Fact} {Γ' : List Fact}, Hold w0 F (X :: Γ') w → Hold w0 F (Γ' ++ [X]) w := fun h => h.perm (by
    exact (List.perm_append_comm (l₁ := [_])))
  have h1 := h.pub
  have h2 : Hold w0 F (.res (buf aB cB u B) :: .st (sl aA cA A) :: .res (buf aC cC u C) :: .res (buf aD cD u D) :: .own b t [.slice aA A.length cA, .slice aB B.length cB, .slice aC C.length cC, .slice aD D.length cD] :: Γ) w := h1.perm (List.Perm.swap _ _ _)
  have h2 := h2.pub
  have h3 : Hold w0 F (.res (buf aC cC u C) :: .st (sl aB cB B) :: .st (sl aA cA A) :: .res (buf aD cD u D) :: .own b t [.slice aA A.length cA, .slice aB B.length cB, .slice aC C.length cC, .slice aD D.length cD] :: Γ) w :=
    h2.perm (((List.Perm.swap _ _ _).cons _).trans (List.Perm.swap _ _ _))
  have h3 := h3.pub
  have h4 : Hold w0 F (.res (buf aD cD u D) :: .st (sl aC cC C) :: .st (sl aB cB B) :: .st (sl aA cA A) :: .own b t [.slice aA A.length cA, .slice aB B.length cB, .slice aC C.length cC, .slice aD D.length cD] :: Γ) w :=
    h3.perm (((((List.Perm.swap _ _ _).cons _).trans (List.Perm.swap _ _ _)).cons _).trans (List.Perm.swap _ _ _))
  have h4 := h4.pub
  have h5 : Hold w0 F (.own b t [.slice aA A.length cA, .slice aB B.length cB, .slice aC C.length cC, .slice aD D.length cD] :: .st (sl aD cD D) :: .st (sl aC cC C) :: .st (sl aB cB B) :: .st (sl aA cA A) :: Γ) w :=
    h4.perm ((((((((List.Perm.swap _ _ _).cons _).trans (List.Perm.swap _ _ _)).cons _).trans (List.Perm.swap _ _ _)).cons _).trans (List.Perm.swap _ _ _)))
  have h6 := Hold.pubLists [(A, aA, cA), (B, aB, cB), (C, aC, cC), (D, aD, cD)] h5 (by simp) (by simp)
  have h6 : Hold w0 F (.st (sl (some ⟨b, 0, none⟩) 4 [A, B, C, D]) :: .st (sl aD cD D) :: .st (sl aC cC C) :: .st (sl aB cB B) :: .st (sl aA cA A) :: Γ) w := h6
  have h7 : Hold w0 F ((.st (sl (some ⟨b, 0, none⟩) 4 [A, B, C, D]) :: Γ) ++ [.st (sl aD cD D), .st (sl aC cC C), .st (sl aB cB B), .st (sl aA cA A)]) w :=
    h6.perm ((List.perm_append_comm (l₁ := [Fact.st (sl aD cD D), .st (sl aC cC C), .st (sl aB cB B), .st (sl aA cA A)]) (l₂ := Γ)).cons _)
  exact h7.left

theorem concat_to (w : World) (F : Nat → Prop) (a : Option Addr) (c : Nat) (ls : List (List UInt8)) (L : List UInt8) (h : (sl a c ls).holds F w) (hL : ls.flatten = L) (hl : L.length ≤ 1048576) (hl2 : ls.length ≤ 1048576) :
    GivesBuf Tryz.prog 98 [.slice a ls.length c] w F 5 L := by
  subst hL; exact concat_bytes w F a c ls h hl hl2

theorem put_ops_ok (w : World) (F : Nat → Prop) (o : Op_) (hk : o.key.size < 4611686018427387904) (he : o.elem.size < 4611686018427387904) (h : opMay o = true) : GivesSlT Tryz.prog 101 [opV o] w F (opPut o) [.int .i64 0] := by
  have h1 := put_ops w F o hk he
  have h2 : putOp o = (opPut o, 0) := by simp [putOp, h]
  rw [h2] at h1
  exact h1
set_option maxHeartbeats 2000000 in
theorem put_commit (w : World) (F : Nat → Prop) (c : Commit) (a : Option Addr) (k : Nat) (h : (sl a k c.parents).holds F w) (ht : texts c) :
    GivesSlT Tryz.prog 74 [commitV c a k] w F (putCommit c).1 [.int .i64 (putCommit c).2] := by
  refine gives_of Tryz.func74 rfl Tryz.ntmps74 rfl rfl [.st (sl a k c.parents)] (.start1 h) ?_
  repeat (first|refine Wa ?_|refine Wb ?_|refine Wc ?_|refine Wd ?_|refine We rfl ?_|refine Wf (by first|exact Va|exact Vb|exact Vc|exact Vd|exact Ve|exact Vf|exact Vg|exact Vh|exact Vi|exact Vj|exact Vk (by omega)|exact Vl|exact Vm|exact Vn|exact Vo|exact Vp|exact Vq|exact Vr|exact Vs (by omega)|exact Vt (by omega)|exact Vu (by omega)|exact Vv (by omega)|exact Vw|exact Vx|exact Vy|exact Vz|exact VA|exact VB|exact VC|exact VD|exact VE|exact VF) rfl ?_|(refine Wg rfl ?_; intro _)|(refine Wh rfl ?_; intro _)|refine Wi ?_|refine Wj ?_|refine Wk ?_|refine Wl ?_|refine Wm ?_|refine Wn ?_|refine Wo ?_|refine Wp ?_|refine Wq rfl ?_|refine Wr ?_|refine Ws ?_|refine Wt ?_|refine Wu ?_|refine Wv rfl rfl ?_|(refine Ww rfl ⟨rfl, by decide, by decide, by decide⟩ ?_; intro _))
  rename_i bc
  refine JR.callV rfl (fun w1 hw => may_commit w1 _ c a k hw.get ht) ?_
  repeat (first|refine Wa ?_|refine Wb ?_|refine Wc ?_|refine Wd ?_|refine We rfl ?_|refine Wf (by first|exact Va|exact Vb|exact Vc|exact Vd|exact Ve|exact Vf|exact Vg|exact Vh|exact Vi|exact Vj|exact Vk (by omega)|exact Vl|exact Vm|exact Vn|exact Vo|exact Vp|exact Vq|exact Vr|exact Vs (by omega)|exact Vt (by omega)|exact Vu (by omega)|exact Vv (by omega)|exact Vw|exact Vx|exact Vy|exact Vz|exact VA|exact VB|exact VC|exact VD|exact VE|exact VF) rfl ?_|(refine Wg rfl ?_; intro _)|(refine Wh rfl ?_; intro _)|refine Wi ?_|refine Wj ?_|refine Wk ?_|refine Wl ?_|refine Wm ?_|refine Wn ?_|refine Wo ?_|refine Wp ?_|refine Wq rfl ?_|refine Wr ?_|refine Ws ?_|refine Wt ?_|refine Wu ?_|refine Wv rfl rfl ?_|(refine Ww rfl ⟨rfl, by decide, by decide, by decide⟩ ?_; intro _))
  refine JC.test (fun h1 => ?_) (fun h1 => ?_)
  · have h2 : putCommit c = ([], 1) := by simp [putCommit, h1]
    rw [h2]
    repeat (first|refine Wa ?_|refine Wb ?_|refine Wc ?_|refine Wd ?_|refine We rfl ?_|refine Wf (by first|exact Va|exact Vb|exact Vc|exact Vd|exact Ve|exact Vf|exact Vg|exact Vh|exact Vi|exact Vj|exact Vk (by omega)|exact Vl|exact Vm|exact Vn|exact Vo|exact Vp|exact Vq|exact Vr|exact Vs (by omega)|exact Vt (by omega)|exact Vu (by omega)|exact Vv (by omega)|exact Vw|exact Vx|exact Vy|exact Vz|exact VA|exact VB|exact VC|exact VD|exact VE|exact VF) rfl ?_|(refine Wg rfl ?_; intro _)|(refine Wh rfl ?_; intro _)|refine Wi ?_|refine Wj ?_|refine Wk ?_|refine Wl ?_|refine Wm ?_|refine Wn ?_|refine Wo ?_|refine Wp ?_|refine Wq rfl ?_|refine Wr ?_|refine Ws ?_|refine Wt ?_|refine Wu ?_|refine Wv rfl rfl ?_|(refine Ww rfl ⟨rfl, by decide, by decide, by decide⟩ ?_; intro _))
    exact CT.done (none, 0) rfl (fun w ho => (ho.ent : Hold _ _ [] w).add sl_nil)
  have h1 : may c = true := by simpa using h1
  have h2 : putCommit c = (commitPut c, 0) := by simp [putCommit, h1]
  have hm := may_spec h1
  have hh := headL_length c
  rw [h2]
  have hn1 := hm.node
  have hn2 := hm.seq
  have hn3 := hm.gen
  have hn4 := hm.par
  have hs1 : IntKind.u64.wrap c.ev.seq = c.ev.seq := by rw [show c.ev.seq = ((c.ev.seq.toNat : Nat) : Int) by omega, wrap64]; omega
  have hs2 : IntKind.u64.wrap c.gen = c.gen := by rw [show c.gen = ((c.gen.toNat : Nat) : Int) by omega, wrap64]; omega
  repeat (first|refine Wa ?_|refine Wb ?_|refine Wc ?_|refine Wd ?_|refine We rfl ?_|refine Wf (by first|exact Va|exact Vb|exact Vc|exact Vd|exact Ve|exact Vf|exact Vg|exact Vh|exact Vi|exact Vj|exact Vk (by omega)|exact Vl|exact Vm|exact Vn|exact Vo|exact Vp|exact Vq|exact Vr|exact Vs (by omega)|exact Vt (by omega)|exact Vu (by omega)|exact Vv (by omega)|exact Vw|exact Vx|exact Vy|exact Vz|exact VA|exact VB|exact VC|exact VD|exact VE|exact VF) rfl ?_|(refine Wg rfl ?_; intro _)|(refine Wh rfl ?_; intro _)|refine Wi ?_|refine Wj ?_|refine Wk ?_|refine Wl ?_|refine Wm ?_|refine Wn ?_|refine Wo ?_|refine Wp ?_|refine Wq rfl ?_|refine Wr ?_|refine Ws ?_|refine Wt ?_|refine Wu ?_|refine Wv rfl rfl ?_|(refine Ww rfl ⟨rfl, by decide, by decide, by decide⟩ ?_; intro _))
  refine JC.draw 22 mixed ?_
  refine JM.take 0 rfl (by kernel_rfl) rfl Vd rfl rfl ?_
  refine JM.take 1 rfl (by kernel_rfl) rfl Vd rfl rfl ?_
  refine JM.take 2 rfl (by kernel_rfl) rfl Vc rfl rfl ?_
  refine JM.takeCall 3 rfl (by kernel_rfl) rfl (fun w1 hw => fold_enc w1 _ c.ev.node (by omega)) rfl rfl ?_
  refine JM.take 5 rfl (by kernel_rfl) rfl Vd rfl rfl ?_
  refine JM.take 6 rfl (by kernel_rfl) rfl Vd rfl rfl ?_
  refine JM.take 7 rfl (by kernel_rfl) rfl Vc rfl rfl ?_
  refine JM.take 8 rfl (by kernel_rfl) rfl (OpV.convIn hs1) rfl rfl ?_
  refine JM.reslot 20 (.int .u64 ((c.ev.seq.toNat : Nat) : Int)) (congrArg (Value.int .u64) (by omega)) ?_
  refine JM.take 10 rfl (by kernel_rfl) rfl Vd rfl rfl ?_
  refine JM.take 11 rfl (by kernel_rfl) rfl Vc rfl rfl ?_
  refine JM.take 12 rfl (by kernel_rfl) rfl (OpV.convIn hs2) rfl rfl ?_
  refine JM.reslot 24 (.int .u64 ((c.gen.toNat : Nat) : Int)) (congrArg (Value.int .u64) (by omega)) ?_
  refine JM.take 14 rfl (by kernel_rfl) rfl Vd rfl rfl ?_
  refine JM.take 15 rfl (by kernel_rfl) rfl Vc rfl rfl ?_
  refine JM.take 16 rfl (by kernel_rfl) rfl Vf rfl rfl ?_
  refine JM.take 17 rfl (by kernel_rfl) rfl (OpV.convIn (by rw [wrap64]; omega)) rfl rfl ?_
  refine JM.one 4 (by kernel_rfl) rfl rfl rfl rfl (JS.callBuf rfl (fun w1 hw => num_enc _ (foldN_lt (by omega)) w1 _) fun a1 c1 => ?_)
  refine JM.one 9 (by kernel_rfl) rfl rfl rfl rfl (JS.callBuf rfl (fun w1 hw => num_enc _ (by omega) w1 _) fun a2 c2 => ?_)
  refine JM.one 13 (by kernel_rfl) rfl rfl rfl rfl (JS.callBuf rfl (fun w1 hw => num_enc _ (by omega) w1 _) fun a3 c3 => ?_)
  refine JM.one 18 (by kernel_rfl) rfl rfl rfl rfl (JS.callBuf rfl (fun w1 hw => num_enc _ (by omega) w1 _) fun a4 c4 => ?_)
  refine JM.one 19 (by kernel_rfl) rfl rfl rfl rfl (JS.lit rfl ⟨rfl, by decide, by decide, by decide⟩ fun lb => ?_)
  refine JM.more (Γ' := [.st (sl (some ⟨lb, 0, none⟩) 4 [numL (foldN c.ev.node), numL c.ev.seq.toNat, numL c.gen.toNat, numL c.parents.length]), .own bc 29 [.int .i64 c.ev.node, .int .i64 c.ev.seq, .int .i64 c.gen, .slice a c.parents.length k, .int .i64 c.op.kind, .string c.op.key, .string c.op.elem, .int .i64 c.op.n], .st (sl a k c.parents)])
    (fun w1 ho => pub4 (b := lb) (t := 81) (u := 5) (aA := a1) (aB := a2) (aC := a3) (aD := a4) (cA := c1) (cB := c2) (cC := c3) (cD := c4) ho.ent) ?_
  refine JM.one 20 (by kernel_rfl) rfl rfl rfl rfl (JS.callBuf rfl (fun w1 hw => concat_to w1 _ (some ⟨lb, 0, none⟩) 4 [numL (foldN c.ev.node), numL c.ev.seq.toNat, numL c.gen.toNat, numL c.parents.length] (headL c) hw.get (by simp [headL]) (by omega) (by simp)) fun p0 q0 => ?_)
  refine JM.one 21 (by kernel_rfl) rfl rfl rfl rfl (JS.val Vb rfl ?_)
  refine JM.nil (by kernel_rfl) ?_
  repeat (first|refine Wa ?_|refine Wb ?_|refine Wc ?_|refine Wd ?_|refine We rfl ?_|refine Wf (by first|exact Va|exact Vb|exact Vc|exact Vd|exact Ve|exact Vf|exact Vg|exact Vh|exact Vi|exact Vj|exact Vk (by omega)|exact Vl|exact Vm|exact Vn|exact Vo|exact Vp|exact Vq|exact Vr|exact Vs (by omega)|exact Vt (by omega)|exact Vu (by omega)|exact Vv (by omega)|exact Vw|exact Vx|exact Vy|exact Vz|exact VA|exact VB|exact VC|exact VD|exact VE|exact VF) rfl ?_|(refine Wg rfl ?_; intro _)|(refine Wh rfl ?_; intro _)|refine Wi ?_|refine Wj ?_|refine Wk ?_|refine Wl ?_|refine Wm ?_|refine Wn ?_|refine Wo ?_|refine Wp ?_|refine Wq rfl ?_|refine Wr ?_|refine Ws ?_|refine Wt ?_|refine Wu ?_|refine Wv rfl rfl ?_|(refine Ww rfl ⟨rfl, by decide, by decide, by decide⟩ ?_; intro _))
  refine JC.loop3 (fun (i : Nat) p q => [(1, .pointer (some ⟨bc, 0, none⟩)), (4, .slice p (headL c ++ idsL (c.parents.take i)).length q), (34, .slice a c.parents.length k), (35, .int .i64 (c.parents.length : Int)), (36, .int .i64 (i : Int))])
    (fun i p q => [.own bc 29 [.int .i64 c.ev.node, .int .i64 c.ev.seq, .int .i64 c.gen, .slice a c.parents.length k, .int .i64 c.op.kind, .string c.op.key, .string c.op.elem, .int .i64 c.op.n], .st (sl a k c.parents), .res (buf p q 5 (headL c ++ idsL (c.parents.take i)))])
    (fun i _ _ => i ≤ c.parents.length) (fun i _ _ => c.parents.length - i) 0 p0 q0 (Nat.zero_le _) (by rw [List.take_zero, show idsL [] = [] from rfl, List.append_nil]; infer_instance) ?_
  intro i p q hi
  repeat (first|refine Wa ?_|refine Wb ?_|refine Wc ?_|refine Wd ?_|refine We rfl ?_|refine Wf (by first|exact Va|exact Vb|exact Vc|exact Vd|exact Ve|exact Vf|exact Vg|exact Vh|exact Vi|exact Vj|exact Vk (by omega)|exact Vl|exact Vm|exact Vn|exact Vo|exact Vp|exact Vq|exact Vr|exact Vs (by omega)|exact Vt (by omega)|exact Vu (by omega)|exact Vv (by omega)|exact Vw|exact Vx|exact Vy|exact Vz|exact VA|exact VB|exact VC|exact VD|exact VE|exact VF) rfl ?_|(refine Wg rfl ?_; intro _)|(refine Wh rfl ?_; intro _)|refine Wi ?_|refine Wj ?_|refine Wk ?_|refine Wl ?_|refine Wm ?_|refine Wn ?_|refine Wo ?_|refine Wp ?_|refine Wq rfl ?_|refine Wr ?_|refine Ws ?_|refine Wt ?_|refine Wu ?_|refine Wv rfl rfl ?_|(refine Ww rfl ⟨rfl, by decide, by decide, by decide⟩ ?_; intro _))
  refine JC.test (fun hlt => ?_) (fun hge => ?_)
  · have hlt' : i < c.parents.length := by omega
    have hil := idsL_length (c.parents.take i)
    rw [List.length_take] at hil
    repeat (first|refine Wa ?_|refine Wb ?_|refine Wc ?_|refine Wd ?_|refine We rfl ?_|refine Wf (by first|exact Va|exact Vb|exact Vc|exact Vd|exact Ve|exact Vf|exact Vg|exact Vh|exact Vi|exact Vj|exact Vk (by omega)|exact Vl|exact Vm|exact Vn|exact Vo|exact Vp|exact Vq|exact Vr|exact Vs (by omega)|exact Vt (by omega)|exact Vu (by omega)|exact Vv (by omega)|exact Vw|exact Vx|exact Vy|exact Vz|exact VA|exact VB|exact VC|exact VD|exact VE|exact VF) rfl ?_|(refine Wg rfl ?_; intro _)|(refine Wh rfl ?_; intro _)|refine Wi ?_|refine Wj ?_|refine Wk ?_|refine Wl ?_|refine Wm ?_|refine Wn ?_|refine Wo ?_|refine Wp ?_|refine Wq rfl ?_|refine Wr ?_|refine Ws ?_|refine Wt ?_|refine Wu ?_|refine Wv rfl rfl ?_|(refine Ww rfl ⟨rfl, by decide, by decide, by decide⟩ ?_; intro _))
    refine JR.indexID rfl hlt' ?_
    intro b o
    repeat (first|refine Wa ?_|refine Wb ?_|refine Wc ?_|refine Wd ?_|refine We rfl ?_|refine Wf (by first|exact Va|exact Vb|exact Vc|exact Vd|exact Ve|exact Vf|exact Vg|exact Vh|exact Vi|exact Vj|exact Vk (by omega)|exact Vl|exact Vm|exact Vn|exact Vo|exact Vp|exact Vq|exact Vr|exact Vs (by omega)|exact Vt (by omega)|exact Vu (by omega)|exact Vv (by omega)|exact Vw|exact Vx|exact Vy|exact Vz|exact VA|exact VB|exact VC|exact VD|exact VE|exact VF) rfl ?_|(refine Wg rfl ?_; intro _)|(refine Wh rfl ?_; intro _)|refine Wi ?_|refine Wj ?_|refine Wk ?_|refine Wl ?_|refine Wm ?_|refine Wn ?_|refine Wo ?_|refine Wp ?_|refine Wq rfl ?_|refine Wr ?_|refine Ws ?_|refine Wt ?_|refine Wu ?_|refine Wv rfl rfl ?_|(refine Ww rfl ⟨rfl, by decide, by decide, by decide⟩ ?_; intro _))
    refine Wf (OpV.sliceArr (by decide)) rfl ?_
    refine We rfl ?_
    refine JR.appendBytes (M := (c.parents[i]).1) rfl rfl rfl (c.parents[i]).2 (by exact ⟨rfl, rfl, by decide⟩) (by rw [List.length_append]; omega) ?_
    intro p3 q3
    repeat (first|refine Wa ?_|refine Wb ?_|refine Wc ?_|refine Wd ?_|refine We rfl ?_|refine Wf (by first|exact Va|exact Vb|exact Vc|exact Vd|exact Ve|exact Vf|exact Vg|exact Vh|exact Vi|exact Vj|exact Vk (by omega)|exact Vl|exact Vm|exact Vn|exact Vo|exact Vp|exact Vq|exact Vr|exact Vs (by omega)|exact Vt (by omega)|exact Vu (by omega)|exact Vv (by omega)|exact Vw|exact Vx|exact Vy|exact Vz|exact VA|exact VB|exact VC|exact VD|exact VE|exact VF) rfl ?_|(refine Wg rfl ?_; intro _)|(refine Wh rfl ?_; intro _)|refine Wi ?_|refine Wj ?_|refine Wk ?_|refine Wl ?_|refine Wm ?_|refine Wn ?_|refine Wo ?_|refine Wp ?_|refine Wq rfl ?_|refine Wr ?_|refine Ws ?_|refine Wt ?_|refine Wu ?_|refine Wv rfl rfl ?_|(refine Ww rfl ⟨rfl, by decide, by decide, by decide⟩ ?_; intro _))
    have hnx : headL c ++ idsL (c.parents.take (i + 1)) = headL c ++ idsL (c.parents.take i) ++ (c.parents[i]).1 := by rw [idsL_next _ _ hlt', List.append_assoc]
    exact ⟨i + 1, p3, q3, by omega, by omega, by rw [hnx]; infer_instance⟩
  · obtain rfl : i = c.parents.length := by omega
    have hil := idsL_length c.parents
    rw [List.take_length]
    repeat (first|refine Wa ?_|refine Wb ?_|refine Wc ?_|refine Wd ?_|refine We rfl ?_|refine Wf (by first|exact Va|exact Vb|exact Vc|exact Vd|exact Ve|exact Vf|exact Vg|exact Vh|exact Vi|exact Vj|exact Vk (by omega)|exact Vl|exact Vm|exact Vn|exact Vo|exact Vp|exact Vq|exact Vr|exact Vs (by omega)|exact Vt (by omega)|exact Vu (by omega)|exact Vv (by omega)|exact Vw|exact Vx|exact Vy|exact Vz|exact VA|exact VB|exact VC|exact VD|exact VE|exact VF) rfl ?_|(refine Wg rfl ?_; intro _)|(refine Wh rfl ?_; intro _)|refine Wi ?_|refine Wj ?_|refine Wk ?_|refine Wl ?_|refine Wm ?_|refine Wn ?_|refine Wo ?_|refine Wp ?_|refine Wq rfl ?_|refine Wr ?_|refine Ws ?_|refine Wt ?_|refine Wu ?_|refine Wv rfl rfl ?_|(refine Ww rfl ⟨rfl, by decide, by decide, by decide⟩ ?_; intro _))
    refine JC.test (fun hnode => ?_) (fun hnode => ?_)
    · have hb : commitPut c = headL c ++ idsL c.parents := by rw [commitPut, if_pos hnode]
      rw [hb]
      repeat (first|refine Wa ?_|refine Wb ?_|refine Wc ?_|refine Wd ?_|refine We rfl ?_|refine Wf (by first|exact Va|exact Vb|exact Vc|exact Vd|exact Ve|exact Vf|exact Vg|exact Vh|exact Vi|exact Vj|exact Vk (by omega)|exact Vl|exact Vm|exact Vn|exact Vo|exact Vp|exact Vq|exact Vr|exact Vs (by omega)|exact Vt (by omega)|exact Vu (by omega)|exact Vv (by omega)|exact Vw|exact Vx|exact Vy|exact Vz|exact VA|exact VB|exact VC|exact VD|exact VE|exact VF) rfl ?_|(refine Wg rfl ?_; intro _)|(refine Wh rfl ?_; intro _)|refine Wi ?_|refine Wj ?_|refine Wk ?_|refine Wl ?_|refine Wm ?_|refine Wn ?_|refine Wo ?_|refine Wp ?_|refine Wq rfl ?_|refine Wr ?_|refine Ws ?_|refine Wt ?_|refine Wu ?_|refine Wv rfl rfl ?_|(refine Ww rfl ⟨rfl, by decide, by decide, by decide⟩ ?_; intro _))
      exact CT.done (p, q) rfl (fun w ho => Hold.left (Γ := [.st (sl p q (headL c ++ idsL c.parents))]) (Hold.pub (ho.ent : Hold _ _ [.res (buf p q 5 (headL c ++ idsL c.parents))] w)))
    · have hb : commitPut c = headL c ++ idsL c.parents ++ opPut c.op := by rw [commitPut, if_neg hnode]
      have hop := hm.op hnode
      have hput : putOp c.op = (opPut c.op, 0) := by simp [putOp, hop]
      have hopl := (put_facts c.op hop).2.2
      obtain ⟨_, _, _, _, _, _, _, _, hopl⟩ := hopl
      rw [hb]
      repeat (first|refine Wa ?_|refine Wb ?_|refine Wc ?_|refine Wd ?_|refine We rfl ?_|refine Wf (by first|exact Va|exact Vb|exact Vc|exact Vd|exact Ve|exact Vf|exact Vg|exact Vh|exact Vi|exact Vj|exact Vk (by omega)|exact Vl|exact Vm|exact Vn|exact Vo|exact Vp|exact Vq|exact Vr|exact Vs (by omega)|exact Vt (by omega)|exact Vu (by omega)|exact Vv (by omega)|exact Vw|exact Vx|exact Vy|exact Vz|exact VA|exact VB|exact VC|exact VD|exact VE|exact VF) rfl ?_|(refine Wg rfl ?_; intro _)|(refine Wh rfl ?_; intro _)|refine Wi ?_|refine Wj ?_|refine Wk ?_|refine Wl ?_|refine Wm ?_|refine Wn ?_|refine Wo ?_|refine Wp ?_|refine Wq rfl ?_|refine Wr ?_|refine Ws ?_|refine Wt ?_|refine Wu ?_|refine Wv rfl rfl ?_|(refine Ww rfl ⟨rfl, by decide, by decide, by decide⟩ ?_; intro _))
      refine JR.callSlT (L := opPut c.op) (us' := [.int .i64 0]) rfl (fun w1 hw => put_ops_ok w1 _ c.op ht.1 ht.2 hop) ?_
      intro p4 q4
      repeat (first|refine Wa ?_|refine Wb ?_|refine Wc ?_|refine Wd ?_|refine We rfl ?_|refine Wf (by first|exact Va|exact Vb|exact Vc|exact Vd|exact Ve|exact Vf|exact Vg|exact Vh|exact Vi|exact Vj|exact Vk (by omega)|exact Vl|exact Vm|exact Vn|exact Vo|exact Vp|exact Vq|exact Vr|exact Vs (by omega)|exact Vt (by omega)|exact Vu (by omega)|exact Vv (by omega)|exact Vw|exact Vx|exact Vy|exact Vz|exact VA|exact VB|exact VC|exact VD|exact VE|exact VF) rfl ?_|(refine Wg rfl ?_; intro _)|(refine Wh rfl ?_; intro _)|refine Wi ?_|refine Wj ?_|refine Wk ?_|refine Wl ?_|refine Wm ?_|refine Wn ?_|refine Wo ?_|refine Wp ?_|refine Wq rfl ?_|refine Wr ?_|refine Ws ?_|refine Wt ?_|refine Wu ?_|refine Wv rfl rfl ?_|(refine Ww rfl ⟨rfl, by decide, by decide, by decide⟩ ?_; intro _))
      refine JR.appendSl rfl (by exact ⟨rfl, rfl, by decide⟩) (by rw [List.length_append]; omega) ?_
      intro p5 q5
      repeat (first|refine Wa ?_|refine Wb ?_|refine Wc ?_|refine Wd ?_|refine We rfl ?_|refine Wf (by first|exact Va|exact Vb|exact Vc|exact Vd|exact Ve|exact Vf|exact Vg|exact Vh|exact Vi|exact Vj|exact Vk (by omega)|exact Vl|exact Vm|exact Vn|exact Vo|exact Vp|exact Vq|exact Vr|exact Vs (by omega)|exact Vt (by omega)|exact Vu (by omega)|exact Vv (by omega)|exact Vw|exact Vx|exact Vy|exact Vz|exact VA|exact VB|exact VC|exact VD|exact VE|exact VF) rfl ?_|(refine Wg rfl ?_; intro _)|(refine Wh rfl ?_; intro _)|refine Wi ?_|refine Wj ?_|refine Wk ?_|refine Wl ?_|refine Wm ?_|refine Wn ?_|refine Wo ?_|refine Wp ?_|refine Wq rfl ?_|refine Wr ?_|refine Ws ?_|refine Wt ?_|refine Wu ?_|refine Wv rfl rfl ?_|(refine Ww rfl ⟨rfl, by decide, by decide, by decide⟩ ?_; intro _))
      exact CT.done (p5, q5) rfl (fun w ho => Hold.left (Γ := [.st (sl p5 q5 (headL c ++ idsL c.parents ++ opPut c.op))]) (Hold.pub (ho.ent : Hold _ _ [.res (buf p5 q5 5 (headL c ++ idsL c.parents ++ opPut c.op))] w)))

theorem commitPut_length {c : Commit} (h : may c = true) : (commitPut c).length ≤ 400 := by
  have hm := may_spec h
  have h1 := headL_length c
  have h2 := idsL_length c.parents
  have h3 := hm.par
  unfold commitPut
  split
  · rw [List.length_append]; omega
  · rename_i hn
    obtain ⟨_, _, _, _, _, _, _, _, h4⟩ := (put_facts c.op (hm.op hn)).2.2
    rw [List.length_append, List.length_append]; omega
def zeroID : ID := ⟨List.replicate 32 0, rfl⟩
/-- A commit's id, and the error. -/
def hashC (c : Commit) : ID × Int := if may c then (sumI (commitPut c), 0) else (zeroID, 1)

set_option maxHeartbeats 1000000 in
theorem hash_commit (w : World) (F : Nat → Prop) (c : Commit) (a : Option Addr) (k : Nat) (h : (sl a k c.parents).holds F w) (ht : texts c) :
    GivesV Tryz.prog 39 [commitV c a k] w F (.tuple ⟨[.agg ⟨idc (hashC c).1⟩, .int .i64 (hashC c).2]⟩) := by
  refine gives_of Tryz.func39 rfl Tryz.ntmps39 rfl rfl [.st (sl a k c.parents)] (.start1 h) ?_
  repeat (first|refine Wa ?_|refine Wb ?_|refine Wc ?_|refine Wd ?_|refine We rfl ?_|refine Wf (by first|exact Va|exact Vb|exact Vc|exact Vd|exact Ve|exact Vf|exact Vg|exact Vh|exact Vi|exact Vj|exact Vk (by omega)|exact Vl|exact Vm|exact Vn|exact Vo|exact Vp|exact Vq|exact Vr|exact Vs (by omega)|exact Vt (by omega)|exact Vu (by omega)|exact Vv (by omega)|exact Vw|exact Vx|exact Vy|exact Vz|exact VA|exact VB|exact VC|exact VD|exact VE|exact VF) rfl ?_|(refine Wg rfl ?_; intro _)|(refine Wh rfl ?_; intro _)|refine Wi ?_|refine Wj ?_|refine Wk ?_|refine Wl ?_|refine Wm ?_|refine Wn ?_|refine Wo ?_|refine Wp ?_|refine Wq rfl ?_|refine Wr ?_|refine Ws ?_|refine Wt ?_|refine Wu ?_|refine Wv rfl rfl ?_|(refine Ww rfl ⟨rfl, by decide, by decide, by decide⟩ ?_; intro _))
  rename_i bc bi
  refine JR.callSlT (L := (putCommit c).1) (us' := [.int .i64 (putCommit c).2]) rfl (fun w1 hw => put_commit w1 _ c a k hw.get ht) ?_
  intro p q
  repeat (first|refine Wa ?_|refine Wb ?_|refine Wc ?_|refine Wd ?_|refine We rfl ?_|refine Wf (by first|exact Va|exact Vb|exact Vc|exact Vd|exact Ve|exact Vf|exact Vg|exact Vh|exact Vi|exact Vj|exact Vk (by omega)|exact Vl|exact Vm|exact Vn|exact Vo|exact Vp|exact Vq|exact Vr|exact Vs (by omega)|exact Vt (by omega)|exact Vu (by omega)|exact Vv (by omega)|exact Vw|exact Vx|exact Vy|exact Vz|exact VA|exact VB|exact VC|exact VD|exact VE|exact VF) rfl ?_|(refine Wg rfl ?_; intro _)|(refine Wh rfl ?_; intro _)|refine Wi ?_|refine Wj ?_|refine Wk ?_|refine Wl ?_|refine Wm ?_|refine Wn ?_|refine Wo ?_|refine Wp ?_|refine Wq rfl ?_|refine Wr ?_|refine Ws ?_|refine Wt ?_|refine Wu ?_|refine Wv rfl rfl ?_|(refine Ww rfl ⟨rfl, by decide, by decide, by decide⟩ ?_; intro _))
  refine JC.test (fun h1 => ?_) (fun h1 => ?_)
  · have hm : may c = false := by
      rw [← Bool.not_eq_true]
      intro hm
      simp [putCommit, hm] at h1
    have h2 : hashC c = (zeroID, 1) := by simp [hashC, hm]
    have h3 : (putCommit c).2 = 1 := by simp [putCommit, hm]
    rw [h2, h3]
    repeat (first|refine Wa ?_|refine Wb ?_|refine Wc ?_|refine Wd ?_|refine We rfl ?_|refine Wf (by first|exact Va|exact Vb|exact Vc|exact Vd|exact Ve|exact Vf|exact Vg|exact Vh|exact Vi|exact Vj|exact Vk (by omega)|exact Vl|exact Vm|exact Vn|exact Vo|exact Vp|exact Vq|exact Vr|exact Vs (by omega)|exact Vt (by omega)|exact Vu (by omega)|exact Vv (by omega)|exact Vw|exact Vx|exact Vy|exact Vz|exact VA|exact VB|exact VC|exact VD|exact VE|exact VF) rfl ?_|(refine Wg rfl ?_; intro _)|(refine Wh rfl ?_; intro _)|refine Wi ?_|refine Wj ?_|refine Wk ?_|refine Wl ?_|refine Wm ?_|refine Wn ?_|refine Wo ?_|refine Wp ?_|refine Wq rfl ?_|refine Wr ?_|refine Ws ?_|refine Wt ?_|refine Wu ?_|refine Wv rfl rfl ?_|(refine Ww rfl ⟨rfl, by decide, by decide, by decide⟩ ?_; intro _))
    refine Wf (OpV.build [.int .u8 0, .int .u8 0, .int .u8 0, .int .u8 0, .int .u8 0, .int .u8 0, .int .u8 0, .int .u8 0, .int .u8 0, .int .u8 0, .int .u8 0, .int .u8 0, .int .u8 0, .int .u8 0, .int .u8 0, .int .u8 0, .int .u8 0, .int .u8 0, .int .u8 0, .int .u8 0, .int .u8 0, .int .u8 0, .int .u8 0, .int .u8 0, .int .u8 0, .int .u8 0, .int .u8 0, .int .u8 0, .int .u8 0, .int .u8 0, .int .u8 0, .int .u8 0] (by kernel_rfl)) rfl ?_
    refine JO.reslot 13 (.agg ⟨idc zeroID⟩) rfl ?_
    repeat (first|refine Wa ?_|refine Wb ?_|refine Wc ?_|refine Wd ?_|refine We rfl ?_|refine Wf (by first|exact Va|exact Vb|exact Vc|exact Vd|exact Ve|exact Vf|exact Vg|exact Vh|exact Vi|exact Vj|exact Vk (by omega)|exact Vl|exact Vm|exact Vn|exact Vo|exact Vp|exact Vq|exact Vr|exact Vs (by omega)|exact Vt (by omega)|exact Vu (by omega)|exact Vv (by omega)|exact Vw|exact Vx|exact Vy|exact Vz|exact VA|exact VB|exact VC|exact VD|exact VE|exact VF) rfl ?_|(refine Wg rfl ?_; intro _)|(refine Wh rfl ?_; intro _)|refine Wi ?_|refine Wj ?_|refine Wk ?_|refine Wl ?_|refine Wm ?_|refine Wn ?_|refine Wo ?_|refine Wp ?_|refine Wq rfl ?_|refine Wr ?_|refine Ws ?_|refine Wt ?_|refine Wu ?_|refine Wv rfl rfl ?_|(refine Ww rfl ⟨rfl, by decide, by decide, by decide⟩ ?_; intro _))
    exact CT.done () rfl (fun w ho => ho.ent)
  · have hm : may c = true := by
      rw [← Bool.not_eq_false]
      intro hm
      simp [putCommit, hm] at h1
    have h2 : hashC c = (sumI (commitPut c), 0) := by simp [hashC, hm]
    have h3 : putCommit c = (commitPut c, 0) := by simp [putCommit, hm]
    have hl := commitPut_length hm
    rw [h2, h3]
    repeat (first|refine Wa ?_|refine Wb ?_|refine Wc ?_|refine Wd ?_|refine We rfl ?_|refine Wf (by first|exact Va|exact Vb|exact Vc|exact Vd|exact Ve|exact Vf|exact Vg|exact Vh|exact Vi|exact Vj|exact Vk (by omega)|exact Vl|exact Vm|exact Vn|exact Vo|exact Vp|exact Vq|exact Vr|exact Vs (by omega)|exact Vt (by omega)|exact Vu (by omega)|exact Vv (by omega)|exact Vw|exact Vx|exact Vy|exact Vz|exact VA|exact VB|exact VC|exact VD|exact VE|exact VF) rfl ?_|(refine Wg rfl ?_; intro _)|(refine Wh rfl ?_; intro _)|refine Wi ?_|refine Wj ?_|refine Wk ?_|refine Wl ?_|refine Wm ?_|refine Wn ?_|refine Wo ?_|refine Wp ?_|refine Wq rfl ?_|refine Wr ?_|refine Ws ?_|refine Wt ?_|refine Wu ?_|refine Wv rfl rfl ?_|(refine Ww rfl ⟨rfl, by decide, by decide, by decide⟩ ?_; intro _))
    refine JR.callV rfl (fun w1 hw => sum_sha w1 _ p q (commitPut c) hw.get (by omega)) ?_
    repeat (first|refine Wa ?_|refine Wb ?_|refine Wc ?_|refine Wd ?_|refine We rfl ?_|refine Wf (by first|exact Va|exact Vb|exact Vc|exact Vd|exact Ve|exact Vf|exact Vg|exact Vh|exact Vi|exact Vj|exact Vk (by omega)|exact Vl|exact Vm|exact Vn|exact Vo|exact Vp|exact Vq|exact Vr|exact Vs (by omega)|exact Vt (by omega)|exact Vu (by omega)|exact Vv (by omega)|exact Vw|exact Vx|exact Vy|exact Vz|exact VA|exact VB|exact VC|exact VD|exact VE|exact VF) rfl ?_|(refine Wg rfl ?_; intro _)|(refine Wh rfl ?_; intro _)|refine Wi ?_|refine Wj ?_|refine Wk ?_|refine Wl ?_|refine Wm ?_|refine Wn ?_|refine Wo ?_|refine Wp ?_|refine Wq rfl ?_|refine Wr ?_|refine Ws ?_|refine Wt ?_|refine Wu ?_|refine Wv rfl rfl ?_|(refine Ww rfl ⟨rfl, by decide, by decide, by decide⟩ ?_; intro _))
    exact CT.done () rfl (fun w ho => ho.ent)
end Ab
end Go.Proofs.YtcmfemfndadfmaaGreat

/- Contracts: wait.Missing. -/
namespace Go.Proofs.YtcmfemfndadfmaaGreat
namespace Ab
open Go Go.RowKit
set_option linter.unusedVariables false
set_option linter.unusedSimpArgs false
set_option synthInstance.maxSize 4000
set_option synthInstance.maxHeartbeats 400000
attribute [local irreducible] JC JO JR JQ andThen inBlock OpV Gives retTo JM JS

attribute [local irreducible] sumI hashC
def hashO (c : Commit) : Option ID := if (hashC c).2 = 0 then some (hashC c).1 else none
end Ab
end Go.Proofs.YtcmfemfndadfmaaGreat

/- Closed commits, in plain words: what commits know, when they are closed, how they are put one by one, and the same by places. -/
namespace Go.Proofs.YtcmfemfndadfmaaGreat
namespace Ab
open Go Go.RowKit
set_option linter.unusedVariables false
set_option linter.unusedSimpArgs false
set_option synthInstance.maxSize 4000
set_option synthInstance.maxHeartbeats 400000
attribute [local irreducible] JC JO JR JQ andThen inBlock OpV Gives retTo JM JS

def idC (c : Commit) : ID := (hashC c).1
def cids (L : List Commit) : List ID := L.map idC
/-- What a commit of L stands behind, of what is there. -/
def par (L : List Commit) (x y : ID) : Prop := ∃ c ∈ L, idC c = x ∧ y ∈ c.parents ∧ y ∈ cids L
def knows (L : List Commit) (x y : ID) : Prop := Relation.TransGen (par L) x y
def genAt (L : List Commit) (p : ID) : Int := match L.find? (fun c => decide (idC c = p)) with | some c => c.gen | none => 0
def maxGen (L : List Commit) (ps : List ID) : Int := ps.foldl (fun g p => max g (genAt L p)) 0

structure Fine (L : List Commit) (c : Commit) : Prop where
  merge : merge c = false
  here : ∀ p ∈ c.parents, p ∈ cids L
  free : ∀ p ∈ c.parents, ∀ q ∈ c.parents, ¬ knows L p q
  gen : c.gen = maxGen L c.parents + 1
def evOk (L : List Commit) (c d : Commit) : Prop := idC c ≠ idC d → c.ev.node = d.ev.node → c.ev.seq ≠ d.ev.seq ∧ (d.ev.seq < c.ev.seq → knows L (idC c) (idC d))
structure Closed (L : List Commit) : Prop where
  may : ∀ c ∈ L, may c = true
  nodup : (cids L).Nodup
  fine : ∀ c ∈ L, Fine L c
  ev : ∀ c ∈ L, ∀ d ∈ L, evOk L c d

theorem mem_cids {L : List Commit} {x : ID} : x ∈ cids L ↔ ∃ c ∈ L, idC c = x := by simp [cids]
theorem cids_perm {L M : List Commit} (h : L.Perm M) : (cids L).Perm (cids M) := h.map _
theorem par_perm {L M : List Commit} (h : L.Perm M) (x y : ID) : par L x y ↔ par M x y := by
  unfold par
  constructor
  · rintro ⟨c, h1, h2, h3, h4⟩; exact ⟨c, h.mem_iff.1 h1, h2, h3, (cids_perm h).mem_iff.1 h4⟩
  · rintro ⟨c, h1, h2, h3, h4⟩; exact ⟨c, h.mem_iff.2 h1, h2, h3, (cids_perm h).mem_iff.2 h4⟩
theorem par_perm_eq {L M : List Commit} (h : L.Perm M) : par L = par M := by
  funext x y; exact propext (par_perm h x y)
theorem knows_perm {L M : List Commit} (h : L.Perm M) : knows L = knows M := by unfold knows; rw [par_perm_eq h]
/-- One commit has an id, of commits with ids of their own. -/
theorem id_inj {L : List Commit} (h : (cids L).Nodup) {c d : Commit} (hc : c ∈ L) (hd : d ∈ L) (e : idC c = idC d) : c = d := by
  induction L with
  | nil => cases hc
  | cons a L ih =>
    simp only [cids, List.map_cons, List.nodup_cons, List.mem_map, not_exists, not_and] at h
    rcases List.mem_cons.1 hc with e1 | hc'
    · rcases List.mem_cons.1 hd with e2 | hd'
      · rw [e1, e2]
      · exact (h.1 d hd' (by rw [← e1, e])).elim
    · rcases List.mem_cons.1 hd with e2 | hd'
      · exact (h.1 c hc' (by rw [← e2, e])).elim
      · exact ih h.2 hc' hd'
theorem genAt_of {L : List Commit} (h : (cids L).Nodup) {c : Commit} (hc : c ∈ L) : genAt L (idC c) = c.gen := by
  unfold genAt
  cases hf : L.find? (fun d => decide (idC d = idC c)) with
  | none => exact absurd (List.find?_eq_none.1 hf c hc) (by simp)
  | some d =>
    have h1 := List.find?_some hf
    have h2 := List.mem_of_find?_eq_some hf
    rw [id_inj h h2 hc (by simpa using h1)]
theorem genAt_none {L : List Commit} {p : ID} (h : p ∉ cids L) : genAt L p = 0 := by
  unfold genAt
  cases hf : L.find? (fun d => decide (idC d = p)) with
  | none => rfl
  | some d =>
    have h1 := List.find?_some hf
    exact (h (mem_cids.2 ⟨d, List.mem_of_find?_eq_some hf, by simpa using h1⟩)).elim
theorem genAt_perm {L M : List Commit} (h : L.Perm M) (hn : (cids L).Nodup) (p : ID) : genAt L p = genAt M p := by
  by_cases hp : p ∈ cids L
  · obtain ⟨c, hc, rfl⟩ := mem_cids.1 hp
    rw [genAt_of hn hc, genAt_of ((cids_perm h).nodup_iff.1 hn) (h.mem_iff.1 hc)]
  · rw [genAt_none hp, genAt_none (fun hq => hp ((cids_perm h).mem_iff.2 hq))]
theorem foldl_max_le (f : ID → Int) (ps : List ID) : ∀ g : Int, g ≤ ps.foldl (fun g p => max g (f p)) g := by
  induction ps with
  | nil => intro g; exact Int.le_refl _
  | cons p ps ih => intro g; exact Int.le_trans (Int.le_max_left _ _) (ih _)
theorem foldl_max_mem (f : ID → Int) (ps : List ID) : ∀ (g : Int), ∀ p ∈ ps, f p ≤ ps.foldl (fun g p => max g (f p)) g := by
  induction ps with
  | nil => intro g p hp; cases hp
  | cons q ps ih =>
    intro g p hp
    rcases List.mem_cons.1 hp with rfl | hp
    · exact Int.le_trans (Int.le_max_right _ _) (foldl_max_le f ps _)
    · exact ih _ p hp
theorem foldl_max_congr (f g : ID → Int) (ps : List ID) (h : ∀ p ∈ ps, f p = g p) : ∀ a : Int, ps.foldl (fun g p => max g (f p)) a = ps.foldl (fun a p => max a (g p)) a := by
  induction ps with
  | nil => intro a; rfl
  | cons q ps ih =>
    intro a
    simp only [List.foldl_cons]
    rw [h q (by simp)]
    exact ih (fun p hp => h p (by simp [hp])) _
theorem maxGen_mem (L : List Commit) (ps : List ID) (p : ID) (h : p ∈ ps) : genAt L p ≤ maxGen L ps := foldl_max_mem _ _ _ p h
theorem maxGen_congr {L M : List Commit} {ps : List ID} (h : ∀ p ∈ ps, genAt L p = genAt M p) : maxGen L ps = maxGen M ps := foldl_max_congr _ _ _ h _

theorem Closed.perm {L M : List Commit} (h : L.Perm M) (hc : Closed L) : Closed M := by
  have hk := knows_perm h
  refine ⟨fun c hm => hc.may c (h.mem_iff.2 hm), (cids_perm h).nodup_iff.1 hc.nodup, fun c hm => ?_, fun c hm d hd => ?_⟩
  · have hf := hc.fine c (h.mem_iff.2 hm)
    refine ⟨hf.merge, fun p hp => (cids_perm h).mem_iff.1 (hf.here p hp), ?_, ?_⟩
    · rw [← hk]; exact hf.free
    · rw [hf.gen, maxGen_congr fun p _ => genAt_perm h hc.nodup p]
  · have := hc.ev c (h.mem_iff.2 hm) d (h.mem_iff.2 hd)
    unfold evOk at *
    rw [← hk]; exact this
/-- What is known has a smaller generation. -/
theorem Closed.par_gen {L : List Commit} (h : Closed L) {x y : ID} (hp : par L x y) : genAt L y < genAt L x := by
  obtain ⟨c, h1, rfl, h3, _⟩ := hp
  rw [genAt_of h.nodup h1, (h.fine c h1).gen]
  have := maxGen_mem L c.parents y h3
  omega
theorem Closed.knows_gen {L : List Commit} (h : Closed L) {x y : ID} (hp : knows L x y) : genAt L y < genAt L x := by
  induction hp with
  | single h1 => exact h.par_gen h1
  | tail _ h1 ih => exact Int.lt_trans (h.par_gen h1) ih
theorem Closed.irrefl {L : List Commit} (h : Closed L) (x : ID) : ¬ knows L x x := fun hk => Int.lt_irrefl _ (h.knows_gen hk)
theorem knows_ids {L : List Commit} {x y : ID} (h : knows L x y) : x ∈ cids L ∧ y ∈ cids L := by
  have hp : ∀ {x y}, par L x y → x ∈ cids L ∧ y ∈ cids L := fun ⟨c, h1, h2, _, h4⟩ => ⟨mem_cids.2 ⟨c, h1, h2⟩, h4⟩
  induction h with
  | single h1 => exact hp h1
  | tail _ h1 ih => exact ⟨ih.1, (hp h1).2⟩
theorem knows_trans {L : List Commit} {x y z : ID} (h : knows L x y) (k : knows L y z) : knows L x z := Relation.TransGen.trans h k
/-- What a commit knows: its parents, and what these know. -/
theorem knows_iff {L : List Commit} (hn : (cids L).Nodup) {c : Commit} (hc : c ∈ L) (hh : ∀ p ∈ c.parents, p ∈ cids L) (y : ID) :
    knows L (idC c) y ↔ ∃ p ∈ c.parents, y = p ∨ knows L p y := by
  constructor
  · intro h
    have key : ∀ {x y}, Relation.TransGen (par L) x y → ∃ z, par L x z ∧ (y = z ∨ Relation.TransGen (par L) z y) := by
      intro x y h
      induction h with
      | single h1 => exact ⟨_, h1, .inl rfl⟩
      | tail _ h1 ih =>
        obtain ⟨z, h2, h3⟩ := ih
        refine ⟨z, h2, .inr ?_⟩
        rcases h3 with rfl | h3
        · exact .single h1
        · exact .tail h3 h1
    obtain ⟨z, ⟨d, h1, h2, h3, _⟩, h4⟩ := key h
    have : d = c := id_inj hn h1 hc h2
    subst this
    exact ⟨z, h3, h4⟩
  · rintro ⟨p, hp, h⟩
    have h1 : par L (idC c) p := ⟨c, hc, rfl, hp, hh p hp⟩
    rcases h with rfl | h
    · exact .single h1
    · exact Relation.TransGen.trans (.single h1) h

/-- A part that stands behind nothing else knows the same. -/
theorem knows_sub {L M : List Commit} (hs : ∀ c ∈ M, c ∈ L) (hn : (cids L).Nodup) (hh : ∀ c ∈ M, ∀ p ∈ c.parents, p ∈ cids M) {x : ID} (hx : x ∈ cids M) (y : ID) :
    knows M x y ↔ knows L x y := by
  have hi : ∀ z, z ∈ cids M → z ∈ cids L := fun z hz => by
    obtain ⟨c, hc, rfl⟩ := mem_cids.1 hz; exact mem_cids.2 ⟨c, hs c hc, rfl⟩
  constructor
  · intro h
    refine Relation.TransGen.rec (motive := fun y _ => knows L x y) ?_ ?_ h
    · rintro y ⟨c, h1, h2, h3, h4⟩; exact .single ⟨c, hs c h1, h2, h3, hi _ h4⟩
    · rintro y z _ ⟨c, h1, h2, h3, h4⟩ ih; exact .tail ih ⟨c, hs c h1, h2, h3, hi _ h4⟩
  · intro h
    have step : ∀ {x y}, x ∈ cids M → par L x y → par M x y ∧ y ∈ cids M := by
      rintro x y hx ⟨c, h1, h2, h3, _⟩
      obtain ⟨d, hd, he⟩ := mem_cids.1 hx
      have : d = c := id_inj hn (hs d hd) h1 (he.trans h2.symm)
      subst this
      exact ⟨⟨d, hd, he, h3, hh d hd y h3⟩, hh d hd y h3⟩
    have : knows M x y ∧ y ∈ cids M := by
      refine Relation.TransGen.rec (motive := fun y _ => knows M x y ∧ y ∈ cids M) ?_ ?_ h
      · intro y h1; exact ⟨.single (step hx h1).1, (step hx h1).2⟩
      · intro y z _ h1 ih; exact ⟨.tail ih.1 (step ih.2 h1).1, (step ih.2 h1).2⟩
    exact this.1
theorem genAt_sub {L M : List Commit} (hs : ∀ c ∈ M, c ∈ L) (hn : (cids L).Nodup) (hm : (cids M).Nodup) {x : ID} (hx : x ∈ cids M) : genAt M x = genAt L x := by
  obtain ⟨c, hc, rfl⟩ := mem_cids.1 hx
  rw [genAt_of hm hc, genAt_of hn (hs c hc)]
theorem nodup_sub {L M : List Commit} (hn : (cids L).Nodup) (hs : M.Sublist L) : (cids M).Nodup := hn.sublist (hs.map _)
/-- A part of closed commits that stands behind nothing else is closed. -/
theorem Closed.sub {L M : List Commit} (h : Closed L) (hs : ∀ c ∈ M, c ∈ L) (hm : (cids M).Nodup) (hh : ∀ c ∈ M, ∀ p ∈ c.parents, p ∈ cids M) : Closed M := by
  refine ⟨fun c hc => h.may c (hs c hc), hm, fun c hc => ?_, fun c hc d hd => ?_⟩
  · have hf := h.fine c (hs c hc)
    refine ⟨hf.merge, hh c hc, fun p hp q hq hk => hf.free p hp q hq ((knows_sub hs h.nodup hh (hh c hc p hp) q).1 hk), ?_⟩
    rw [hf.gen, maxGen_congr fun p hp => (genAt_sub hs h.nodup hm (hh c hc p hp))]
  · have := h.ev c (hs c hc) d (hs d hd)
    intro h1 h2
    obtain ⟨h3, h4⟩ := this h1 h2
    exact ⟨h3, fun h5 => (knows_sub hs h.nodup hh (mem_cids.2 ⟨c, hc, rfl⟩) _).2 (h4 h5)⟩
/-- Commits in the order in which they were put, and what each of them knows. -/
def nodes (G : List (Commit × List ID)) : List Commit := G.map (·.1)
def knownBy (G : List (Commit × List ID)) (q : ID) : List ID := match G.find? (fun g => decide (idC g.1 = q)) with | some g => g.2 | none => []
def addOk (G : List (Commit × List ID)) (c : Commit) : Bool := c.parents.all (fun p => decide (p ∈ cids (nodes G))) && c.parents.all (fun p => c.parents.all fun q => decide (p ∉ knownBy G q))
def addGen (G : List (Commit × List ID)) (c : Commit) : Bool := decide (c.gen = maxGen (nodes G) c.parents + 1)
def isKnown (G : List (Commit × List ID)) (c : Commit) (S : List ID) : Prop := ∀ x, x ∈ S ↔ ∃ p ∈ c.parents, x = p ∨ x ∈ knownBy G p
inductive Built : List (Commit × List ID) → Prop
  | nil : Built []
  | snoc {G : List (Commit × List ID)} {c : Commit} {S : List ID} : Built G → idC c ∉ cids (nodes G) → merge c = false → addOk G c = true → addGen G c = true → isKnown G c S → Built (G ++ [(c, S)])

theorem nodes_snoc (G : List (Commit × List ID)) (c : Commit) (S : List ID) : nodes (G ++ [(c, S)]) = nodes G ++ [c] := by simp [nodes]
theorem cids_append (L M : List Commit) : cids (L ++ M) = cids L ++ cids M := by simp [cids]
theorem cids_snoc (L : List Commit) (c : Commit) : cids (L ++ [c]) = cids L ++ [idC c] := by simp [cids]
theorem knownBy_of {G : List (Commit × List ID)} (h : (cids (nodes G)).Nodup) {g : Commit × List ID} (hg : g ∈ G) : knownBy G (idC g.1) = g.2 := by
  unfold knownBy
  cases hf : G.find? (fun d => decide (idC d.1 = idC g.1)) with
  | none => exact absurd (List.find?_eq_none.1 hf g hg) (by simp)
  | some d =>
    have h1 := List.find?_some hf
    have h2 := List.mem_of_find?_eq_some hf
    have h3 : idC d.1 = idC g.1 := by simpa using h1
    have : d = g := by
      clear hf h1
      induction G with
      | nil => cases hg
      | cons a G ih =>
        simp only [nodes, cids, List.map_cons, List.nodup_cons, List.mem_map, not_exists, not_and] at h
        rcases List.mem_cons.1 h2 with e1 | h2'
        · rcases List.mem_cons.1 hg with e2 | hg'
          · rw [e1, e2]
          · exact (h.1 g.1 ⟨g, hg', rfl⟩ (by rw [← e1, h3])).elim
        · rcases List.mem_cons.1 hg with e2 | hg'
          · exact (h.1 d.1 ⟨d, h2', rfl⟩ (by rw [← e2, h3])).elim
          · exact ih h.2 hg' h2'
    rw [this]
theorem knownBy_snoc {G : List (Commit × List ID)} {c : Commit} {S : List ID} {q : ID} (h : q ∈ cids (nodes G)) : knownBy (G ++ [(c, S)]) q = knownBy G q := by
  obtain ⟨c', hc', he⟩ := mem_cids.1 h
  obtain ⟨g, hg, rfl⟩ := List.mem_map.1 hc'
  unfold knownBy
  rw [List.find?_append]
  cases hf : G.find? (fun d => decide (idC d.1 = q)) with
  | none => exact absurd (List.find?_eq_none.1 hf g hg) (by simpa using he)
  | some d => rfl
theorem addOk_iff (G : List (Commit × List ID)) (c : Commit) : addOk G c = true ↔ (∀ p ∈ c.parents, p ∈ cids (nodes G)) ∧ ∀ p ∈ c.parents, ∀ q ∈ c.parents, p ∉ knownBy G q := by
  simp only [addOk, Bool.and_eq_true, List.all_eq_true, decide_eq_true_eq]

/-- What was built is right. -/
structure BuiltR (G : List (Commit × List ID)) : Prop where
  nodup : (cids (nodes G)).Nodup
  here : ∀ c ∈ nodes G, ∀ p ∈ c.parents, p ∈ cids (nodes G)
  known : ∀ q ∈ cids (nodes G), ∀ x, x ∈ knownBy G q ↔ knows (nodes G) q x
  fine : ∀ c ∈ nodes G, Fine (nodes G) c
theorem Built.right {G : List (Commit × List ID)} (h : Built G) : BuiltR G := by
  induction h with
  | nil => exact ⟨by simp [nodes, cids], by simp [nodes], by simp [nodes, cids], by simp [nodes]⟩
  | snoc h1 h2 h3 h4 h5 h6 ih =>
    rename_i G c S
    have hn : (cids (nodes (G ++ [(c, S)]))).Nodup := by
      rw [nodes_snoc, cids_snoc]
      exact List.nodup_append.2 ⟨ih.nodup, by simp, fun a ha b hb => by simp at hb; subst hb; exact fun e => h2 (e ▸ ha)⟩
    obtain ⟨h7, h8⟩ := (addOk_iff G c).1 h4
    have hs : ∀ d ∈ nodes G, d ∈ nodes (G ++ [(c, S)]) := fun d hd => by rw [nodes_snoc]; exact List.mem_append_left _ hd
    have hi : ∀ x ∈ cids (nodes G), x ∈ cids (nodes (G ++ [(c, S)])) := fun x hx => by rw [nodes_snoc, cids_append]; exact List.mem_append_left _ hx
    have hc : c ∈ nodes (G ++ [(c, S)]) := by rw [nodes_snoc]; simp
    have hsub : ∀ {x}, x ∈ cids (nodes G) → ∀ y, knows (nodes G) x y ↔ knows (nodes (G ++ [(c, S)])) x y := fun hx y => knows_sub hs hn ih.here hx y
    have hgen : ∀ x ∈ cids (nodes G), genAt (nodes G) x = genAt (nodes (G ++ [(c, S)])) x := fun x hx => genAt_sub hs hn ih.nodup hx
    have hcc : ∀ x, x ∈ S ↔ knows (nodes (G ++ [(c, S)])) (idC c) x := by
      intro x
      rw [h6 x, knows_iff hn hc (fun p hp => hi p (h7 p hp))]
      constructor
      · rintro ⟨p, hp, h9⟩
        exact ⟨p, hp, h9.imp id fun h9 => (hsub (h7 p hp) x).1 ((ih.known p (h7 p hp) x).1 h9)⟩
      · rintro ⟨p, hp, h9⟩
        exact ⟨p, hp, h9.imp id fun h9 => (ih.known p (h7 p hp) x).2 ((hsub (h7 p hp) x).2 h9)⟩
    refine ⟨hn, fun d hd p hp => ?_, fun q hq x => ?_, fun d hd => ?_⟩
    · rw [nodes_snoc] at hd
      rcases List.mem_append.1 hd with hd | hd
      · exact hi p (ih.here d hd p hp)
      · simp at hd; subst hd; exact hi p (h7 p hp)
    · by_cases hq' : q ∈ cids (nodes G)
      · rw [knownBy_snoc hq', ih.known q hq', hsub hq']
      · have : q = idC c := by
          rw [nodes_snoc, cids_snoc] at hq
          rcases List.mem_append.1 hq with hq | hq
          · exact (hq' hq).elim
          · simpa using hq
        subst this
        rw [knownBy_of hn (g := (c, S)) (by simp)]
        exact hcc x
    · rw [nodes_snoc] at hd
      rcases List.mem_append.1 hd with hd | hd
      · have hf := ih.fine d hd
        refine ⟨hf.merge, fun p hp => hi p (hf.here p hp), fun p hp q hq hk => hf.free p hp q hq ((hsub (hf.here p hp) q).2 hk), ?_⟩
        rw [hf.gen, maxGen_congr fun p hp => hgen p (hf.here p hp)]
      · simp at hd; subst hd
        refine ⟨h3, fun p hp => hi p (h7 p hp), fun p hp q hq hk => h8 q hq p hp ((ih.known p (h7 p hp) q).2 ((hsub (h7 p hp) q).2 hk)), ?_⟩
        have := of_decide_eq_true h5
        rw [this, maxGen_congr fun p hp => hgen p (h7 p hp)]

theorem Built.closed {G : List (Commit × List ID)} (h : Built G) (hm : ∀ c ∈ nodes G, may c = true) (he : ∀ c ∈ nodes G, ∀ d ∈ nodes G, evOk (nodes G) c d) : Closed (nodes G) :=
  ⟨hm, h.right.nodup, h.right.fine, he⟩
/-- Closed commits, by rising generations, can be put one by one. -/
theorem Closed.step {Lo : List Commit} (h : Closed Lo) (hs : Lo.Pairwise (fun c d => c.gen ≤ d.gen)) {G : List (Commit × List ID)} (hb : Built G) {k : Nat} (hk : k < Lo.length) (hG : nodes G = Lo.take k) :
    idC Lo[k] ∉ cids (nodes G) ∧ merge Lo[k] = false ∧ addOk G Lo[k] = true ∧ addGen G Lo[k] = true := by
  have hm := List.getElem_mem hk
  have hf := h.fine _ hm
  have hr := hb.right
  have hsub : ∀ c ∈ nodes G, c ∈ Lo := fun c hc => by rw [hG] at hc; exact List.mem_of_mem_take hc
  have hpar : ∀ p ∈ Lo[k].parents, p ∈ cids (nodes G) := by
    intro p hp
    obtain ⟨d, hd, rfl⟩ := mem_cids.1 (hf.here p hp)
    have hlt : d.gen < Lo[k].gen := by
      have := h.par_gen (x := idC Lo[k]) (y := idC d) ⟨_, hm, rfl, hp, hf.here _ hp⟩
      rwa [genAt_of h.nodup hd, genAt_of h.nodup hm] at this
    obtain ⟨j, hj, rfl⟩ := List.getElem_of_mem hd
    have hjk : j < k := by
      apply Classical.byContradiction
      intro hge
      by_cases he : j = k
      · subst he; omega
      · have := List.pairwise_iff_getElem.1 hs k j hk hj (by omega)
        omega
    rw [hG]
    refine mem_cids.2 ⟨Lo[j], ?_, rfl⟩
    rw [List.mem_take_iff_getElem]
    exact ⟨j, by omega, rfl⟩
  refine ⟨?_, hf.merge, (addOk_iff G _).2 ⟨hpar, fun p hp q hq hk' => ?_⟩, ?_⟩
  · intro hc
    obtain ⟨d, hd, he⟩ := mem_cids.1 hc
    rw [hG, List.mem_take_iff_getElem] at hd
    obtain ⟨j, hj, rfl⟩ := hd
    have h1 := List.pairwise_iff_getElem.1 (show (cids Lo).Pairwise _ from h.nodup) j k (by simp [cids]; omega) (by simpa [cids] using hk) (by omega)
    simp [cids] at h1
    exact h1 he
  · exact hf.free q hq p hp ((knows_sub hsub h.nodup hr.here (hpar q hq) p).1 ((hr.known q (hpar q hq) p).1 hk'))
  · refine decide_eq_true ?_
    rw [hf.gen, maxGen_congr fun p hp => (genAt_sub hsub h.nodup hr.nodup (hpar p hp)).symm]
theorem cids_length (L : List Commit) : (cids L).length = L.length := by simp [cids]
theorem cids_get (L : List Commit) (i : Nat) (h : i < (cids L).length) : (cids L)[i] = idC (L[i]'(by simpa [cids] using h)) := by simp [cids]
end Ab
end Go.Proofs.YtcmfemfndadfmaaGreat

/- Contracts: the document's Same and List, the laws' Few. -/
namespace Go.Proofs.YtcmfemfndadfmaaGreat
namespace Ab
open Go Go.RowKit
set_option linter.unusedVariables false
set_option linter.unusedSimpArgs false
set_option synthInstance.maxSize 4000
set_option synthInstance.maxHeartbeats 400000
attribute [local irreducible] JC JO JR JQ andThen inBlock OpV Gives retTo JM JS

theorem sameIds_ref (w : World) (F : Nat → Prop) (a b : Option Addr) (c k : Nat) (L M : List ID) (h : (sl a c L).holds F w) (h' : (sl b k M).holds F w) :
    GivesV Tryz.prog 19 [.slice a L.length c, .slice b M.length k] w F (.bool (decide (L = M))) := by
  have hL : L.length < 9223372036854775807 := by have := h.2.2.1; simp only [lim] at this; omega
  refine gives_of Tryz.func19 rfl Tryz.ntmps19 rfl rfl [.st (sl a c L), .st (sl b k M)] (.start2 h h') ?_
  repeat (first|refine Wa ?_|refine Wb ?_|refine Wc ?_|refine Wd ?_|refine We rfl ?_|refine Wf (by first|exact Va|exact Vb|exact Vc|exact Vd|exact Ve|exact Vf|exact Vg|exact Vh|exact Vi|exact Vj|exact Vk (by omega)|exact Vl|exact Vm|exact Vn|exact Vo|exact Vp|exact Vq|exact Vr|exact Vs (by omega)|exact Vt (by omega)|exact Vu (by omega)|exact Vv (by omega)|exact Vw|exact Vx|exact Vy|exact Vz|exact VA|exact VB|exact VC|exact VD|exact VE|exact VF) rfl ?_|(refine Wg rfl ?_; intro _)|(refine Wh rfl ?_; intro _)|refine Wi ?_|refine Wj ?_|refine Wk ?_|refine Wl ?_|refine Wm ?_|refine Wn ?_|refine Wo ?_|refine Wp ?_|refine Wq rfl ?_|refine Wr ?_|refine Ws ?_|refine Wt ?_|refine Wu ?_|refine Wv rfl rfl ?_|(refine Ww rfl ⟨rfl, by decide, by decide, by decide⟩ ?_; intro _))
  refine JC.test (fun hne => ?_) (fun he => ?_)
  · repeat (first|refine Wa ?_|refine Wb ?_|refine Wc ?_|refine Wd ?_|refine We rfl ?_|refine Wf (by first|exact Va|exact Vb|exact Vc|exact Vd|exact Ve|exact Vf|exact Vg|exact Vh|exact Vi|exact Vj|exact Vk (by omega)|exact Vl|exact Vm|exact Vn|exact Vo|exact Vp|exact Vq|exact Vr|exact Vs (by omega)|exact Vt (by omega)|exact Vu (by omega)|exact Vv (by omega)|exact Vw|exact Vx|exact Vy|exact Vz|exact VA|exact VB|exact VC|exact VD|exact VE|exact VF) rfl ?_|(refine Wg rfl ?_; intro _)|(refine Wh rfl ?_; intro _)|refine Wi ?_|refine Wj ?_|refine Wk ?_|refine Wl ?_|refine Wm ?_|refine Wn ?_|refine Wo ?_|refine Wp ?_|refine Wq rfl ?_|refine Wr ?_|refine Ws ?_|refine Wt ?_|refine Wu ?_|refine Wv rfl rfl ?_|(refine Ww rfl ⟨rfl, by decide, by decide, by decide⟩ ?_; intro _))
    refine CT.done () ?_ (fun w ho => ho.ent)
    have : ¬ L = M := fun h => hne (by rw [h])
    simp [packed, this]
  · have hlen : L.length = M.length := by omega
    repeat (first|refine Wa ?_|refine Wb ?_|refine Wc ?_|refine Wd ?_|refine We rfl ?_|refine Wf (by first|exact Va|exact Vb|exact Vc|exact Vd|exact Ve|exact Vf|exact Vg|exact Vh|exact Vi|exact Vj|exact Vk (by omega)|exact Vl|exact Vm|exact Vn|exact Vo|exact Vp|exact Vq|exact Vr|exact Vs (by omega)|exact Vt (by omega)|exact Vu (by omega)|exact Vv (by omega)|exact Vw|exact Vx|exact Vy|exact Vz|exact VA|exact VB|exact VC|exact VD|exact VE|exact VF) rfl ?_|(refine Wg rfl ?_; intro _)|(refine Wh rfl ?_; intro _)|refine Wi ?_|refine Wj ?_|refine Wk ?_|refine Wl ?_|refine Wm ?_|refine Wn ?_|refine Wo ?_|refine Wp ?_|refine Wq rfl ?_|refine Wr ?_|refine Ws ?_|refine Wt ?_|refine Wu ?_|refine Wv rfl rfl ?_|(refine Ww rfl ⟨rfl, by decide, by decide, by decide⟩ ?_; intro _))
    refine JC.loop1 (fun k0 : Nat => [(0, .slice a L.length c), (1, .slice b M.length k), (5, .int .i64 (k0 : Int))]) (fun _ => [.st (sl a c L), .st (sl b k M)])
      (fun k0 => k0 ≤ L.length ∧ L.take k0 = M.take k0) (fun k0 => L.length - k0) 0 ⟨Nat.zero_le _, rfl⟩ inferInstance ?_
    intro k0 ⟨hk, heq⟩
    repeat (first|refine Wa ?_|refine Wb ?_|refine Wc ?_|refine Wd ?_|refine We rfl ?_|refine Wf (by first|exact Va|exact Vb|exact Vc|exact Vd|exact Ve|exact Vf|exact Vg|exact Vh|exact Vi|exact Vj|exact Vk (by omega)|exact Vl|exact Vm|exact Vn|exact Vo|exact Vp|exact Vq|exact Vr|exact Vs (by omega)|exact Vt (by omega)|exact Vu (by omega)|exact Vv (by omega)|exact Vw|exact Vx|exact Vy|exact Vz|exact VA|exact VB|exact VC|exact VD|exact VE|exact VF) rfl ?_|(refine Wg rfl ?_; intro _)|(refine Wh rfl ?_; intro _)|refine Wi ?_|refine Wj ?_|refine Wk ?_|refine Wl ?_|refine Wm ?_|refine Wn ?_|refine Wo ?_|refine Wp ?_|refine Wq rfl ?_|refine Wr ?_|refine Ws ?_|refine Wt ?_|refine Wu ?_|refine Wv rfl rfl ?_|(refine Ww rfl ⟨rfl, by decide, by decide, by decide⟩ ?_; intro _))
    refine JC.test (fun hlt => ?_) (fun hge => ?_)
    · have hlt' : k0 < L.length := by omega
      repeat (first|refine Wa ?_|refine Wb ?_|refine Wc ?_|refine Wd ?_|refine We rfl ?_|refine Wf (by first|exact Va|exact Vb|exact Vc|exact Vd|exact Ve|exact Vf|exact Vg|exact Vh|exact Vi|exact Vj|exact Vk (by omega)|exact Vl|exact Vm|exact Vn|exact Vo|exact Vp|exact Vq|exact Vr|exact Vs (by omega)|exact Vt (by omega)|exact Vu (by omega)|exact Vv (by omega)|exact Vw|exact Vx|exact Vy|exact Vz|exact VA|exact VB|exact VC|exact VD|exact VE|exact VF) rfl ?_|(refine Wg rfl ?_; intro _)|(refine Wh rfl ?_; intro _)|refine Wi ?_|refine Wj ?_|refine Wk ?_|refine Wl ?_|refine Wm ?_|refine Wn ?_|refine Wo ?_|refine Wp ?_|refine Wq rfl ?_|refine Wr ?_|refine Ws ?_|refine Wt ?_|refine Wu ?_|refine Wv rfl rfl ?_|(refine Ww rfl ⟨rfl, by decide, by decide, by decide⟩ ?_; intro _))
      refine JC.openID (.slice a L.length c) k0 hlt' ?_
      intro b1 o1
      refine JC.openID (.slice b M.length k) k0 (by omega) ?_
      intro b2 o2
      refine JC.quiet mixed (by kernel_rfl) ?_
      repeat (first|refine Wy rfl (by first|exact Va|exact Vb|exact Vc|exact Vd|exact Ve|exact Vf|exact Vg|exact Vh|exact Vi|exact Vj|exact Vk (by omega)|exact Vl|exact Vm|exact Vn|exact Vo|exact Vp|exact Vq|exact Vr|exact Vs (by omega)|exact Vt (by omega)|exact Vu (by omega)|exact Vv (by omega)|exact Vw|exact Vx|exact Vy|exact Vz|exact VA|exact VB|exact VC|exact VD|exact VE|exact VF) rfl ?_|refine Wz rfl rfl ?_|refine WB ?_)
      repeat (first|refine Wa ?_|refine Wb ?_|refine Wc ?_|refine Wd ?_|refine We rfl ?_|refine Wf (by first|exact Va|exact Vb|exact Vc|exact Vd|exact Ve|exact Vf|exact Vg|exact Vh|exact Vi|exact Vj|exact Vk (by omega)|exact Vl|exact Vm|exact Vn|exact Vo|exact Vp|exact Vq|exact Vr|exact Vs (by omega)|exact Vt (by omega)|exact Vu (by omega)|exact Vv (by omega)|exact Vw|exact Vx|exact Vy|exact Vz|exact VA|exact VB|exact VC|exact VD|exact VE|exact VF) rfl ?_|(refine Wg rfl ?_; intro _)|(refine Wh rfl ?_; intro _)|refine Wi ?_|refine Wj ?_|refine Wk ?_|refine Wl ?_|refine Wm ?_|refine Wn ?_|refine Wo ?_|refine Wp ?_|refine Wq rfl ?_|refine Wr ?_|refine Ws ?_|refine Wt ?_|refine Wu ?_|refine Wv rfl rfl ?_|(refine Ww rfl ⟨rfl, by decide, by decide, by decide⟩ ?_; intro _))
      refine JC.test (fun hne => ?_) (fun heq2 => ?_)
      · repeat (first|refine Wa ?_|refine Wb ?_|refine Wc ?_|refine Wd ?_|refine We rfl ?_|refine Wf (by first|exact Va|exact Vb|exact Vc|exact Vd|exact Ve|exact Vf|exact Vg|exact Vh|exact Vi|exact Vj|exact Vk (by omega)|exact Vl|exact Vm|exact Vn|exact Vo|exact Vp|exact Vq|exact Vr|exact Vs (by omega)|exact Vt (by omega)|exact Vu (by omega)|exact Vv (by omega)|exact Vw|exact Vx|exact Vy|exact Vz|exact VA|exact VB|exact VC|exact VD|exact VE|exact VF) rfl ?_|(refine Wg rfl ?_; intro _)|(refine Wh rfl ?_; intro _)|refine Wi ?_|refine Wj ?_|refine Wk ?_|refine Wl ?_|refine Wm ?_|refine Wn ?_|refine Wo ?_|refine Wp ?_|refine Wq rfl ?_|refine Wr ?_|refine Ws ?_|refine Wt ?_|refine Wu ?_|refine Wv rfl rfl ?_|(refine Ww rfl ⟨rfl, by decide, by decide, by decide⟩ ?_; intro _))
        refine CT.done () ?_ (fun w ho => ho.ent)
        have : ¬ L = M := fun h => by subst h; exact hne rfl
        simp [packed, this]
      · repeat (first|refine Wa ?_|refine Wb ?_|refine Wc ?_|refine Wd ?_|refine We rfl ?_|refine Wf (by first|exact Va|exact Vb|exact Vc|exact Vd|exact Ve|exact Vf|exact Vg|exact Vh|exact Vi|exact Vj|exact Vk (by omega)|exact Vl|exact Vm|exact Vn|exact Vo|exact Vp|exact Vq|exact Vr|exact Vs (by omega)|exact Vt (by omega)|exact Vu (by omega)|exact Vv (by omega)|exact Vw|exact Vx|exact Vy|exact Vz|exact VA|exact VB|exact VC|exact VD|exact VE|exact VF) rfl ?_|(refine Wg rfl ?_; intro _)|(refine Wh rfl ?_; intro _)|refine Wi ?_|refine Wj ?_|refine Wk ?_|refine Wl ?_|refine Wm ?_|refine Wn ?_|refine Wo ?_|refine Wp ?_|refine Wq rfl ?_|refine Wr ?_|refine Ws ?_|refine Wt ?_|refine Wu ?_|refine Wv rfl rfl ?_|(refine Ww rfl ⟨rfl, by decide, by decide, by decide⟩ ?_; intro _))
        refine ⟨k0 + 1, ⟨by omega, ?_⟩, by omega, inferInstance⟩
        have heq2 : L[k0] = M[k0] := by simpa using heq2
        rw [List.take_succ_eq_append_getElem hlt', List.take_succ_eq_append_getElem (by omega), heq, heq2]
    · have hk0 : k0 = L.length := by omega
      repeat (first|refine Wa ?_|refine Wb ?_|refine Wc ?_|refine Wd ?_|refine We rfl ?_|refine Wf (by first|exact Va|exact Vb|exact Vc|exact Vd|exact Ve|exact Vf|exact Vg|exact Vh|exact Vi|exact Vj|exact Vk (by omega)|exact Vl|exact Vm|exact Vn|exact Vo|exact Vp|exact Vq|exact Vr|exact Vs (by omega)|exact Vt (by omega)|exact Vu (by omega)|exact Vv (by omega)|exact Vw|exact Vx|exact Vy|exact Vz|exact VA|exact VB|exact VC|exact VD|exact VE|exact VF) rfl ?_|(refine Wg rfl ?_; intro _)|(refine Wh rfl ?_; intro _)|refine Wi ?_|refine Wj ?_|refine Wk ?_|refine Wl ?_|refine Wm ?_|refine Wn ?_|refine Wo ?_|refine Wp ?_|refine Wq rfl ?_|refine Wr ?_|refine Ws ?_|refine Wt ?_|refine Wu ?_|refine Wv rfl rfl ?_|(refine Ww rfl ⟨rfl, by decide, by decide, by decide⟩ ?_; intro _))
      refine CT.done () ?_ (fun w ho => ho.ent)
      have : L = M := by
        rw [List.take_of_length_le (by omega), List.take_of_length_le (by omega)] at heq
        exact heq
      simp [packed, this]

end Ab
end Go.Proofs.YtcmfemfndadfmaaGreat

/- Contracts: the document's List, the laws' Few. -/
namespace Go.Proofs.YtcmfemfndadfmaaGreat
namespace Ab
open Go Go.RowKit
set_option linter.unusedVariables false
set_option linter.unusedSimpArgs false
set_option synthInstance.maxSize 4000
set_option synthInstance.maxHeartbeats 400000
attribute [local irreducible] JC JO JR JQ andThen inBlock OpV Gives retTo JM JS

/-- At most 20 parents, and texts of at most 100 bytes. -/
def fewC (c : Commit) : Bool := decide (c.parents.length ≤ 20) && decide (c.op.key.size ≤ 100) && decide (c.op.elem.size ≤ 100)
theorem few_one (w : World) (F : Nat → Prop) (c : Commit) (a : Option Addr) (k : Nat) : GivesV Tryz.prog 12 [commitV c a k] w F (.bool (fewC c)) := by
  refine gives_of Tryz.func12 rfl Tryz.ntmps12 rfl rfl [] (.start w F) ?_
  repeat (first|refine Wa ?_|refine Wb ?_|refine Wc ?_|refine Wd ?_|refine We rfl ?_|refine Wf (by first|exact Va|exact Vb|exact Vc|exact Vd|exact Ve|exact Vf|exact Vg|exact Vh|exact Vi|exact Vj|exact Vk (by omega)|exact Vl|exact Vm|exact Vn|exact Vo|exact Vp|exact Vq|exact Vr|exact Vs (by omega)|exact Vt (by omega)|exact Vu (by omega)|exact Vv (by omega)|exact Vw|exact Vx|exact Vy|exact Vz|exact VA|exact VB|exact VC|exact VD|exact VE|exact VF) rfl ?_|(refine Wg rfl ?_; intro _)|(refine Wh rfl ?_; intro _)|refine Wi ?_|refine Wj ?_|refine Wk ?_|refine Wl ?_|refine Wm ?_|refine Wn ?_|refine Wo ?_|refine Wp ?_|refine Wq rfl ?_|refine Wr ?_|refine Ws ?_|refine Wt ?_|refine Wu ?_|refine Wv rfl rfl ?_|(refine Ww rfl ⟨rfl, by decide, by decide, by decide⟩ ?_; intro _))
  refine JO.test 7 (fun h1 => ?_) (fun h1 => ?_)
  · repeat (first|refine Wa ?_|refine Wb ?_|refine Wc ?_|refine Wd ?_|refine We rfl ?_|refine Wf (by first|exact Va|exact Vb|exact Vc|exact Vd|exact Ve|exact Vf|exact Vg|exact Vh|exact Vi|exact Vj|exact Vk (by omega)|exact Vl|exact Vm|exact Vn|exact Vo|exact Vp|exact Vq|exact Vr|exact Vs (by omega)|exact Vt (by omega)|exact Vu (by omega)|exact Vv (by omega)|exact Vw|exact Vx|exact Vy|exact Vz|exact VA|exact VB|exact VC|exact VD|exact VE|exact VF) rfl ?_|(refine Wg rfl ?_; intro _)|(refine Wh rfl ?_; intro _)|refine Wi ?_|refine Wj ?_|refine Wk ?_|refine Wl ?_|refine Wm ?_|refine Wn ?_|refine Wo ?_|refine Wp ?_|refine Wq rfl ?_|refine Wr ?_|refine Ws ?_|refine Wt ?_|refine Wu ?_|refine Wv rfl rfl ?_|(refine Ww rfl ⟨rfl, by decide, by decide, by decide⟩ ?_; intro _))
    refine JO.test 14 (fun h2 => ?_) (fun h2 => ?_)
    · repeat (first|refine Wa ?_|refine Wb ?_|refine Wc ?_|refine Wd ?_|refine We rfl ?_|refine Wf (by first|exact Va|exact Vb|exact Vc|exact Vd|exact Ve|exact Vf|exact Vg|exact Vh|exact Vi|exact Vj|exact Vk (by omega)|exact Vl|exact Vm|exact Vn|exact Vo|exact Vp|exact Vq|exact Vr|exact Vs (by omega)|exact Vt (by omega)|exact Vu (by omega)|exact Vv (by omega)|exact Vw|exact Vx|exact Vy|exact Vz|exact VA|exact VB|exact VC|exact VD|exact VE|exact VF) rfl ?_|(refine Wg rfl ?_; intro _)|(refine Wh rfl ?_; intro _)|refine Wi ?_|refine Wj ?_|refine Wk ?_|refine Wl ?_|refine Wm ?_|refine Wn ?_|refine Wo ?_|refine Wp ?_|refine Wq rfl ?_|refine Wr ?_|refine Ws ?_|refine Wt ?_|refine Wu ?_|refine Wv rfl rfl ?_|(refine Ww rfl ⟨rfl, by decide, by decide, by decide⟩ ?_; intro _))
      refine CT.done () ?_ (fun w ho => ho.ent)
      have h1 : c.parents.length ≤ 20 := by omega
      have h2 : c.op.key.size ≤ 100 := by omega
      have h3 : ((c.op.elem.size : Int) ≤ 100) ↔ c.op.elem.size ≤ 100 := by omega
      simp [packed, fewC, h1, h2, h3]
    · repeat (first|refine Wa ?_|refine Wb ?_|refine Wc ?_|refine Wd ?_|refine We rfl ?_|refine Wf (by first|exact Va|exact Vb|exact Vc|exact Vd|exact Ve|exact Vf|exact Vg|exact Vh|exact Vi|exact Vj|exact Vk (by omega)|exact Vl|exact Vm|exact Vn|exact Vo|exact Vp|exact Vq|exact Vr|exact Vs (by omega)|exact Vt (by omega)|exact Vu (by omega)|exact Vv (by omega)|exact Vw|exact Vx|exact Vy|exact Vz|exact VA|exact VB|exact VC|exact VD|exact VE|exact VF) rfl ?_|(refine Wg rfl ?_; intro _)|(refine Wh rfl ?_; intro _)|refine Wi ?_|refine Wj ?_|refine Wk ?_|refine Wl ?_|refine Wm ?_|refine Wn ?_|refine Wo ?_|refine Wp ?_|refine Wq rfl ?_|refine Wr ?_|refine Ws ?_|refine Wt ?_|refine Wu ?_|refine Wv rfl rfl ?_|(refine Ww rfl ⟨rfl, by decide, by decide, by decide⟩ ?_; intro _))
      refine CT.done () ?_ (fun w ho => ho.ent)
      have h2 : ¬ c.op.key.size ≤ 100 := by omega
      simp [packed, fewC, h2]
  · repeat (first|refine Wa ?_|refine Wb ?_|refine Wc ?_|refine Wd ?_|refine We rfl ?_|refine Wf (by first|exact Va|exact Vb|exact Vc|exact Vd|exact Ve|exact Vf|exact Vg|exact Vh|exact Vi|exact Vj|exact Vk (by omega)|exact Vl|exact Vm|exact Vn|exact Vo|exact Vp|exact Vq|exact Vr|exact Vs (by omega)|exact Vt (by omega)|exact Vu (by omega)|exact Vv (by omega)|exact Vw|exact Vx|exact Vy|exact Vz|exact VA|exact VB|exact VC|exact VD|exact VE|exact VF) rfl ?_|(refine Wg rfl ?_; intro _)|(refine Wh rfl ?_; intro _)|refine Wi ?_|refine Wj ?_|refine Wk ?_|refine Wl ?_|refine Wm ?_|refine Wn ?_|refine Wo ?_|refine Wp ?_|refine Wq rfl ?_|refine Wr ?_|refine Ws ?_|refine Wt ?_|refine Wu ?_|refine Wv rfl rfl ?_|(refine Ww rfl ⟨rfl, by decide, by decide, by decide⟩ ?_; intro _))
    refine CT.done () ?_ (fun w ho => ho.ent)
    have h1 : ¬ c.parents.length ≤ 20 := by omega
    simp [packed, fewC, h1]

def fewL (L : List Commit) (m : Nat) : Bool := decide (L.length ≤ m) && L.all fewC
theorem few_all (w : World) (F : Nat → Prop) (a : Option Addr) (c : Nat) (L : List Commit) (m : Nat) (h : (sl a c L).holds F w) :
    GivesV Tryz.prog 11 [.slice a L.length c, .int .i64 (m : Int)] w F (.bool (fewL L m)) := by
  have hL : L.length < 9223372036854775807 := by have := h.2.2.1; simp only [lim] at this; omega
  refine gives_of Tryz.func11 rfl Tryz.ntmps11 rfl rfl [.st (sl a c L)] (.start1 h) ?_
  repeat (first|refine Wa ?_|refine Wb ?_|refine Wc ?_|refine Wd ?_|refine We rfl ?_|refine Wf (by first|exact Va|exact Vb|exact Vc|exact Vd|exact Ve|exact Vf|exact Vg|exact Vh|exact Vi|exact Vj|exact Vk (by omega)|exact Vl|exact Vm|exact Vn|exact Vo|exact Vp|exact Vq|exact Vr|exact Vs (by omega)|exact Vt (by omega)|exact Vu (by omega)|exact Vv (by omega)|exact Vw|exact Vx|exact Vy|exact Vz|exact VA|exact VB|exact VC|exact VD|exact VE|exact VF) rfl ?_|(refine Wg rfl ?_; intro _)|(refine Wh rfl ?_; intro _)|refine Wi ?_|refine Wj ?_|refine Wk ?_|refine Wl ?_|refine Wm ?_|refine Wn ?_|refine Wo ?_|refine Wp ?_|refine Wq rfl ?_|refine Wr ?_|refine Ws ?_|refine Wt ?_|refine Wu ?_|refine Wv rfl rfl ?_|(refine Ww rfl ⟨rfl, by decide, by decide, by decide⟩ ?_; intro _))
  refine JC.test (fun h1 => ?_) (fun h1 => ?_)
  · repeat (first|refine Wa ?_|refine Wb ?_|refine Wc ?_|refine Wd ?_|refine We rfl ?_|refine Wf (by first|exact Va|exact Vb|exact Vc|exact Vd|exact Ve|exact Vf|exact Vg|exact Vh|exact Vi|exact Vj|exact Vk (by omega)|exact Vl|exact Vm|exact Vn|exact Vo|exact Vp|exact Vq|exact Vr|exact Vs (by omega)|exact Vt (by omega)|exact Vu (by omega)|exact Vv (by omega)|exact Vw|exact Vx|exact Vy|exact Vz|exact VA|exact VB|exact VC|exact VD|exact VE|exact VF) rfl ?_|(refine Wg rfl ?_; intro _)|(refine Wh rfl ?_; intro _)|refine Wi ?_|refine Wj ?_|refine Wk ?_|refine Wl ?_|refine Wm ?_|refine Wn ?_|refine Wo ?_|refine Wp ?_|refine Wq rfl ?_|refine Wr ?_|refine Ws ?_|refine Wt ?_|refine Wu ?_|refine Wv rfl rfl ?_|(refine Ww rfl ⟨rfl, by decide, by decide, by decide⟩ ?_; intro _))
    refine CT.done () ?_ (fun w ho => ho.ent)
    have h1 : ¬ L.length ≤ m := by omega
    simp [packed, fewL, h1]
  · have h1 : L.length ≤ m := by omega
    repeat (first|refine Wa ?_|refine Wb ?_|refine Wc ?_|refine Wd ?_|refine We rfl ?_|refine Wf (by first|exact Va|exact Vb|exact Vc|exact Vd|exact Ve|exact Vf|exact Vg|exact Vh|exact Vi|exact Vj|exact Vk (by omega)|exact Vl|exact Vm|exact Vn|exact Vo|exact Vp|exact Vq|exact Vr|exact Vs (by omega)|exact Vt (by omega)|exact Vu (by omega)|exact Vv (by omega)|exact Vw|exact Vx|exact Vy|exact Vz|exact VA|exact VB|exact VC|exact VD|exact VE|exact VF) rfl ?_|(refine Wg rfl ?_; intro _)|(refine Wh rfl ?_; intro _)|refine Wi ?_|refine Wj ?_|refine Wk ?_|refine Wl ?_|refine Wm ?_|refine Wn ?_|refine Wo ?_|refine Wp ?_|refine Wq rfl ?_|refine Wr ?_|refine Ws ?_|refine Wt ?_|refine Wu ?_|refine Wv rfl rfl ?_|(refine Ww rfl ⟨rfl, by decide, by decide, by decide⟩ ?_; intro _))
    refine JC.loop1 (fun k0 : Nat => [(0, .slice a L.length c), (5, .int .i64 (k0 : Int))]) (fun _ => [.st (sl a c L)])
      (fun k0 => k0 ≤ L.length ∧ (L.take k0).all fewC = true) (fun k0 => L.length - k0) 0 ⟨Nat.zero_le _, rfl⟩ inferInstance ?_
    intro k0 ⟨hk, heq⟩
    repeat (first|refine Wa ?_|refine Wb ?_|refine Wc ?_|refine Wd ?_|refine We rfl ?_|refine Wf (by first|exact Va|exact Vb|exact Vc|exact Vd|exact Ve|exact Vf|exact Vg|exact Vh|exact Vi|exact Vj|exact Vk (by omega)|exact Vl|exact Vm|exact Vn|exact Vo|exact Vp|exact Vq|exact Vr|exact Vs (by omega)|exact Vt (by omega)|exact Vu (by omega)|exact Vv (by omega)|exact Vw|exact Vx|exact Vy|exact Vz|exact VA|exact VB|exact VC|exact VD|exact VE|exact VF) rfl ?_|(refine Wg rfl ?_; intro _)|(refine Wh rfl ?_; intro _)|refine Wi ?_|refine Wj ?_|refine Wk ?_|refine Wl ?_|refine Wm ?_|refine Wn ?_|refine Wo ?_|refine Wp ?_|refine Wq rfl ?_|refine Wr ?_|refine Ws ?_|refine Wt ?_|refine Wu ?_|refine Wv rfl rfl ?_|(refine Ww rfl ⟨rfl, by decide, by decide, by decide⟩ ?_; intro _))
    refine JC.test (fun hlt => ?_) (fun hge => ?_)
    · have hlt' : k0 < L.length := by omega
      repeat (first|refine Wa ?_|refine Wb ?_|refine Wc ?_|refine Wd ?_|refine We rfl ?_|refine Wf (by first|exact Va|exact Vb|exact Vc|exact Vd|exact Ve|exact Vf|exact Vg|exact Vh|exact Vi|exact Vj|exact Vk (by omega)|exact Vl|exact Vm|exact Vn|exact Vo|exact Vp|exact Vq|exact Vr|exact Vs (by omega)|exact Vt (by omega)|exact Vu (by omega)|exact Vv (by omega)|exact Vw|exact Vx|exact Vy|exact Vz|exact VA|exact VB|exact VC|exact VD|exact VE|exact VF) rfl ?_|(refine Wg rfl ?_; intro _)|(refine Wh rfl ?_; intro _)|refine Wi ?_|refine Wj ?_|refine Wk ?_|refine Wl ?_|refine Wm ?_|refine Wn ?_|refine Wo ?_|refine Wp ?_|refine Wq rfl ?_|refine Wr ?_|refine Ws ?_|refine Wt ?_|refine Wu ?_|refine Wv rfl rfl ?_|(refine Ww rfl ⟨rfl, by decide, by decide, by decide⟩ ?_; intro _))
      refine JR.indexCommit rfl hlt' ?_
      intro b1 o1 p1 q1
      repeat (first|refine Wa ?_|refine Wb ?_|refine Wc ?_|refine Wd ?_|refine We rfl ?_|refine Wf (by first|exact Va|exact Vb|exact Vc|exact Vd|exact Ve|exact Vf|exact Vg|exact Vh|exact Vi|exact Vj|exact Vk (by omega)|exact Vl|exact Vm|exact Vn|exact Vo|exact Vp|exact Vq|exact Vr|exact Vs (by omega)|exact Vt (by omega)|exact Vu (by omega)|exact Vv (by omega)|exact Vw|exact Vx|exact Vy|exact Vz|exact VA|exact VB|exact VC|exact VD|exact VE|exact VF) rfl ?_|(refine Wg rfl ?_; intro _)|(refine Wh rfl ?_; intro _)|refine Wi ?_|refine Wj ?_|refine Wk ?_|refine Wl ?_|refine Wm ?_|refine Wn ?_|refine Wo ?_|refine Wp ?_|refine Wq rfl ?_|refine Wr ?_|refine Ws ?_|refine Wt ?_|refine Wu ?_|refine Wv rfl rfl ?_|(refine Ww rfl ⟨rfl, by decide, by decide, by decide⟩ ?_; intro _))
      refine JR.callV rfl (fun w1 hw => few_one w1 _ L[k0] p1 q1) ?_
      repeat (first|refine Wa ?_|refine Wb ?_|refine Wc ?_|refine Wd ?_|refine We rfl ?_|refine Wf (by first|exact Va|exact Vb|exact Vc|exact Vd|exact Ve|exact Vf|exact Vg|exact Vh|exact Vi|exact Vj|exact Vk (by omega)|exact Vl|exact Vm|exact Vn|exact Vo|exact Vp|exact Vq|exact Vr|exact Vs (by omega)|exact Vt (by omega)|exact Vu (by omega)|exact Vv (by omega)|exact Vw|exact Vx|exact Vy|exact Vz|exact VA|exact VB|exact VC|exact VD|exact VE|exact VF) rfl ?_|(refine Wg rfl ?_; intro _)|(refine Wh rfl ?_; intro _)|refine Wi ?_|refine Wj ?_|refine Wk ?_|refine Wl ?_|refine Wm ?_|refine Wn ?_|refine Wo ?_|refine Wp ?_|refine Wq rfl ?_|refine Wr ?_|refine Ws ?_|refine Wt ?_|refine Wu ?_|refine Wv rfl rfl ?_|(refine Ww rfl ⟨rfl, by decide, by decide, by decide⟩ ?_; intro _))
      refine JC.test (fun hne => ?_) (fun heq2 => ?_)
      · repeat (first|refine Wa ?_|refine Wb ?_|refine Wc ?_|refine Wd ?_|refine We rfl ?_|refine Wf (by first|exact Va|exact Vb|exact Vc|exact Vd|exact Ve|exact Vf|exact Vg|exact Vh|exact Vi|exact Vj|exact Vk (by omega)|exact Vl|exact Vm|exact Vn|exact Vo|exact Vp|exact Vq|exact Vr|exact Vs (by omega)|exact Vt (by omega)|exact Vu (by omega)|exact Vv (by omega)|exact Vw|exact Vx|exact Vy|exact Vz|exact VA|exact VB|exact VC|exact VD|exact VE|exact VF) rfl ?_|(refine Wg rfl ?_; intro _)|(refine Wh rfl ?_; intro _)|refine Wi ?_|refine Wj ?_|refine Wk ?_|refine Wl ?_|refine Wm ?_|refine Wn ?_|refine Wo ?_|refine Wp ?_|refine Wq rfl ?_|refine Wr ?_|refine Ws ?_|refine Wt ?_|refine Wu ?_|refine Wv rfl rfl ?_|(refine Ww rfl ⟨rfl, by decide, by decide, by decide⟩ ?_; intro _))
        refine CT.done () ?_ (fun w ho => ho.ent)
        have h3 : L.all fewC = false := by
          rw [← Bool.not_eq_true]
          intro h4
          exact hne (List.all_eq_true.1 h4 _ (List.getElem_mem hlt'))
        simp only [packed, fewL, h3, Bool.and_false]
      · repeat (first|refine Wa ?_|refine Wb ?_|refine Wc ?_|refine Wd ?_|refine We rfl ?_|refine Wf (by first|exact Va|exact Vb|exact Vc|exact Vd|exact Ve|exact Vf|exact Vg|exact Vh|exact Vi|exact Vj|exact Vk (by omega)|exact Vl|exact Vm|exact Vn|exact Vo|exact Vp|exact Vq|exact Vr|exact Vs (by omega)|exact Vt (by omega)|exact Vu (by omega)|exact Vv (by omega)|exact Vw|exact Vx|exact Vy|exact Vz|exact VA|exact VB|exact VC|exact VD|exact VE|exact VF) rfl ?_|(refine Wg rfl ?_; intro _)|(refine Wh rfl ?_; intro _)|refine Wi ?_|refine Wj ?_|refine Wk ?_|refine Wl ?_|refine Wm ?_|refine Wn ?_|refine Wo ?_|refine Wp ?_|refine Wq rfl ?_|refine Wr ?_|refine Ws ?_|refine Wt ?_|refine Wu ?_|refine Wv rfl rfl ?_|(refine Ww rfl ⟨rfl, by decide, by decide, by decide⟩ ?_; intro _))
        refine ⟨k0 + 1, ⟨by omega, ?_⟩, by omega, inferInstance⟩
        have heq2 : fewC L[k0] = true := by simpa using heq2
        rw [List.take_succ_eq_append_getElem hlt', List.all_append, heq]
        simp [heq2]
    · have hk0 : k0 = L.length := by omega
      subst hk0
      rw [List.take_length] at heq
      repeat (first|refine Wa ?_|refine Wb ?_|refine Wc ?_|refine Wd ?_|refine We rfl ?_|refine Wf (by first|exact Va|exact Vb|exact Vc|exact Vd|exact Ve|exact Vf|exact Vg|exact Vh|exact Vi|exact Vj|exact Vk (by omega)|exact Vl|exact Vm|exact Vn|exact Vo|exact Vp|exact Vq|exact Vr|exact Vs (by omega)|exact Vt (by omega)|exact Vu (by omega)|exact Vv (by omega)|exact Vw|exact Vx|exact Vy|exact Vz|exact VA|exact VB|exact VC|exact VD|exact VE|exact VF) rfl ?_|(refine Wg rfl ?_; intro _)|(refine Wh rfl ?_; intro _)|refine Wi ?_|refine Wj ?_|refine Wk ?_|refine Wl ?_|refine Wm ?_|refine Wn ?_|refine Wo ?_|refine Wp ?_|refine Wq rfl ?_|refine Wr ?_|refine Ws ?_|refine Wt ?_|refine Wu ?_|refine Wv rfl rfl ?_|(refine Ww rfl ⟨rfl, by decide, by decide, by decide⟩ ?_; intro _))
      refine CT.done () ?_ (fun w ho => ho.ent)
      simp only [packed, fewL, heq, h1, decide_true, Bool.and_self]
end Ab
end Go.Proofs.YtcmfemfndadfmaaGreat

/- Contracts of dag.Ids, own, Find. -/
namespace Go.Proofs.YtcmfemfndadfmaaGreat
namespace Ab
open Go Go.RowKit
set_option linter.unusedVariables false
set_option linter.unusedSimpArgs false
set_option synthInstance.maxSize 4000
set_option synthInstance.maxHeartbeats 400000
attribute [local irreducible] JC JO JR JQ andThen inBlock OpV Gives retTo JM JS

attribute [local irreducible] hashC
theorem hash_err (c : Commit) : ((hashC c).2 = 0) ↔ may c = true := by
  unfold hashC; cases may c <;> simp
/-- Commits' ids as told: none, if one may not be. -/
def idsP (L : List Commit) : List ID := if L.all may then cids L else []
theorem idsP_all {L : List Commit} (h : ∀ c ∈ L, may c = true) : idsP L = cids L := by
  rw [idsP, if_pos (List.all_eq_true.2 h)]
theorem idsP_not {L : List Commit} {c : Commit} (hc : c ∈ L) (h : may c = false) : idsP L = [] := by
  rw [idsP, if_neg]
  intro h'
  have := List.all_eq_true.1 h' c hc
  rw [h] at this; cases this
theorem cids_take_next {L : List Commit} {i : Nat} (h : i < L.length) : cids (L.take (i + 1)) = cids (L.take i) ++ [idC L[i]] := by
  rw [List.take_succ_eq_append_getElem h, cids_append]; rfl
set_option maxHeartbeats 1000000 in
theorem ids_dag (w : World) (F : Nat → Prop) (a : Option Addr) (k : Nat) (L : List Commit) (h : (sl a k L).holds F w) (hl : L.length < 34359738368) (hf : ∀ x ∈ L, fine x) :
    GivesSl Tryz.prog 23 [.slice a L.length k] w F (idsP L) := by
  refine gives_of Tryz.func23 rfl Tryz.ntmps23 rfl rfl [.st (sl a k L)] (.start1 h) ?_
  repeat (first|refine Wa ?_|refine Wb ?_|refine Wc ?_|refine Wd ?_|refine We rfl ?_|refine Wf (by first|exact Va|exact Vb|exact Vc|exact Vd|exact Ve|exact Vf|exact Vg|exact Vh|exact Vi|exact Vj|exact Vk (by omega)|exact Vl|exact Vm|exact Vn|exact Vo|exact Vp|exact Vq|exact Vr|exact Vs (by omega)|exact Vt (by omega)|exact Vu (by omega)|exact Vv (by omega)|exact Vw|exact Vx|exact Vy|exact Vz|exact VA|exact VB|exact VC|exact VD|exact VE|exact VF) rfl ?_|(refine Wg rfl ?_; intro _)|(refine Wh rfl ?_; intro _)|refine Wi ?_|refine Wj ?_|refine Wk ?_|refine Wl ?_|refine Wm ?_|refine Wn ?_|refine Wo ?_|refine Wp ?_|refine Wq rfl ?_|refine Wr ?_|refine Ws ?_|refine Wt ?_|refine Wu ?_|refine Wv rfl rfl ?_|(refine Ww rfl ⟨rfl, by decide, by decide, by decide⟩ ?_; intro _))
  refine JC.buf_nil (α := ID) 48 ?_
  refine JC.loop3 (fun (i : Nat) p q => [(3, .slice p (cids (L.take i)).length q), (8, .slice a L.length k), (9, .int .i64 (L.length : Int)), (10, .int .i64 (i : Int))])
    (fun i p q => [.res (buf p q 48 (cids (L.take i))), .st (sl a k L)])
    (fun i _ _ => i ≤ L.length ∧ ∀ c ∈ L.take i, may c = true) (fun i _ _ => L.length - i) 0 none 0 ⟨Nat.zero_le _, by simp⟩ (by rw [List.take_zero, show cids [] = [] from rfl]; infer_instance) ?_
  intro i p q ⟨hi, hm⟩
  repeat (first|refine Wa ?_|refine Wb ?_|refine Wc ?_|refine Wd ?_|refine We rfl ?_|refine Wf (by first|exact Va|exact Vb|exact Vc|exact Vd|exact Ve|exact Vf|exact Vg|exact Vh|exact Vi|exact Vj|exact Vk (by omega)|exact Vl|exact Vm|exact Vn|exact Vo|exact Vp|exact Vq|exact Vr|exact Vs (by omega)|exact Vt (by omega)|exact Vu (by omega)|exact Vv (by omega)|exact Vw|exact Vx|exact Vy|exact Vz|exact VA|exact VB|exact VC|exact VD|exact VE|exact VF) rfl ?_|(refine Wg rfl ?_; intro _)|(refine Wh rfl ?_; intro _)|refine Wi ?_|refine Wj ?_|refine Wk ?_|refine Wl ?_|refine Wm ?_|refine Wn ?_|refine Wo ?_|refine Wp ?_|refine Wq rfl ?_|refine Wr ?_|refine Ws ?_|refine Wt ?_|refine Wu ?_|refine Wv rfl rfl ?_|(refine Ww rfl ⟨rfl, by decide, by decide, by decide⟩ ?_; intro _))
  refine JC.test (fun hlt => ?_) (fun hge => ?_)
  · have hlt' : i < L.length := by omega
    have hfx := hf _ (List.getElem_mem hlt')
    repeat (first|refine Wa ?_|refine Wb ?_|refine Wc ?_|refine Wd ?_|refine We rfl ?_|refine Wf (by first|exact Va|exact Vb|exact Vc|exact Vd|exact Ve|exact Vf|exact Vg|exact Vh|exact Vi|exact Vj|exact Vk (by omega)|exact Vl|exact Vm|exact Vn|exact Vo|exact Vp|exact Vq|exact Vr|exact Vs (by omega)|exact Vt (by omega)|exact Vu (by omega)|exact Vv (by omega)|exact Vw|exact Vx|exact Vy|exact Vz|exact VA|exact VB|exact VC|exact VD|exact VE|exact VF) rfl ?_|(refine Wg rfl ?_; intro _)|(refine Wh rfl ?_; intro _)|refine Wi ?_|refine Wj ?_|refine Wk ?_|refine Wl ?_|refine Wm ?_|refine Wn ?_|refine Wo ?_|refine Wp ?_|refine Wq rfl ?_|refine Wr ?_|refine Ws ?_|refine Wt ?_|refine Wu ?_|refine Wv rfl rfl ?_|(refine Ww rfl ⟨rfl, by decide, by decide, by decide⟩ ?_; intro _))
    refine JR.indexCommit rfl hlt' ?_
    intro b1 o1 p1 q1
    repeat (first|refine Wa ?_|refine Wb ?_|refine Wc ?_|refine Wd ?_|refine We rfl ?_|refine Wf (by first|exact Va|exact Vb|exact Vc|exact Vd|exact Ve|exact Vf|exact Vg|exact Vh|exact Vi|exact Vj|exact Vk (by omega)|exact Vl|exact Vm|exact Vn|exact Vo|exact Vp|exact Vq|exact Vr|exact Vs (by omega)|exact Vt (by omega)|exact Vu (by omega)|exact Vv (by omega)|exact Vw|exact Vx|exact Vy|exact Vz|exact VA|exact VB|exact VC|exact VD|exact VE|exact VF) rfl ?_|(refine Wg rfl ?_; intro _)|(refine Wh rfl ?_; intro _)|refine Wi ?_|refine Wj ?_|refine Wk ?_|refine Wl ?_|refine Wm ?_|refine Wn ?_|refine Wo ?_|refine Wp ?_|refine Wq rfl ?_|refine Wr ?_|refine Ws ?_|refine Wt ?_|refine Wu ?_|refine Wv rfl rfl ?_|(refine Ww rfl ⟨rfl, by decide, by decide, by decide⟩ ?_; intro _))
    refine JR.callV rfl (fun w1 hw => hash_commit w1 _ (L[i]) p1 q1 hw.get hfx.1) ?_
    repeat (first|refine Wa ?_|refine Wb ?_|refine Wc ?_|refine Wd ?_|refine We rfl ?_|refine Wf (by first|exact Va|exact Vb|exact Vc|exact Vd|exact Ve|exact Vf|exact Vg|exact Vh|exact Vi|exact Vj|exact Vk (by omega)|exact Vl|exact Vm|exact Vn|exact Vo|exact Vp|exact Vq|exact Vr|exact Vs (by omega)|exact Vt (by omega)|exact Vu (by omega)|exact Vv (by omega)|exact Vw|exact Vx|exact Vy|exact Vz|exact VA|exact VB|exact VC|exact VD|exact VE|exact VF) rfl ?_|(refine Wg rfl ?_; intro _)|(refine Wh rfl ?_; intro _)|refine Wi ?_|refine Wj ?_|refine Wk ?_|refine Wl ?_|refine Wm ?_|refine Wn ?_|refine Wo ?_|refine Wp ?_|refine Wq rfl ?_|refine Wr ?_|refine Ws ?_|refine Wt ?_|refine Wu ?_|refine Wv rfl rfl ?_|(refine Ww rfl ⟨rfl, by decide, by decide, by decide⟩ ?_; intro _))
    refine JC.test (fun h0 => ?_) (fun h0 => ?_)
    · have hmay : may L[i] = false := by
        rw [← Bool.not_eq_true, ← hash_err]; exact h0
      repeat (first|refine Wa ?_|refine Wb ?_|refine Wc ?_|refine Wd ?_|refine We rfl ?_|refine Wf (by first|exact Va|exact Vb|exact Vc|exact Vd|exact Ve|exact Vf|exact Vg|exact Vh|exact Vi|exact Vj|exact Vk (by omega)|exact Vl|exact Vm|exact Vn|exact Vo|exact Vp|exact Vq|exact Vr|exact Vs (by omega)|exact Vt (by omega)|exact Vu (by omega)|exact Vv (by omega)|exact Vw|exact Vx|exact Vy|exact Vz|exact VA|exact VB|exact VC|exact VD|exact VE|exact VF) rfl ?_|(refine Wg rfl ?_; intro _)|(refine Wh rfl ?_; intro _)|refine Wi ?_|refine Wj ?_|refine Wk ?_|refine Wl ?_|refine Wm ?_|refine Wn ?_|refine Wo ?_|refine Wp ?_|refine Wq rfl ?_|refine Wr ?_|refine Ws ?_|refine Wt ?_|refine Wu ?_|refine Wv rfl rfl ?_|(refine Ww rfl ⟨rfl, by decide, by decide, by decide⟩ ?_; intro _))
      rw [idsP_not (List.getElem_mem hlt') hmay]
      exact CT.done (none, 0) rfl (fun w ho => (ho.ent : Hold _ _ [.st (sl a k L)] w).tail.add sl_nil)
    · have hmay : may L[i] = true := (hash_err _).1 (by simpa using h0)
      have h1 : (cids (L.take i)).length ≤ i := by simp [cids]; omega
      repeat (first|refine Wa ?_|refine Wb ?_|refine Wc ?_|refine Wd ?_|refine We rfl ?_|refine Wf (by first|exact Va|exact Vb|exact Vc|exact Vd|exact Ve|exact Vf|exact Vg|exact Vh|exact Vi|exact Vj|exact Vk (by omega)|exact Vl|exact Vm|exact Vn|exact Vo|exact Vp|exact Vq|exact Vr|exact Vs (by omega)|exact Vt (by omega)|exact Vu (by omega)|exact Vv (by omega)|exact Vw|exact Vx|exact Vy|exact Vz|exact VA|exact VB|exact VC|exact VD|exact VE|exact VF) rfl ?_|(refine Wg rfl ?_; intro _)|(refine Wh rfl ?_; intro _)|refine Wi ?_|refine Wj ?_|refine Wk ?_|refine Wl ?_|refine Wm ?_|refine Wn ?_|refine Wo ?_|refine Wp ?_|refine Wq rfl ?_|refine Wr ?_|refine Ws ?_|refine Wt ?_|refine Wu ?_|refine Wv rfl rfl ?_|(refine Ww rfl ⟨rfl, by decide, by decide, by decide⟩ ?_; intro _))
      refine JR.append1 (u := idC L[i]) rfl (by exact ⟨rfl, rfl, by decide⟩) (by omega) ?_
      intro r s
      repeat (first|refine Wa ?_|refine Wb ?_|refine Wc ?_|refine Wd ?_|refine We rfl ?_|refine Wf (by first|exact Va|exact Vb|exact Vc|exact Vd|exact Ve|exact Vf|exact Vg|exact Vh|exact Vi|exact Vj|exact Vk (by omega)|exact Vl|exact Vm|exact Vn|exact Vo|exact Vp|exact Vq|exact Vr|exact Vs (by omega)|exact Vt (by omega)|exact Vu (by omega)|exact Vv (by omega)|exact Vw|exact Vx|exact Vy|exact Vz|exact VA|exact VB|exact VC|exact VD|exact VE|exact VF) rfl ?_|(refine Wg rfl ?_; intro _)|(refine Wh rfl ?_; intro _)|refine Wi ?_|refine Wj ?_|refine Wk ?_|refine Wl ?_|refine Wm ?_|refine Wn ?_|refine Wo ?_|refine Wp ?_|refine Wq rfl ?_|refine Wr ?_|refine Ws ?_|refine Wt ?_|refine Wu ?_|refine Wv rfl rfl ?_|(refine Ww rfl ⟨rfl, by decide, by decide, by decide⟩ ?_; intro _))
      refine ⟨i + 1, r, s, ⟨by omega, fun c hc => ?_⟩, by omega, by rw [cids_take_next hlt']; infer_instance⟩
      rw [List.take_succ_eq_append_getElem hlt', List.mem_append, List.mem_singleton] at hc
      rcases hc with hc | rfl
      · exact hm c hc
      · exact hmay
  · obtain rfl : i = L.length := by omega
    rw [List.take_length] at hm ⊢
    refine JC.more (fun w1 ho => ho.pub) ?_
    repeat (first|refine Wa ?_|refine Wb ?_|refine Wc ?_|refine Wd ?_|refine We rfl ?_|refine Wf (by first|exact Va|exact Vb|exact Vc|exact Vd|exact Ve|exact Vf|exact Vg|exact Vh|exact Vi|exact Vj|exact Vk (by omega)|exact Vl|exact Vm|exact Vn|exact Vo|exact Vp|exact Vq|exact Vr|exact Vs (by omega)|exact Vt (by omega)|exact Vu (by omega)|exact Vv (by omega)|exact Vw|exact Vx|exact Vy|exact Vz|exact VA|exact VB|exact VC|exact VD|exact VE|exact VF) rfl ?_|(refine Wg rfl ?_; intro _)|(refine Wh rfl ?_; intro _)|refine Wi ?_|refine Wj ?_|refine Wk ?_|refine Wl ?_|refine Wm ?_|refine Wn ?_|refine Wo ?_|refine Wp ?_|refine Wq rfl ?_|refine Wr ?_|refine Ws ?_|refine Wt ?_|refine Wu ?_|refine Wv rfl rfl ?_|(refine Ww rfl ⟨rfl, by decide, by decide, by decide⟩ ?_; intro _))
    rw [idsP_all hm]
    exact CT.done (p, q) rfl (fun w ho => (ho.ent : Hold _ _ [.st (sl p q (cids L))] w))

theorem own_dag (w : World) (F : Nat → Prop) (c : Commit) (a : Option Addr) (k : Nat) (h : (sl a k c.parents).holds F w) (hp : c.parents.length ≤ 34359738368) :
    Gives Tryz.prog 62 [commitV c a k] w F (fun y : Option Addr × Nat => commitV c y.1 y.2) (fun y => [.st (sl y.1 y.2 c.parents)]) := by
  refine gives_of Tryz.func62 rfl Tryz.ntmps62 rfl rfl [.st (sl a k c.parents)] (.start1 h) ?_
  repeat (first|refine Wa ?_|refine Wb ?_|refine Wc ?_|refine Wd ?_|refine We rfl ?_|refine Wf (by first|exact Va|exact Vb|exact Vc|exact Vd|exact Ve|exact Vf|exact Vg|exact Vh|exact Vi|exact Vj|exact Vk (by omega)|exact Vl|exact Vm|exact Vn|exact Vo|exact Vp|exact Vq|exact Vr|exact Vs (by omega)|exact Vt (by omega)|exact Vu (by omega)|exact Vv (by omega)|exact Vw|exact Vx|exact Vy|exact Vz|exact VA|exact VB|exact VC|exact VD|exact VE|exact VF) rfl ?_|(refine Wg rfl ?_; intro _)|(refine Wh rfl ?_; intro _)|refine Wi ?_|refine Wj ?_|refine Wk ?_|refine Wl ?_|refine Wm ?_|refine Wn ?_|refine Wo ?_|refine Wp ?_|refine Wq rfl ?_|refine Wr ?_|refine Ws ?_|refine Wt ?_|refine Wu ?_|refine Wv rfl rfl ?_|(refine Ww rfl ⟨rfl, by decide, by decide, by decide⟩ ?_; intro _))
  refine JR.callBuf rfl (fun w1 hw => clone_ids_buf w1 _ a k c.parents hw.get hp) ?_
  intro p q
  refine JO.more (fun w1 ho => ho.pub) ?_
  repeat (first|refine Wa ?_|refine Wb ?_|refine Wc ?_|refine Wd ?_|refine We rfl ?_|refine Wf (by first|exact Va|exact Vb|exact Vc|exact Vd|exact Ve|exact Vf|exact Vg|exact Vh|exact Vi|exact Vj|exact Vk (by omega)|exact Vl|exact Vm|exact Vn|exact Vo|exact Vp|exact Vq|exact Vr|exact Vs (by omega)|exact Vt (by omega)|exact Vu (by omega)|exact Vv (by omega)|exact Vw|exact Vx|exact Vy|exact Vz|exact VA|exact VB|exact VC|exact VD|exact VE|exact VF) rfl ?_|(refine Wg rfl ?_; intro _)|(refine Wh rfl ?_; intro _)|refine Wi ?_|refine Wj ?_|refine Wk ?_|refine Wl ?_|refine Wm ?_|refine Wn ?_|refine Wo ?_|refine Wp ?_|refine Wq rfl ?_|refine Wr ?_|refine Ws ?_|refine Wt ?_|refine Wu ?_|refine Wv rfl rfl ?_|(refine Ww rfl ⟨rfl, by decide, by decide, by decide⟩ ?_; intro _))
  exact CT.done (p, q) rfl (fun w ho => ho.ent)
/-- The first commit of an id. -/
def findC (L : List Commit) (x : ID) : Option Commit := L.find? (fun c => decide (hashO c = some x))
def findR (L : List Commit) (x : ID) : Commit × Bool := match findC L x with | some c => (c, true) | none => (commit0, false)
theorem hashO_dec (c : Commit) (x : ID) : decide (hashO c = some x) = (decide ((hashC c).2 = 0) && decide (x = (hashC c).1)) := by
  unfold hashO
  by_cases h0 : (hashC c).2 = 0
  · simp only [h0, if_true, Option.some.injEq, decide_true, Bool.true_and]
    exact decide_eq_decide.2 ⟨Eq.symm, Eq.symm⟩
  · simp [h0]
set_option maxHeartbeats 1000000 in
theorem find_dag (w : World) (F : Nat → Prop) (a : Option Addr) (k : Nat) (L : List Commit) (x : ID) (h : (sl a k L).holds F w) (hf : ∀ c ∈ L, fine c) :
    Gives Tryz.prog 33 [.slice a L.length k, .agg ⟨idc x⟩] w F (fun y : Option Addr × Nat => .tuple ⟨[commitV (findR L x).1 y.1 y.2, .bool (findR L x).2]⟩) (fun y => [.st (sl y.1 y.2 (findR L x).1.parents)]) := by
  have hL : L.length < 9223372036854775807 := by have := h.2.2.1; simp only [lim] at this; omega
  refine gives_of Tryz.func33 rfl Tryz.ntmps33 rfl rfl [.st (sl a k L)] (.start1 h) ?_
  repeat (first|refine Wa ?_|refine Wb ?_|refine Wc ?_|refine Wd ?_|refine We rfl ?_|refine Wf (by first|exact Va|exact Vb|exact Vc|exact Vd|exact Ve|exact Vf|exact Vg|exact Vh|exact Vi|exact Vj|exact Vk (by omega)|exact Vl|exact Vm|exact Vn|exact Vo|exact Vp|exact Vq|exact Vr|exact Vs (by omega)|exact Vt (by omega)|exact Vu (by omega)|exact Vv (by omega)|exact Vw|exact Vx|exact Vy|exact Vz|exact VA|exact VB|exact VC|exact VD|exact VE|exact VF) rfl ?_|(refine Wg rfl ?_; intro _)|(refine Wh rfl ?_; intro _)|refine Wi ?_|refine Wj ?_|refine Wk ?_|refine Wl ?_|refine Wm ?_|refine Wn ?_|refine Wo ?_|refine Wp ?_|refine Wq rfl ?_|refine Wr ?_|refine Ws ?_|refine Wt ?_|refine Wu ?_|refine Wv rfl rfl ?_|(refine Ww rfl ⟨rfl, by decide, by decide, by decide⟩ ?_; intro _))
  rename_i bx bc
  refine JC.loop1 (fun (i : Nat) => [(3, .pointer (some ⟨bx, 0, none⟩)), (4, .pointer (some ⟨bc, 0, none⟩)), (5, .bool false), (10, .slice a L.length k), (11, .int .i64 (L.length : Int)), (12, .int .i64 (i : Int))])
    (fun i => [.st (sl a k L), .own bx 48 (idc x), .own bc 29 [.int .i64 0, .int .i64 0, .int .i64 0, .slice none 0 0, .int .i64 0, .string .empty, .string .empty, .int .i64 0]])
    (fun i => i ≤ L.length ∧ ∀ c ∈ L.take i, decide (hashO c = some x) = false) (fun i => L.length - i) 0 ⟨Nat.zero_le _, by simp⟩ inferInstance ?_
  intro i ⟨hi, hno⟩
  repeat (first|refine Wa ?_|refine Wb ?_|refine Wc ?_|refine Wd ?_|refine We rfl ?_|refine Wf (by first|exact Va|exact Vb|exact Vc|exact Vd|exact Ve|exact Vf|exact Vg|exact Vh|exact Vi|exact Vj|exact Vk (by omega)|exact Vl|exact Vm|exact Vn|exact Vo|exact Vp|exact Vq|exact Vr|exact Vs (by omega)|exact Vt (by omega)|exact Vu (by omega)|exact Vv (by omega)|exact Vw|exact Vx|exact Vy|exact Vz|exact VA|exact VB|exact VC|exact VD|exact VE|exact VF) rfl ?_|(refine Wg rfl ?_; intro _)|(refine Wh rfl ?_; intro _)|refine Wi ?_|refine Wj ?_|refine Wk ?_|refine Wl ?_|refine Wm ?_|refine Wn ?_|refine Wo ?_|refine Wp ?_|refine Wq rfl ?_|refine Wr ?_|refine Ws ?_|refine Wt ?_|refine Wu ?_|refine Wv rfl rfl ?_|(refine Ww rfl ⟨rfl, by decide, by decide, by decide⟩ ?_; intro _))
  refine JC.test (fun hlt => ?_) (fun hge => ?_)
  · have hlt' : i < L.length := by omega
    have hfx := hf _ (List.getElem_mem hlt')
    repeat (first|refine Wa ?_|refine Wb ?_|refine Wc ?_|refine Wd ?_|refine We rfl ?_|refine Wf (by first|exact Va|exact Vb|exact Vc|exact Vd|exact Ve|exact Vf|exact Vg|exact Vh|exact Vi|exact Vj|exact Vk (by omega)|exact Vl|exact Vm|exact Vn|exact Vo|exact Vp|exact Vq|exact Vr|exact Vs (by omega)|exact Vt (by omega)|exact Vu (by omega)|exact Vv (by omega)|exact Vw|exact Vx|exact Vy|exact Vz|exact VA|exact VB|exact VC|exact VD|exact VE|exact VF) rfl ?_|(refine Wg rfl ?_; intro _)|(refine Wh rfl ?_; intro _)|refine Wi ?_|refine Wj ?_|refine Wk ?_|refine Wl ?_|refine Wm ?_|refine Wn ?_|refine Wo ?_|refine Wp ?_|refine Wq rfl ?_|refine Wr ?_|refine Ws ?_|refine Wt ?_|refine Wu ?_|refine Wv rfl rfl ?_|(refine Ww rfl ⟨rfl, by decide, by decide, by decide⟩ ?_; intro _))
    refine JR.indexCommit rfl hlt' ?_
    intro b1 o1 p1 q1
    repeat (first|refine Wa ?_|refine Wb ?_|refine Wc ?_|refine Wd ?_|refine We rfl ?_|refine Wf (by first|exact Va|exact Vb|exact Vc|exact Vd|exact Ve|exact Vf|exact Vg|exact Vh|exact Vi|exact Vj|exact Vk (by omega)|exact Vl|exact Vm|exact Vn|exact Vo|exact Vp|exact Vq|exact Vr|exact Vs (by omega)|exact Vt (by omega)|exact Vu (by omega)|exact Vv (by omega)|exact Vw|exact Vx|exact Vy|exact Vz|exact VA|exact VB|exact VC|exact VD|exact VE|exact VF) rfl ?_|(refine Wg rfl ?_; intro _)|(refine Wh rfl ?_; intro _)|refine Wi ?_|refine Wj ?_|refine Wk ?_|refine Wl ?_|refine Wm ?_|refine Wn ?_|refine Wo ?_|refine Wp ?_|refine Wq rfl ?_|refine Wr ?_|refine Ws ?_|refine Wt ?_|refine Wu ?_|refine Wv rfl rfl ?_|(refine Ww rfl ⟨rfl, by decide, by decide, by decide⟩ ?_; intro _))
    refine JR.callV rfl (fun w1 hw => hash_commit w1 _ (L[i]) p1 q1 hw.get hfx.1) ?_
    repeat (first|refine Wa ?_|refine Wb ?_|refine Wc ?_|refine Wd ?_|refine We rfl ?_|refine Wf (by first|exact Va|exact Vb|exact Vc|exact Vd|exact Ve|exact Vf|exact Vg|exact Vh|exact Vi|exact Vj|exact Vk (by omega)|exact Vl|exact Vm|exact Vn|exact Vo|exact Vp|exact Vq|exact Vr|exact Vs (by omega)|exact Vt (by omega)|exact Vu (by omega)|exact Vv (by omega)|exact Vw|exact Vx|exact Vy|exact Vz|exact VA|exact VB|exact VC|exact VD|exact VE|exact VF) rfl ?_|(refine Wg rfl ?_; intro _)|(refine Wh rfl ?_; intro _)|refine Wi ?_|refine Wj ?_|refine Wk ?_|refine Wl ?_|refine Wm ?_|refine Wn ?_|refine Wo ?_|refine Wp ?_|refine Wq rfl ?_|refine Wr ?_|refine Ws ?_|refine Wt ?_|refine Wu ?_|refine Wv rfl rfl ?_|(refine Ww rfl ⟨rfl, by decide, by decide, by decide⟩ ?_; intro _))
    refine JO.test 23 (fun h0 => ?_) (fun h0 => ?_)
    · repeat (first|refine Wa ?_|refine Wb ?_|refine Wc ?_|refine Wd ?_|refine We rfl ?_|refine Wf (by first|exact Va|exact Vb|exact Vc|exact Vd|exact Ve|exact Vf|exact Vg|exact Vh|exact Vi|exact Vj|exact Vk (by omega)|exact Vl|exact Vm|exact Vn|exact Vo|exact Vp|exact Vq|exact Vr|exact Vs (by omega)|exact Vt (by omega)|exact Vu (by omega)|exact Vv (by omega)|exact Vw|exact Vx|exact Vy|exact Vz|exact VA|exact VB|exact VC|exact VD|exact VE|exact VF) rfl ?_|(refine Wg rfl ?_; intro _)|(refine Wh rfl ?_; intro _)|refine Wi ?_|refine Wj ?_|refine Wk ?_|refine Wl ?_|refine Wm ?_|refine Wn ?_|refine Wo ?_|refine Wp ?_|refine Wq rfl ?_|refine Wr ?_|refine Ws ?_|refine Wt ?_|refine Wu ?_|refine Wv rfl rfl ?_|(refine Ww rfl ⟨rfl, by decide, by decide, by decide⟩ ?_; intro _))
      refine JC.test (fun he => ?_) (fun hne => ?_)
      · have hd : decide (hashO L[i] = some x) = true := by rw [hashO_dec, decide_eq_true h0, decide_eq_true he]; rfl
        have hfd : findC L x = some L[i] := by
          rw [findC, List.find?_eq_some_iff_getElem]
          refine ⟨hd, i, hlt', rfl, fun j hj => ?_⟩
          rw [hno _ (List.mem_take_iff_getElem.2 ⟨j, by omega, rfl⟩)]; rfl
        have e1 : findR L x = (L[i], true) := by simp [findR, hfd]
        rw [e1]
        repeat (first|refine Wa ?_|refine Wb ?_|refine Wc ?_|refine Wd ?_|refine We rfl ?_|refine Wf (by first|exact Va|exact Vb|exact Vc|exact Vd|exact Ve|exact Vf|exact Vg|exact Vh|exact Vi|exact Vj|exact Vk (by omega)|exact Vl|exact Vm|exact Vn|exact Vo|exact Vp|exact Vq|exact Vr|exact Vs (by omega)|exact Vt (by omega)|exact Vu (by omega)|exact Vv (by omega)|exact Vw|exact Vx|exact Vy|exact Vz|exact VA|exact VB|exact VC|exact VD|exact VE|exact VF) rfl ?_|(refine Wg rfl ?_; intro _)|(refine Wh rfl ?_; intro _)|refine Wi ?_|refine Wj ?_|refine Wk ?_|refine Wl ?_|refine Wm ?_|refine Wn ?_|refine Wo ?_|refine Wp ?_|refine Wq rfl ?_|refine Wr ?_|refine Ws ?_|refine Wt ?_|refine Wu ?_|refine Wv rfl rfl ?_|(refine Ww rfl ⟨rfl, by decide, by decide, by decide⟩ ?_; intro _))
        refine JR.call1 rfl (fun w1 hw => own_dag w1 _ (L[i]) p1 q1 hw.get hfx.2) ?_
        rintro ⟨p2, q2⟩
        dsimp only
        repeat (first|refine Wa ?_|refine Wb ?_|refine Wc ?_|refine Wd ?_|refine We rfl ?_|refine Wf (by first|exact Va|exact Vb|exact Vc|exact Vd|exact Ve|exact Vf|exact Vg|exact Vh|exact Vi|exact Vj|exact Vk (by omega)|exact Vl|exact Vm|exact Vn|exact Vo|exact Vp|exact Vq|exact Vr|exact Vs (by omega)|exact Vt (by omega)|exact Vu (by omega)|exact Vv (by omega)|exact Vw|exact Vx|exact Vy|exact Vz|exact VA|exact VB|exact VC|exact VD|exact VE|exact VF) rfl ?_|(refine Wg rfl ?_; intro _)|(refine Wh rfl ?_; intro _)|refine Wi ?_|refine Wj ?_|refine Wk ?_|refine Wl ?_|refine Wm ?_|refine Wn ?_|refine Wo ?_|refine Wp ?_|refine Wq rfl ?_|refine Wr ?_|refine Ws ?_|refine Wt ?_|refine Wu ?_|refine Wv rfl rfl ?_|(refine Ww rfl ⟨rfl, by decide, by decide, by decide⟩ ?_; intro _))
        exact CT.done (p2, q2) rfl (fun w ho => ho.ent)
      · have hd : decide (hashO L[i] = some x) = false := by rw [hashO_dec, decide_eq_false hne, Bool.and_false]
        repeat (first|refine Wa ?_|refine Wb ?_|refine Wc ?_|refine Wd ?_|refine We rfl ?_|refine Wf (by first|exact Va|exact Vb|exact Vc|exact Vd|exact Ve|exact Vf|exact Vg|exact Vh|exact Vi|exact Vj|exact Vk (by omega)|exact Vl|exact Vm|exact Vn|exact Vo|exact Vp|exact Vq|exact Vr|exact Vs (by omega)|exact Vt (by omega)|exact Vu (by omega)|exact Vv (by omega)|exact Vw|exact Vx|exact Vy|exact Vz|exact VA|exact VB|exact VC|exact VD|exact VE|exact VF) rfl ?_|(refine Wg rfl ?_; intro _)|(refine Wh rfl ?_; intro _)|refine Wi ?_|refine Wj ?_|refine Wk ?_|refine Wl ?_|refine Wm ?_|refine Wn ?_|refine Wo ?_|refine Wp ?_|refine Wq rfl ?_|refine Wr ?_|refine Ws ?_|refine Wt ?_|refine Wu ?_|refine Wv rfl rfl ?_|(refine Ww rfl ⟨rfl, by decide, by decide, by decide⟩ ?_; intro _))
        refine ⟨i + 1, ⟨by omega, fun c hc => ?_⟩, by omega, inferInstance⟩
        rw [List.take_succ_eq_append_getElem hlt', List.mem_append, List.mem_singleton] at hc
        rcases hc with hc | rfl
        · exact hno c hc
        · exact hd
    · have hd : decide (hashO L[i] = some x) = false := by rw [hashO_dec, decide_eq_false h0, Bool.false_and]
      repeat (first|refine Wa ?_|refine Wb ?_|refine Wc ?_|refine Wd ?_|refine We rfl ?_|refine Wf (by first|exact Va|exact Vb|exact Vc|exact Vd|exact Ve|exact Vf|exact Vg|exact Vh|exact Vi|exact Vj|exact Vk (by omega)|exact Vl|exact Vm|exact Vn|exact Vo|exact Vp|exact Vq|exact Vr|exact Vs (by omega)|exact Vt (by omega)|exact Vu (by omega)|exact Vv (by omega)|exact Vw|exact Vx|exact Vy|exact Vz|exact VA|exact VB|exact VC|exact VD|exact VE|exact VF) rfl ?_|(refine Wg rfl ?_; intro _)|(refine Wh rfl ?_; intro _)|refine Wi ?_|refine Wj ?_|refine Wk ?_|refine Wl ?_|refine Wm ?_|refine Wn ?_|refine Wo ?_|refine Wp ?_|refine Wq rfl ?_|refine Wr ?_|refine Ws ?_|refine Wt ?_|refine Wu ?_|refine Wv rfl rfl ?_|(refine Ww rfl ⟨rfl, by decide, by decide, by decide⟩ ?_; intro _)|refine Wx rfl rfl ?_)
      refine ⟨i + 1, ⟨by omega, fun c hc => ?_⟩, by omega, inferInstance⟩
      rw [List.take_succ_eq_append_getElem hlt', List.mem_append, List.mem_singleton] at hc
      rcases hc with hc | rfl
      · exact hno c hc
      · exact hd
  · obtain rfl : i = L.length := by omega
    rw [List.take_length] at hno
    have hfd : findC L x = none := by
      rw [findC, List.find?_eq_none]
      intro c hc; rw [hno c hc]; simp
    have e1 : findR L x = (commit0, false) := by simp [findR, hfd]
    rw [e1]
    repeat (first|refine Wa ?_|refine Wb ?_|refine Wc ?_|refine Wd ?_|refine We rfl ?_|refine Wf (by first|exact Va|exact Vb|exact Vc|exact Vd|exact Ve|exact Vf|exact Vg|exact Vh|exact Vi|exact Vj|exact Vk (by omega)|exact Vl|exact Vm|exact Vn|exact Vo|exact Vp|exact Vq|exact Vr|exact Vs (by omega)|exact Vt (by omega)|exact Vu (by omega)|exact Vv (by omega)|exact Vw|exact Vx|exact Vy|exact Vz|exact VA|exact VB|exact VC|exact VD|exact VE|exact VF) rfl ?_|(refine Wg rfl ?_; intro _)|(refine Wh rfl ?_; intro _)|refine Wi ?_|refine Wj ?_|refine Wk ?_|refine Wl ?_|refine Wm ?_|refine Wn ?_|refine Wo ?_|refine Wp ?_|refine Wq rfl ?_|refine Wr ?_|refine Ws ?_|refine Wt ?_|refine Wu ?_|refine Wv rfl rfl ?_|(refine Ww rfl ⟨rfl, by decide, by decide, by decide⟩ ?_; intro _))
    refine Wf (OpV.build [.int .i64 0, .int .i64 0, .int .i64 0, .slice none 0 0, .int .i64 0, .string .empty, .string .empty, .int .i64 0] (by kernel_rfl)) rfl ?_
    repeat (first|refine Wa ?_|refine Wb ?_|refine Wc ?_|refine Wd ?_|refine We rfl ?_|refine Wf (by first|exact Va|exact Vb|exact Vc|exact Vd|exact Ve|exact Vf|exact Vg|exact Vh|exact Vi|exact Vj|exact Vk (by omega)|exact Vl|exact Vm|exact Vn|exact Vo|exact Vp|exact Vq|exact Vr|exact Vs (by omega)|exact Vt (by omega)|exact Vu (by omega)|exact Vv (by omega)|exact Vw|exact Vx|exact Vy|exact Vz|exact VA|exact VB|exact VC|exact VD|exact VE|exact VF) rfl ?_|(refine Wg rfl ?_; intro _)|(refine Wh rfl ?_; intro _)|refine Wi ?_|refine Wj ?_|refine Wk ?_|refine Wl ?_|refine Wm ?_|refine Wn ?_|refine Wo ?_|refine Wp ?_|refine Wq rfl ?_|refine Wr ?_|refine Ws ?_|refine Wt ?_|refine Wu ?_|refine Wv rfl rfl ?_|(refine Ww rfl ⟨rfl, by decide, by decide, by decide⟩ ?_; intro _))
    exact CT.done (none, 0) rfl (fun w ho => (ho.ent : Hold _ _ [.st (sl a k L)] w).tail.add sl_nil)
end Ab
end Go.Proofs.YtcmfemfndadfmaaGreat

/- x[l:] of a slice that is read, as a value. Program-independent. -/
namespace Go.Proofs.YtcmfemfndadfmaaGreat
namespace Ab
open Go Go.RowKit
set_option linter.unusedVariables false
set_option linter.unusedSimpArgs false
section
variable {P : Program} {n : Nat} {w0 : World} {F : Nat → Prop} {ops : Array Oper} {i d : Nat} {t : TypeId} {pos : String} {aft : Array Edge} {g : Option (Nat × Bool)} {os : List Oper} {Q : Cont} {e : E} {Γ : List Fact} [Dr]

/-- Where x[l:] begins. -/
def fromA (a0 : Option Addr) (c l s : Nat) : Option Addr := if c - l = 0 ∧ c = l then a0 else a0.map (·.add (l * s))
theorem OpV.sliceFromA {x lo : Operand} {a0 : Option Addr} {m c l s : Nat} {kk : IntKind} {j : Int} {ty el : TypeId} {ed : TypeDesc} {sz by_ es eb : Nat} {z ez : Value} {d : Option Nat}
    [hx : Ev e x (.slice a0 m c)] [hi : Ev e lo (.int kk j)] [hk : NatI j l] [hT : Ty P ty (.slice el) sz by_ z] [hE : Ty P el ed es eb ez] (hes : es = s) (h : ∀ w, Hold w0 F Γ w → l ≤ m ∧ m ≤ c) :
    OpV P n w0 F ⟨d, .slice ty x (some lo) none none, t, pos, aft, g⟩ e Γ (.slice (fromA a0 c l s) (m - l) (c - l)) :=
  fun a w fr ho => by
    have hlc := h w ho
    have h1 := run_und (P := P) (t := ty) w
    have h2 := run_size (P := P) (t := el) w
    have hj := hk.ok
    subst hj hes
    have hb : (Instr.sliceBound (.int kk (l : Int)) m .sliceB).run P w = .ok l w := by
      simp [Instr.sliceBound, asIntOf]
      omega
    simp [execOp, hx.ok n a fr, hi.ok n a fr, Instr.sliceAt, Instr.slice, h1, h2, Instr.sliceBounds, hb, fromA]
    by_cases hck : c = l
    · simp [hck]
    · rw [if_neg hck, if_neg (by omega)]
end
section
variable {P : Program} {n : Nat} {w0 : World} {F : Nat → Prop} {ops : Array Oper} {i d : Nat} {t : TypeId} {pos : String} {aft : Array Edge} {g : Option (Nat × Bool)} {os : List Oper} {Q : Cont} {e : E} {Γ : List Fact}
theorem sl_from {α : Type} [ic : Cell α] {G : Nat → Prop} {w : World} {a : Option Addr} {c : Nat} {L : List α} (h : (sl a c L).holds G w) {k : Nat} (hk : k ≤ L.length) : (sl (fromA a c k (Cell.sz α)) (c - k) (L.drop k)).holds G w := sl_drop h hk
end
section
variable {P : Program} {n : Nat} {w0 : World} {F : Nat → Prop} {ops : Array Oper} {i d : Nat} {t : TypeId} {pos : String} {aft : Array Edge} {g : Option (Nat × Bool)} {os : List Oper} {Q : Cont} {e : E} {Γ : List Fact} [Dr]

/-- append([]T(nil), y...), which leaves what was there. -/
theorem JS.appendNil {α : Type} [ic : Cell α] {x y : Operand} {u : Value} {L' : List α} {el ty : TypeId} {ed : TypeDesc} {sz by_ es eb : Nat} {z ez : Value} {ecs : List Value} {K : E → List Fact → Prop}
    [hx : Ev e x (.slice none 0 0)] [hy : Ev e y u] [hS : HasSl Γ u α ic L'] [hT : Ty P ty (.slice el) sz by_ z] [hE : Ty P el ed es eb ez] [hz : Cel ez ecs]
    (hd : Nat.blt d n = true) (hes : es = Cell.sz α ∧ ecs.length = es ∧ eb ≤ 4096) (hl : L'.length ≤ 34359738368)
    (k : ∀ a c, K ((d, .slice a L'.length c) :: e) (.res (buf a c el L') :: Γ)) :
    JS P n w0 F ⟨some d, .call ⟨.builtin .append, #[x, y], #[ty, ty]⟩, t, pos, aft, g⟩ e Γ K :=
  JS.value hd fun a w fr ho => by
    obtain ⟨a1, c1, rfl, hsl⟩ := hS.holds ho
    by_cases hL : L' = []
    · subst hL
      obtain ⟨ti, hti, hti1, hti2, hti3⟩ := hE.some
      refine ⟨.slice none 0 0, w, _, ?_, Bel.refl _ _, ho.res (R := buf (α := α) none 0 el []) (fun k hk => by obtain ⟨a, h, _⟩ := hk; cases h) buf_nil, k none 0⟩
      cases a1 <;> simp [execOp, resolve_builtin, invoke, builtin, hx.ok n a fr, hy.ok n a fr, Builtin.append_, run_underlying hT.und, sizeOf, typeInfo, hti, Builtin.lenOf, Builtin.firstCells, loadCells, loadCellsFrom]
    · obtain ⟨b, off, rfl, hF, hlt, hrow⟩ := hsl.2.2.2 hL
      obtain ⟨r, hr1, hr2, hr3⟩ := row_list L' off hrow
      have hm : r.length = L'.length := by rw [← hr1]; simp
      obtain ⟨ti, hti, hti1, hti2, hti3⟩ := hE.some
      have hfl : (flat r).length = L'.length * ti.size := by rw [flat_length, hm, hti1, hes.1]
      have h0 : 0 < L'.length := List.length_pos_iff.2 hL
      have hb48 : L'.length * ti.bytes ≤ 281474976710656 := by rw [hti2]; have := Nat.mul_le_mul hl hes.2.2; omega
      have hr := run_append_nil (P := P) w ty t el ti ez hT.und hti hti3 ⟨b, off, none⟩ L'.length c1 (flat r) hfl (fun j u hu => by rw [Addr.add_mid]; exact hr2 j u hu) (by omega) (by omega) hb48
      have hge := grownCap_ge w L'.length 0 el
      have hcm : grownCap w L'.length 0 el ≤ maxLen := grownCap_le_maxLen w L'.length 0 el (by simp only [maxLen]; omega)
      have hzs : ez.cells.size = ti.size := by rw [cells_eq (v := ez) (cs := ecs), hti1]; simpa using hes.2.1
      have hsz1 : ti.size = Cell.sz α := by rw [hti1, hes.1]
      have hbel : Bel w.heap.size w (w.drew.alloc (.cells ((flat r).toArray ++ Builtin.zeroCells ez.cells (grownCap w L'.length 0 el - L'.length)) el)) := ((Bel.refl _ _).drew).alloc (Nat.le_refl _) _
      refine ⟨_, _, _, ?_, hbel, ho.call (B := [.res (buf (some ⟨w.heap.size, 0, none⟩) (grownCap w L'.length 0 el) el L')]) hbel ⟨fun f hf => ?_, by simp, fun f hf k' hk => ?_⟩, k (some ⟨w.heap.size, 0, none⟩) (grownCap w L'.length 0 el)⟩
      · simp [execOp, resolve_builtin, invoke, builtin, hx.ok n a fr, hy.ok n a fr] at hr ⊢
        simp [hr]
      · simp only [List.mem_singleton] at hf; subst hf
        refine ⟨by simp only [lim]; omega, r, hr1, ⟨by rw [flat_length, hm], .inr ⟨w.heap.size, _, _, rfl, Nat.zero_le _, heap_alloc_new w.drew _, hge, hcm, ?_, ?_⟩⟩, fun p hp A hA => ?_⟩
        · simp only [Array.size_append, List.size_toArray, size_zeroCells, hzs, hfl, ← Nat.add_mul, ← hsz1]
          congr 1
          omega
        · simp only [Array.toList_append]
          exact List.take_left' (by rw [hfl, hsz1])
        · refine Fact.sat_keep (f := .st A) (hr3 p hp A hA) (fun k' hk hlt => ⟨.inl hk, fun f hf => ?_⟩) (fun k' hlt _ => hbel.block k' hlt)
          simp only [List.mem_singleton] at hf; subst hf
          rintro ⟨a', ha', rfl⟩
          injection ha' with ha'
          subst ha'
          simp at hlt
      · simp only [List.mem_singleton] at hf; subst hf
        obtain ⟨a', ha', rfl⟩ := hk
        injection ha' with ha'
        subst ha'
        exact Nat.le_refl _
end
end Ab
end Go.Proofs.YtcmfemfndadfmaaGreat

/- An operation that is passed over because the one it waits for was passed over. Program-independent. -/
namespace Go.Proofs.YtcmfemfndadfmaaGreat
namespace Ab
open Go Go.RowKit
set_option linter.unusedVariables false
set_option linter.unusedSimpArgs false
section
variable {P : Program} {n : Nat} {w0 : World} {F : Nat → Prop} {i d : Nat} {t : TypeId} {pos : String} {aft : Array Edge} {g : Option (Nat × Bool)} {Q : Cont} {e : E} {Γ : List Fact} [Dr]

/-- The guard's operation was itself passed over. -/
def gskip (ops : List Oper) (e : E) : Option (Nat × Bool) → Bool
  | none => false
  | some (j, _) =>
    match ops[j]? with
    | some o => match o.dst with
      | some d => match look e d with
        | some (.tuple _) => true
        | _ => false
      | none => false
    | none => false

end
section
variable {P : Program} {n : Nat} {w0 : World} {F : Nat → Prop} {i d : Nat} {t : TypeId} {pos : String} {aft : Array Edge} {g : Option (Nat × Bool)} {Q : Cont} {e : E} {Γ : List Fact}
theorem gskip_ok {ops : List Oper} {e : E} {o : Oper} {a : Act} (h : gskip ops e o.guard = true) (fr : Fr n e a) : Region.wanted o (yielded ⟨ops⟩ a.tmps) = false := by
  unfold gskip at h
  unfold Region.wanted
  split at h
  · cases h
  · rename_i j want hg
    rw [hg]
    split at h
    · rename_i o' ho'
      split at h
      · rename_i d hd
        split at h
        · rename_i b hb
          have := fr.slot _ _ hb
          simp only [yielded]
          have e1 : ((⟨ops⟩ : Array Oper)[j]?) = some o' := by simpa using ho'
          rw [e1]
          simp [hd, this]
        · cases h
      · cases h
    · cases h
end
section
variable {P : Program} {n : Nat} {w0 : World} {F : Nat → Prop} {i d : Nat} {t : TypeId} {pos : String} {aft : Array Edge} {g : Option (Nat × Bool)} {Q : Cont} {e : E} {Γ : List Fact} [Dr]

theorem Wx {ops : List Oper} {op : Op} {os : List Oper} (hg : gskip ops e g = true) (hd : Nat.blt d n = true)
    (h : JO P n w0 F ⟨ops⟩ (i + 1) os Q ((d, undef) :: e) Γ) : JO P n w0 F ⟨ops⟩ i (⟨some d, op, t, pos, aft, g⟩ :: os) Q e Γ := by
  intro hdr a w fr ho
  obtain ⟨h1, h2⟩ := drop_at hdr
  simp only [List.length_cons, List.range'_succ, wpOps]
  rw [h1]
  simp only [gskip_ok (o := ⟨some d, op, t, pos, aft, g⟩) hg fr, Bool.false_eq_true, if_false]
  exact h h2 _ w (fr.put hd _) ho

theorem WA {ops os : List Oper} {K : E → Prop} {op : Op} (hg : gskip ops e g = true) (hd : Nat.blt d n = true) (k : JQ P n w0 F ops os K ((d, undef) :: e) Γ) :
    JQ P n w0 F ops (⟨some d, op, t, pos, aft, g⟩ :: os) K e Γ := by
  intro a fr
  unfold wpQuiet
  rw [gskip_ok (o := ⟨some d, op, t, pos, aft, g⟩) hg fr, if_neg (by decide)]
  exact k _ (fr.put hd _)
end
end Ab
end Go.Proofs.YtcmfemfndadfmaaGreat

/- More arithmetic on words: products, differences, quotients, remainders. Program-independent. -/
namespace Go.Proofs.YtcmfemfndadfmaaGreat
namespace Ab
open Go Go.RowKit
set_option linter.unusedVariables false
set_option linter.unusedSimpArgs false
/-- A number that is a word's. -/
class W32 (p : Int) (a : outParam UInt32) : Prop where
  ok : p = (a.toNat : Int)
instance (priority := 1000) {a : UInt32} : W32 (a.toNat : Int) a := ⟨rfl⟩
instance : W32 (16777216 : Int) 16777216 := ⟨rfl⟩
instance : W32 (65536 : Int) 65536 := ⟨rfl⟩
instance : W32 (256 : Int) 256 := ⟨rfl⟩
instance : W32 (1024 : Int) 1024 := ⟨rfl⟩
instance : W32 (8 : Int) 8 := ⟨rfl⟩
class W64 (p : Int) (a : outParam UInt64) : Prop where
  ok : p = (a.toNat : Int)
instance (priority := 1000) {a : UInt64} : W64 (a.toNat : Int) a := ⟨rfl⟩
instance : W64 (256 : Int) 256 := ⟨rfl⟩
instance : W64 (128 : Int) 128 := ⟨rfl⟩
instance : W64 (127 : Int) 127 := ⟨rfl⟩
instance : W64 (8 : Int) 8 := ⟨rfl⟩
instance : W64 (2 : Int) 2 := ⟨rfl⟩
instance : W64 (1 : Int) 1 := ⟨rfl⟩
theorem JR.reslot [Dr] {P : Program} {n : Nat} {w0 : World} {F : Nat → Prop} {ops : Array Oper} {i : Nat} {o : Oper} {os : List Oper} {Q : Cont} {e : E} {Γ : List Fact} (s : Nat) {v : Value} (u : Value) [hs : Lk e s v] (h : v = u) (k : JR P n w0 F ops i o os Q ((s, u) :: e) Γ) : JR P n w0 F ops i o os Q e Γ :=
  fun hd a w fr ho => k hd a w (fr.again (by rw [← h]; exact hs.ok)) ho
theorem JR.reown [Dr] {P : Program} {n : Nat} {w0 : World} {F : Nat → Prop} {ops : Array Oper} {i : Nat} {o : Oper} {os : List Oper} {Q : Cont} {e : E} {Γ : List Fact} {bt : TypeId} {vs : List Value} {Δ : List Fact} (b : Nat) (us : List Value) [h : Own Γ b bt vs Δ] (he : vs = us) (k : JR P n w0 F ops i o os Q e (.own b bt us :: Δ)) : JR P n w0 F ops i o os Q e Γ :=
  JR.more (fun w ho => by subst he; exact ho.perm h.ok) k
section
variable {P : Program} {n : Nat} {w0 : World} {F : Nat → Prop} {d : Option Nat} {t : TypeId} {pos : String} {aft : Array Edge} {g : Option (Nat × Bool)} {e : E} {Γ : List Fact} [Dr]
  {x y : Operand} {ty yt : TypeId}
end
end Ab
end Go.Proofs.YtcmfemfndadfmaaGreat

/- An element of an array that is read, wherever it lies. Program-independent. -/
namespace Go.Proofs.YtcmfemfndadfmaaGreat
namespace Ab
open Go Go.RowKit
set_option linter.unusedVariables false
set_option linter.unusedSimpArgs false
end Ab
end Go.Proofs.YtcmfemfndadfmaaGreat

/- Two operations of a region's end, in either order; rows of whole numbers made and written; a graph in two maps. Program-independent. -/
namespace Go.Proofs.YtcmfemfndadfmaaGreat
namespace Ab
open Go Go.RowKit
set_option linter.unusedVariables false
set_option linter.unusedSimpArgs false
section
variable {P : Program} {n : Nat} {w0 : World} {F : Nat → Prop} {ops : List Oper} {m fuel i d : Nat} {done done' : List Bool} {t : TypeId} {pos : String} {aft : Array Edge} {g : Option (Nat × Bool)} {Q : Cont} {e : E} {Γ : List Fact} [Dr]
end

/-- Γ ends as Δ. -/
class Suf (Γ Δ : List Fact) : Prop where
  ok : ∃ R, Γ.Perm (Δ ++ R)
instance (priority := 1000) Suf.hit {Γ : List Fact} : Suf Γ Γ := ⟨[], by simp⟩
instance (priority := 100) Suf.miss {Γ Δ : List Fact} {g : Fact} [h : Suf Γ Δ] : Suf (g :: Γ) Δ :=
  ⟨let ⟨R, hR⟩ := h.ok; ⟨g :: R, (hR.cons g).trans (List.perm_middle.symm)⟩⟩
instance (priority := 10) Sub.suf {Γ Δ : List Fact} [h : Suf Γ Δ] : Sub Γ Δ := ⟨h.ok⟩

abbrev natV (k : Nat) : Value := .int .i64 (k : Int)
instance {k : Nat} : Cel (natV k) [natV k] := ⟨rfl⟩
section
variable {P : Program} {n : Nat} {w0 : World} {F : Nat → Prop} {ops : Array Oper} {i d : Nat} {t : TypeId} {pos : String} {aft : Array Edge} {g : Option (Nat × Bool)} {os : List Oper} {Q : Cont} {e : E} {Γ : List Fact} [Dr]
end
section
variable {P : Program} {n : Nat} {w0 : World} {F : Nat → Prop} {ops : Array Oper} {i d : Nat} {t : TypeId} {pos : String} {aft : Array Edge} {g : Option (Nat × Bool)} {os : List Oper} {Q : Cont} {e : E} {Γ : List Fact}
theorem madeInts (c : Nat) : (madeCells (Value.cells (.int .i64 0)) (c * 1)) = ((List.replicate c 0).map natV).toArray := by
  apply Array.ext
  · simp [size_madeCells]
  · intro i h1 h2
    simp [madeCells, Value.cells, Nat.mod_one]
end
section
variable {P : Program} {n : Nat} {w0 : World} {F : Nat → Prop} {ops : Array Oper} {i d : Nat} {t : TypeId} {pos : String} {aft : Array Edge} {g : Option (Nat × Bool)} {os : List Oper} {Q : Cont} {e : E} {Γ : List Fact} [Dr]
/-- make([]int, l) -/
theorem JR.makeInts {x y : Operand} {kk k2 : IntKind} {j j2 : Int} {l l2 : Nat} {ty el : TypeId} {ed : TypeDesc} {sz by_ : Nat} {z : Value}
    [hx : Ev e x (.int kk j)] [hk : NatI j l] [hy : Ev e y (.int k2 j2)] [hk2 : NatI j2 l2] [hT : Ty P ty (.slice el) sz by_ z] [hE : Ty P el ed 1 8 (.int .i64 0)]
    (hd : Nat.blt d n = true) (he : l = l2) (hl : l ≤ 1073741824)
    (K : ∀ b, JO P n w0 F ops (i + 1) os Q ((d, .slice (some ⟨b, 0, none⟩) l l) :: e) (.own b el ((List.replicate l 0).map natV) :: Γ)) :
    JR P n w0 F ops i ⟨some d, .makeSlice ty x y, t, pos, aft, g⟩ os Q e Γ :=
  JR.value hd fun a w fr ho => by
    subst he
    obtain ⟨ti, hti, hti1, hti2, hti3⟩ := hE.some
    have hj := hk.ok
    have hj2 := hk2.ok
    subst hj hj2
    have hr := run_make (P := P) w ty el ti (.int .i64 0) hT.und hti hti3 kk k2 (l : Int) (l : Int) (by omega) (by omega) (by rw [hti2]; omega) (by omega)
    simp only [Int.toNat_natCast, hti1, madeInts] at hr
    refine ⟨_, w.alloc (.cells ((List.replicate l 0).map natV).toArray el), _, ?_, ho.alloc el ((List.replicate l 0).map natV), K w.heap.size⟩
    simp [execOp, hx.ok n a fr, hy.ok n a fr, hr]
end
end Ab
end Go.Proofs.YtcmfemfndadfmaaGreat

/- Contracts: ids.Sort. -/
namespace Go.Proofs.YtcmfemfndadfmaaGreat
namespace Ab
open Go Go.RowKit
set_option linter.unusedVariables false
set_option linter.unusedSimpArgs false
set_option synthInstance.maxSize 4000
set_option synthInstance.maxHeartbeats 400000
attribute [local irreducible] JC JO JR JQ andThen inBlock OpV Gives retTo JM JS

theorem sort_ids (w : World) (F : Nat → Prop) (a : Option Addr) (c : Nat) (L : List ID) (h : (sl a c L).holds F w) (hl : L.length ≤ 34359738368) :
    GivesBuf Tryz.prog 35 [.slice a L.length c] w F 48 (sortL (setOf L)) := by
  refine gives_of Tryz.func35 rfl Tryz.ntmps35 rfl rfl [.st (sl a c L)] (.start1 h) ?_
  repeat (first|refine Wa ?_|refine Wb ?_|refine Wc ?_|refine Wd ?_|refine We rfl ?_|refine Wf (by first|exact Va|exact Vb|exact Vc|exact Vd|exact Ve|exact Vf|exact Vg|exact Vh|exact Vi|exact Vj|exact Vk (by omega)|exact Vl|exact Vm|exact Vn|exact Vo|exact Vp|exact Vq|exact Vr|exact Vs (by omega)|exact Vt (by omega)|exact Vu (by omega)|exact Vv (by omega)|exact Vw|exact Vx|exact Vy|exact Vz|exact VA|exact VB|exact VC|exact VD|exact VE|exact VF) rfl ?_|(refine Wg rfl ?_; intro _)|(refine Wh rfl ?_; intro _)|refine Wi ?_|refine Wj ?_|refine Wk ?_|refine Wl ?_|refine Wm ?_|refine Wn ?_|refine Wo ?_|refine Wp ?_|refine Wq rfl ?_|refine Wr ?_|refine Ws ?_|refine Wt ?_|refine Wu ?_|refine Wv rfl rfl ?_|(refine Ww rfl ⟨rfl, by decide, by decide, by decide⟩ ?_; intro _))
  refine JR.call1 rfl (fun w1 hw => of_ids w1 _ a c L hw.get) ?_
  intro m
  refine JO.more (fun w ho => ho.pubMap) ?_
  repeat (first|refine Wa ?_|refine Wb ?_|refine Wc ?_|refine Wd ?_|refine We rfl ?_|refine Wf (by first|exact Va|exact Vb|exact Vc|exact Vd|exact Ve|exact Vf|exact Vg|exact Vh|exact Vi|exact Vj|exact Vk (by omega)|exact Vl|exact Vm|exact Vn|exact Vo|exact Vp|exact Vq|exact Vr|exact Vs (by omega)|exact Vt (by omega)|exact Vu (by omega)|exact Vv (by omega)|exact Vw|exact Vx|exact Vy|exact Vz|exact VA|exact VB|exact VC|exact VD|exact VE|exact VF) rfl ?_|(refine Wg rfl ?_; intro _)|(refine Wh rfl ?_; intro _)|refine Wi ?_|refine Wj ?_|refine Wk ?_|refine Wl ?_|refine Wm ?_|refine Wn ?_|refine Wo ?_|refine Wp ?_|refine Wq rfl ?_|refine Wr ?_|refine Ws ?_|refine Wt ?_|refine Wu ?_|refine Wv rfl rfl ?_|(refine Ww rfl ⟨rfl, by decide, by decide, by decide⟩ ?_; intro _))
  refine JR.callBuf rfl (fun w1 hw => list_ids w1 _ m _ (setOf_nodup L) (Nat.le_trans (setOf_length L) hl) hw.get) ?_
  intro a2 c2
  repeat (first|refine Wa ?_|refine Wb ?_|refine Wc ?_|refine Wd ?_|refine We rfl ?_|refine Wf (by first|exact Va|exact Vb|exact Vc|exact Vd|exact Ve|exact Vf|exact Vg|exact Vh|exact Vi|exact Vj|exact Vk (by omega)|exact Vl|exact Vm|exact Vn|exact Vo|exact Vp|exact Vq|exact Vr|exact Vs (by omega)|exact Vt (by omega)|exact Vu (by omega)|exact Vv (by omega)|exact Vw|exact Vx|exact Vy|exact Vz|exact VA|exact VB|exact VC|exact VD|exact VE|exact VF) rfl ?_|(refine Wg rfl ?_; intro _)|(refine Wh rfl ?_; intro _)|refine Wi ?_|refine Wj ?_|refine Wk ?_|refine Wl ?_|refine Wm ?_|refine Wn ?_|refine Wo ?_|refine Wp ?_|refine Wq rfl ?_|refine Wr ?_|refine Ws ?_|refine Wt ?_|refine Wu ?_|refine Wv rfl rfl ?_|(refine Ww rfl ⟨rfl, by decide, by decide, by decide⟩ ?_; intro _))
  exact CT.done (a2, c2) rfl (fun w ho => ho.ent)
end Ab
end Go.Proofs.YtcmfemfndadfmaaGreat

/- dag's graph as two maps; contract of its add. -/
namespace Go.Proofs.YtcmfemfndadfmaaGreat
namespace Ab
open Go Go.RowKit
set_option linter.unusedVariables false
set_option linter.unusedSimpArgs false
set_option synthInstance.maxSize 4000
set_option synthInstance.maxHeartbeats 400000
attribute [local irreducible] JC JO JR JQ andThen inBlock OpV Gives retTo JM JS

attribute [local irreducible] ents hashC
/-- A row of a graph: a commit, what it knows, and where its parents and its set lie. -/
abbrev Row := (Commit × List ID) × (Option Addr × Nat × Nat)
def ofM (R : List Row) : List (ID × Value) := R.map fun r => (idC r.1.1, commitV r.1.1 r.2.1 r.2.2.1)
def knM (R : List Row) : List (ID × Value) := R.map fun r => (idC r.1.1, .map (some r.2.2.2))
def grOf (R : List Row) : List (Commit × List ID) := R.map (·.1)
def rowA (r : Row) : List Asn := [sl r.2.1 r.2.2.1 r.1.1.parents, rmap r.2.2.2 (ents idV (sety r.1.2)) r.1.2.length]
/-- What the rows' commits and sets are. -/
def graphA (R : List Row) : Asn where
  holds F w := ∀ r ∈ R, ∀ A ∈ rowA r, A.holds F w
  mono F G w h hh := fun r hr A hA => A.mono F G w h (hh r hr A hA)
  frame F w w' hk h := fun r hr A hA => A.frame F w w' hk (h r hr A hA)
  within F w h := fun r hr A hA => A.within F w (h r hr A hA)
theorem nodes_gr (R : List Row) : nodes (grOf R) = R.map (·.1.1) := by simp [nodes, grOf]
theorem ids_gr (R : List Row) : cids (nodes (grOf R)) = R.map (fun r => idC r.1.1) := by simp [nodes_gr, cids]
theorem ofM_keys (R : List Row) : (ofM R).map (·.1) = cids (nodes (grOf R)) := by simp [ids_gr, ofM]
theorem knM_keys (R : List Row) : (knM R).map (·.1) = cids (nodes (grOf R)) := by simp [ids_gr, knM]
theorem row_of {R : List Row} {p : ID} (hn : (cids (nodes (grOf R))).Nodup) (hp : p ∈ cids (nodes (grOf R))) :
    ∃ r ∈ R, idC r.1.1 = p ∧ gotten (ofM R) p = some (commitV r.1.1 r.2.1 r.2.2.1) ∧ gotten (knM R) p = some (.map (some r.2.2.2)) ∧ knownBy (grOf R) p = r.1.2 := by
  rw [ids_gr] at hp
  obtain ⟨r, hr, he⟩ := List.mem_map.1 hp
  cases hf : R.find? (fun r => decide (idC r.1.1 = p)) with
  | none => exact absurd (List.find?_eq_none.1 hf r hr) (by simpa using he)
  | some q =>
    have h1 := List.find?_some hf
    have h1' : idC q.1.1 = p := by simpa using h1
    have h2 := List.mem_of_find?_eq_some hf
    refine ⟨q, h2, h1', ?_, ?_, ?_⟩
    · simp only [gotten, ofM, List.find?_map, Function.comp_def]
      rw [hf]; rfl
    · simp only [gotten, knM, List.find?_map, Function.comp_def]
      rw [hf]; rfl
    · have := knownBy_of (G := grOf R) hn (g := q.1) (List.mem_map.2 ⟨q, h2, rfl⟩)
      rw [← h1']; exact this
theorem row_none {R : List Row} {p : ID} (hp : p ∉ cids (nodes (grOf R))) : gotten (ofM R) p = none ∧ gotten (knM R) p = none := by
  rw [ids_gr] at hp
  have hf : R.find? (fun r => decide (idC r.1.1 = p)) = none := by
    rw [List.find?_eq_none]
    intro r hr h
    exact hp (List.mem_map.2 ⟨r, hr, by simpa using h⟩)
  constructor
  · simp only [gotten, ofM, List.find?_map, Function.comp_def]
    rw [hf]; rfl
  · simp only [gotten, knM, List.find?_map, Function.comp_def]
    rw [hf]; rfl
theorem upd_new {K : Type} [DecidableEq K] {M : List (K × Value)} {k : K} (v : Value) (h : k ∉ M.map (·.1)) : upd M k v = M ++ [(k, v)] := by
  have : plc M k = none := by
    simp only [plc, List.findIdx?_eq_none_iff, decide_eq_false_iff_not]
    intro p hp e
    exact h (List.mem_map.2 ⟨p, hp, e⟩)
  simp [upd, this]
theorem mem_take_succ {α : Type} {L : List α} {i : Nat} (h : i < L.length) {x : α} : x ∈ L.take (i + 1) ↔ x ∈ L.take i ∨ x = L[i] := by
  rw [List.take_succ_eq_append_getElem h, List.mem_append, List.mem_singleton]
theorem maxGen_snoc (L : List Commit) (ps : List ID) (p : ID) : maxGen L (ps ++ [p]) = max (maxGen L ps) (genAt L p) := by simp [maxGen]
theorem not_ok_of_none {G : List (Commit × List ID)} {c : Commit} {p : ID} (hp : p ∈ c.parents) (h : p ∉ cids (nodes G)) : addOk G c = false := by
  rw [← Bool.not_eq_true, addOk_iff]; exact fun h' => h (h'.1 p hp)
theorem not_ok_of_known {G : List (Commit × List ID)} {c : Commit} {p q : ID} (hp : p ∈ c.parents) (hq : q ∈ c.parents) (h : p ∈ knownBy G q) : addOk G c = false := by
  rw [← Bool.not_eq_true, addOk_iff]; exact fun h' => h'.2 p hp q hq h
theorem graph_row {R : List Row} {F : Nat → Prop} {w : World} (h : (graphA R).holds F w) {r : Row} (hr : r ∈ R) : (sl r.2.1 r.2.2.1 r.1.1.parents).holds F w ∧ (rmap r.2.2.2 (ents idV (sety r.1.2)) r.1.2.length).holds F w :=
  ⟨h r hr _ (by simp [rowA]), h r hr _ (by simp [rowA])⟩
theorem graph_snoc {R : List Row} {F : Nat → Prop} {w : World} (h : (graphA R).holds F w) {c : Commit} {S : List ID} {a : Option Addr} {k b : Nat} (h1 : (sl a k c.parents).holds F w) (h2 : (rmap b (ents idV (sety S)) S.length).holds F w) :
    (graphA (R ++ [((c, S), (a, k, b))])).holds F w := by
  intro r hr A hA
  rcases List.mem_append.1 hr with hr | hr
  · exact h r hr A hA
  · simp only [List.mem_singleton] at hr
    subst hr
    simp only [rowA, List.mem_cons, List.not_mem_nil, or_false] at hA
    rcases hA with rfl | rfl
    · exact h1
    · exact h2
theorem graph_nil {F : Nat → Prop} {w : World} : (graphA []).holds F w := fun r hr => by cases hr
theorem ofM_snoc (R : List Row) (c : Commit) (S : List ID) (a : Option Addr) (k b : Nat) : ofM (R ++ [((c, S), (a, k, b))]) = ofM R ++ [(idC c, commitV c a k)] := by simp [ofM]
theorem knM_snoc (R : List Row) (c : Commit) (S : List ID) (a : Option Addr) (k b : Nat) : knM (R ++ [((c, S), (a, k, b))]) = knM R ++ [(idC c, .map (some b))] := by simp [knM]
theorem grOf_snoc (R : List Row) (c : Commit) (S : List ID) (a : Option Addr) (k b : Nat) : grOf (R ++ [((c, S), (a, k, b))]) = grOf R ++ [(c, S)] := by simp [grOf]
end Ab
end Go.Proofs.YtcmfemfndadfmaaGreat

/- A region whose order is open, in which some operations write what the call owns, and others read what these leave: the latter may be taken first. Program-independent. -/
namespace Go.Proofs.YtcmfemfndadfmaaGreat
namespace Ab
open Go Go.RowKit
set_option linter.unusedVariables false
set_option linter.unusedSimpArgs false
section
variable {P : Program} {ops : Array Oper} {C : World → Prop} {R : Exit → Act → World → Prop} [Dr]

/-- One operation, which keeps what C tells. -/
def cOp (P : Program) (ops : Array Oper) (C : World → Prop) (i : Nat) (K : Act → World → Prop) (a : Act) (w : World) : Prop :=
  match ops[i]? with
  | none => K a w
  | some o => if Region.wanted o (yielded ops a.tmps) then o.wp P a w (fun a' w' => (C w → C w') ∧ K a' w') noExit else K (a.put o.dst undef) w

/-- Whatever order: all operations keep what C tells. -/
def cAny (P : Program) (ops : Array Oper) (C : World → Prop) (R : Exit → Act → World → Prop) : Nat → Array Bool → Act → World → Prop
  | 0, listed, a, w => Region.ready .any ops listed = [] ∧ R .normal a w
  | fuel + 1, listed, a, w => (Region.ready .any ops listed = [] → R .normal a w) ∧ ∀ i ∈ Region.ready .any ops listed, cOp P ops C i (cAny P ops C R fuel (listed.setIfInBounds i true)) a w

end
section
variable {P : Program} {ops : Array Oper} {C : World → Prop} {R : Exit → Act → World → Prop}
theorem cOp_wp {i : Nat} {K K' : Act → World → Prop} {a : Act} {w : World} (hk : ∀ a w, K a w → K' a w) (h : cOp P ops C i K a w) : wpOp P ops R i K' a w := by
  unfold cOp at h
  unfold wpOp
  split
  · rename_i ho; simp only [ho] at h; exact hk _ _ h
  · rename_i o ho
    simp only [ho] at h
    split
    · rename_i hw; simp only [hw, if_true] at h; exact .inl (noExit_wp (fun a w h => hk a w h.2) h)
    · rename_i hw; simp only [hw] at h; exact hk _ _ h
end
section
variable {P : Program} {ops : Array Oper} {C : World → Prop} {R : Exit → Act → World → Prop} [Dr]

end
section
variable {P : Program} {ops : Array Oper} {C : World → Prop} {R : Exit → Act → World → Prop}
theorem cAny_wp : ∀ (fuel : Nat) (listed : Array Bool) (a : Act) (w : World), cAny P ops C R fuel listed a w → wpAny P .any ops R fuel listed a w
  | 0, _, _, _, h => h
  | fuel + 1, listed, a, w, h => ⟨h.1, fun i hi => cOp_wp (fun a w => cAny_wp fuel _ a w) (h.2 i hi)⟩
end
section
variable {P : Program} {ops : Array Oper} {C : World → Prop} {R : Exit → Act → World → Prop} [Dr]

/-- The operation gives v and leaves all as it is, in every world of the class. -/
def GivesC (P : Program) (ops : Array Oper) (C : World → Prop) (o : Oper) (v : Value) (a : Act) : Prop :=
  Region.wanted o (yielded ops a.tmps) = true ∧ ∀ w, C w → (execOp a.eval o).run P w = .ok (.value v) w

end
section
variable {P : Program} {ops : Array Oper} {C : World → Prop} {R : Exit → Act → World → Prop}
theorem GivesC.cOp {i : Nat} {o : Oper} {v : Value} {a : Act} (hi : ops[i]? = some o) (hy : GivesC P ops C o v a) {K : Act → World → Prop} {w : World} (hC : C w) (h : K (a.put o.dst v) w) : cOp P ops C i K a w := by
  unfold Ab.cOp
  simp only [hi]
  obtain ⟨hw, hv⟩ := hy
  simp only [hw, if_true]
  unfold Oper.wp
  rw [hv w hC]
  exact ⟨fun h => h, h⟩
end
section
variable {P : Program} {ops : Array Oper} {C : World → Prop} {R : Exit → Act → World → Prop} [Dr]

end
section
variable {P : Program} {ops : Array Oper} {C : World → Prop} {R : Exit → Act → World → Prop}
theorem GivesC.same {o : Oper} {v : Value} {a a' : Act} (hy : GivesC P ops C o v a) (he : execOp a'.eval o = execOp a.eval o)
    (hw : Region.wanted o (yielded ops a'.tmps) = Region.wanted o (yielded ops a.tmps)) : GivesC P ops C o v a' := by
  unfold GivesC at *
  rw [he, hw]
  exact hy
end
section
variable {P : Program} {ops : Array Oper} {C : World → Prop} {R : Exit → Act → World → Prop} [Dr]

end
section
variable {P : Program} {ops : Array Oper} {C : World → Prop} {R : Exit → Act → World → Prop}
theorem cOp_put {j : Nat} {oi oj : Oper} {v : Value} (hj : ops[j]? = some oj) (hap : oi.apart ops oj = true)
    (hsi : ∀ cs b, oi.op ≠ .select cs b) (hsj : ∀ cs b, oj.op ≠ .select cs b) {K : Act → World → Prop} {a : Act} {w : World}
    (hw0 : C w) (hy : GivesC P ops C oi v a) (h : cOp P ops C j K (a.put oi.dst v) w) :
    cOp P ops C j (fun a' w' => (C w' ∧ GivesC P ops C oi v a') ∧ K (a'.put oi.dst v) w') a w := by
  obtain ⟨h1, h2, h3⟩ := Oper.apart_spec hap
  have keep : ∀ u, GivesC P ops C oi v (a.put oj.dst u) := fun u => hy.same (execOp_put oi hsi a oj.dst u h3) (wanted_put oi a oj.dst u h3)
  unfold cOp at *
  simp only [hj] at *
  rw [wanted_put oj a oi.dst v h1] at h
  split
  · rename_i hw
    simp only [hw, if_true] at h
    unfold Oper.wp at *
    rw [execOp_put oj hsj a oi.dst v h1] at h
    generalize (execOp a.eval oj).run P w = r at *
    have put : ∀ u w', ((C w → C w') ∧ K ((a.put oi.dst v).put oj.dst u) w') → ((C w → C w') ∧ (C w' ∧ GivesC P ops C oi v (a.put oj.dst u)) ∧ K ((a.put oj.dst u).put oi.dst v) w') :=
      fun u w' hh => ⟨hh.1, ⟨hh.1 hw0, keep u⟩, by rw [← Act.put_comm a v u h2]; exact hh.2⟩
    cases r with
    | ok n w' =>
      cases n <;> simp only [Oper.upon] at h ⊢
      case value u => exact put u _ h
      case skip => exact put undef _ h
      case defer d =>
        have hd : GivesC P ops C oi v ({ a with defers := d :: a.defers } : Act) := hy.same rfl rfl
        refine ⟨h.1, ⟨h.1 hw0, hd.same (execOp_put oi hsi _ oj.dst undef h3) (wanted_put oi _ oj.dst undef h3)⟩, ?_⟩
        rw [← Act.put_comm _ v undef h2, ← Act.put_defers]
        exact h.2
      case enter f args =>
        refine Calls.mono h fun e w'' he => ?_
        cases e with
        | returned u => exact put u _ he
        | panicked c => exact he
        | outgrown => exact he
      case row row args => exact Rows.mono h fun u w'' he => put u _ he
    | halt x w' =>
      cases x <;> simp only [Oper.upon] at h ⊢
      case panic u => exact h
  · rename_i hw
    simp only [hw] at h
    exact ⟨⟨hw0, keep _⟩, by rw [← Act.put_comm a v undef h2]; exact h⟩
end
section
variable {P : Program} {ops : Array Oper} {C : World → Prop} {R : Exit → Act → World → Prop} [Dr]

end
section
variable {P : Program} {ops : Array Oper} {C : World → Prop} {R : Exit → Act → World → Prop}
theorem cOp_mono {i : Nat} {K K' : Act → World → Prop} {a : Act} {w : World} (hk : ∀ a w, K a w → K' a w) (h : cOp P ops C i K a w) : cOp P ops C i K' a w := by
  unfold cOp at *
  split
  · rename_i ho; simp only [ho] at h; exact hk _ _ h
  · rename_i o ho
    simp only [ho] at h
    split
    · rename_i hw; simp only [hw, if_true] at h; exact Oper.wp_mono (fun a w h => ⟨h.1, hk _ _ h.2⟩) h
    · rename_i hw; simp only [hw] at h; exact hk _ _ h
end
section
variable {P : Program} {ops : Array Oper} {C : World → Prop} {R : Exit → Act → World → Prop} [Dr]

end
section
variable {P : Program} {ops : Array Oper} {C : World → Prop} {R : Exit → Act → World → Prop}
theorem cAny_first {i : Nat} {oi : Oper} {v : Value} (hi : ops[i]? = some oi) (hsel : ∀ (j : Nat) (o : Oper) cs b, ops[j]? = some o → o.op ≠ .select cs b) :
    ∀ (fuel : Nat) (listed : Array Bool) (a : Act) (w : World),
      (∀ j oj, ops[j]? = some oj → j ≠ i → listed.getD j true = false → (∀ e ∈ oj.after, Region.binds .any e = true → e.on ≠ i) → oi.apart ops oj = true) →
      i ∈ Region.ready .any ops listed → C w → GivesC P ops C oi v a →
      cAny P ops C R fuel (listed.setIfInBounds i true) (a.put oi.dst v) w → cAny P ops C R (fuel + 1) listed a w := by
  intro fuel
  induction fuel with
  | zero =>
    intro listed a w _ hr hw hy H
    refine ⟨fun h => (by rw [h] at hr; cases hr), fun j hj => ?_⟩
    by_cases hji : j = i
    · subst hji; exact hy.cOp hi hw H
    · have := ready_mono hj hji
      rw [H.1] at this
      cases this
  | succ fuel ih =>
    intro listed a w hfree hr hw hy H
    refine ⟨fun h => (by rw [h] at hr; cases hr), fun j hj => ?_⟩
    by_cases hji : j = i
    · subst hji; exact hy.cOp hi hw H
    · have h1 := H.2 j (ready_mono hj hji)
      obtain ⟨hjun, oj, hoj, hall⟩ := mem_ready.1 hj
      have hnot : ∀ e ∈ oj.after, Region.binds .any e = true → e.on ≠ i := fun e he hb heq => by
        have h1 := hall e he hb
        have h0 := (mem_ready.1 hr).1
        rw [heq] at h1
        rcases Nat.lt_or_ge i listed.size with h' | h'
        · simp [h'] at h0 h1; rw [h0] at h1; cases h1
        · simp [Array.getElem?_eq_none h'] at h1
      have h2 := cOp_put hoj (hfree j oj hoj hji hjun hnot) (fun cs b => hsel i oi cs b hi) (fun cs b => hsel j oj cs b hoj) hw hy h1
      have hfree' : ∀ k ok, ops[k]? = some ok → k ≠ i → (listed.setIfInBounds j true).getD k true = false →
          (∀ e ∈ ok.after, Region.binds .any e = true → e.on ≠ i) → oi.apart ops ok = true := fun k ok hk hki hun hno => by
        refine hfree k ok hk hki ?_ hno
        by_cases hjk : j = k
        · subst hjk; exact hjun
        · rw [getD_set_ne true hjk] at hun; exact hun
      refine cOp_mono (fun a' w' h3 => ih (listed.setIfInBounds j true) a' w' hfree' (ready_mono hr (Ne.symm hji)) h3.1.1 h3.1.2 ?_) h2
      rw [Array.setIfInBounds_comm _ _ hji]
      exact h3.2
end
section
variable {P : Program} {ops : Array Oper} {C : World → Prop} {R : Exit → Act → World → Prop} [Dr]
end

/-- The judgement: as JM, but what all operations keep is told by the facts Δ. -/
def JN [Dr] (P : Program) (n : Nat) (w0 : World) (F : Nat → Prop) (ops : List Oper) (Δ : List Fact) (fuel : Nat) (done : List Bool) (Q : Cont) (e : E) (Γ : List Fact) : Prop :=
  ∀ a w, Fr n e a → Hold w0 F Γ w → cAny P ⟨ops⟩ (Hold w0 F Δ) (up n w0 F Q) fuel ⟨done⟩ a w
section
variable {P : Program} {n : Nat} {w0 : World} {F : Nat → Prop} {ops : List Oper} {Δ : List Fact} {fuel i d : Nat} {done done' : List Bool} {t : TypeId} {pos : String} {aft : Array Edge} {g : Option (Nat × Bool)} {Q : Cont} {e : E} {Γ : List Fact} [Dr]
theorem JC.drawN {id : Nat} (Δ : List Fact) (hm : P.follows .mixedOrders = true) (h : JN P n w0 F ops Δ ops.length (List.replicate ops.length false) Q e Γ) : JC P n w0 F (.region id ⟨ops⟩ true) Q e Γ := by
  intro a w fr ho
  refine wp_region_any hm ?_
  have := cAny_wp _ _ _ _ (h a w.drew fr ho.drew)
  have e1 : (⟨List.replicate ops.length false⟩ : Array Bool) = Array.replicate (⟨ops⟩ : Array Oper).size false := by apply Array.ext'; simp
  rw [← e1]
  exact this
theorem JN.nil (hr : Region.ready .any ⟨ops⟩ ⟨done⟩ = []) (h : Q .normal e Γ) : JN P n w0 F ops Δ fuel done Q e Γ := by
  intro a w fr ho
  cases fuel with
  | zero => exact ⟨hr, e, Γ, h, fr, ho⟩
  | succ fuel => exact ⟨fun _ => ⟨e, Γ, h, fr, ho⟩, by rw [hr]; simp⟩
def takeOkN (ops : List Oper) (done : List Bool) (i : Nat) : Bool :=
  Region.noSelect ⟨ops⟩ && Region.free .any ⟨ops⟩ ⟨done⟩ i && (Region.ready .any ⟨ops⟩ ⟨done⟩).contains i
/-- A quiet operation, whose value what all keep tells, is taken first. -/
theorem JN.take {op : Op} {v : Value} (i : Nat) (hi : ops[i]? = some ⟨some d, op, t, pos, aft, g⟩) (hok : takeOkN ops done i = true) (hg : gtest ops e g = some true) [hs : Sub Γ Δ] (h : OpV P n w0 F ⟨some d, op, t, pos, aft, g⟩ e Δ v) (hd : Nat.blt d n = true)
    (hdone : done.set i true = done') (k : JN P n w0 F ops Δ fuel done' Q ((d, v) :: e) Γ) : JN P n w0 F ops Δ (fuel + 1) done Q e Γ := by
  intro a w fr ho
  simp only [takeOkN, Bool.and_eq_true] at hok
  obtain ⟨⟨h2, h3⟩, h4⟩ := hok
  have hi' : (⟨ops⟩ : Array Oper)[i]? = some ⟨some d, op, t, pos, aft, g⟩ := by simpa using hi
  refine cAny_first hi' (Region.noSelect_spec h2) fuel ⟨done⟩ a w (Region.free_spec hi' h3) (by simpa using h4) (ho.sub hs) ⟨gtest_ok (o := ⟨some d, op, t, pos, aft, g⟩) hg fr, fun w ho => h a w fr ho⟩ ?_
  have := k _ w (fr.put hd v) ho
  rw [← hdone] at this
  simpa using this
theorem JN.reslot (s : Nat) {v : Value} (u : Value) [hs : Lk e s v] (h : v = u) (k : JN P n w0 F ops Δ fuel done Q ((s, u) :: e) Γ) : JN P n w0 F ops Δ fuel done Q e Γ :=
  fun a w fr ho => k a w (fr.again (by rw [← h]; exact hs.ok)) ho
theorem JN.more {Γ' : List Fact} (h : ∀ w, Hold w0 F Γ w → Hold w0 F Γ' w) (k : JN P n w0 F ops Δ fuel done Q e Γ') : JN P n w0 F ops Δ fuel done Q e Γ :=
  fun a w fr ho => k a w fr (h w ho)
/-- An operation, as JR tells it. -/
theorem opN {o : Oper} (i : Nat) (hi : ops[i]? = some o) (hg : gtest ops e o.guard = some true)
    (h : JR P n w0 F ⟨[o]⟩ 0 o [] (fun x e' Γ' => x = .normal ∧ Sub Γ' Δ ∧ JN P n w0 F ops Δ fuel (done.set i true) Q e' Γ') e Γ) (a : Act) (w : World) (fr : Fr n e a) (ho : Hold w0 F Γ w) :
    cOp P ⟨ops⟩ (Hold w0 F Δ) i (cAny P ⟨ops⟩ (Hold w0 F Δ) (up n w0 F Q) fuel ((⟨done⟩ : Array Bool).setIfInBounds i true)) a w := by
  have hi' : (⟨ops⟩ : Array Oper)[i]? = some o := by simpa using hi
  unfold cOp
  simp only [hi']
  rw [if_pos (gtest_ok hg fr)]
  have h1 := h rfl a w fr ho
  have key : ∀ (K K' : Act → World → Prop) (Q1 Q2 : Exit → Act → World → Prop), (∀ a w, K a w → K' a w) → (∀ x a w, Q1 x a w → x = .normal) → o.wp P a w K Q1 → o.wp P a w K' Q2 := by
    intro K K' Q1 Q2 hk hq hh
    have hh' := Oper.wp_mono (P := P) hk hh
    unfold Oper.wp at *
    generalize (execOp a.eval o).run P w = r at *
    cases r with
    | ok n w' =>
      cases n <;> simp only [Oper.upon] at hh' ⊢ <;> first | exact hh' | skip
      refine Calls.mono hh' fun e w'' he => ?_
      cases e with
      | returned v => exact he
      | panicked c => have := hq _ _ _ he; cases this
      | outgrown => obtain ⟨_, _, h⟩ := he; have := hq _ _ _ h; cases this
    | halt x w' => cases x <;> simp only [Oper.upon] at hh' ⊢ <;> first | exact hh' | (have := hq _ _ _ hh'; cases this)
  refine key _ _ _ _ (fun a' w' hk => ?_) ?_ h1
  · simp only [List.range'_zero, List.length_nil, wpOps] at hk
    obtain ⟨e', Γ', ⟨_, hs, hj⟩, fr', ho'⟩ := hk
    have := hj a' w' fr' ho'
    exact ⟨fun _ => ho'.sub hs, by simpa using this⟩
  · rintro x a w ⟨e', Γ', ⟨hx, _⟩, _⟩
    exact hx
theorem JN.op {o : Oper} (i : Nat) (hr : Region.ready .any ⟨ops⟩ ⟨done⟩ = [i]) (hi : ops[i]? = some o) (hg : gtest ops e o.guard = some true)
    (h : JR P n w0 F ⟨[o]⟩ 0 o [] (fun x e' Γ' => x = .normal ∧ Sub Γ' Δ ∧ JN P n w0 F ops Δ fuel (done.set i true) Q e' Γ') e Γ) : JN P n w0 F ops Δ (fuel + 1) done Q e Γ := by
  intro a w fr ho
  refine ⟨fun h0 => ?_, fun j hj => ?_⟩
  · rw [h0] at hr; cases hr
  · rw [hr] at hj
    simp only [List.mem_singleton] at hj; subst hj
    exact opN j hi hg h a w fr ho
end
end Ab
end Go.Proofs.YtcmfemfndadfmaaGreat

/- Contract of dag's graph.add. -/
namespace Go.Proofs.YtcmfemfndadfmaaGreat
namespace Ab
open Go Go.RowKit
set_option linter.unusedVariables false
set_option linter.unusedSimpArgs false
set_option synthInstance.maxSize 4000
set_option synthInstance.maxHeartbeats 400000
attribute [local irreducible] JC JO JR JQ andThen inBlock OpV Gives retTo JM JS

attribute [local irreducible] JN
attribute [local irreducible] ents hashC graphA
abbrev AddY (R : List Row) (c : Commit) := { y : List ID × Nat × Bool // y.2.2 = (addOk (grOf R) c && addGen (grOf R) c) ∧ (y.2.2 = true → y.1.Nodup ∧ isKnown (grOf R) c y.1) }
abbrev addB (bo bk : Nat) (R : List Row) (c : Commit) (a : Option Addr) (k : Nat) (Γ : List Fact) (S : List ID) (ba : Nat) : List Fact :=
  .omap bo (ents idV (ofM (R ++ [((c, S), (a, k, ba))]))) (ofM (R ++ [((c, S), (a, k, ba))])).length :: .omap bk (ents idV (knM (R ++ [((c, S), (a, k, ba))]))) (knM (R ++ [((c, S), (a, k, ba))])).length :: .st (graphA (R ++ [((c, S), (a, k, ba))])) :: Γ
set_option maxHeartbeats 4000000 in
theorem add_graph {w0 w : World} {F : Nat → Prop} {Γ : List Fact} {bo bk : Nat} {R : List Row} {c : Commit} {a : Option Addr} {k : Nat}
    (hn : (cids (nodes (grOf R))).Nodup) (hS : ∀ r ∈ R, r.1.2.Nodup) (hnew : idC c ∉ cids (nodes (grOf R))) (hg : ∀ r ∈ R, 0 ≤ r.1.1.gen ∧ r.1.1.gen ≤ 1048576)
    (ho : Hold w0 F (.omap bo (ents idV (ofM R)) (ofM R).length :: .omap bk (ents idV (knM R)) (knM R).length :: .st (graphA R) :: .st (sl a k c.parents) :: Γ) w) :
    Calls Tryz.prog 88 ⟨[.agg ⟨[.map (some bo), .map (some bk)]⟩, .agg ⟨idc (idC c)⟩, commitV c a k]⟩ w fun x w' =>
      ∃ y : AddY R c, x = .returned (.bool y.1.2.2) ∧ Hold w0 F (if y.1.2.2 = true then addB bo bk R c a k Γ y.1.1 y.1.2.1 else Γ) w' := by
  have hpl : c.parents.length < 9223372036854775807 := by
    have h1 : (sl a k c.parents).holds _ w := ho.sat (.st (sl a k c.parents)) (by simp)
    have := h1.2.2.1; simp only [lim] at this; omega
  have hkO : ((ofM R).map (·.1)).Nodup := by rw [ofM_keys]; exact hn
  have hkK : ((knM R).map (·.1)).Nodup := by rw [knM_keys]; exact hn
  refine calls_of (v := fun y : AddY R c => .bool y.1.2.2) (B := fun y => if y.1.2.2 = true then addB bo bk R c a k Γ y.1.1 y.1.2.1 else Γ) Tryz.func88 rfl Tryz.ntmps88 rfl rfl _ ho ?_
  repeat (first|refine Wa ?_|refine Wb ?_|refine Wc ?_|refine Wd ?_|refine We rfl ?_|refine Wf (by first|exact Va|exact Vb|exact Vc|exact Vd|exact Ve|exact Vf|exact Vg|exact Vh|exact Vi|exact Vj|exact Vk (by omega)|exact Vl|exact Vm|exact Vn|exact Vo|exact Vp|exact Vq|exact Vr|exact Vs (by omega)|exact Vt (by omega)|exact Vu (by omega)|exact Vv (by omega)|exact Vw|exact Vx|exact Vy|exact Vz|exact VA|exact VB|exact VC|exact VD|exact VE|exact VF) rfl ?_|(refine Wg rfl ?_; intro _)|(refine Wh rfl ?_; intro _)|refine Wi ?_|refine Wj ?_|refine Wk ?_|refine Wl ?_|refine Wm ?_|refine Wn ?_|refine Wo ?_|refine Wp ?_|refine Wq rfl ?_|refine Wr ?_|refine Ws ?_|refine Wt ?_|refine Wu ?_|refine Wv rfl rfl ?_|(refine Ww rfl ⟨rfl, by decide, by decide, by decide⟩ ?_; intro _))
  rename_i b3 b4 b5
  refine JR.makeSet idV rfl ?_
  intro ba
  repeat (first|refine Wa ?_|refine Wb ?_|refine Wc ?_|refine Wd ?_|refine We rfl ?_|refine Wf (by first|exact Va|exact Vb|exact Vc|exact Vd|exact Ve|exact Vf|exact Vg|exact Vh|exact Vi|exact Vj|exact Vk (by omega)|exact Vl|exact Vm|exact Vn|exact Vo|exact Vp|exact Vq|exact Vr|exact Vs (by omega)|exact Vt (by omega)|exact Vu (by omega)|exact Vv (by omega)|exact Vw|exact Vx|exact Vy|exact Vz|exact VA|exact VB|exact VC|exact VD|exact VE|exact VF) rfl ?_|(refine Wg rfl ?_; intro _)|(refine Wh rfl ?_; intro _)|refine Wi ?_|refine Wj ?_|refine Wk ?_|refine Wl ?_|refine Wm ?_|refine Wn ?_|refine Wo ?_|refine Wp ?_|refine Wq rfl ?_|refine Wr ?_|refine Ws ?_|refine Wt ?_|refine Wu ?_|refine Wv rfl rfl ?_|(refine Ww rfl ⟨rfl, by decide, by decide, by decide⟩ ?_; intro _))
  refine JC.loop3 (fun (i : Nat) (A : List ID) (g : Int) => [(3, .pointer (some ⟨b3, 0, none⟩)), (4, .pointer (some ⟨b4, 0, none⟩)), (5, .pointer (some ⟨b5, 0, none⟩)), (7, .int .i64 g), (8, .map (some ba)), (20, .slice a c.parents.length k), (21, .int .i64 (c.parents.length : Int)), (22, .int .i64 (i : Int))])
    (fun i A g => .omap bo (ents idV (ofM R)) (ofM R).length :: .omap bk (ents idV (knM R)) (knM R).length :: .own b3 70 [.map (some bo), .map (some bk)] :: .own b4 48 (idc (idC c)) :: .own b5 29 [.int .i64 c.ev.node, .int .i64 c.ev.seq, .int .i64 c.gen, .slice a c.parents.length k, .int .i64 c.op.kind, .string c.op.key, .string c.op.elem, .int .i64 c.op.n] :: .omap ba (ents idV (sety A)) A.length :: .st (graphA R) :: .st (sl a k c.parents) :: Γ)
    (fun i A g => i ≤ c.parents.length ∧ A.Nodup ∧ (∀ p ∈ c.parents.take i, p ∈ cids (nodes (grOf R))) ∧ (∀ x, x ∈ A ↔ ∃ p ∈ c.parents.take i, x ∈ knownBy (grOf R) p) ∧ g = maxGen (nodes (grOf R)) (c.parents.take i) ∧ 0 ≤ g ∧ g ≤ 1048576)
    (fun i _ _ => c.parents.length - i) 0 [] 0 ⟨Nat.zero_le _, List.nodup_nil, by simp, by simp, by simp [maxGen], by decide, by decide⟩ inferInstance ?_
  intro i A g ⟨hi, hA, hin, hmem, hmax, hg0, hg1⟩
  repeat (first|refine Wa ?_|refine Wb ?_|refine Wc ?_|refine Wd ?_|refine We rfl ?_|refine Wf (by first|exact Va|exact Vb|exact Vc|exact Vd|exact Ve|exact Vf|exact Vg|exact Vh|exact Vi|exact Vj|exact Vk (by omega)|exact Vl|exact Vm|exact Vn|exact Vo|exact Vp|exact Vq|exact Vr|exact Vs (by omega)|exact Vt (by omega)|exact Vu (by omega)|exact Vv (by omega)|exact Vw|exact Vx|exact Vy|exact Vz|exact VA|exact VB|exact VC|exact VD|exact VE|exact VF) rfl ?_|(refine Wg rfl ?_; intro _)|(refine Wh rfl ?_; intro _)|refine Wi ?_|refine Wj ?_|refine Wk ?_|refine Wl ?_|refine Wm ?_|refine Wn ?_|refine Wo ?_|refine Wp ?_|refine Wq rfl ?_|refine Wr ?_|refine Ws ?_|refine Wt ?_|refine Wu ?_|refine Wv rfl rfl ?_|(refine Ww rfl ⟨rfl, by decide, by decide, by decide⟩ ?_; intro _))
  refine JC.test (fun hlt => ?_) (fun hge => ?_)
  · have hlt' : i < c.parents.length := by omega
    repeat (first|refine Wa ?_|refine Wb ?_|refine Wc ?_|refine Wd ?_|refine We rfl ?_|refine Wf (by first|exact Va|exact Vb|exact Vc|exact Vd|exact Ve|exact Vf|exact Vg|exact Vh|exact Vi|exact Vj|exact Vk (by omega)|exact Vl|exact Vm|exact Vn|exact Vo|exact Vp|exact Vq|exact Vr|exact Vs (by omega)|exact Vt (by omega)|exact Vu (by omega)|exact Vv (by omega)|exact Vw|exact Vx|exact Vy|exact Vz|exact VA|exact VB|exact VC|exact VD|exact VE|exact VF) rfl ?_|(refine Wg rfl ?_; intro _)|(refine Wh rfl ?_; intro _)|refine Wi ?_|refine Wj ?_|refine Wk ?_|refine Wl ?_|refine Wm ?_|refine Wn ?_|refine Wo ?_|refine Wp ?_|refine Wq rfl ?_|refine Wr ?_|refine Ws ?_|refine Wt ?_|refine Wu ?_|refine Wv rfl rfl ?_|(refine Ww rfl ⟨rfl, by decide, by decide, by decide⟩ ?_; intro _))
    refine JR.indexID rfl hlt' ?_
    intro bp op
    repeat (first|refine Wa ?_|refine Wb ?_|refine Wc ?_|refine Wd ?_|refine We rfl ?_|refine Wf (by first|exact Va|exact Vb|exact Vc|exact Vd|exact Ve|exact Vf|exact Vg|exact Vh|exact Vi|exact Vj|exact Vk (by omega)|exact Vl|exact Vm|exact Vn|exact Vo|exact Vp|exact Vq|exact Vr|exact Vs (by omega)|exact Vt (by omega)|exact Vu (by omega)|exact Vv (by omega)|exact Vw|exact Vx|exact Vy|exact Vz|exact VA|exact VB|exact VC|exact VD|exact VE|exact VF) rfl ?_|(refine Wg rfl ?_; intro _)|(refine Wh rfl ?_; intro _)|refine Wi ?_|refine Wj ?_|refine Wk ?_|refine Wl ?_|refine Wm ?_|refine Wn ?_|refine Wo ?_|refine Wp ?_|refine Wq rfl ?_|refine Wr ?_|refine Ws ?_|refine Wt ?_|refine Wu ?_|refine Wv rfl rfl ?_|(refine Ww rfl ⟨rfl, by decide, by decide, by decide⟩ ?_; intro _))
    have hpm : c.parents[i] ∈ c.parents := List.getElem_mem hlt'
    by_cases hin' : c.parents[i] ∈ cids (nodes (grOf R))
    · obtain ⟨r, hr, hre, hgo, hgk, hkn⟩ := row_of hn hin'
      have hga : genAt (nodes (grOf R)) c.parents[i] = r.1.1.gen := by
        rw [← hre]; exact genAt_of hn (by rw [nodes_gr]; exact List.mem_map.2 ⟨r, hr, rfl⟩)
      obtain ⟨hr0, hr1⟩ := hg r hr
      refine Wf (OpV.lookupOk (M := ofM R) (v := commitV r.1.1 r.2.1 r.2.2.1) (is := true) c.parents[i] hkO (by rw [hgo]; rfl) (by rw [hgo]; rfl)) rfl ?_
      repeat (first|refine Wa ?_|refine Wb ?_|refine Wc ?_|refine Wd ?_|refine We rfl ?_|refine Wf (by first|exact Va|exact Vb|exact Vc|exact Vd|exact Ve|exact Vf|exact Vg|exact Vh|exact Vi|exact Vj|exact Vk (by omega)|exact Vl|exact Vm|exact Vn|exact Vo|exact Vp|exact Vq|exact Vr|exact Vs (by omega)|exact Vt (by omega)|exact Vu (by omega)|exact Vv (by omega)|exact Vw|exact Vx|exact Vy|exact Vz|exact VA|exact VB|exact VC|exact VD|exact VE|exact VF) rfl ?_|(refine Wg rfl ?_; intro _)|(refine Wh rfl ?_; intro _)|refine Wi ?_|refine Wj ?_|refine Wk ?_|refine Wl ?_|refine Wm ?_|refine Wn ?_|refine Wo ?_|refine Wp ?_|refine Wq rfl ?_|refine Wr ?_|refine Ws ?_|refine Wt ?_|refine Wu ?_|refine Wv rfl rfl ?_|(refine Ww rfl ⟨rfl, by decide, by decide, by decide⟩ ?_; intro _))
      refine Wf (OpV.setHas (L := A) c.parents[i] hA) rfl ?_
      repeat (first|refine Wa ?_|refine Wb ?_|refine Wc ?_|refine Wd ?_|refine We rfl ?_|refine Wf (by first|exact Va|exact Vb|exact Vc|exact Vd|exact Ve|exact Vf|exact Vg|exact Vh|exact Vi|exact Vj|exact Vk (by omega)|exact Vl|exact Vm|exact Vn|exact Vo|exact Vp|exact Vq|exact Vr|exact Vs (by omega)|exact Vt (by omega)|exact Vu (by omega)|exact Vv (by omega)|exact Vw|exact Vx|exact Vy|exact Vz|exact VA|exact VB|exact VC|exact VD|exact VE|exact VF) rfl ?_|(refine Wg rfl ?_; intro _)|(refine Wh rfl ?_; intro _)|refine Wi ?_|refine Wj ?_|refine Wk ?_|refine Wl ?_|refine Wm ?_|refine Wn ?_|refine Wo ?_|refine Wp ?_|refine Wq rfl ?_|refine Wr ?_|refine Ws ?_|refine Wt ?_|refine Wu ?_|refine Wv rfl rfl ?_|(refine Ww rfl ⟨rfl, by decide, by decide, by decide⟩ ?_; intro _))
      refine JC.test (fun hy => ?_) (fun hno => ?_)
      · obtain ⟨q, hq, hqk⟩ := (hmem _).1 (by simpa using hy)
        repeat (first|refine Wa ?_|refine Wb ?_|refine Wc ?_|refine Wd ?_|refine We rfl ?_|refine Wf (by first|exact Va|exact Vb|exact Vc|exact Vd|exact Ve|exact Vf|exact Vg|exact Vh|exact Vi|exact Vj|exact Vk (by omega)|exact Vl|exact Vm|exact Vn|exact Vo|exact Vp|exact Vq|exact Vr|exact Vs (by omega)|exact Vt (by omega)|exact Vu (by omega)|exact Vv (by omega)|exact Vw|exact Vx|exact Vy|exact Vz|exact VA|exact VB|exact VC|exact VD|exact VE|exact VF) rfl ?_|(refine Wg rfl ?_; intro _)|(refine Wh rfl ?_; intro _)|refine Wi ?_|refine Wj ?_|refine Wk ?_|refine Wl ?_|refine Wm ?_|refine Wn ?_|refine Wo ?_|refine Wp ?_|refine Wq rfl ?_|refine Wr ?_|refine Ws ?_|refine Wt ?_|refine Wu ?_|refine Wv rfl rfl ?_|(refine Ww rfl ⟨rfl, by decide, by decide, by decide⟩ ?_; intro _))
        exact CT.done ⟨([], 0, false), by rw [not_ok_of_known hpm (List.mem_of_mem_take hq) hqk]; rfl, by simp⟩ rfl (fun w ho => (ho.ent : Hold w0 F Γ w))
      · repeat (first|refine Wa ?_|refine Wb ?_|refine Wc ?_|refine Wd ?_|refine We rfl ?_|refine Wf (by first|exact Va|exact Vb|exact Vc|exact Vd|exact Ve|exact Vf|exact Vg|exact Vh|exact Vi|exact Vj|exact Vk (by omega)|exact Vl|exact Vm|exact Vn|exact Vo|exact Vp|exact Vq|exact Vr|exact Vs (by omega)|exact Vt (by omega)|exact Vu (by omega)|exact Vv (by omega)|exact Vw|exact Vx|exact Vy|exact Vz|exact VA|exact VB|exact VC|exact VD|exact VE|exact VF) rfl ?_|(refine Wg rfl ?_; intro _)|(refine Wh rfl ?_; intro _)|refine Wi ?_|refine Wj ?_|refine Wk ?_|refine Wl ?_|refine Wm ?_|refine Wn ?_|refine Wo ?_|refine Wp ?_|refine Wq rfl ?_|refine Wr ?_|refine Ws ?_|refine Wt ?_|refine Wu ?_|refine Wv rfl rfl ?_|(refine Ww rfl ⟨rfl, by decide, by decide, by decide⟩ ?_; intro _))
        refine Wf OpV.max rfl ?_
        repeat (first|refine Wa ?_|refine Wb ?_|refine Wc ?_|refine Wd ?_|refine We rfl ?_|refine Wf (by first|exact Va|exact Vb|exact Vc|exact Vd|exact Ve|exact Vf|exact Vg|exact Vh|exact Vi|exact Vj|exact Vk (by omega)|exact Vl|exact Vm|exact Vn|exact Vo|exact Vp|exact Vq|exact Vr|exact Vs (by omega)|exact Vt (by omega)|exact Vu (by omega)|exact Vv (by omega)|exact Vw|exact Vx|exact Vy|exact Vz|exact VA|exact VB|exact VC|exact VD|exact VE|exact VF) rfl ?_|(refine Wg rfl ?_; intro _)|(refine Wh rfl ?_; intro _)|refine Wi ?_|refine Wj ?_|refine Wk ?_|refine Wl ?_|refine Wm ?_|refine Wn ?_|refine Wo ?_|refine Wp ?_|refine Wq rfl ?_|refine Wr ?_|refine Ws ?_|refine Wt ?_|refine Wu ?_|refine Wv rfl rfl ?_|(refine Ww rfl ⟨rfl, by decide, by decide, by decide⟩ ?_; intro _))
        refine Wf (OpV.lookupNo (M := knM R) (v := .map (some r.2.2.2)) c.parents[i] hkK (by rw [hgk]; rfl)) rfl ?_
        refine JO.more (fun w1 ho => ho.add (A := rmap r.2.2.2 (ents idV (sety r.1.2)) r.1.2.length) (graph_row (ho.get (A := graphA R)) hr).2) ?_
        refine We rfl ?_
        refine JR.rangeS rfl ?_
        intro ri
        repeat (first|refine Wa ?_|refine Wb ?_|refine Wc ?_|refine Wd ?_|refine We rfl ?_|refine Wf (by first|exact Va|exact Vb|exact Vc|exact Vd|exact Ve|exact Vf|exact Vg|exact Vh|exact Vi|exact Vj|exact Vk (by omega)|exact Vl|exact Vm|exact Vn|exact Vo|exact Vp|exact Vq|exact Vr|exact Vs (by omega)|exact Vt (by omega)|exact Vu (by omega)|exact Vv (by omega)|exact Vw|exact Vx|exact Vy|exact Vz|exact VA|exact VB|exact VC|exact VD|exact VE|exact VF) rfl ?_|(refine Wg rfl ?_; intro _)|(refine Wh rfl ?_; intro _)|refine Wi ?_|refine Wj ?_|refine Wk ?_|refine Wl ?_|refine Wm ?_|refine Wn ?_|refine Wo ?_|refine Wp ?_|refine Wq rfl ?_|refine Wr ?_|refine Ws ?_|refine Wt ?_|refine Wu ?_|refine Wv rfl rfl ?_|(refine Ww rfl ⟨rfl, by decide, by decide, by decide⟩ ?_; intro _))
        refine JC.loop2 (fun (S : List Nat) (A' : List ID) => [(3, .pointer (some ⟨b3, 0, none⟩)), (4, .pointer (some ⟨b4, 0, none⟩)), (5, .pointer (some ⟨b5, 0, none⟩)), (7, .int .i64 (max g r.1.1.gen)), (8, .map (some ba)), (20, .slice a c.parents.length k), (21, .int .i64 (c.parents.length : Int)), (22, .int .i64 (i : Int)), (48, .pointer (some ⟨ri, 0, none⟩))])
          (fun S A' => .omap bo (ents idV (ofM R)) (ofM R).length :: .omap bk (ents idV (knM R)) (knM R).length :: .own b3 70 [.map (some bo), .map (some bk)] :: .own b4 48 (idc (idC c)) :: .own b5 29 [.int .i64 c.ev.node, .int .i64 c.ev.seq, .int .i64 c.gen, .slice a c.parents.length k, .int .i64 c.op.kind, .string c.op.key, .string c.op.elem, .int .i64 c.op.n] :: .omap ba (ents idV (sety A')) A'.length :: .obj ri (.mapIter (some r.2.2.2) r.1.2.length S.toArray r.1.2.length) :: .st (rmap r.2.2.2 (ents idV (sety r.1.2)) r.1.2.length) :: .st (graphA R) :: .st (sl a k c.parents) :: Γ)
          (fun S A' => S.Nodup ∧ (∀ j ∈ S, j < r.1.2.length) ∧ A'.Nodup ∧ ∀ x, x ∈ A' ↔ x ∈ A ∨ ∃ j ∈ S, r.1.2[j]? = some x)
          (fun S _ => r.1.2.length - S.length) [] A ⟨List.nodup_nil, by simp, hA, by simp⟩ inferInstance ?_
        intro S A' ⟨hS1, hS2, hA', hmem'⟩
        have hSl : S.length ≤ r.1.2.length := nodup_le hS1 hS2
        repeat (first|refine Wa ?_|refine Wb ?_|refine Wc ?_|refine Wd ?_|refine We rfl ?_|refine Wf (by first|exact Va|exact Vb|exact Vc|exact Vd|exact Ve|exact Vf|exact Vg|exact Vh|exact Vi|exact Vj|exact Vk (by omega)|exact Vl|exact Vm|exact Vn|exact Vo|exact Vp|exact Vq|exact Vr|exact Vs (by omega)|exact Vt (by omega)|exact Vu (by omega)|exact Vv (by omega)|exact Vw|exact Vx|exact Vy|exact Vz|exact VA|exact VB|exact VC|exact VD|exact VE|exact VF) rfl ?_|(refine Wg rfl ?_; intro _)|(refine Wh rfl ?_; intro _)|refine Wi ?_|refine Wj ?_|refine Wk ?_|refine Wl ?_|refine Wm ?_|refine Wn ?_|refine Wo ?_|refine Wp ?_|refine Wq rfl ?_|refine Wr ?_|refine Ws ?_|refine Wt ?_|refine Wu ?_|refine Wv rfl rfl ?_|(refine Ww rfl ⟨rfl, by decide, by decide, by decide⟩ ?_; intro _))
        refine JR.nextS rfl hS2 (fun hall => ?_) (fun j hj hjS => ?_)
        · repeat (first|refine Wa ?_|refine Wb ?_|refine Wc ?_|refine Wd ?_|refine We rfl ?_|refine Wf (by first|exact Va|exact Vb|exact Vc|exact Vd|exact Ve|exact Vf|exact Vg|exact Vh|exact Vi|exact Vj|exact Vk (by omega)|exact Vl|exact Vm|exact Vn|exact Vo|exact Vp|exact Vq|exact Vr|exact Vs (by omega)|exact Vt (by omega)|exact Vu (by omega)|exact Vv (by omega)|exact Vw|exact Vx|exact Vy|exact Vz|exact VA|exact VB|exact VC|exact VD|exact VE|exact VF) rfl ?_|(refine Wg rfl ?_; intro _)|(refine Wh rfl ?_; intro _)|refine Wi ?_|refine Wj ?_|refine Wk ?_|refine Wl ?_|refine Wm ?_|refine Wn ?_|refine Wo ?_|refine Wp ?_|refine Wq rfl ?_|refine Wr ?_|refine Ws ?_|refine Wt ?_|refine Wu ?_|refine Wv rfl rfl ?_|(refine Ww rfl ⟨rfl, by decide, by decide, by decide⟩ ?_; intro _))
          refine ⟨i + 1, A', max g r.1.1.gen, ⟨by omega, hA', fun p hp => ?_, fun x => ?_, ?_, by omega, by omega⟩, by omega, inferInstance⟩
          · rcases (mem_take_succ hlt').1 hp with hp | rfl
            · exact hin p hp
            · exact hin'
          · rw [hmem', hmem]
            constructor
            · rintro (⟨q, hq, hx⟩ | ⟨j, hj, hx⟩)
              · exact ⟨q, (mem_take_succ hlt').2 (.inl hq), hx⟩
              · exact ⟨c.parents[i], (mem_take_succ hlt').2 (.inr rfl), by rw [hkn]; exact List.mem_of_getElem? hx⟩
            · rintro ⟨q, hq, hx⟩
              rcases (mem_take_succ hlt').1 hq with hq | rfl
              · exact .inl ⟨q, hq, hx⟩
              · rw [hkn] at hx
                obtain ⟨j, hj, rfl⟩ := List.getElem_of_mem hx
                exact .inr ⟨j, hall j hj, List.getElem?_eq_getElem hj⟩
          · rw [List.take_succ_eq_append_getElem hlt', maxGen_snoc, ← hmax, hga]
        · repeat (first|refine Wa ?_|refine Wb ?_|refine Wc ?_|refine Wd ?_|refine We rfl ?_|refine Wf (by first|exact Va|exact Vb|exact Vc|exact Vd|exact Ve|exact Vf|exact Vg|exact Vh|exact Vi|exact Vj|exact Vk (by omega)|exact Vl|exact Vm|exact Vn|exact Vo|exact Vp|exact Vq|exact Vr|exact Vs (by omega)|exact Vt (by omega)|exact Vu (by omega)|exact Vv (by omega)|exact Vw|exact Vx|exact Vy|exact Vz|exact VA|exact VB|exact VC|exact VD|exact VE|exact VF) rfl ?_|(refine Wg rfl ?_; intro _)|(refine Wh rfl ?_; intro _)|refine Wi ?_|refine Wj ?_|refine Wk ?_|refine Wl ?_|refine Wm ?_|refine Wn ?_|refine Wo ?_|refine Wp ?_|refine Wq rfl ?_|refine Wr ?_|refine Ws ?_|refine Wt ?_|refine Wu ?_|refine Wv rfl rfl ?_|(refine Ww rfl ⟨rfl, by decide, by decide, by decide⟩ ?_; intro _))
          refine Wf (OpV.entryS hj) rfl ?_
          repeat (first|refine Wa ?_|refine Wb ?_|refine Wc ?_|refine Wd ?_|refine We rfl ?_|refine Wf (by first|exact Va|exact Vb|exact Vc|exact Vd|exact Ve|exact Vf|exact Vg|exact Vh|exact Vi|exact Vj|exact Vk (by omega)|exact Vl|exact Vm|exact Vn|exact Vo|exact Vp|exact Vq|exact Vr|exact Vs (by omega)|exact Vt (by omega)|exact Vu (by omega)|exact Vv (by omega)|exact Vw|exact Vx|exact Vy|exact Vz|exact VA|exact VB|exact VC|exact VD|exact VE|exact VF) rfl ?_|(refine Wg rfl ?_; intro _)|(refine Wh rfl ?_; intro _)|refine Wi ?_|refine Wj ?_|refine Wk ?_|refine Wl ?_|refine Wm ?_|refine Wn ?_|refine Wo ?_|refine Wp ?_|refine Wq rfl ?_|refine Wr ?_|refine Ws ?_|refine Wt ?_|refine Wu ?_|refine Wv rfl rfl ?_|(refine Ww rfl ⟨rfl, by decide, by decide, by decide⟩ ?_; intro _))
          refine JR.setAdd r.1.2[j] hA' ?_
          have hS3 : (S ++ [j]).Nodup := List.nodup_append.2 ⟨hS1, by simp, fun x hx y hy => by simp at hy; subst hy; exact fun e => hjS (e ▸ hx)⟩
          have hS4 : ∀ i ∈ S ++ [j], i < r.1.2.length := fun i hi => by
            rcases List.mem_append.1 hi with hi | hi
            · exact hS2 i hi
            · simp at hi; subst hi; exact hj
          have hlt2 := nodup_le hS3 hS4
          repeat (first|refine Wa ?_|refine Wb ?_|refine Wc ?_|refine Wd ?_|refine We rfl ?_|refine Wf (by first|exact Va|exact Vb|exact Vc|exact Vd|exact Ve|exact Vf|exact Vg|exact Vh|exact Vi|exact Vj|exact Vk (by omega)|exact Vl|exact Vm|exact Vn|exact Vo|exact Vp|exact Vq|exact Vr|exact Vs (by omega)|exact Vt (by omega)|exact Vu (by omega)|exact Vv (by omega)|exact Vw|exact Vx|exact Vy|exact Vz|exact VA|exact VB|exact VC|exact VD|exact VE|exact VF) rfl ?_|(refine Wg rfl ?_; intro _)|(refine Wh rfl ?_; intro _)|refine Wi ?_|refine Wj ?_|refine Wk ?_|refine Wl ?_|refine Wm ?_|refine Wn ?_|refine Wo ?_|refine Wp ?_|refine Wq rfl ?_|refine Wr ?_|refine Ws ?_|refine Wt ?_|refine Wu ?_|refine Wv rfl rfl ?_|(refine Ww rfl ⟨rfl, by decide, by decide, by decide⟩ ?_; intro _))
          refine ⟨S ++ [j], addK A' r.1.2[j], ⟨hS3, hS4, addK_nodup hA' _, fun x => ?_⟩, by simp at hlt2 ⊢; omega, inferInstance⟩
          rw [mem_addK, hmem']
          constructor
          · rintro ((h | ⟨q, hq, hx⟩) | rfl)
            · exact .inl h
            · exact .inr ⟨q, by simp [hq], hx⟩
            · exact .inr ⟨j, by simp, List.getElem?_eq_getElem hj⟩
          · rintro (h | ⟨q, hq, hx⟩)
            · exact .inl (.inl h)
            · rcases List.mem_append.1 hq with hq | hq
              · exact .inl (.inr ⟨q, hq, hx⟩)
              · simp at hq; subst hq
                rw [List.getElem?_eq_getElem hj] at hx
                injection hx with hx
                exact .inr hx.symm
    · obtain ⟨hgo, hgk⟩ := row_none hin'
      refine Wf (OpV.lookupOk (M := ofM R) (v := .agg ⟨[.int .i64 0, .int .i64 0, .int .i64 0, .slice none 0 0, .int .i64 0, .string .empty, .string .empty, .int .i64 0]⟩) (is := false) c.parents[i] hkO (by rw [hgo]; rfl) (by rw [hgo]; rfl)) rfl ?_
      repeat (first|refine Wa ?_|refine Wb ?_|refine Wc ?_|refine Wd ?_|refine We rfl ?_|refine Wf (by first|exact Va|exact Vb|exact Vc|exact Vd|exact Ve|exact Vf|exact Vg|exact Vh|exact Vi|exact Vj|exact Vk (by omega)|exact Vl|exact Vm|exact Vn|exact Vo|exact Vp|exact Vq|exact Vr|exact Vs (by omega)|exact Vt (by omega)|exact Vu (by omega)|exact Vv (by omega)|exact Vw|exact Vx|exact Vy|exact Vz|exact VA|exact VB|exact VC|exact VD|exact VE|exact VF) rfl ?_|(refine Wg rfl ?_; intro _)|(refine Wh rfl ?_; intro _)|refine Wi ?_|refine Wj ?_|refine Wk ?_|refine Wl ?_|refine Wm ?_|refine Wn ?_|refine Wo ?_|refine Wp ?_|refine Wq rfl ?_|refine Wr ?_|refine Ws ?_|refine Wt ?_|refine Wu ?_|refine Wv rfl rfl ?_|(refine Ww rfl ⟨rfl, by decide, by decide, by decide⟩ ?_; intro _)|refine Wx rfl rfl ?_)
      exact CT.done ⟨([], 0, false), by rw [not_ok_of_none hpm hin']; rfl, by simp⟩ rfl (fun w ho => (ho.ent : Hold w0 F Γ w))
  · obtain rfl : i = c.parents.length := by omega
    rw [List.take_length] at hin hmem hmax
    repeat (first|refine Wa ?_|refine Wb ?_|refine Wc ?_|refine Wd ?_|refine We rfl ?_|refine Wf (by first|exact Va|exact Vb|exact Vc|exact Vd|exact Ve|exact Vf|exact Vg|exact Vh|exact Vi|exact Vj|exact Vk (by omega)|exact Vl|exact Vm|exact Vn|exact Vo|exact Vp|exact Vq|exact Vr|exact Vs (by omega)|exact Vt (by omega)|exact Vu (by omega)|exact Vv (by omega)|exact Vw|exact Vx|exact Vy|exact Vz|exact VA|exact VB|exact VC|exact VD|exact VE|exact VF) rfl ?_|(refine Wg rfl ?_; intro _)|(refine Wh rfl ?_; intro _)|refine Wi ?_|refine Wj ?_|refine Wk ?_|refine Wl ?_|refine Wm ?_|refine Wn ?_|refine Wo ?_|refine Wp ?_|refine Wq rfl ?_|refine Wr ?_|refine Ws ?_|refine Wt ?_|refine Wu ?_|refine Wv rfl rfl ?_|(refine Ww rfl ⟨rfl, by decide, by decide, by decide⟩ ?_; intro _))
    refine JC.loop1 (fun (i : Nat) => [(3, .pointer (some ⟨b3, 0, none⟩)), (4, .pointer (some ⟨b4, 0, none⟩)), (5, .pointer (some ⟨b5, 0, none⟩)), (7, .int .i64 g), (8, .map (some ba)), (57, .slice a c.parents.length k), (58, .int .i64 (c.parents.length : Int)), (59, .int .i64 (i : Int))])
      (fun i => .omap bo (ents idV (ofM R)) (ofM R).length :: .omap bk (ents idV (knM R)) (knM R).length :: .own b3 70 [.map (some bo), .map (some bk)] :: .own b4 48 (idc (idC c)) :: .own b5 29 [.int .i64 c.ev.node, .int .i64 c.ev.seq, .int .i64 c.gen, .slice a c.parents.length k, .int .i64 c.op.kind, .string c.op.key, .string c.op.elem, .int .i64 c.op.n] :: .omap ba (ents idV (sety A)) A.length :: .st (graphA R) :: .st (sl a k c.parents) :: Γ)
      (fun i => i ≤ c.parents.length ∧ ∀ p ∈ c.parents.take i, p ∉ A) (fun i => c.parents.length - i) 0 ⟨Nat.zero_le _, by simp⟩ inferInstance ?_
    intro i ⟨hi, hfree⟩
    repeat (first|refine Wa ?_|refine Wb ?_|refine Wc ?_|refine Wd ?_|refine We rfl ?_|refine Wf (by first|exact Va|exact Vb|exact Vc|exact Vd|exact Ve|exact Vf|exact Vg|exact Vh|exact Vi|exact Vj|exact Vk (by omega)|exact Vl|exact Vm|exact Vn|exact Vo|exact Vp|exact Vq|exact Vr|exact Vs (by omega)|exact Vt (by omega)|exact Vu (by omega)|exact Vv (by omega)|exact Vw|exact Vx|exact Vy|exact Vz|exact VA|exact VB|exact VC|exact VD|exact VE|exact VF) rfl ?_|(refine Wg rfl ?_; intro _)|(refine Wh rfl ?_; intro _)|refine Wi ?_|refine Wj ?_|refine Wk ?_|refine Wl ?_|refine Wm ?_|refine Wn ?_|refine Wo ?_|refine Wp ?_|refine Wq rfl ?_|refine Wr ?_|refine Ws ?_|refine Wt ?_|refine Wu ?_|refine Wv rfl rfl ?_|(refine Ww rfl ⟨rfl, by decide, by decide, by decide⟩ ?_; intro _))
    refine JC.test (fun hlt => ?_) (fun hge => ?_)
    · have hlt' : i < c.parents.length := by omega
      repeat (first|refine Wa ?_|refine Wb ?_|refine Wc ?_|refine Wd ?_|refine We rfl ?_|refine Wf (by first|exact Va|exact Vb|exact Vc|exact Vd|exact Ve|exact Vf|exact Vg|exact Vh|exact Vi|exact Vj|exact Vk (by omega)|exact Vl|exact Vm|exact Vn|exact Vo|exact Vp|exact Vq|exact Vr|exact Vs (by omega)|exact Vt (by omega)|exact Vu (by omega)|exact Vv (by omega)|exact Vw|exact Vx|exact Vy|exact Vz|exact VA|exact VB|exact VC|exact VD|exact VE|exact VF) rfl ?_|(refine Wg rfl ?_; intro _)|(refine Wh rfl ?_; intro _)|refine Wi ?_|refine Wj ?_|refine Wk ?_|refine Wl ?_|refine Wm ?_|refine Wn ?_|refine Wo ?_|refine Wp ?_|refine Wq rfl ?_|refine Wr ?_|refine Ws ?_|refine Wt ?_|refine Wu ?_|refine Wv rfl rfl ?_|(refine Ww rfl ⟨rfl, by decide, by decide, by decide⟩ ?_; intro _))
      refine JR.indexID rfl hlt' ?_
      intro bp op
      repeat (first|refine Wa ?_|refine Wb ?_|refine Wc ?_|refine Wd ?_|refine We rfl ?_|refine Wf (by first|exact Va|exact Vb|exact Vc|exact Vd|exact Ve|exact Vf|exact Vg|exact Vh|exact Vi|exact Vj|exact Vk (by omega)|exact Vl|exact Vm|exact Vn|exact Vo|exact Vp|exact Vq|exact Vr|exact Vs (by omega)|exact Vt (by omega)|exact Vu (by omega)|exact Vv (by omega)|exact Vw|exact Vx|exact Vy|exact Vz|exact VA|exact VB|exact VC|exact VD|exact VE|exact VF) rfl ?_|(refine Wg rfl ?_; intro _)|(refine Wh rfl ?_; intro _)|refine Wi ?_|refine Wj ?_|refine Wk ?_|refine Wl ?_|refine Wm ?_|refine Wn ?_|refine Wo ?_|refine Wp ?_|refine Wq rfl ?_|refine Wr ?_|refine Ws ?_|refine Wt ?_|refine Wu ?_|refine Wv rfl rfl ?_|(refine Ww rfl ⟨rfl, by decide, by decide, by decide⟩ ?_; intro _))
      refine Wf (OpV.setHas (L := A) c.parents[i] hA) rfl ?_
      repeat (first|refine Wa ?_|refine Wb ?_|refine Wc ?_|refine Wd ?_|refine We rfl ?_|refine Wf (by first|exact Va|exact Vb|exact Vc|exact Vd|exact Ve|exact Vf|exact Vg|exact Vh|exact Vi|exact Vj|exact Vk (by omega)|exact Vl|exact Vm|exact Vn|exact Vo|exact Vp|exact Vq|exact Vr|exact Vs (by omega)|exact Vt (by omega)|exact Vu (by omega)|exact Vv (by omega)|exact Vw|exact Vx|exact Vy|exact Vz|exact VA|exact VB|exact VC|exact VD|exact VE|exact VF) rfl ?_|(refine Wg rfl ?_; intro _)|(refine Wh rfl ?_; intro _)|refine Wi ?_|refine Wj ?_|refine Wk ?_|refine Wl ?_|refine Wm ?_|refine Wn ?_|refine Wo ?_|refine Wp ?_|refine Wq rfl ?_|refine Wr ?_|refine Ws ?_|refine Wt ?_|refine Wu ?_|refine Wv rfl rfl ?_|(refine Ww rfl ⟨rfl, by decide, by decide, by decide⟩ ?_; intro _))
      refine JC.test (fun hy => ?_) (fun hno => ?_)
      · obtain ⟨q, hq, hqk⟩ := (hmem _).1 (by simpa using hy)
        repeat (first|refine Wa ?_|refine Wb ?_|refine Wc ?_|refine Wd ?_|refine We rfl ?_|refine Wf (by first|exact Va|exact Vb|exact Vc|exact Vd|exact Ve|exact Vf|exact Vg|exact Vh|exact Vi|exact Vj|exact Vk (by omega)|exact Vl|exact Vm|exact Vn|exact Vo|exact Vp|exact Vq|exact Vr|exact Vs (by omega)|exact Vt (by omega)|exact Vu (by omega)|exact Vv (by omega)|exact Vw|exact Vx|exact Vy|exact Vz|exact VA|exact VB|exact VC|exact VD|exact VE|exact VF) rfl ?_|(refine Wg rfl ?_; intro _)|(refine Wh rfl ?_; intro _)|refine Wi ?_|refine Wj ?_|refine Wk ?_|refine Wl ?_|refine Wm ?_|refine Wn ?_|refine Wo ?_|refine Wp ?_|refine Wq rfl ?_|refine Wr ?_|refine Ws ?_|refine Wt ?_|refine Wu ?_|refine Wv rfl rfl ?_|(refine Ww rfl ⟨rfl, by decide, by decide, by decide⟩ ?_; intro _))
        exact CT.done ⟨([], 0, false), by rw [not_ok_of_known (List.getElem_mem hlt') hq hqk]; rfl, by simp⟩ rfl (fun w ho => (ho.ent : Hold w0 F Γ w))
      · repeat (first|refine Wa ?_|refine Wb ?_|refine Wc ?_|refine Wd ?_|refine We rfl ?_|refine Wf (by first|exact Va|exact Vb|exact Vc|exact Vd|exact Ve|exact Vf|exact Vg|exact Vh|exact Vi|exact Vj|exact Vk (by omega)|exact Vl|exact Vm|exact Vn|exact Vo|exact Vp|exact Vq|exact Vr|exact Vs (by omega)|exact Vt (by omega)|exact Vu (by omega)|exact Vv (by omega)|exact Vw|exact Vx|exact Vy|exact Vz|exact VA|exact VB|exact VC|exact VD|exact VE|exact VF) rfl ?_|(refine Wg rfl ?_; intro _)|(refine Wh rfl ?_; intro _)|refine Wi ?_|refine Wj ?_|refine Wk ?_|refine Wl ?_|refine Wm ?_|refine Wn ?_|refine Wo ?_|refine Wp ?_|refine Wq rfl ?_|refine Wr ?_|refine Ws ?_|refine Wt ?_|refine Wu ?_|refine Wv rfl rfl ?_|(refine Ww rfl ⟨rfl, by decide, by decide, by decide⟩ ?_; intro _))
        refine ⟨i + 1, ⟨by omega, fun p hp => ?_⟩, by omega, inferInstance⟩
        rcases (mem_take_succ hlt').1 hp with hp | rfl
        · exact hfree p hp
        · simpa using hno
    · obtain rfl : i = c.parents.length := by omega
      rw [List.take_length] at hfree
      have hok : addOk (grOf R) c = true := (addOk_iff _ _).2 ⟨hin, fun p hp q hq hk => hfree p hp ((hmem p).2 ⟨q, hq, hk⟩)⟩
      repeat (first|refine Wa ?_|refine Wb ?_|refine Wc ?_|refine Wd ?_|refine We rfl ?_|refine Wf (by first|exact Va|exact Vb|exact Vc|exact Vd|exact Ve|exact Vf|exact Vg|exact Vh|exact Vi|exact Vj|exact Vk (by omega)|exact Vl|exact Vm|exact Vn|exact Vo|exact Vp|exact Vq|exact Vr|exact Vs (by omega)|exact Vt (by omega)|exact Vu (by omega)|exact Vv (by omega)|exact Vw|exact Vx|exact Vy|exact Vz|exact VA|exact VB|exact VC|exact VD|exact VE|exact VF) rfl ?_|(refine Wg rfl ?_; intro _)|(refine Wh rfl ?_; intro _)|refine Wi ?_|refine Wj ?_|refine Wk ?_|refine Wl ?_|refine Wm ?_|refine Wn ?_|refine Wo ?_|refine Wp ?_|refine Wq rfl ?_|refine Wr ?_|refine Ws ?_|refine Wt ?_|refine Wu ?_|refine Wv rfl rfl ?_|(refine Ww rfl ⟨rfl, by decide, by decide, by decide⟩ ?_; intro _))
      refine JC.loop2 (fun (i : Nat) (A' : List ID) => [(3, .pointer (some ⟨b3, 0, none⟩)), (4, .pointer (some ⟨b4, 0, none⟩)), (5, .pointer (some ⟨b5, 0, none⟩)), (7, .int .i64 g), (8, .map (some ba)), (68, .slice a c.parents.length k), (69, .int .i64 (c.parents.length : Int)), (70, .int .i64 (i : Int))])
        (fun i A' => .omap bo (ents idV (ofM R)) (ofM R).length :: .omap bk (ents idV (knM R)) (knM R).length :: .own b3 70 [.map (some bo), .map (some bk)] :: .own b4 48 (idc (idC c)) :: .own b5 29 [.int .i64 c.ev.node, .int .i64 c.ev.seq, .int .i64 c.gen, .slice a c.parents.length k, .int .i64 c.op.kind, .string c.op.key, .string c.op.elem, .int .i64 c.op.n] :: .omap ba (ents idV (sety A')) A'.length :: .st (graphA R) :: .st (sl a k c.parents) :: Γ)
        (fun i A' => i ≤ c.parents.length ∧ A'.Nodup ∧ ∀ x, x ∈ A' ↔ x ∈ A ∨ x ∈ c.parents.take i) (fun i _ => c.parents.length - i) 0 A ⟨Nat.zero_le _, hA, by simp⟩ inferInstance ?_
      intro i A' ⟨hi, hA', hmem'⟩
      repeat (first|refine Wa ?_|refine Wb ?_|refine Wc ?_|refine Wd ?_|refine We rfl ?_|refine Wf (by first|exact Va|exact Vb|exact Vc|exact Vd|exact Ve|exact Vf|exact Vg|exact Vh|exact Vi|exact Vj|exact Vk (by omega)|exact Vl|exact Vm|exact Vn|exact Vo|exact Vp|exact Vq|exact Vr|exact Vs (by omega)|exact Vt (by omega)|exact Vu (by omega)|exact Vv (by omega)|exact Vw|exact Vx|exact Vy|exact Vz|exact VA|exact VB|exact VC|exact VD|exact VE|exact VF) rfl ?_|(refine Wg rfl ?_; intro _)|(refine Wh rfl ?_; intro _)|refine Wi ?_|refine Wj ?_|refine Wk ?_|refine Wl ?_|refine Wm ?_|refine Wn ?_|refine Wo ?_|refine Wp ?_|refine Wq rfl ?_|refine Wr ?_|refine Ws ?_|refine Wt ?_|refine Wu ?_|refine Wv rfl rfl ?_|(refine Ww rfl ⟨rfl, by decide, by decide, by decide⟩ ?_; intro _))
      refine JC.test (fun hlt => ?_) (fun hge => ?_)
      · have hlt' : i < c.parents.length := by omega
        repeat (first|refine Wa ?_|refine Wb ?_|refine Wc ?_|refine Wd ?_|refine We rfl ?_|refine Wf (by first|exact Va|exact Vb|exact Vc|exact Vd|exact Ve|exact Vf|exact Vg|exact Vh|exact Vi|exact Vj|exact Vk (by omega)|exact Vl|exact Vm|exact Vn|exact Vo|exact Vp|exact Vq|exact Vr|exact Vs (by omega)|exact Vt (by omega)|exact Vu (by omega)|exact Vv (by omega)|exact Vw|exact Vx|exact Vy|exact Vz|exact VA|exact VB|exact VC|exact VD|exact VE|exact VF) rfl ?_|(refine Wg rfl ?_; intro _)|(refine Wh rfl ?_; intro _)|refine Wi ?_|refine Wj ?_|refine Wk ?_|refine Wl ?_|refine Wm ?_|refine Wn ?_|refine Wo ?_|refine Wp ?_|refine Wq rfl ?_|refine Wr ?_|refine Ws ?_|refine Wt ?_|refine Wu ?_|refine Wv rfl rfl ?_|(refine Ww rfl ⟨rfl, by decide, by decide, by decide⟩ ?_; intro _))
        refine JR.indexID rfl hlt' ?_
        intro bp op
        repeat (first|refine Wa ?_|refine Wb ?_|refine Wc ?_|refine Wd ?_|refine We rfl ?_|refine Wf (by first|exact Va|exact Vb|exact Vc|exact Vd|exact Ve|exact Vf|exact Vg|exact Vh|exact Vi|exact Vj|exact Vk (by omega)|exact Vl|exact Vm|exact Vn|exact Vo|exact Vp|exact Vq|exact Vr|exact Vs (by omega)|exact Vt (by omega)|exact Vu (by omega)|exact Vv (by omega)|exact Vw|exact Vx|exact Vy|exact Vz|exact VA|exact VB|exact VC|exact VD|exact VE|exact VF) rfl ?_|(refine Wg rfl ?_; intro _)|(refine Wh rfl ?_; intro _)|refine Wi ?_|refine Wj ?_|refine Wk ?_|refine Wl ?_|refine Wm ?_|refine Wn ?_|refine Wo ?_|refine Wp ?_|refine Wq rfl ?_|refine Wr ?_|refine Ws ?_|refine Wt ?_|refine Wu ?_|refine Wv rfl rfl ?_|(refine Ww rfl ⟨rfl, by decide, by decide, by decide⟩ ?_; intro _))
        refine JR.setAdd c.parents[i] hA' ?_
        repeat (first|refine Wa ?_|refine Wb ?_|refine Wc ?_|refine Wd ?_|refine We rfl ?_|refine Wf (by first|exact Va|exact Vb|exact Vc|exact Vd|exact Ve|exact Vf|exact Vg|exact Vh|exact Vi|exact Vj|exact Vk (by omega)|exact Vl|exact Vm|exact Vn|exact Vo|exact Vp|exact Vq|exact Vr|exact Vs (by omega)|exact Vt (by omega)|exact Vu (by omega)|exact Vv (by omega)|exact Vw|exact Vx|exact Vy|exact Vz|exact VA|exact VB|exact VC|exact VD|exact VE|exact VF) rfl ?_|(refine Wg rfl ?_; intro _)|(refine Wh rfl ?_; intro _)|refine Wi ?_|refine Wj ?_|refine Wk ?_|refine Wl ?_|refine Wm ?_|refine Wn ?_|refine Wo ?_|refine Wp ?_|refine Wq rfl ?_|refine Wr ?_|refine Ws ?_|refine Wt ?_|refine Wu ?_|refine Wv rfl rfl ?_|(refine Ww rfl ⟨rfl, by decide, by decide, by decide⟩ ?_; intro _))
        refine ⟨i + 1, addK A' c.parents[i], ⟨by omega, addK_nodup hA' _, fun x => ?_⟩, by omega, inferInstance⟩
        rw [mem_addK, hmem', mem_take_succ hlt', or_assoc]
      · obtain rfl : i = c.parents.length := by omega
        rw [List.take_length] at hmem'
        repeat (first|refine Wa ?_|refine Wb ?_|refine Wc ?_|refine Wd ?_|refine We rfl ?_|refine Wf (by first|exact Va|exact Vb|exact Vc|exact Vd|exact Ve|exact Vf|exact Vg|exact Vh|exact Vi|exact Vj|exact Vk (by omega)|exact Vl|exact Vm|exact Vn|exact Vo|exact Vp|exact Vq|exact Vr|exact Vs (by omega)|exact Vt (by omega)|exact Vu (by omega)|exact Vv (by omega)|exact Vw|exact Vx|exact Vy|exact Vz|exact VA|exact VB|exact VC|exact VD|exact VE|exact VF) rfl ?_|(refine Wg rfl ?_; intro _)|(refine Wh rfl ?_; intro _)|refine Wi ?_|refine Wj ?_|refine Wk ?_|refine Wl ?_|refine Wm ?_|refine Wn ?_|refine Wo ?_|refine Wp ?_|refine Wq rfl ?_|refine Wr ?_|refine Ws ?_|refine Wt ?_|refine Wu ?_|refine Wv rfl rfl ?_|(refine Ww rfl ⟨rfl, by decide, by decide, by decide⟩ ?_; intro _))
        have hkn : isKnown (grOf R) c A' := fun x => by
          rw [hmem', hmem]
          constructor
          · rintro (⟨q, hq, hx⟩ | h)
            · exact ⟨q, hq, .inr hx⟩
            · exact ⟨x, h, .inl rfl⟩
          · rintro ⟨q, hq, (rfl | hx)⟩
            · exact .inr hq
            · exact .inl ⟨q, hq, hx⟩
        have eO : upd (ofM R) (idC c) (.agg ⟨[.int .i64 c.ev.node, .int .i64 c.ev.seq, .int .i64 c.gen, .slice a c.parents.length k, .int .i64 c.op.kind, .string c.op.key, .string c.op.elem, .int .i64 c.op.n]⟩) = ofM (R ++ [((c, A'), (a, k, ba))]) := by
          rw [upd_new _ (by rw [ofM_keys]; exact hnew), ofM_snoc]
        have eK : upd (knM R) (idC c) (.map (some ba)) = knM (R ++ [((c, A'), (a, k, ba))]) := by
          rw [upd_new _ (by rw [knM_keys]; exact hnew), knM_snoc]
        refine JC.drawN [.own b3 70 [.map (some bo), .map (some bk)], .own b4 48 (idc (idC c)), .own b5 29 [.int .i64 c.ev.node, .int .i64 c.ev.seq, .int .i64 c.gen, .slice a c.parents.length k, .int .i64 c.op.kind, .string c.op.key, .string c.op.elem, .int .i64 c.op.n]] mixed ?_
        refine JN.take 0 rfl (by kernel_rfl) rfl Vd rfl rfl ?_
        refine JN.take 1 rfl (by kernel_rfl) rfl Vc rfl rfl ?_
        refine JN.take 2 rfl (by kernel_rfl) rfl Vc rfl rfl ?_
        refine JN.take 3 rfl (by kernel_rfl) rfl Vd rfl rfl ?_
        refine JN.take 4 rfl (by kernel_rfl) rfl Vc rfl rfl ?_
        refine JN.take 5 rfl (by kernel_rfl) rfl Vc rfl rfl ?_
        refine JN.take 6 rfl (by kernel_rfl) rfl Vc rfl rfl ?_
        refine JN.take 7 rfl (by kernel_rfl) rfl Va rfl rfl ?_
        refine JN.op 8 (by kernel_rfl) rfl rfl (JR.mapUpdate_ (M := ofM R) (k := idC c) (.inl rfl) hkO (Wd ⟨rfl, inferInstance, ?_⟩))
        refine JN.op 9 (by kernel_rfl) rfl rfl (JR.mapUpdate_ (M := knM R) (k := idC c) (.inl rfl) hkK (Wd ⟨rfl, inferInstance, ?_⟩))
        refine JN.nil (by kernel_rfl) ?_
        rw [eO, eK]
        repeat (first|refine Wa ?_|refine Wb ?_|refine Wc ?_|refine Wd ?_|refine We rfl ?_|refine Wf (by first|exact Va|exact Vb|exact Vc|exact Vd|exact Ve|exact Vf|exact Vg|exact Vh|exact Vi|exact Vj|exact Vk (by omega)|exact Vl|exact Vm|exact Vn|exact Vo|exact Vp|exact Vq|exact Vr|exact Vs (by omega)|exact Vt (by omega)|exact Vu (by omega)|exact Vv (by omega)|exact Vw|exact Vx|exact Vy|exact Vz|exact VA|exact VB|exact VC|exact VD|exact VE|exact VF) rfl ?_|(refine Wg rfl ?_; intro _)|(refine Wh rfl ?_; intro _)|refine Wi ?_|refine Wj ?_|refine Wk ?_|refine Wl ?_|refine Wm ?_|refine Wn ?_|refine Wo ?_|refine Wp ?_|refine Wq rfl ?_|refine Wr ?_|refine Ws ?_|refine Wt ?_|refine Wu ?_|refine Wv rfl rfl ?_|(refine Ww rfl ⟨rfl, by decide, by decide, by decide⟩ ?_; intro _))
        refine CT.done ⟨(A', ba, decide (c.gen = g + 1)), by rw [hok, hmax]; rfl, fun _ => ⟨hA', hkn⟩⟩ rfl (fun w ho => ?_)
        have h1 : Hold _ _ (.omap ba (ents idV (sety A')) A'.length :: .omap bo (ents idV (ofM (R ++ [((c, A'), (a, k, ba))]))) (ofM (R ++ [((c, A'), (a, k, ba))])).length :: .omap bk (ents idV (knM (R ++ [((c, A'), (a, k, ba))]))) (knM (R ++ [((c, A'), (a, k, ba))])).length :: .st (graphA R) :: .st (sl a k c.parents) :: Γ) w := ho.ent
        have h2 := h1.pubMap
        have h3 := h2.add (graph_snoc (S := A') (h2.get (A := graphA R)) (h2.get (A := sl a k c.parents)) (h2.get (A := rmap ba (ents idV (sety A')) A'.length)))
        by_cases hb : c.gen = g + 1
        · rw [if_pos (by simpa using hb)]; exact h3.ent
        · rw [if_neg (by simpa using hb)]; exact h3.ent
end Ab
end Go.Proofs.YtcmfemfndadfmaaGreat

/- Contract of dag's graph.events. -/
namespace Go.Proofs.YtcmfemfndadfmaaGreat
namespace Ab
open Go Go.RowKit
set_option linter.unusedVariables false
set_option linter.unusedSimpArgs false
set_option synthInstance.maxSize 4000
set_option synthInstance.maxHeartbeats 400000
attribute [local irreducible] JC JO JR JQ andThen inBlock OpV Gives retTo JM JS

attribute [local irreducible] ents hashC graphA
/-- Two commits of one node, of which the second one stands behind, or is told by the first one. -/
def evBad (r s : Row) : Bool := decide (idC r.1.1 ≠ idC s.1.1) && decide (r.1.1.ev.node = s.1.1.ev.node) && (decide (r.1.1.ev.seq = s.1.1.ev.seq) || (decide (s.1.1.ev.seq < r.1.1.ev.seq) && decide (idC s.1.1 ∉ r.1.2)))
def evG (R : List Row) : Bool := R.all fun r => R.all fun s => !evBad r s
theorem ofM_get (R : List Row) (j : Nat) (h : j < (ofM R).length) : (ofM R)[j] = (idC (R[j]'(by simpa [ofM] using h)).1.1, commitV (R[j]'(by simpa [ofM] using h)).1.1 (R[j]'(by simpa [ofM] using h)).2.1 (R[j]'(by simpa [ofM] using h)).2.2.1) := by simp [ofM]
theorem ofM_length (R : List Row) : (ofM R).length = R.length := by simp [ofM]
theorem evG_false {R : List Row} {r s : Row} (hr : r ∈ R) (hs : s ∈ R) (h : evBad r s = true) : evG R = false := by
  rw [← Bool.not_eq_true]
  intro he
  have := List.all_eq_true.1 (List.all_eq_true.1 he r hr) s hs
  rw [h] at this; cases this
set_option maxHeartbeats 4000000 in
theorem events_graph (w : World) (F : Nat → Prop) (bo bk : Nat) (R : List Row) (hn : (cids (nodes (grOf R))).Nodup) (hS : ∀ r ∈ R, r.1.2.Nodup)
    (h1 : (rmap bo (ents idV (ofM R)) (ofM R).length).holds F w) (h2 : (rmap bk (ents idV (knM R)) (knM R).length).holds F w) (h3 : (graphA R).holds F w) :
    GivesV Tryz.prog 89 [.agg ⟨[.map (some bo), .map (some bk)]⟩] w F (.bool (evG R)) := by
  have hkK : ((knM R).map (·.1)).Nodup := by rw [knM_keys]; exact hn
  refine gives_of Tryz.func89 rfl Tryz.ntmps89 rfl rfl [.st (rmap bo (ents idV (ofM R)) (ofM R).length), .st (rmap bk (ents idV (knM R)) (knM R).length), .st (graphA R)] (.start3 h1 h2 h3) ?_
  repeat (first|refine Wa ?_|refine Wb ?_|refine Wc ?_|refine Wd ?_|refine We rfl ?_|refine Wf (by first|exact Va|exact Vb|exact Vc|exact Vd|exact Ve|exact Vf|exact Vg|exact Vh|exact Vi|exact Vj|exact Vk (by omega)|exact Vl|exact Vm|exact Vn|exact Vo|exact Vp|exact Vq|exact Vr|exact Vs (by omega)|exact Vt (by omega)|exact Vu (by omega)|exact Vv (by omega)|exact Vw|exact Vx|exact Vy|exact Vz|exact VA|exact VB|exact VC|exact VD|exact VE|exact VF) rfl ?_|(refine Wg rfl ?_; intro _)|(refine Wh rfl ?_; intro _)|refine Wi ?_|refine Wj ?_|refine Wk ?_|refine Wl ?_|refine Wm ?_|refine Wn ?_|refine Wo ?_|refine Wp ?_|refine Wq rfl ?_|refine Wr ?_|refine Ws ?_|refine Wt ?_|refine Wu ?_|refine Wv rfl rfl ?_|(refine Ww rfl ⟨rfl, by decide, by decide, by decide⟩ ?_; intro _))
  rename_i bg
  refine JR.range (M := ofM R) rfl ?_
  intro r1
  repeat (first|refine Wa ?_|refine Wb ?_|refine Wc ?_|refine Wd ?_|refine We rfl ?_|refine Wf (by first|exact Va|exact Vb|exact Vc|exact Vd|exact Ve|exact Vf|exact Vg|exact Vh|exact Vi|exact Vj|exact Vk (by omega)|exact Vl|exact Vm|exact Vn|exact Vo|exact Vp|exact Vq|exact Vr|exact Vs (by omega)|exact Vt (by omega)|exact Vu (by omega)|exact Vv (by omega)|exact Vw|exact Vx|exact Vy|exact Vz|exact VA|exact VB|exact VC|exact VD|exact VE|exact VF) rfl ?_|(refine Wg rfl ?_; intro _)|(refine Wh rfl ?_; intro _)|refine Wi ?_|refine Wj ?_|refine Wk ?_|refine Wl ?_|refine Wm ?_|refine Wn ?_|refine Wo ?_|refine Wp ?_|refine Wq rfl ?_|refine Wr ?_|refine Ws ?_|refine Wt ?_|refine Wu ?_|refine Wv rfl rfl ?_|(refine Ww rfl ⟨rfl, by decide, by decide, by decide⟩ ?_; intro _))
  refine JC.loop1 (fun (S : List Nat) => [(1, .pointer (some ⟨bg, 0, none⟩)), (9, .pointer (some ⟨r1, 0, none⟩))])
    (fun S => [.obj r1 (.mapIter (some bo) (ofM R).length S.toArray (ofM R).length), .own bg 70 [.map (some bo), .map (some bk)], .st (rmap bo (ents idV (ofM R)) (ofM R).length), .st (rmap bk (ents idV (knM R)) (knM R).length), .st (graphA R)])
    (fun S => S.Nodup ∧ (∀ j ∈ S, j < (ofM R).length) ∧ ∀ j ∈ S, ∀ hj : j < R.length, ∀ s ∈ R, evBad R[j] s = false) (fun S => (ofM R).length - S.length) [] ⟨List.nodup_nil, by simp, by simp⟩ inferInstance ?_
  intro S ⟨hS1, hS2, hok⟩
  repeat (first|refine Wa ?_|refine Wb ?_|refine Wc ?_|refine Wd ?_|refine We rfl ?_|refine Wf (by first|exact Va|exact Vb|exact Vc|exact Vd|exact Ve|exact Vf|exact Vg|exact Vh|exact Vi|exact Vj|exact Vk (by omega)|exact Vl|exact Vm|exact Vn|exact Vo|exact Vp|exact Vq|exact Vr|exact Vs (by omega)|exact Vt (by omega)|exact Vu (by omega)|exact Vv (by omega)|exact Vw|exact Vx|exact Vy|exact Vz|exact VA|exact VB|exact VC|exact VD|exact VE|exact VF) rfl ?_|(refine Wg rfl ?_; intro _)|(refine Wh rfl ?_; intro _)|refine Wi ?_|refine Wj ?_|refine Wk ?_|refine Wl ?_|refine Wm ?_|refine Wn ?_|refine Wo ?_|refine Wp ?_|refine Wq rfl ?_|refine Wr ?_|refine Ws ?_|refine Wt ?_|refine Wu ?_|refine Wv rfl rfl ?_|(refine Ww rfl ⟨rfl, by decide, by decide, by decide⟩ ?_; intro _))
  refine JR.next (M := ofM R) rfl hS2 (fun hall => ?_) (fun j hj hjS => ?_)
  · have e1 : evG R = true := by
      refine List.all_eq_true.2 fun r hr => List.all_eq_true.2 fun s hs => ?_
      obtain ⟨j, hj, rfl⟩ := List.getElem_of_mem hr
      rw [hok j (hall j (by rw [ofM_length]; exact hj)) hj s hs]; rfl
    rw [e1]
    repeat (first|refine Wa ?_|refine Wb ?_|refine Wc ?_|refine Wd ?_|refine We rfl ?_|refine Wf (by first|exact Va|exact Vb|exact Vc|exact Vd|exact Ve|exact Vf|exact Vg|exact Vh|exact Vi|exact Vj|exact Vk (by omega)|exact Vl|exact Vm|exact Vn|exact Vo|exact Vp|exact Vq|exact Vr|exact Vs (by omega)|exact Vt (by omega)|exact Vu (by omega)|exact Vv (by omega)|exact Vw|exact Vx|exact Vy|exact Vz|exact VA|exact VB|exact VC|exact VD|exact VE|exact VF) rfl ?_|(refine Wg rfl ?_; intro _)|(refine Wh rfl ?_; intro _)|refine Wi ?_|refine Wj ?_|refine Wk ?_|refine Wl ?_|refine Wm ?_|refine Wn ?_|refine Wo ?_|refine Wp ?_|refine Wq rfl ?_|refine Wr ?_|refine Ws ?_|refine Wt ?_|refine Wu ?_|refine Wv rfl rfl ?_|(refine Ww rfl ⟨rfl, by decide, by decide, by decide⟩ ?_; intro _))
    exact CT.done () rfl (fun w ho => ho.ent)
  · have hjR : j < R.length := by rw [ofM_length] at hj; exact hj
    obtain ⟨r, hr⟩ : ∃ r, r = R[j] := ⟨_, rfl⟩
    have hrm : r ∈ R := by rw [hr]; exact List.getElem_mem hjR
    have eg := ofM_get R j hj
    rw [← hr] at eg
    have hS3 : (S ++ [j]).Nodup := List.nodup_append.2 ⟨hS1, by simp, fun x hx y hy => by simp at hy; subst hy; exact fun e => hjS (e ▸ hx)⟩
    have hS4 : ∀ i ∈ S ++ [j], i < (ofM R).length := fun i hi => by
      rcases List.mem_append.1 hi with hi | hi
      · exact hS2 i hi
      · simp at hi; subst hi; exact hj
    have hlt2 := nodup_le hS3 hS4
    repeat (first|refine Wa ?_|refine Wb ?_|refine Wc ?_|refine Wd ?_|refine We rfl ?_|refine Wf (by first|exact Va|exact Vb|exact Vc|exact Vd|exact Ve|exact Vf|exact Vg|exact Vh|exact Vi|exact Vj|exact Vk (by omega)|exact Vl|exact Vm|exact Vn|exact Vo|exact Vp|exact Vq|exact Vr|exact Vs (by omega)|exact Vt (by omega)|exact Vu (by omega)|exact Vv (by omega)|exact Vw|exact Vx|exact Vy|exact Vz|exact VA|exact VB|exact VC|exact VD|exact VE|exact VF) rfl ?_|(refine Wg rfl ?_; intro _)|(refine Wh rfl ?_; intro _)|refine Wi ?_|refine Wj ?_|refine Wk ?_|refine Wl ?_|refine Wm ?_|refine Wn ?_|refine Wo ?_|refine Wp ?_|refine Wq rfl ?_|refine Wr ?_|refine Ws ?_|refine Wt ?_|refine Wu ?_|refine Wv rfl rfl ?_|(refine Ww rfl ⟨rfl, by decide, by decide, by decide⟩ ?_; intro _))
    refine Wf (OpV.entry (M := ofM R) hj) rfl ?_
    refine JO.reslot 12 (.tuple ⟨[idV (idC r.1.1), commitV r.1.1 r.2.1 r.2.2.1]⟩) (by rw [eg]) ?_
    refine JO.more (fun w1 ho => (ho.add (A := sl r.2.1 r.2.2.1 r.1.1.parents) (graph_row (ho.get (A := graphA R)) hrm).1).add (A := rmap r.2.2.2 (ents idV (sety r.1.2)) r.1.2.length) (graph_row (ho.add (A := sl r.2.1 r.2.2.1 r.1.1.parents) (graph_row (ho.get (A := graphA R)) hrm).1 |>.get (A := graphA R)) hrm).2) ?_
    repeat (first|refine Wa ?_|refine Wb ?_|refine Wc ?_|refine Wd ?_|refine We rfl ?_|refine Wf (by first|exact Va|exact Vb|exact Vc|exact Vd|exact Ve|exact Vf|exact Vg|exact Vh|exact Vi|exact Vj|exact Vk (by omega)|exact Vl|exact Vm|exact Vn|exact Vo|exact Vp|exact Vq|exact Vr|exact Vs (by omega)|exact Vt (by omega)|exact Vu (by omega)|exact Vv (by omega)|exact Vw|exact Vx|exact Vy|exact Vz|exact VA|exact VB|exact VC|exact VD|exact VE|exact VF) rfl ?_|(refine Wg rfl ?_; intro _)|(refine Wh rfl ?_; intro _)|refine Wi ?_|refine Wj ?_|refine Wk ?_|refine Wl ?_|refine Wm ?_|refine Wn ?_|refine Wo ?_|refine Wp ?_|refine Wq rfl ?_|refine Wr ?_|refine Ws ?_|refine Wt ?_|refine Wu ?_|refine Wv rfl rfl ?_|(refine Ww rfl ⟨rfl, by decide, by decide, by decide⟩ ?_; intro _))
    rename_i b3 b4
    refine JR.range (M := ofM R) rfl ?_
    intro r2
    repeat (first|refine Wa ?_|refine Wb ?_|refine Wc ?_|refine Wd ?_|refine We rfl ?_|refine Wf (by first|exact Va|exact Vb|exact Vc|exact Vd|exact Ve|exact Vf|exact Vg|exact Vh|exact Vi|exact Vj|exact Vk (by omega)|exact Vl|exact Vm|exact Vn|exact Vo|exact Vp|exact Vq|exact Vr|exact Vs (by omega)|exact Vt (by omega)|exact Vu (by omega)|exact Vv (by omega)|exact Vw|exact Vx|exact Vy|exact Vz|exact VA|exact VB|exact VC|exact VD|exact VE|exact VF) rfl ?_|(refine Wg rfl ?_; intro _)|(refine Wh rfl ?_; intro _)|refine Wi ?_|refine Wj ?_|refine Wk ?_|refine Wl ?_|refine Wm ?_|refine Wn ?_|refine Wo ?_|refine Wp ?_|refine Wq rfl ?_|refine Wr ?_|refine Ws ?_|refine Wt ?_|refine Wu ?_|refine Wv rfl rfl ?_|(refine Ww rfl ⟨rfl, by decide, by decide, by decide⟩ ?_; intro _))
    refine JC.loop1 (fun (S2 : List Nat) => [(1, .pointer (some ⟨bg, 0, none⟩)), (9, .pointer (some ⟨r1, 0, none⟩)), (3, .pointer (some ⟨b3, 0, none⟩)), (4, .pointer (some ⟨b4, 0, none⟩)), (17, .pointer (some ⟨r2, 0, none⟩))])
      (fun S2 => [.obj r2 (.mapIter (some bo) (ofM R).length S2.toArray (ofM R).length), .own b3 48 (idc (idC r.1.1)), .own b4 29 [.int .i64 r.1.1.ev.node, .int .i64 r.1.1.ev.seq, .int .i64 r.1.1.gen, .slice r.2.1 r.1.1.parents.length r.2.2.1, .int .i64 r.1.1.op.kind, .string r.1.1.op.key, .string r.1.1.op.elem, .int .i64 r.1.1.op.n],
        .obj r1 (.mapIter (some bo) (ofM R).length (S ++ [j]).toArray (ofM R).length), .own bg 70 [.map (some bo), .map (some bk)], .st (rmap r.2.2.2 (ents idV (sety r.1.2)) r.1.2.length), .st (rmap bo (ents idV (ofM R)) (ofM R).length), .st (rmap bk (ents idV (knM R)) (knM R).length), .st (graphA R)])
      (fun S2 => S2.Nodup ∧ (∀ j ∈ S2, j < (ofM R).length) ∧ ∀ j ∈ S2, ∀ hj : j < R.length, evBad r R[j] = false) (fun S2 => (ofM R).length - S2.length) [] ⟨List.nodup_nil, by simp, by simp⟩ inferInstance ?_
    intro S2 ⟨hT1, hT2, hok2⟩
    repeat (first|refine Wa ?_|refine Wb ?_|refine Wc ?_|refine Wd ?_|refine We rfl ?_|refine Wf (by first|exact Va|exact Vb|exact Vc|exact Vd|exact Ve|exact Vf|exact Vg|exact Vh|exact Vi|exact Vj|exact Vk (by omega)|exact Vl|exact Vm|exact Vn|exact Vo|exact Vp|exact Vq|exact Vr|exact Vs (by omega)|exact Vt (by omega)|exact Vu (by omega)|exact Vv (by omega)|exact Vw|exact Vx|exact Vy|exact Vz|exact VA|exact VB|exact VC|exact VD|exact VE|exact VF) rfl ?_|(refine Wg rfl ?_; intro _)|(refine Wh rfl ?_; intro _)|refine Wi ?_|refine Wj ?_|refine Wk ?_|refine Wl ?_|refine Wm ?_|refine Wn ?_|refine Wo ?_|refine Wp ?_|refine Wq rfl ?_|refine Wr ?_|refine Ws ?_|refine Wt ?_|refine Wu ?_|refine Wv rfl rfl ?_|(refine Ww rfl ⟨rfl, by decide, by decide, by decide⟩ ?_; intro _))
    refine JR.next (M := ofM R) rfl hT2 (fun hall => ?_) (fun i hi hiS => ?_)
    · repeat (first|refine Wa ?_|refine Wb ?_|refine Wc ?_|refine Wd ?_|refine We rfl ?_|refine Wf (by first|exact Va|exact Vb|exact Vc|exact Vd|exact Ve|exact Vf|exact Vg|exact Vh|exact Vi|exact Vj|exact Vk (by omega)|exact Vl|exact Vm|exact Vn|exact Vo|exact Vp|exact Vq|exact Vr|exact Vs (by omega)|exact Vt (by omega)|exact Vu (by omega)|exact Vv (by omega)|exact Vw|exact Vx|exact Vy|exact Vz|exact VA|exact VB|exact VC|exact VD|exact VE|exact VF) rfl ?_|(refine Wg rfl ?_; intro _)|(refine Wh rfl ?_; intro _)|refine Wi ?_|refine Wj ?_|refine Wk ?_|refine Wl ?_|refine Wm ?_|refine Wn ?_|refine Wo ?_|refine Wp ?_|refine Wq rfl ?_|refine Wr ?_|refine Ws ?_|refine Wt ?_|refine Wu ?_|refine Wv rfl rfl ?_|(refine Ww rfl ⟨rfl, by decide, by decide, by decide⟩ ?_; intro _))
      refine ⟨S ++ [j], ⟨hS3, hS4, fun x hx hxR s hs => ?_⟩, by simp at hlt2 ⊢; omega, inferInstance⟩
      rcases List.mem_append.1 hx with hx | hx
      · exact hok x hx hxR s hs
      · simp only [List.mem_singleton] at hx
        subst hx
        obtain ⟨y, hy, rfl⟩ := List.getElem_of_mem hs
        rw [← hr]
        exact hok2 y (hall y (by rw [ofM_length]; exact hy)) hy
    · have hiR : i < R.length := by rw [ofM_length] at hi; exact hi
      obtain ⟨s, hs⟩ : ∃ s, s = R[i] := ⟨_, rfl⟩
      have hsm : s ∈ R := by rw [hs]; exact List.getElem_mem hiR
      have eg2 := ofM_get R i hi
      rw [← hs] at eg2
      have hT3 : (S2 ++ [i]).Nodup := List.nodup_append.2 ⟨hT1, by simp, fun x hx y hy => by simp at hy; subst hy; exact fun e => hiS (e ▸ hx)⟩
      have hT4 : ∀ x ∈ S2 ++ [i], x < (ofM R).length := fun x hx => by
        rcases List.mem_append.1 hx with hx | hx
        · exact hT2 x hx
        · simp at hx; subst hx; exact hi
      have hlt3 := nodup_le hT3 hT4
      have next : evBad r s = false → ∀ x ∈ S2 ++ [i], ∀ hx : x < R.length, evBad r R[x] = false := fun hb x hx hxR => by
        rcases List.mem_append.1 hx with hx | hx
        · exact hok2 x hx hxR
        · simp only [List.mem_singleton] at hx; subst hx; rw [← hs]; exact hb
      repeat (first|refine Wa ?_|refine Wb ?_|refine Wc ?_|refine Wd ?_|refine We rfl ?_|refine Wf (by first|exact Va|exact Vb|exact Vc|exact Vd|exact Ve|exact Vf|exact Vg|exact Vh|exact Vi|exact Vj|exact Vk (by omega)|exact Vl|exact Vm|exact Vn|exact Vo|exact Vp|exact Vq|exact Vr|exact Vs (by omega)|exact Vt (by omega)|exact Vu (by omega)|exact Vv (by omega)|exact Vw|exact Vx|exact Vy|exact Vz|exact VA|exact VB|exact VC|exact VD|exact VE|exact VF) rfl ?_|(refine Wg rfl ?_; intro _)|(refine Wh rfl ?_; intro _)|refine Wi ?_|refine Wj ?_|refine Wk ?_|refine Wl ?_|refine Wm ?_|refine Wn ?_|refine Wo ?_|refine Wp ?_|refine Wq rfl ?_|refine Wr ?_|refine Ws ?_|refine Wt ?_|refine Wu ?_|refine Wv rfl rfl ?_|(refine Ww rfl ⟨rfl, by decide, by decide, by decide⟩ ?_; intro _))
      refine Wf (OpV.entry (M := ofM R) hi) rfl ?_
      refine JO.reslot 20 (.tuple ⟨[idV (idC s.1.1), commitV s.1.1 s.2.1 s.2.2.1]⟩) (by rw [eg2]) ?_
      refine JO.more (fun w1 ho => ho.add (A := sl s.2.1 s.2.2.1 s.1.1.parents) (graph_row (ho.get (A := graphA R)) hsm).1) ?_
      repeat (first|refine Wa ?_|refine Wb ?_|refine Wc ?_|refine Wd ?_|refine We rfl ?_|refine Wf (by first|exact Va|exact Vb|exact Vc|exact Vd|exact Ve|exact Vf|exact Vg|exact Vh|exact Vi|exact Vj|exact Vk (by omega)|exact Vl|exact Vm|exact Vn|exact Vo|exact Vp|exact Vq|exact Vr|exact Vs (by omega)|exact Vt (by omega)|exact Vu (by omega)|exact Vv (by omega)|exact Vw|exact Vx|exact Vy|exact Vz|exact VA|exact VB|exact VC|exact VD|exact VE|exact VF) rfl ?_|(refine Wg rfl ?_; intro _)|(refine Wh rfl ?_; intro _)|refine Wi ?_|refine Wj ?_|refine Wk ?_|refine Wl ?_|refine Wm ?_|refine Wn ?_|refine Wo ?_|refine Wp ?_|refine Wq rfl ?_|refine Wr ?_|refine Ws ?_|refine Wt ?_|refine Wu ?_|refine Wv rfl rfl ?_|(refine Ww rfl ⟨rfl, by decide, by decide, by decide⟩ ?_; intro _))
      refine JO.test 26 (fun he => ?_) (fun he => ?_)
      · have hb : evBad r s = false := by simp [evBad, he]
        repeat (first|refine Wa ?_|refine Wb ?_|refine Wc ?_|refine Wd ?_|refine We rfl ?_|refine Wf (by first|exact Va|exact Vb|exact Vc|exact Vd|exact Ve|exact Vf|exact Vg|exact Vh|exact Vi|exact Vj|exact Vk (by omega)|exact Vl|exact Vm|exact Vn|exact Vo|exact Vp|exact Vq|exact Vr|exact Vs (by omega)|exact Vt (by omega)|exact Vu (by omega)|exact Vv (by omega)|exact Vw|exact Vx|exact Vy|exact Vz|exact VA|exact VB|exact VC|exact VD|exact VE|exact VF) rfl ?_|(refine Wg rfl ?_; intro _)|(refine Wh rfl ?_; intro _)|refine Wi ?_|refine Wj ?_|refine Wk ?_|refine Wl ?_|refine Wm ?_|refine Wn ?_|refine Wo ?_|refine Wp ?_|refine Wq rfl ?_|refine Wr ?_|refine Ws ?_|refine Wt ?_|refine Wu ?_|refine Wv rfl rfl ?_|(refine Ww rfl ⟨rfl, by decide, by decide, by decide⟩ ?_; intro _)|refine Wx rfl rfl ?_)
        exact ⟨S2 ++ [i], ⟨hT3, hT4, next hb⟩, by simp at hlt3 ⊢; omega, inferInstance⟩
      repeat (first|refine Wa ?_|refine Wb ?_|refine Wc ?_|refine Wd ?_|refine We rfl ?_|refine Wf (by first|exact Va|exact Vb|exact Vc|exact Vd|exact Ve|exact Vf|exact Vg|exact Vh|exact Vi|exact Vj|exact Vk (by omega)|exact Vl|exact Vm|exact Vn|exact Vo|exact Vp|exact Vq|exact Vr|exact Vs (by omega)|exact Vt (by omega)|exact Vu (by omega)|exact Vv (by omega)|exact Vw|exact Vx|exact Vy|exact Vz|exact VA|exact VB|exact VC|exact VD|exact VE|exact VF) rfl ?_|(refine Wg rfl ?_; intro _)|(refine Wh rfl ?_; intro _)|refine Wi ?_|refine Wj ?_|refine Wk ?_|refine Wl ?_|refine Wm ?_|refine Wn ?_|refine Wo ?_|refine Wp ?_|refine Wq rfl ?_|refine Wr ?_|refine Ws ?_|refine Wt ?_|refine Wu ?_|refine Wv rfl rfl ?_|(refine Ww rfl ⟨rfl, by decide, by decide, by decide⟩ ?_; intro _)|refine Wx rfl rfl ?_)
      refine JC.test (fun hnd => ?_) (fun hnd => ?_)
      · have hb : evBad r s = false := by simp only [ne_eq] at hnd; simp [evBad, hnd]
        repeat (first|refine Wa ?_|refine Wb ?_|refine Wc ?_|refine Wd ?_|refine We rfl ?_|refine Wf (by first|exact Va|exact Vb|exact Vc|exact Vd|exact Ve|exact Vf|exact Vg|exact Vh|exact Vi|exact Vj|exact Vk (by omega)|exact Vl|exact Vm|exact Vn|exact Vo|exact Vp|exact Vq|exact Vr|exact Vs (by omega)|exact Vt (by omega)|exact Vu (by omega)|exact Vv (by omega)|exact Vw|exact Vx|exact Vy|exact Vz|exact VA|exact VB|exact VC|exact VD|exact VE|exact VF) rfl ?_|(refine Wg rfl ?_; intro _)|(refine Wh rfl ?_; intro _)|refine Wi ?_|refine Wj ?_|refine Wk ?_|refine Wl ?_|refine Wm ?_|refine Wn ?_|refine Wo ?_|refine Wp ?_|refine Wq rfl ?_|refine Wr ?_|refine Ws ?_|refine Wt ?_|refine Wu ?_|refine Wv rfl rfl ?_|(refine Ww rfl ⟨rfl, by decide, by decide, by decide⟩ ?_; intro _)|refine Wx rfl rfl ?_)
        exact ⟨S2 ++ [i], ⟨hT3, hT4, next hb⟩, by simp at hlt3 ⊢; omega, inferInstance⟩
      have hnd' : r.1.1.ev.node = s.1.1.ev.node := by simpa using hnd
      repeat (first|refine Wa ?_|refine Wb ?_|refine Wc ?_|refine Wd ?_|refine We rfl ?_|refine Wf (by first|exact Va|exact Vb|exact Vc|exact Vd|exact Ve|exact Vf|exact Vg|exact Vh|exact Vi|exact Vj|exact Vk (by omega)|exact Vl|exact Vm|exact Vn|exact Vo|exact Vp|exact Vq|exact Vr|exact Vs (by omega)|exact Vt (by omega)|exact Vu (by omega)|exact Vv (by omega)|exact Vw|exact Vx|exact Vy|exact Vz|exact VA|exact VB|exact VC|exact VD|exact VE|exact VF) rfl ?_|(refine Wg rfl ?_; intro _)|(refine Wh rfl ?_; intro _)|refine Wi ?_|refine Wj ?_|refine Wk ?_|refine Wl ?_|refine Wm ?_|refine Wn ?_|refine Wo ?_|refine Wp ?_|refine Wq rfl ?_|refine Wr ?_|refine Ws ?_|refine Wt ?_|refine Wu ?_|refine Wv rfl rfl ?_|(refine Ww rfl ⟨rfl, by decide, by decide, by decide⟩ ?_; intro _)|refine Wx rfl rfl ?_)
      have hgk : gotten (knM R) (idC r.1.1) = some (.map (some r.2.2.2)) := by
        obtain ⟨q, hq, hqe, _, hqk, _⟩ := row_of hn (p := idC r.1.1) (by rw [ids_gr]; exact List.mem_map.2 ⟨r, hrm, rfl⟩)
        have : q = r := by
          obtain ⟨x, hx, hxq⟩ := List.getElem_of_mem hq
          obtain ⟨y, hy, hyr⟩ := List.getElem_of_mem hrm
          rw [ids_gr] at hn
          rcases Nat.lt_trichotomy x y with h | h | h
          · have := List.pairwise_iff_getElem.1 hn x y (by simpa using hx) (by simpa using hy) h
            simp [hxq, hyr, hqe] at this
          · subst h; rw [← hxq, ← hyr]
          · have := List.pairwise_iff_getElem.1 hn y x (by simpa using hy) (by simpa using hx) h
            simp [hxq, hyr, hqe] at this
        rw [← this]; rw [this] at hqk ⊢; exact hqk
      refine JC.quiet mixed (by kernel_rfl) ?_
      repeat (first|refine Wy rfl (by first|exact Va|exact Vb|exact Vc|exact Vd|exact Ve|exact Vf|exact Vg|exact Vh|exact Vi|exact Vj|exact Vk (by omega)|exact Vl|exact Vm|exact Vn|exact Vo|exact Vp|exact Vq|exact Vr|exact Vs (by omega)|exact Vt (by omega)|exact Vu (by omega)|exact Vv (by omega)|exact Vw|exact Vx|exact Vy|exact Vz|exact VA|exact VB|exact VC|exact VD|exact VE|exact VF) rfl ?_|refine Wz rfl rfl ?_|refine WA rfl rfl ?_|refine WB ?_)
      by_cases hsq : r.1.1.ev.seq = s.1.1.ev.seq
      · have hb : evBad r s = true := by simp [evBad, he, hnd', hsq]
        refine JQ.reslot 42 (.bool true) (by simp [hsq]) ?_
        repeat (first|refine Wy rfl (by first|exact Va|exact Vb|exact Vc|exact Vd|exact Ve|exact Vf|exact Vg|exact Vh|exact Vi|exact Vj|exact Vk (by omega)|exact Vl|exact Vm|exact Vn|exact Vo|exact Vp|exact Vq|exact Vr|exact Vs (by omega)|exact Vt (by omega)|exact Vu (by omega)|exact Vv (by omega)|exact Vw|exact Vx|exact Vy|exact Vz|exact VA|exact VB|exact VC|exact VD|exact VE|exact VF) rfl ?_|refine Wz rfl rfl ?_|refine WA rfl rfl ?_|refine WB ?_)
        repeat (first|refine Wa ?_|refine Wb ?_|refine Wc ?_|refine Wd ?_|refine We rfl ?_|refine Wf (by first|exact Va|exact Vb|exact Vc|exact Vd|exact Ve|exact Vf|exact Vg|exact Vh|exact Vi|exact Vj|exact Vk (by omega)|exact Vl|exact Vm|exact Vn|exact Vo|exact Vp|exact Vq|exact Vr|exact Vs (by omega)|exact Vt (by omega)|exact Vu (by omega)|exact Vv (by omega)|exact Vw|exact Vx|exact Vy|exact Vz|exact VA|exact VB|exact VC|exact VD|exact VE|exact VF) rfl ?_|(refine Wg rfl ?_; intro _)|(refine Wh rfl ?_; intro _)|refine Wi ?_|refine Wj ?_|refine Wk ?_|refine Wl ?_|refine Wm ?_|refine Wn ?_|refine Wo ?_|refine Wp ?_|refine Wq rfl ?_|refine Wr ?_|refine Ws ?_|refine Wt ?_|refine Wu ?_|refine Wv rfl rfl ?_|(refine Ww rfl ⟨rfl, by decide, by decide, by decide⟩ ?_; intro _)|refine Wx rfl rfl ?_)
        rw [evG_false hrm hsm hb]
        exact CT.done () rfl (fun w ho => ho.ent)
      refine JQ.reslot 42 (.bool false) (by simp [hsq]) ?_
      repeat (first|refine Wy rfl (by first|exact Va|exact Vb|exact Vc|exact Vd|exact Ve|exact Vf|exact Vg|exact Vh|exact Vi|exact Vj|exact Vk (by omega)|exact Vl|exact Vm|exact Vn|exact Vo|exact Vp|exact Vq|exact Vr|exact Vs (by omega)|exact Vt (by omega)|exact Vu (by omega)|exact Vv (by omega)|exact Vw|exact Vx|exact Vy|exact Vz|exact VA|exact VB|exact VC|exact VD|exact VE|exact VF) rfl ?_|refine Wz rfl rfl ?_|refine WA rfl rfl ?_|refine WB ?_)
      by_cases hlt : s.1.1.ev.seq < r.1.1.ev.seq
      · refine JQ.reslot 50 (.bool true) (by simp [hlt]) ?_
        repeat (first|refine Wy rfl (by first|exact Va|exact Vb|exact Vc|exact Vd|exact Ve|exact Vf|exact Vg|exact Vh|exact Vi|exact Vj|exact Vk (by omega)|exact Vl|exact Vm|exact Vn|exact Vo|exact Vp|exact Vq|exact Vr|exact Vs (by omega)|exact Vt (by omega)|exact Vu (by omega)|exact Vv (by omega)|exact Vw|exact Vx|exact Vy|exact Vz|exact VA|exact VB|exact VC|exact VD|exact VE|exact VF) rfl ?_|refine Wz rfl rfl ?_|refine WA rfl rfl ?_|refine WB ?_)
        refine Wy rfl (OpV.lookupNo (M := knM R) (v := .map (some r.2.2.2)) (idC r.1.1) hkK (by rw [hgk]; rfl)) rfl ?_
        repeat (first|refine Wy rfl (by first|exact Va|exact Vb|exact Vc|exact Vd|exact Ve|exact Vf|exact Vg|exact Vh|exact Vi|exact Vj|exact Vk (by omega)|exact Vl|exact Vm|exact Vn|exact Vo|exact Vp|exact Vq|exact Vr|exact Vs (by omega)|exact Vt (by omega)|exact Vu (by omega)|exact Vv (by omega)|exact Vw|exact Vx|exact Vy|exact Vz|exact VA|exact VB|exact VC|exact VD|exact VE|exact VF) rfl ?_|refine Wz rfl rfl ?_|refine WA rfl rfl ?_|refine WB ?_)
        refine Wy rfl (OpV.setHas (L := r.1.2) (idC s.1.1) (hS r hrm)) rfl ?_
        repeat (first|refine Wy rfl (by first|exact Va|exact Vb|exact Vc|exact Vd|exact Ve|exact Vf|exact Vg|exact Vh|exact Vi|exact Vj|exact Vk (by omega)|exact Vl|exact Vm|exact Vn|exact Vo|exact Vp|exact Vq|exact Vr|exact Vs (by omega)|exact Vt (by omega)|exact Vu (by omega)|exact Vv (by omega)|exact Vw|exact Vx|exact Vy|exact Vz|exact VA|exact VB|exact VC|exact VD|exact VE|exact VF) rfl ?_|refine Wz rfl rfl ?_|refine WA rfl rfl ?_|refine WB ?_)
        repeat (first|refine Wa ?_|refine Wb ?_|refine Wc ?_|refine Wd ?_|refine We rfl ?_|refine Wf (by first|exact Va|exact Vb|exact Vc|exact Vd|exact Ve|exact Vf|exact Vg|exact Vh|exact Vi|exact Vj|exact Vk (by omega)|exact Vl|exact Vm|exact Vn|exact Vo|exact Vp|exact Vq|exact Vr|exact Vs (by omega)|exact Vt (by omega)|exact Vu (by omega)|exact Vv (by omega)|exact Vw|exact Vx|exact Vy|exact Vz|exact VA|exact VB|exact VC|exact VD|exact VE|exact VF) rfl ?_|(refine Wg rfl ?_; intro _)|(refine Wh rfl ?_; intro _)|refine Wi ?_|refine Wj ?_|refine Wk ?_|refine Wl ?_|refine Wm ?_|refine Wn ?_|refine Wo ?_|refine Wp ?_|refine Wq rfl ?_|refine Wr ?_|refine Ws ?_|refine Wt ?_|refine Wu ?_|refine Wv rfl rfl ?_|(refine Ww rfl ⟨rfl, by decide, by decide, by decide⟩ ?_; intro _)|refine Wx rfl rfl ?_)
        refine JC.test (fun hk => ?_) (fun hk => ?_)
        · have hb : evBad r s = true := by
            have hk' : idC s.1.1 ∉ r.1.2 := by simpa using hk

            simp [evBad, he, hnd', hlt, hk']
          repeat (first|refine Wa ?_|refine Wb ?_|refine Wc ?_|refine Wd ?_|refine We rfl ?_|refine Wf (by first|exact Va|exact Vb|exact Vc|exact Vd|exact Ve|exact Vf|exact Vg|exact Vh|exact Vi|exact Vj|exact Vk (by omega)|exact Vl|exact Vm|exact Vn|exact Vo|exact Vp|exact Vq|exact Vr|exact Vs (by omega)|exact Vt (by omega)|exact Vu (by omega)|exact Vv (by omega)|exact Vw|exact Vx|exact Vy|exact Vz|exact VA|exact VB|exact VC|exact VD|exact VE|exact VF) rfl ?_|(refine Wg rfl ?_; intro _)|(refine Wh rfl ?_; intro _)|refine Wi ?_|refine Wj ?_|refine Wk ?_|refine Wl ?_|refine Wm ?_|refine Wn ?_|refine Wo ?_|refine Wp ?_|refine Wq rfl ?_|refine Wr ?_|refine Ws ?_|refine Wt ?_|refine Wu ?_|refine Wv rfl rfl ?_|(refine Ww rfl ⟨rfl, by decide, by decide, by decide⟩ ?_; intro _)|refine Wx rfl rfl ?_)
          rw [evG_false hrm hsm hb]
          exact CT.done () rfl (fun w ho => ho.ent)
        · have hb : evBad r s = false := by
            have hk' : idC s.1.1 ∈ r.1.2 := by simpa using hk
            simp [evBad, hsq, hk']
          repeat (first|refine Wa ?_|refine Wb ?_|refine Wc ?_|refine Wd ?_|refine We rfl ?_|refine Wf (by first|exact Va|exact Vb|exact Vc|exact Vd|exact Ve|exact Vf|exact Vg|exact Vh|exact Vi|exact Vj|exact Vk (by omega)|exact Vl|exact Vm|exact Vn|exact Vo|exact Vp|exact Vq|exact Vr|exact Vs (by omega)|exact Vt (by omega)|exact Vu (by omega)|exact Vv (by omega)|exact Vw|exact Vx|exact Vy|exact Vz|exact VA|exact VB|exact VC|exact VD|exact VE|exact VF) rfl ?_|(refine Wg rfl ?_; intro _)|(refine Wh rfl ?_; intro _)|refine Wi ?_|refine Wj ?_|refine Wk ?_|refine Wl ?_|refine Wm ?_|refine Wn ?_|refine Wo ?_|refine Wp ?_|refine Wq rfl ?_|refine Wr ?_|refine Ws ?_|refine Wt ?_|refine Wu ?_|refine Wv rfl rfl ?_|(refine Ww rfl ⟨rfl, by decide, by decide, by decide⟩ ?_; intro _)|refine Wx rfl rfl ?_)
          exact ⟨S2 ++ [i], ⟨hT3, hT4, next hb⟩, by simp at hlt3 ⊢; omega, inferInstance⟩
      · have hb : evBad r s = false := by simp [evBad, hsq, hlt]
        refine JQ.reslot 50 (.bool false) (by simp [hlt]) ?_
        repeat (first|refine Wy rfl (by first|exact Va|exact Vb|exact Vc|exact Vd|exact Ve|exact Vf|exact Vg|exact Vh|exact Vi|exact Vj|exact Vk (by omega)|exact Vl|exact Vm|exact Vn|exact Vo|exact Vp|exact Vq|exact Vr|exact Vs (by omega)|exact Vt (by omega)|exact Vu (by omega)|exact Vv (by omega)|exact Vw|exact Vx|exact Vy|exact Vz|exact VA|exact VB|exact VC|exact VD|exact VE|exact VF) rfl ?_|refine Wz rfl rfl ?_|refine WA rfl rfl ?_|refine WB ?_)
        repeat (first|refine Wa ?_|refine Wb ?_|refine Wc ?_|refine Wd ?_|refine We rfl ?_|refine Wf (by first|exact Va|exact Vb|exact Vc|exact Vd|exact Ve|exact Vf|exact Vg|exact Vh|exact Vi|exact Vj|exact Vk (by omega)|exact Vl|exact Vm|exact Vn|exact Vo|exact Vp|exact Vq|exact Vr|exact Vs (by omega)|exact Vt (by omega)|exact Vu (by omega)|exact Vv (by omega)|exact Vw|exact Vx|exact Vy|exact Vz|exact VA|exact VB|exact VC|exact VD|exact VE|exact VF) rfl ?_|(refine Wg rfl ?_; intro _)|(refine Wh rfl ?_; intro _)|refine Wi ?_|refine Wj ?_|refine Wk ?_|refine Wl ?_|refine Wm ?_|refine Wn ?_|refine Wo ?_|refine Wp ?_|refine Wq rfl ?_|refine Wr ?_|refine Ws ?_|refine Wt ?_|refine Wu ?_|refine Wv rfl rfl ?_|(refine Ww rfl ⟨rfl, by decide, by decide, by decide⟩ ?_; intro _)|refine Wx rfl rfl ?_)
        exact ⟨S2 ++ [i], ⟨hT3, hT4, next hb⟩, by simp at hlt3 ⊢; omega, inferInstance⟩
end Ab
end Go.Proofs.YtcmfemfndadfmaaGreat

/- Contracts of comparators, whether draws are told or not: cmp.Compare, cmp.Or, the comparators of dag.of and dag.Sorted. -/
namespace Go.Proofs.YtcmfemfndadfmaaGreat
namespace Ab
open Go Go.RowKit
set_option linter.unusedVariables false
set_option linter.unusedSimpArgs false
set_option synthInstance.maxSize 4000
set_option synthInstance.maxHeartbeats 400000
attribute [local irreducible] JC JO JR JQ andThen inBlock OpV Gives retTo JM JS

def cmpI (a b : Int) : Int := if a < b then -1 else if b < a then 1 else 0
theorem nan_int [Dr] (w : World) (F : Nat → Prop) (a : Int) : GivesV Tryz.prog 92 [.int .i64 a] w F (.bool false) := by
  refine gives_of Tryz.func92 rfl Tryz.ntmps92 rfl rfl [] (.start w F) ?_
  repeat (first|refine Wa ?_|refine Wb ?_|refine Wc ?_|refine Wd ?_|refine We rfl ?_|refine Wf (by first|exact Va|exact Vb|exact Vc|exact Vd|exact Ve|exact Vf|exact Vg|exact Vh|exact Vi|exact Vj|exact Vk (by omega)|exact Vl|exact Vm|exact Vn|exact Vo|exact Vp|exact Vq|exact Vr|exact Vs (by omega)|exact Vt (by omega)|exact Vu (by omega)|exact Vv (by omega)|exact Vw|exact Vx|exact Vy|exact Vz|exact VA|exact VB|exact VC|exact VD|exact VE|exact VF) rfl ?_|(refine Wg rfl ?_; intro _)|(refine Wh rfl ?_; intro _)|refine Wi ?_|refine Wj ?_|refine Wk ?_|refine Wl ?_|refine Wm ?_|refine Wn ?_|refine Wo ?_|refine Wp ?_|refine Wq rfl ?_|refine Wr ?_|refine Ws ?_|refine Wt ?_|refine Wu ?_|refine Wv rfl rfl ?_|(refine Ww rfl ⟨rfl, by decide, by decide, by decide⟩ ?_; intro _))
  exact CT.done () (by simp [packed]) (fun w ho => ho.ent)
theorem compare_int [Dr] (w : World) (F : Nat → Prop) (a b : Int) : GivesV Tryz.prog 66 [.int .i64 a, .int .i64 b] w F (.int .i64 (cmpI a b)) := by
  refine gives_of Tryz.func66 rfl Tryz.ntmps66 rfl rfl [] (.start w F) ?_
  repeat (first|refine Wa ?_|refine Wb ?_|refine Wc ?_|refine Wd ?_|refine We rfl ?_|refine Wf (by first|exact Va|exact Vb|exact Vc|exact Vd|exact Ve|exact Vf|exact Vg|exact Vh|exact Vi|exact Vj|exact Vk (by omega)|exact Vl|exact Vm|exact Vn|exact Vo|exact Vp|exact Vq|exact Vr|exact Vs (by omega)|exact Vt (by omega)|exact Vu (by omega)|exact Vv (by omega)|exact Vw|exact Vx|exact Vy|exact Vz|exact VA|exact VB|exact VC|exact VD|exact VE|exact VF) rfl ?_|(refine Wg rfl ?_; intro _)|(refine Wh rfl ?_; intro _)|refine Wi ?_|refine Wj ?_|refine Wk ?_|refine Wl ?_|refine Wm ?_|refine Wn ?_|refine Wo ?_|refine Wp ?_|refine Wq rfl ?_|refine Wr ?_|refine Ws ?_|refine Wt ?_|refine Wu ?_|refine Wv rfl rfl ?_|(refine Ww rfl ⟨rfl, by decide, by decide, by decide⟩ ?_; intro _))
  refine JR.callV rfl (fun w1 hw => nan_int w1 _ a) ?_
  repeat (first|refine Wa ?_|refine Wb ?_|refine Wc ?_|refine Wd ?_|refine We rfl ?_|refine Wf (by first|exact Va|exact Vb|exact Vc|exact Vd|exact Ve|exact Vf|exact Vg|exact Vh|exact Vi|exact Vj|exact Vk (by omega)|exact Vl|exact Vm|exact Vn|exact Vo|exact Vp|exact Vq|exact Vr|exact Vs (by omega)|exact Vt (by omega)|exact Vu (by omega)|exact Vv (by omega)|exact Vw|exact Vx|exact Vy|exact Vz|exact VA|exact VB|exact VC|exact VD|exact VE|exact VF) rfl ?_|(refine Wg rfl ?_; intro _)|(refine Wh rfl ?_; intro _)|refine Wi ?_|refine Wj ?_|refine Wk ?_|refine Wl ?_|refine Wm ?_|refine Wn ?_|refine Wo ?_|refine Wp ?_|refine Wq rfl ?_|refine Wr ?_|refine Ws ?_|refine Wt ?_|refine Wu ?_|refine Wv rfl rfl ?_|(refine Ww rfl ⟨rfl, by decide, by decide, by decide⟩ ?_; intro _))
  refine JR.callV rfl (fun w1 hw => nan_int w1 _ b) ?_
  repeat (first|refine Wa ?_|refine Wb ?_|refine Wc ?_|refine Wd ?_|refine We rfl ?_|refine Wf (by first|exact Va|exact Vb|exact Vc|exact Vd|exact Ve|exact Vf|exact Vg|exact Vh|exact Vi|exact Vj|exact Vk (by omega)|exact Vl|exact Vm|exact Vn|exact Vo|exact Vp|exact Vq|exact Vr|exact Vs (by omega)|exact Vt (by omega)|exact Vu (by omega)|exact Vv (by omega)|exact Vw|exact Vx|exact Vy|exact Vz|exact VA|exact VB|exact VC|exact VD|exact VE|exact VF) rfl ?_|(refine Wg rfl ?_; intro _)|(refine Wh rfl ?_; intro _)|refine Wi ?_|refine Wj ?_|refine Wk ?_|refine Wl ?_|refine Wm ?_|refine Wn ?_|refine Wo ?_|refine Wp ?_|refine Wq rfl ?_|refine Wr ?_|refine Ws ?_|refine Wt ?_|refine Wu ?_|refine Wv rfl rfl ?_|(refine Ww rfl ⟨rfl, by decide, by decide, by decide⟩ ?_; intro _))
  refine JC.test (fun h => ?_) (fun h => ?_)
  · have e1 : cmpI a b = -1 := by simp [cmpI, h]
    rw [e1]
    repeat (first|refine Wa ?_|refine Wb ?_|refine Wc ?_|refine Wd ?_|refine We rfl ?_|refine Wf (by first|exact Va|exact Vb|exact Vc|exact Vd|exact Ve|exact Vf|exact Vg|exact Vh|exact Vi|exact Vj|exact Vk (by omega)|exact Vl|exact Vm|exact Vn|exact Vo|exact Vp|exact Vq|exact Vr|exact Vs (by omega)|exact Vt (by omega)|exact Vu (by omega)|exact Vv (by omega)|exact Vw|exact Vx|exact Vy|exact Vz|exact VA|exact VB|exact VC|exact VD|exact VE|exact VF) rfl ?_|(refine Wg rfl ?_; intro _)|(refine Wh rfl ?_; intro _)|refine Wi ?_|refine Wj ?_|refine Wk ?_|refine Wl ?_|refine Wm ?_|refine Wn ?_|refine Wo ?_|refine Wp ?_|refine Wq rfl ?_|refine Wr ?_|refine Ws ?_|refine Wt ?_|refine Wu ?_|refine Wv rfl rfl ?_|(refine Ww rfl ⟨rfl, by decide, by decide, by decide⟩ ?_; intro _))
    exact CT.done () rfl (fun w ho => ho.ent)
  repeat (first|refine Wa ?_|refine Wb ?_|refine Wc ?_|refine Wd ?_|refine We rfl ?_|refine Wf (by first|exact Va|exact Vb|exact Vc|exact Vd|exact Ve|exact Vf|exact Vg|exact Vh|exact Vi|exact Vj|exact Vk (by omega)|exact Vl|exact Vm|exact Vn|exact Vo|exact Vp|exact Vq|exact Vr|exact Vs (by omega)|exact Vt (by omega)|exact Vu (by omega)|exact Vv (by omega)|exact Vw|exact Vx|exact Vy|exact Vz|exact VA|exact VB|exact VC|exact VD|exact VE|exact VF) rfl ?_|(refine Wg rfl ?_; intro _)|(refine Wh rfl ?_; intro _)|refine Wi ?_|refine Wj ?_|refine Wk ?_|refine Wl ?_|refine Wm ?_|refine Wn ?_|refine Wo ?_|refine Wp ?_|refine Wq rfl ?_|refine Wr ?_|refine Ws ?_|refine Wt ?_|refine Wu ?_|refine Wv rfl rfl ?_|(refine Ww rfl ⟨rfl, by decide, by decide, by decide⟩ ?_; intro _))
  refine JC.test (fun h' => ?_) (fun h' => ?_)
  · have e1 : cmpI a b = 1 := by simp [cmpI, h, h']
    rw [e1]
    repeat (first|refine Wa ?_|refine Wb ?_|refine Wc ?_|refine Wd ?_|refine We rfl ?_|refine Wf (by first|exact Va|exact Vb|exact Vc|exact Vd|exact Ve|exact Vf|exact Vg|exact Vh|exact Vi|exact Vj|exact Vk (by omega)|exact Vl|exact Vm|exact Vn|exact Vo|exact Vp|exact Vq|exact Vr|exact Vs (by omega)|exact Vt (by omega)|exact Vu (by omega)|exact Vv (by omega)|exact Vw|exact Vx|exact Vy|exact Vz|exact VA|exact VB|exact VC|exact VD|exact VE|exact VF) rfl ?_|(refine Wg rfl ?_; intro _)|(refine Wh rfl ?_; intro _)|refine Wi ?_|refine Wj ?_|refine Wk ?_|refine Wl ?_|refine Wm ?_|refine Wn ?_|refine Wo ?_|refine Wp ?_|refine Wq rfl ?_|refine Wr ?_|refine Ws ?_|refine Wt ?_|refine Wu ?_|refine Wv rfl rfl ?_|(refine Ww rfl ⟨rfl, by decide, by decide, by decide⟩ ?_; intro _))
    exact CT.done () rfl (fun w ho => ho.ent)
  · have e1 : cmpI a b = 0 := by simp [cmpI, h, h']
    rw [e1]
    repeat (first|refine Wa ?_|refine Wb ?_|refine Wc ?_|refine Wd ?_|refine We rfl ?_|refine Wf (by first|exact Va|exact Vb|exact Vc|exact Vd|exact Ve|exact Vf|exact Vg|exact Vh|exact Vi|exact Vj|exact Vk (by omega)|exact Vl|exact Vm|exact Vn|exact Vo|exact Vp|exact Vq|exact Vr|exact Vs (by omega)|exact Vt (by omega)|exact Vu (by omega)|exact Vv (by omega)|exact Vw|exact Vx|exact Vy|exact Vz|exact VA|exact VB|exact VC|exact VD|exact VE|exact VF) rfl ?_|(refine Wg rfl ?_; intro _)|(refine Wh rfl ?_; intro _)|refine Wi ?_|refine Wj ?_|refine Wk ?_|refine Wl ?_|refine Wm ?_|refine Wn ?_|refine Wo ?_|refine Wp ?_|refine Wq rfl ?_|refine Wr ?_|refine Ws ?_|refine Wt ?_|refine Wu ?_|refine Wv rfl rfl ?_|(refine Ww rfl ⟨rfl, by decide, by decide, by decide⟩ ?_; intro _))
    exact CT.done () rfl (fun w ho => ho.ent)

/-- The first one that is not 0. -/
def orL : List Int → Int
  | [] => 0
  | x :: l => if x ≠ 0 then x else orL l
theorem orL_take (L : List Int) (k : Nat) (hk : k ≤ L.length) (h : ∀ j (hj : j < L.length), j < k → L[j] = 0) : orL L = orL (L.drop k) := by
  induction k generalizing L with
  | zero => rfl
  | succ k ih =>
    cases L with
    | nil => simp at hk
    | cons x L =>
      have h0 : x = 0 := h 0 (by simp) (by omega)
      have := ih L (by simpa using hk) (fun j hj hjk => h (j + 1) (by simpa using hj) (by omega))
      simp [orL, h0, this]
theorem or_int [Dr] (w : World) (F : Nat → Prop) (a : Option Addr) (k : Nat) (L : List Int) (h : (sl a k L).holds F w) : GivesV Tryz.prog 65 [.slice a L.length k] w F (.int .i64 (orL L)) := by
  have hL : L.length < 9223372036854775807 := by have := h.2.2.1; simp only [lim] at this; omega
  refine gives_of Tryz.func65 rfl Tryz.ntmps65 rfl rfl [.st (sl a k L)] (.start1 h) ?_
  repeat (first|refine Wa ?_|refine Wb ?_|refine Wc ?_|refine Wd ?_|refine We rfl ?_|refine Wf (by first|exact Va|exact Vb|exact Vc|exact Vd|exact Ve|exact Vf|exact Vg|exact Vh|exact Vi|exact Vj|exact Vk (by omega)|exact Vl|exact Vm|exact Vn|exact Vo|exact Vp|exact Vq|exact Vr|exact Vs (by omega)|exact Vt (by omega)|exact Vu (by omega)|exact Vv (by omega)|exact Vw|exact Vx|exact Vy|exact Vz|exact VA|exact VB|exact VC|exact VD|exact VE|exact VF) rfl ?_|(refine Wg rfl ?_; intro _)|(refine Wh rfl ?_; intro _)|refine Wi ?_|refine Wj ?_|refine Wk ?_|refine Wl ?_|refine Wm ?_|refine Wn ?_|refine Wo ?_|refine Wp ?_|refine Wq rfl ?_|refine Wr ?_|refine Ws ?_|refine Wt ?_|refine Wu ?_|refine Wv rfl rfl ?_|(refine Ww rfl ⟨rfl, by decide, by decide, by decide⟩ ?_; intro _))
  refine JC.loop1 (fun i : Nat => [(3, .int .i64 0), (6, .slice a L.length k), (7, .int .i64 (L.length : Int)), (8, .int .i64 (i : Int))]) (fun i => [.st (sl a k L)])
    (fun i => i ≤ L.length ∧ ∀ j (hj : j < L.length), j < i → L[j] = 0) (fun i => L.length - i) 0 ⟨Nat.zero_le _, fun j hj h => by omega⟩ inferInstance ?_
  intro i ⟨hi, hz⟩
  repeat (first|refine Wa ?_|refine Wb ?_|refine Wc ?_|refine Wd ?_|refine We rfl ?_|refine Wf (by first|exact Va|exact Vb|exact Vc|exact Vd|exact Ve|exact Vf|exact Vg|exact Vh|exact Vi|exact Vj|exact Vk (by omega)|exact Vl|exact Vm|exact Vn|exact Vo|exact Vp|exact Vq|exact Vr|exact Vs (by omega)|exact Vt (by omega)|exact Vu (by omega)|exact Vv (by omega)|exact Vw|exact Vx|exact Vy|exact Vz|exact VA|exact VB|exact VC|exact VD|exact VE|exact VF) rfl ?_|(refine Wg rfl ?_; intro _)|(refine Wh rfl ?_; intro _)|refine Wi ?_|refine Wj ?_|refine Wk ?_|refine Wl ?_|refine Wm ?_|refine Wn ?_|refine Wo ?_|refine Wp ?_|refine Wq rfl ?_|refine Wr ?_|refine Ws ?_|refine Wt ?_|refine Wu ?_|refine Wv rfl rfl ?_|(refine Ww rfl ⟨rfl, by decide, by decide, by decide⟩ ?_; intro _))
  refine JC.test (fun hlt => ?_) (fun hge => ?_)
  · have hlt' : i < L.length := by omega
    repeat (first|refine Wa ?_|refine Wb ?_|refine Wc ?_|refine Wd ?_|refine We rfl ?_|refine Wf (by first|exact Va|exact Vb|exact Vc|exact Vd|exact Ve|exact Vf|exact Vg|exact Vh|exact Vi|exact Vj|exact Vk (by omega)|exact Vl|exact Vm|exact Vn|exact Vo|exact Vp|exact Vq|exact Vr|exact Vs (by omega)|exact Vt (by omega)|exact Vu (by omega)|exact Vv (by omega)|exact Vw|exact Vx|exact Vy|exact Vz|exact VA|exact VB|exact VC|exact VD|exact VE|exact VF) rfl ?_|(refine Wg rfl ?_; intro _)|(refine Wh rfl ?_; intro _)|refine Wi ?_|refine Wj ?_|refine Wk ?_|refine Wl ?_|refine Wm ?_|refine Wn ?_|refine Wo ?_|refine Wp ?_|refine Wq rfl ?_|refine Wr ?_|refine Ws ?_|refine Wt ?_|refine Wu ?_|refine Wv rfl rfl ?_|(refine Ww rfl ⟨rfl, by decide, by decide, by decide⟩ ?_; intro _))
    refine JR.indexInt rfl hlt' ?_
    intro b o
    repeat (first|refine Wa ?_|refine Wb ?_|refine Wc ?_|refine Wd ?_|refine We rfl ?_|refine Wf (by first|exact Va|exact Vb|exact Vc|exact Vd|exact Ve|exact Vf|exact Vg|exact Vh|exact Vi|exact Vj|exact Vk (by omega)|exact Vl|exact Vm|exact Vn|exact Vo|exact Vp|exact Vq|exact Vr|exact Vs (by omega)|exact Vt (by omega)|exact Vu (by omega)|exact Vv (by omega)|exact Vw|exact Vx|exact Vy|exact Vz|exact VA|exact VB|exact VC|exact VD|exact VE|exact VF) rfl ?_|(refine Wg rfl ?_; intro _)|(refine Wh rfl ?_; intro _)|refine Wi ?_|refine Wj ?_|refine Wk ?_|refine Wl ?_|refine Wm ?_|refine Wn ?_|refine Wo ?_|refine Wp ?_|refine Wq rfl ?_|refine Wr ?_|refine Ws ?_|refine Wt ?_|refine Wu ?_|refine Wv rfl rfl ?_|(refine Ww rfl ⟨rfl, by decide, by decide, by decide⟩ ?_; intro _))
    refine JC.test (fun h0 => ?_) (fun h0 => ?_)
    · have e1 : orL L = L[i] := by
        rw [orL_take L i hi hz, List.drop_eq_getElem_cons hlt']
        simp [orL, h0]
      rw [e1]
      repeat (first|refine Wa ?_|refine Wb ?_|refine Wc ?_|refine Wd ?_|refine We rfl ?_|refine Wf (by first|exact Va|exact Vb|exact Vc|exact Vd|exact Ve|exact Vf|exact Vg|exact Vh|exact Vi|exact Vj|exact Vk (by omega)|exact Vl|exact Vm|exact Vn|exact Vo|exact Vp|exact Vq|exact Vr|exact Vs (by omega)|exact Vt (by omega)|exact Vu (by omega)|exact Vv (by omega)|exact Vw|exact Vx|exact Vy|exact Vz|exact VA|exact VB|exact VC|exact VD|exact VE|exact VF) rfl ?_|(refine Wg rfl ?_; intro _)|(refine Wh rfl ?_; intro _)|refine Wi ?_|refine Wj ?_|refine Wk ?_|refine Wl ?_|refine Wm ?_|refine Wn ?_|refine Wo ?_|refine Wp ?_|refine Wq rfl ?_|refine Wr ?_|refine Ws ?_|refine Wt ?_|refine Wu ?_|refine Wv rfl rfl ?_|(refine Ww rfl ⟨rfl, by decide, by decide, by decide⟩ ?_; intro _))
      exact CT.done () rfl (fun w ho => ho.ent)
    · repeat (first|refine Wa ?_|refine Wb ?_|refine Wc ?_|refine Wd ?_|refine We rfl ?_|refine Wf (by first|exact Va|exact Vb|exact Vc|exact Vd|exact Ve|exact Vf|exact Vg|exact Vh|exact Vi|exact Vj|exact Vk (by omega)|exact Vl|exact Vm|exact Vn|exact Vo|exact Vp|exact Vq|exact Vr|exact Vs (by omega)|exact Vt (by omega)|exact Vu (by omega)|exact Vv (by omega)|exact Vw|exact Vx|exact Vy|exact Vz|exact VA|exact VB|exact VC|exact VD|exact VE|exact VF) rfl ?_|(refine Wg rfl ?_; intro _)|(refine Wh rfl ?_; intro _)|refine Wi ?_|refine Wj ?_|refine Wk ?_|refine Wl ?_|refine Wm ?_|refine Wn ?_|refine Wo ?_|refine Wp ?_|refine Wq rfl ?_|refine Wr ?_|refine Ws ?_|refine Wt ?_|refine Wu ?_|refine Wv rfl rfl ?_|(refine Ww rfl ⟨rfl, by decide, by decide, by decide⟩ ?_; intro _))
      refine ⟨i + 1, ⟨by omega, fun j hj hji => ?_⟩, by omega, inferInstance⟩
      by_cases hj' : j = i
      · subst hj'; simpa using h0
      · exact hz j hj (by omega)
  · have e1 : orL L = 0 := by rw [orL_take L i hi hz, List.drop_of_length_le (by omega)]; rfl
    rw [e1]
    repeat (first|refine Wa ?_|refine Wb ?_|refine Wc ?_|refine Wd ?_|refine We rfl ?_|refine Wf (by first|exact Va|exact Vb|exact Vc|exact Vd|exact Ve|exact Vf|exact Vg|exact Vh|exact Vi|exact Vj|exact Vk (by omega)|exact Vl|exact Vm|exact Vn|exact Vo|exact Vp|exact Vq|exact Vr|exact Vs (by omega)|exact Vt (by omega)|exact Vu (by omega)|exact Vv (by omega)|exact Vw|exact Vx|exact Vy|exact Vz|exact VA|exact VB|exact VC|exact VD|exact VE|exact VF) rfl ?_|(refine Wg rfl ?_; intro _)|(refine Wh rfl ?_; intro _)|refine Wi ?_|refine Wj ?_|refine Wk ?_|refine Wl ?_|refine Wm ?_|refine Wn ?_|refine Wo ?_|refine Wp ?_|refine Wq rfl ?_|refine Wr ?_|refine Ws ?_|refine Wt ?_|refine Wu ?_|refine Wv rfl rfl ?_|(refine Ww rfl ⟨rfl, by decide, by decide, by decide⟩ ?_; intro _))
    exact CT.done () rfl (fun w ho => ho.ent)

theorem of1_dag [Dr] (w : World) (F : Nat → Prop) (a : Option Addr) (k bl : Nat) (L : List Commit) (i j : Nat) (hi : i < L.length) (hj : j < L.length) (h : (sl a k L).holds F w) (hb : (ro bl 0 [.slice a L.length k]).holds F w) :
    GivesV Tryz.prog 87 [.int .i64 (i : Int), .int .i64 (j : Int), .pointer (some ⟨bl, 0, none⟩)] w F (.int .i64 (cmpI L[i].gen L[j].gen)) := by
  refine gives_of Tryz.func87 rfl Tryz.ntmps87 rfl rfl [.st (sl a k L), .st (ro bl 0 [.slice a L.length k])] (.start2 h hb) ?_
  repeat (first|refine Wa ?_|refine Wb ?_|refine Wc ?_|refine Wd ?_|refine We rfl ?_|refine Wf (by first|exact Va|exact Vb|exact Vc|exact Vd|exact Ve|exact Vf|exact Vg|exact Vh|exact Vi|exact Vj|exact Vk (by omega)|exact Vl|exact Vm|exact Vn|exact Vo|exact Vp|exact Vq|exact Vr|exact Vs (by omega)|exact Vt (by omega)|exact Vu (by omega)|exact Vv (by omega)|exact Vw|exact Vx|exact Vy|exact Vz|exact VA|exact VB|exact VC|exact VD|exact VE|exact VF) rfl ?_|(refine Wg rfl ?_; intro _)|(refine Wh rfl ?_; intro _)|refine Wi ?_|refine Wj ?_|refine Wk ?_|refine Wl ?_|refine Wm ?_|refine Wn ?_|refine Wo ?_|refine Wp ?_|refine Wq rfl ?_|refine Wr ?_|refine Ws ?_|refine Wt ?_|refine Wu ?_|refine Wv rfl rfl ?_|(refine Ww rfl ⟨rfl, by decide, by decide, by decide⟩ ?_; intro _))
  refine JC.openCommit (L := L) (.slice a L.length k) i hi ?_
  intro b1 o1 p1 q1
  refine JC.openCommit (L := L) (.slice a L.length k) j hj ?_
  intro b2 o2 p2 q2
  refine JC.quiet mixed (by kernel_rfl) ?_
  repeat (first|refine Wy rfl (by first|exact Va|exact Vb|exact Vc|exact Vd|exact Ve|exact Vf|exact Vg|exact Vh|exact Vi|exact Vj|exact Vk (by omega)|exact Vl|exact Vm|exact Vn|exact Vo|exact Vp|exact Vq|exact Vr|exact Vs (by omega)|exact Vt (by omega)|exact Vu (by omega)|exact Vv (by omega)|exact Vw|exact Vx|exact Vy|exact Vz|exact VA|exact VB|exact VC|exact VD|exact VE|exact VF) rfl ?_|refine Wz rfl rfl ?_|refine WB ?_)
  refine JQ.call rfl rfl (fun w1 hw => compare_int w1 _ (L[i]).gen (L[j]).gen) ?_
  repeat (first|refine Wy rfl (by first|exact Va|exact Vb|exact Vc|exact Vd|exact Ve|exact Vf|exact Vg|exact Vh|exact Vi|exact Vj|exact Vk (by omega)|exact Vl|exact Vm|exact Vn|exact Vo|exact Vp|exact Vq|exact Vr|exact Vs (by omega)|exact Vt (by omega)|exact Vu (by omega)|exact Vv (by omega)|exact Vw|exact Vx|exact Vy|exact Vz|exact VA|exact VB|exact VC|exact VD|exact VE|exact VF) rfl ?_|refine Wz rfl rfl ?_|refine WB ?_)
  repeat (first|refine Wa ?_|refine Wb ?_|refine Wc ?_|refine Wd ?_|refine We rfl ?_|refine Wf (by first|exact Va|exact Vb|exact Vc|exact Vd|exact Ve|exact Vf|exact Vg|exact Vh|exact Vi|exact Vj|exact Vk (by omega)|exact Vl|exact Vm|exact Vn|exact Vo|exact Vp|exact Vq|exact Vr|exact Vs (by omega)|exact Vt (by omega)|exact Vu (by omega)|exact Vv (by omega)|exact Vw|exact Vx|exact Vy|exact Vz|exact VA|exact VB|exact VC|exact VD|exact VE|exact VF) rfl ?_|(refine Wg rfl ?_; intro _)|(refine Wh rfl ?_; intro _)|refine Wi ?_|refine Wj ?_|refine Wk ?_|refine Wl ?_|refine Wm ?_|refine Wn ?_|refine Wo ?_|refine Wp ?_|refine Wq rfl ?_|refine Wr ?_|refine Ws ?_|refine Wt ?_|refine Wu ?_|refine Wv rfl rfl ?_|(refine Ww rfl ⟨rfl, by decide, by decide, by decide⟩ ?_; intro _))
  exact CT.done () rfl (fun w ho => ho.ent)
theorem Hold.start4 [Dr] {A B C D : Asn} {w : World} {F : Nat → Prop} (h : A.holds F w) (h2 : B.holds F w) (h3 : C.holds F w) (h4 : D.holds F w) : Hold w F [.st A, .st B, .st C, .st D] w :=
  (Hold.start3 h2 h3 h4).add (Asn.mono _ _ _ _ (fun k hk => ⟨.inl hk, by simp [free, Fact.owns]⟩) h)
/-- A block of whole numbers, read as a row. -/
theorem sl_ints {w : World} {b : Nat} {L : List Int} {t : TypeId} (h : w.heap[b]? = some (.cells (L.map (fun n => Value.int .i64 n)).toArray t (0, 0))) (hmax : L.length ≤ 4096) : (sl (some ⟨b, 0, none⟩) L.length L).holds (fun _ => True) w := by
  refine ⟨by omega, by simp [maxLen]; omega, by simp only [lim]; omega, fun hne => ⟨b, 0, rfl, trivial, (Array.getElem?_eq_some_iff.1 h).1, fun i hi => ⟨(), ?_, by simp [Cell.facts]⟩⟩⟩
  intro j v hj
  simp only [Cell.cells, List.getElem?_singleton] at hj
  split at hj
  · rename_i h0; subst h0
    injection hj with hj
    subst hj
    rw [cell_of_row w b _ _ _ _ h]
    simp [Cell.sz, hi]
  · cases hj
theorem sorted1_dag [Dr] (w : World) (F : Nat → Prop) (a c : Option Addr) (k m bl ba : Nat) (L : List Commit) (I : List ID) (i j : Nat) (hi : i < L.length) (hj : j < L.length) (hi' : i < I.length) (hj' : j < I.length)
    (h : (sl a k L).holds F w) (hb : (ro bl 0 [.slice a L.length k]).holds F w) (h' : (sl c m I).holds F w) (hb' : (ro ba 0 [.slice c I.length m]).holds F w) :
    GivesV Tryz.prog 64 [.int .i64 (i : Int), .int .i64 (j : Int), .pointer (some ⟨bl, 0, none⟩), .pointer (some ⟨ba, 0, none⟩)] w F (.int .i64 (orL [cmpI L[i].gen L[j].gen, idCmp I[i] I[j]])) := by
  refine gives_of Tryz.func64 rfl Tryz.ntmps64 rfl rfl [.st (sl a k L), .st (ro bl 0 [.slice a L.length k]), .st (sl c m I), .st (ro ba 0 [.slice c I.length m])] (.start4 h hb h' hb') ?_
  repeat (first|refine Wa ?_|refine Wb ?_|refine Wc ?_|refine Wd ?_|refine We rfl ?_|refine Wf (by first|exact Va|exact Vb|exact Vc|exact Vd|exact Ve|exact Vf|exact Vg|exact Vh|exact Vi|exact Vj|exact Vk (by omega)|exact Vl|exact Vm|exact Vn|exact Vo|exact Vp|exact Vq|exact Vr|exact Vs (by omega)|exact Vt (by omega)|exact Vu (by omega)|exact Vv (by omega)|exact Vw|exact Vx|exact Vy|exact Vz|exact VA|exact VB|exact VC|exact VD|exact VE|exact VF) rfl ?_|(refine Wg rfl ?_; intro _)|(refine Wh rfl ?_; intro _)|refine Wi ?_|refine Wj ?_|refine Wk ?_|refine Wl ?_|refine Wm ?_|refine Wn ?_|refine Wo ?_|refine Wp ?_|refine Wq rfl ?_|refine Wr ?_|refine Ws ?_|refine Wt ?_|refine Wu ?_|refine Wv rfl rfl ?_|(refine Ww rfl ⟨rfl, by decide, by decide, by decide⟩ ?_; intro _))
  refine JC.openCommit (L := L) (.slice a L.length k) i hi ?_
  intro b1 o1 p1 q1
  refine JC.openCommit (L := L) (.slice a L.length k) j hj ?_
  intro b2 o2 p2 q2
  refine JC.openID (L := I) (.slice c I.length m) i hi' ?_
  intro b3 o3
  refine JC.openID (L := I) (.slice c I.length m) j hj' ?_
  intro b4 o4
  refine JC.draw 20 mixed ?_
  refine JM.take 0 rfl (by kernel_rfl) rfl Vc rfl rfl ?_
  refine JM.take 1 rfl (by kernel_rfl) rfl Va rfl rfl ?_
  refine JM.take 2 rfl (by kernel_rfl) rfl Ve rfl rfl ?_
  refine JM.take 3 rfl (by kernel_rfl) rfl Vd rfl rfl ?_
  refine JM.take 4 rfl (by kernel_rfl) rfl Vc rfl rfl ?_
  refine JM.take 5 rfl (by kernel_rfl) rfl Vc rfl rfl ?_
  refine JM.take 6 rfl (by kernel_rfl) rfl Va rfl rfl ?_
  refine JM.take 7 rfl (by kernel_rfl) rfl Ve rfl rfl ?_
  refine JM.take 8 rfl (by kernel_rfl) rfl Vd rfl rfl ?_
  refine JM.take 9 rfl (by kernel_rfl) rfl Vc rfl rfl ?_
  refine JM.takeCall 10 rfl (by kernel_rfl) rfl (fun w1 hw => compare_int w1 _ (L[i]).gen (L[j]).gen) rfl rfl ?_
  refine JM.take 11 rfl (by kernel_rfl) rfl Vc rfl rfl ?_
  refine JM.take 12 rfl (by kernel_rfl) rfl Va rfl rfl ?_
  refine JM.take 13 rfl (by kernel_rfl) rfl Ve rfl rfl ?_
  refine JM.take 14 rfl (by kernel_rfl) rfl (OpV.sliceArr (by decide)) rfl rfl ?_
  refine JM.take 15 rfl (by kernel_rfl) rfl Vc rfl rfl ?_
  refine JM.take 16 rfl (by kernel_rfl) rfl Va rfl rfl ?_
  refine JM.take 17 rfl (by kernel_rfl) rfl Ve rfl rfl ?_
  refine JM.take 18 rfl (by kernel_rfl) rfl (OpV.sliceArr (by decide)) rfl rfl ?_
  refine JM.takeCall (v := .int .i64 (idCmp I[i] I[j])) 19 rfl (by kernel_rfl) rfl (fun w1 hw => ?_) rfl rfl ?_
  · have e1 := At.sl_bytes (Γ := [.st (ro b3 o3 (idc I[i]))]) (b := b3) inferInstance rfl hw.ent (I[i]).2 (by decide)
    have e2 := At.sl_bytes (Γ := [.st (ro b4 o4 (idc I[j]))]) (b := b4) inferInstance rfl hw.ent (I[j]).2 (by decide)
    have := (compare_bytes w1 (fun _ => True) (some ⟨b3, o3, none⟩) (some ⟨b4, o4, none⟩) 32 32 (I[i]).1 (I[j]).1 e1 e2)
    rw [(I[i]).2, (I[j]).2] at this
    exact this.any
  refine JM.last 20 (by kernel_rfl) rfl rfl rfl (Ww rfl ⟨rfl, by decide, by decide, by decide⟩ fun lb => Wd ⟨rfl, ?_⟩)
  refine JM.last 21 (by kernel_rfl) rfl rfl rfl (JR.callV (v := .int .i64 (orL [cmpI L[i].gen L[j].gen, idCmp I[i] I[j]])) rfl (fun w1 hw => ?_) (Wd ⟨rfl, ?_⟩))
  · have hb := hw.sat (.own lb 3 [.int .i64 (cmpI L[i].gen L[j].gen), .int .i64 (idCmp I[i] I[j])]) (by simp)
    exact (or_int w1 (fun _ => True) _ 2 [cmpI L[i].gen L[j].gen, idCmp I[i] I[j]] (sl_ints (L := [cmpI L[i].gen L[j].gen, idCmp I[i] I[j]]) hb (by simp))).any
  refine JM.last 22 (by kernel_rfl) rfl rfl rfl (Wf Vb rfl (Wd ⟨rfl, ?_⟩))
  refine JM.nil (by kernel_rfl) ?_
  repeat (first|refine Wa ?_|refine Wb ?_|refine Wc ?_|refine Wd ?_|refine We rfl ?_|refine Wf (by first|exact Va|exact Vb|exact Vc|exact Vd|exact Ve|exact Vf|exact Vg|exact Vh|exact Vi|exact Vj|exact Vk (by omega)|exact Vl|exact Vm|exact Vn|exact Vo|exact Vp|exact Vq|exact Vr|exact Vs (by omega)|exact Vt (by omega)|exact Vu (by omega)|exact Vv (by omega)|exact Vw|exact Vx|exact Vy|exact Vz|exact VA|exact VB|exact VC|exact VD|exact VE|exact VF) rfl ?_|(refine Wg rfl ?_; intro _)|(refine Wh rfl ?_; intro _)|refine Wi ?_|refine Wj ?_|refine Wk ?_|refine Wl ?_|refine Wm ?_|refine Wn ?_|refine Wo ?_|refine Wp ?_|refine Wq rfl ?_|refine Wr ?_|refine Ws ?_|refine Wt ?_|refine Wu ?_|refine Wv rfl rfl ?_|(refine Ww rfl ⟨rfl, by decide, by decide, by decide⟩ ?_; intro _))
  exact CT.done () rfl (fun w ho => ho.ent)
end Ab
end Go.Proofs.YtcmfemfndadfmaaGreat

/- The library's sort of a row of places, by a comparator with captured boxes. Program-independent. -/
namespace Go.Proofs.YtcmfemfndadfmaaGreat
namespace Ab
open Go Go.RowKit Go.Sort Go.Shelf
set_option linter.unusedVariables false
set_option linter.unusedSimpArgs false

/-- What a call that is told with its draws leaves. -/
theorem grow_of_bel [dr : Dr] (hdr : Dr.on) {w w' : World} (h : Bel w.heap.size w w') : ∃ q os, w' = grow (w.drewN q) os := by
  refine ⟨w'.drawn - w.drawn, w'.heap.extract w.heap.size, ?_⟩
  have h1 := h.drawn hdr
  have h2 := h.os; have h3 := h.tape; have h4 := h.output
  have hh : w.heap ++ w'.heap.extract w.heap.size = w'.heap := by
    apply Array.ext_getElem?
    intro i
    by_cases hi : i < w.heap.size
    · rw [Array.getElem?_append_left hi]; exact (h.block i hi).symm
    · rw [Array.getElem?_append_right (by omega), Array.getElem?_extract]
      have := h.size
      by_cases hi' : i < w'.heap.size
      · rw [if_pos (by omega)]; congr 1; omega
      · rw [if_neg (by omega), Array.getElem?_eq_none (by omega)]
  cases w; cases w'
  simp only [World.drewN, grow] at *
  subst h2 h3 h4
  simp only [hh]
  congr 1
  omega

abbrev Sorted2 {m : Nat} (cf : Fin (m + 1) → Fin (m + 1) → Int) := { O : List (Fin (m + 1)) // O.Perm (List.finRange (m + 1)) ∧ O.Pairwise (fun i j => Go.Proofs.ltOf cf j i = false) }
theorem sort_places [Dr] {P : Program} {ρ : Ren} (Ly : Go.Proofs.SlLaysF.n6 P ρ) {m : Nat} (cf : Fin (m + 1) → Fin (m + 1) → Int) (hO : SWO (Go.Proofs.ltOf cf)) (g : FuncId) (caps : List Value) [eg : Body P g] {w0 w : World} {F : Nat → Prop} {Γ : List Fact} {b c : Nat} {el : TypeId}
    (hm : m < 1000000) (ho : Hold w0 F (.own b el ((List.range (m + 1)).map natV) :: Γ) w)
    (hc : ∀ W : World, (∀ A : Asn, A.holds (fp w0 F (.own b el ((List.range (m + 1)).map natV) :: Γ)) w → A.holds (fp w0 F (.own b el ((List.range (m + 1)).map natV) :: Γ)) W) →
      ∀ x y : Fin (m + 1), @GivesV ⟨True⟩ P g ([natV x.1, natV y.1] ++ caps) W (fp w0 F (.own b el ((List.range (m + 1)).map natV) :: Γ)) (.int .i64 (cf x y))) :
    Calls P (ρ.f 6) ⟨[.slice (some ⟨b, 0, none⟩) (m + 1) c, .func (.func g) ⟨[]⟩ ⟨caps⟩]⟩ w fun x w' => ∃ O : Sorted2 cf, x = .returned (.tuple ⟨[]⟩) ∧ Hold w0 F (.own b el (O.1.map fun i => natV i.1) :: Γ) w' := by
  have hw : w.heap[b]? = some (.cells ((List.range (m + 1)).map natV).toArray el (0, 0)) := ho.sat (.own b el _) (by simp)
  have hlt : b < w.heap.size := (Array.getElem?_eq_some_iff.1 hw).1
  obtain ⟨enc, henc⟩ : ∃ enc : Fin (m + 1) → Value, enc = fun i => natV i.1 := ⟨_, rfl⟩
  obtain ⟨d, hd⟩ : ∃ d : Array (Fin (m + 1)), d = (List.finRange (m + 1)).toArray := ⟨_, rfl⟩
  have hds : d.size = m + 1 := by rw [hd]; simp
  have hdg : ∀ j, j < m + 1 → enc d[j]! = natV j := by
    intro j hj
    rw [henc, hd]
    simp [hj]
  have hH : Holds enc w b 0 d := by
    intro j hj
    rw [hds] at hj
    rw [hdg j hj]
    constructor
    · rw [Nat.zero_add, cell_of_row w b j _ el _ hw]
      simp [hj]
    · simp [World.frozen?, hw]
  have h1 : Go.Proofs.OneCell enc := fun x => by rw [henc]; rfl
  have hcmp : Go.Proofs.CmpLays1 P g ⟨caps⟩ enc cf b 0 d.size w := by
    intro q os dk hdk x y
    have hold : ∀ k, k < w.heap.size → k ≠ b → (Go.Proofs.sortWorld enc w b 0 q dk os).heap[k]? = w.heap[k]? := by
      intro k hk hkb
      unfold Go.Proofs.sortWorld
      rw [heap_grow_old]
      · simp [Go.Sort.putRow, Go.Sort.mapBlock, Array.getElem?_modify, Ne.symm hkb, Go.Sort.ahead]
      · simp [Go.Sort.putRow, Go.Sort.mapBlock, Go.Sort.ahead]; exact hk
    have hx := hc (Go.Proofs.sortWorld enc w b 0 q dk os) (fun A hA => by
      have hA2 := A.within _ _ hA
      refine A.mono _ _ _ (fun k hk => hk.1) (A.frame _ _ _ (fun k hk => ?_) hA2)
      exact hold k hk.2 (fun e => hk.1.2 (.own b el ((List.range (m + 1)).map natV)) (by simp) e)) x y
    have e1 : (#[enc x, enc y] ++ (⟨caps⟩ : Array Value)) = ⟨[natV x.1, natV y.1] ++ caps⟩ := by rw [henc]; apply Array.ext'; simp
    rw [e1]
    refine Calls.mono hx ?_
    rintro e w' ⟨_, he, hb, _⟩
    exact ⟨he, grow_of_bel (dr := ⟨True⟩) trivial hb⟩
  have hs := Go.Proofs.Any.slices_SortFunc Ly enc h1 cf hO g ⟨caps⟩ b 0 c d w eg.ok hcmp hH hlt (by rw [hds]; omega)
  rw [hds] at hs
  refine Calls.mono hs ?_
  rintro x w' ⟨hx, d', q, os, hp, hsrt, rfl⟩
  obtain ⟨hp1, _, hp3⟩ := hp
  have hd's : d'.size = m + 1 := by rw [hp1, hds]
  have hperm : d'.toList.Perm (List.finRange (m + 1)) := by
    have e1 : (d'.extract 0 (m + 1)).toList = d'.toList := by rw [Array.extract_eq_self_of_le (by omega)]
    have e2 : (d.extract 0 (m + 1)).toList = d.toList := by rw [Array.extract_eq_self_of_le (by omega)]
    rw [e1, e2] at hp3
    rw [hd] at hp3
    exact hp3
  have hpair : d'.toList.Pairwise (fun i j => Go.Proofs.ltOf cf j i = false) := by
    rw [List.pairwise_iff_getElem]
    intro i j hi hj hij
    have hi' : i < d'.size := by simpa using hi
    have hj' : j < d'.size := by simpa using hj
    have := hsrt i j (Nat.zero_le _) hij (by omega)
    rw [getElem!_pos d' j hj', getElem!_pos d' i hi'] at this
    simpa using this
  refine ⟨⟨d'.toList, hperm, hpair⟩, hx, ?_⟩
  have hrow : (Go.Sort.putRow enc (Go.Sort.ahead w q) b 0 d').heap[b]? = some (.cells (d'.toList.map fun i => natV i.1).toArray el (0, 0)) := by
    have : (Go.Sort.ahead w q).heap[b]? = some (.cells ((List.range (m + 1)).map natV).toArray el (0, 0)) := hw
    simp only [Go.Sort.putRow, Go.Sort.mapBlock, Array.getElem?_modify, this]
    simp only [if_true, Option.map_some, Go.Sort.onCells]
    congr 2
    apply Array.ext_getElem?
    intro k
    simp only [Go.Sort.putCells, Array.getElem?_mapIdx]
    by_cases hk : k < m + 1
    · have hk' : k < d'.size := by omega
      simp [hk, hk', henc]
    · have hk' : ¬ k < d'.size := by omega
      simp [hk, hk']
  have h2 : Hold w0 F (.own b el (d'.toList.map fun i => natV i.1) :: Γ) (Go.Sort.putRow enc (Go.Sort.ahead w q) b 0 d') :=
    ho.swap (b := b) (fun _ => Iff.rfl) (fun _ => Iff.rfl) rfl rfl rfl (by simp [Go.Sort.putRow, Go.Sort.mapBlock, Go.Sort.ahead])
      (fun k hk => by simp [Go.Sort.putRow, Go.Sort.mapBlock, Array.getElem?_modify, Ne.symm hk, Go.Sort.ahead]) hrow (hdr := Nat.le_add_right _ _)
  exact h2.of_below ⟨rfl, rfl, rfl, by simp [Go.Proofs.sortWorld, grow, Go.Sort.putRow, Go.Sort.mapBlock, Go.Sort.ahead], fun k hk => heap_grow_old _ _ hk, fun _ => Nat.le_refl _⟩
/-- Places sorted by f. -/
abbrev Order (cf : Nat → Nat → Int) (n : Nat) := { O : List Nat // O.Perm (List.range n) ∧ O.Pairwise (fun i j => ¬ cf j i < 0) }
theorem sort_order [Dr] {P : Program} {ρ : Ren} (Ly : Go.Proofs.SlLaysF.n6 P ρ) (cf : Nat → Nat → Int) (hO : SWO (Go.Proofs.ltOf cf)) (g : FuncId) (caps : List Value) [eg : Body P g] {w0 w : World} {F : Nat → Prop} {Γ : List Fact} {b c n : Nat} {el : TypeId}
    (hm : n ≤ 1000000) (ho : Hold w0 F (.own b el ((List.range n).map natV) :: Γ) w)
    (hc : ∀ W : World, (∀ A : Asn, A.holds (fp w0 F (.own b el ((List.range n).map natV) :: Γ)) w → A.holds (fp w0 F (.own b el ((List.range n).map natV) :: Γ)) W) →
      ∀ x y : Nat, x < n → y < n → @GivesV ⟨True⟩ P g ([natV x, natV y] ++ caps) W (fp w0 F (.own b el ((List.range n).map natV) :: Γ)) (.int .i64 (cf x y))) :
    Calls P (ρ.f 6) ⟨[.slice (some ⟨b, 0, none⟩) n c, .func (.func g) ⟨[]⟩ ⟨caps⟩]⟩ w fun x w' => ∃ O : Order cf n, x = .returned (.tuple ⟨[]⟩) ∧ Hold w0 F (.own b el (O.1.map natV) :: Γ) w' := by
  cases n with
  | zero =>
    refine Calls.mono (Go.Proofs.AnyF.slices_SortFunc_none (P := P) (ρ := ρ) { Ly with } (some ⟨b, 0, none⟩) c _ w) ?_
    rintro x w' ⟨hx, rfl⟩
    exact ⟨⟨[], by simp, by simp⟩, hx, ho⟩
  | succ m =>
    have := sort_places Ly (m := m) (c := c) (fun x y => cf x.1 y.1) ⟨fun x => hO.irrefl x.1, fun x y z h1 h2 => hO.trans x.1 y.1 z.1 h1 h2, fun x y z h1 h2 => hO.ntrans x.1 y.1 z.1 h1 h2⟩ g caps (by omega) ho (fun W hW x y => hc W hW x.1 y.1 x.2 y.2)
    refine Calls.mono this ?_
    rintro x w' ⟨O, hx, hO'⟩
    refine ⟨⟨O.1.map (·.1), ?_, ?_⟩, hx, by rw [List.map_map]; exact hO'⟩
    · have := O.2.1.map (·.1)
      have e : (List.finRange (m + 1)).map (fun x => x.1) = List.range (m + 1) := by
        apply List.ext_getElem
        · simp
        · intro i h1 h2; simp
      rwa [e] at this
    · rw [List.pairwise_map]
      refine O.2.2.imp ?_
      intro i j h
      simpa [Go.Proofs.ltOf] using h
end Ab
end Go.Proofs.YtcmfemfndadfmaaGreat

/- The library's sorting contract laid at this seat's sort of whole numbers: written by genlay.py. -/
namespace Go.Proofs.YtcmfemfndadfmaaGreat
namespace Ab
open Go
def sortInt_ren : Go.Shelf.Ren := ⟨fun | 6 => 63 | 14 => 90 | 15 => 91 | 20 => 117 | 21 => 118 | 22 => 119 | 23 => 120 | 24 => 121 | 25 => 122 | 26 => 123 | 27 => 124 | 28 => 125 | 29 => 126 | 46 => 156 | 47 => 157 | 48 => 158 | 49 => 159 | 50 => 160 | 57 => 177 | n => n, fun | 22 => 76 | 24 => 3 | 25 => 79 | 39 => 99 | 45 => 127 | 46 => 128 | 50 => 132 | 53 => 110 | 55 => 107 | 66 => 159 | 70 => 163 | 76 => 174 | 77 => 175 | n => n, fun | n => n⟩
open Go.Shelf Go.Proofs in
theorem sortInt : SlLaysF.n6 Tryz.prog sortInt_ren where
  mixed := by kernel_rfl
  f6 := ⟨ "slices.SortFunc[[]int,int]", by decide, Tryz.func63.trans (congrArg some (by kernel_rfl))⟩
  f14 := ⟨ "slices.pdqsortCmpFunc[int]", by decide, Tryz.func90.trans (congrArg some (by kernel_rfl))⟩
  f15 := Tryz.func91.trans (congrArg some (by kernel_rfl))
  f20 := ⟨ "slices.insertionSortCmpFunc[int]", by decide, Tryz.func117.trans (congrArg some (by kernel_rfl))⟩
  f21 := ⟨ "slices.heapSortCmpFunc[int]", by decide, Tryz.func118.trans (congrArg some (by kernel_rfl))⟩
  f22 := ⟨ "slices.breakPatternsCmpFunc[int]", by decide, Tryz.func119.trans (congrArg some (by kernel_rfl))⟩
  f23 := ⟨ "slices.choosePivotCmpFunc[int]", by decide, Tryz.func120.trans (congrArg some (by kernel_rfl))⟩
  f24 := ⟨ "slices.reverseRangeCmpFunc[int]", by decide, Tryz.func121.trans (congrArg some (by kernel_rfl))⟩
  f25 := ⟨ "slices.partialInsertionSortCmpFunc[int]", by decide, Tryz.func122.trans (congrArg some (by kernel_rfl))⟩
  f26 := ⟨ "slices.partitionEqualCmpFunc[int]", by decide, Tryz.func123.trans (congrArg some (by kernel_rfl))⟩
  f27 := ⟨ "slices.partitionCmpFunc[int]", by decide, Tryz.func124.trans (congrArg some (by kernel_rfl))⟩
  f28 := Tryz.func125.trans (congrArg some (by kernel_rfl))
  f29 := Tryz.func126.trans (congrArg some (by kernel_rfl))
  f46 := ⟨ "slices.siftDownCmpFunc[int]", by decide, Tryz.func156.trans (congrArg some (by kernel_rfl))⟩
  f47 := Tryz.func157.trans (congrArg some (by kernel_rfl))
  f48 := Tryz.func158.trans (congrArg some (by kernel_rfl))
  f49 := ⟨ "slices.medianAdjacentCmpFunc[int]", by decide, Tryz.func159.trans (congrArg some (by kernel_rfl))⟩
  f50 := ⟨ "slices.medianCmpFunc[int]", by decide, Tryz.func160.trans (congrArg some (by kernel_rfl))⟩
  f57 := ⟨ "slices.order2CmpFunc[int]", by decide, Tryz.func177.trans (congrArg some (by kernel_rfl))⟩
  t0 := Tryz.underlying0
  a0 := Tryz.isAgg0
  z0 := Tryz.sizeOf0
  v0 := Tryz.zeroValue0
  t3 := Tryz.underlying3
  a3 := Tryz.isAgg3
  z3 := Tryz.sizeOf3
  v3 := Tryz.zeroValue3
  t4 := Tryz.underlying4
  a4 := Tryz.isAgg4
  z4 := Tryz.sizeOf4
  v4 := Tryz.zeroValue4
  t5 := Tryz.underlying5
  a5 := Tryz.isAgg5
  z5 := Tryz.sizeOf5
  v5 := Tryz.zeroValue5
  t9 := Tryz.underlying9
  a9 := Tryz.isAgg9
  z9 := Tryz.sizeOf9
  v9 := Tryz.zeroValue9
  t22 := Tryz.underlying76
  a22 := Tryz.isAgg76
  z22 := Tryz.sizeOf76
  v22 := Tryz.zeroValue76
  a24 := Tryz.isAgg3
  z24 := Tryz.sizeOf3
  t25 := Tryz.underlying79
  a25 := Tryz.isAgg79
  z25 := Tryz.sizeOf79
  v25 := Tryz.zeroValue79
  t39 := Tryz.underlying99
  a39 := Tryz.isAgg99
  z39 := Tryz.sizeOf99
  v39 := Tryz.zeroValue99
  t45 := Tryz.underlying127
  a45 := Tryz.isAgg127
  z45 := Tryz.sizeOf127
  v45 := Tryz.zeroValue127
  t46 := Tryz.underlying128
  a46 := Tryz.isAgg128
  z46 := Tryz.sizeOf128
  v46 := Tryz.zeroValue128
  t50 := Tryz.underlying132
  a50 := Tryz.isAgg132
  z50 := Tryz.sizeOf132
  v50 := Tryz.zeroValue132
  t53 := Tryz.underlying110
  a53 := Tryz.isAgg110
  z53 := Tryz.sizeOf110
  v53 := Tryz.zeroValue110
  t55 := Tryz.underlying107
  a55 := Tryz.isAgg107
  z55 := Tryz.sizeOf107
  v55 := Tryz.zeroValue107
  t66 := Tryz.underlying159
  a66 := Tryz.isAgg159
  z66 := Tryz.sizeOf159
  v66 := Tryz.zeroValue159
  t70 := Tryz.underlying163
  a70 := Tryz.isAgg163
  z70 := Tryz.sizeOf163
  v70 := Tryz.zeroValue163
  t76 := Tryz.underlying174
  a76 := Tryz.isAgg174
  z76 := Tryz.sizeOf174
  v76 := Tryz.zeroValue174
  t77 := Tryz.underlying175
  a77 := Tryz.isAgg175
  z77 := Tryz.sizeOf175
  v77 := Tryz.zeroValue175
end Ab
end Go.Proofs.YtcmfemfndadfmaaGreat

/- Contract of dag.of: the graph of commits, if they are closed. -/
namespace Go.Proofs.YtcmfemfndadfmaaGreat
namespace Ab
open Go Go.RowKit
set_option linter.unusedVariables false
set_option linter.unusedSimpArgs false
set_option synthInstance.maxSize 4000
set_option synthInstance.maxHeartbeats 400000
attribute [local irreducible] JC JO JR JQ andThen inBlock OpV Gives retTo JM JS

attribute [local irreducible] ents hashC graphA
theorem evG_iff {R : List Row} (hb : BuiltR (grOf R)) : evG R = true ↔ ∀ c ∈ nodes (grOf R), ∀ d ∈ nodes (grOf R), evOk (nodes (grOf R)) c d := by
  have hk : ∀ r ∈ R, ∀ x, x ∈ r.1.2 ↔ knows (nodes (grOf R)) (idC r.1.1) x := by
    intro r hr x
    have hg : r.1 ∈ grOf R := List.mem_map.2 ⟨r, hr, rfl⟩
    have h1 := knownBy_of hb.nodup hg
    rw [← h1]
    exact hb.known _ (mem_cids.2 ⟨r.1.1, by rw [nodes_gr]; exact List.mem_map.2 ⟨r, hr, rfl⟩, rfl⟩) x
  have hn : ∀ c, c ∈ nodes (grOf R) ↔ ∃ r ∈ R, r.1.1 = c := fun c => by rw [nodes_gr]; exact List.mem_map
  have key : ∀ r ∈ R, ∀ s ∈ R, evBad r s = false ↔ evOk (nodes (grOf R)) r.1.1 s.1.1 := by
    intro r hr s hs
    unfold evBad evOk
    have := hk r hr (idC s.1.1)
    rw [← this]
    by_cases h1 : idC r.1.1 = idC s.1.1
    · simp [h1]
    by_cases h2 : r.1.1.ev.node = s.1.1.ev.node
    · simp [h1, h2]
    · simp [h2]
  rw [evG, List.all_eq_true]
  simp only [List.all_eq_true, Bool.not_eq_true']
  constructor
  · intro h c hc d hd
    obtain ⟨r, hr, rfl⟩ := (hn c).1 hc
    obtain ⟨s, hs, rfl⟩ := (hn d).1 hd
    exact (key r hr s hs).1 (h r hr s hs)
  · intro h r hr s hs
    exact (key r hr s hs).2 (h _ ((hn _).2 ⟨r, hr, rfl⟩) _ ((hn _).2 ⟨s, hs, rfl⟩))

/-- What of gives. -/
structure OfR where
  bo : Nat
  bk : Nat
  R : List Row
  I : List ID
  p : Option Addr
  q : Nat
  b : Bool
structure OfOk (L : List Commit) (y : OfR) : Prop where
  iff : y.b = true ↔ Closed L
  len : y.I.length ≤ L.length
  ids : y.b = true → y.I = cids L
  built : y.b = true → Built (grOf y.R)
  perm : y.b = true → (nodes (grOf y.R)).Perm L
  nodup : y.b = true → ∀ r ∈ y.R, r.1.2.Nodup
abbrev OfY (L : List Commit) := { y : OfR // OfOk L y }
abbrev ofV {L : List Commit} (y : OfY L) : Value := .tuple ⟨[.agg ⟨[.map (some y.1.bo), .map (some y.1.bk)]⟩, .slice y.1.p y.1.I.length y.1.q, .bool y.1.b]⟩
abbrev ofB {L : List Commit} (y : OfY L) : List Fact := if y.1.b = true then [.st (rmap y.1.bo (ents idV (ofM y.1.R)) (ofM y.1.R).length), .st (rmap y.1.bk (ents idV (knM y.1.R)) (knM y.1.R).length), .st (graphA y.1.R), .st (sl y.1.p y.1.q y.1.I)] else [.st (sl y.1.p y.1.q y.1.I)]
theorem ofOk_no {L : List Commit} {bo bk q : Nat} {R : List Row} {I : List ID} {p : Option Addr} (h : ¬ Closed L) (hl : I.length ≤ L.length) : OfOk L ⟨bo, bk, R, I, p, q, false⟩ :=
  ⟨⟨fun h => Bool.noConfusion h, fun h' => (h h').elim⟩, hl, fun h => Bool.noConfusion h, fun h => Bool.noConfusion h, fun h => Bool.noConfusion h, fun h => Bool.noConfusion h⟩
/-- Commits by places. -/
def genC (L : List Commit) (i : Nat) : Int := (L.getD i commit0).gen
def byO (L : List Commit) (O : List Nat) : List Commit := O.map fun i => L.getD i commit0
theorem byO_perm {L : List Commit} {O : List Nat} (h : O.Perm (List.range L.length)) : (byO L O).Perm L := by
  have h1 := h.map (fun i => L.getD i commit0)
  have e : (List.range L.length).map (fun i => L.getD i commit0) = L := by
    apply List.ext_getElem
    · simp
    · intro i h1 h2; simp [List.getD_eq_getElem?_getD, h2]
  rwa [e] at h1
theorem cmpI_lt (a b : Int) : cmpI a b < 0 ↔ a < b := by
  unfold cmpI
  split
  · simp [*]
  · split <;> simp [*]
theorem swo_gen (L : List Commit) : Go.Sort.SWO (Go.Proofs.ltOf fun i j => cmpI (genC L i) (genC L j)) := by
  have h : ∀ i j, Go.Proofs.ltOf (fun i j => cmpI (genC L i) (genC L j)) i j = decide (genC L i < genC L j) := fun i j => by
    simp only [Go.Proofs.ltOf, cmpI_lt]
  refine ⟨fun x => ?_, fun x y z => ?_, fun x y z => ?_⟩
  · rw [h]; simp
  · rw [h, h, h]; simp only [decide_eq_true_eq]; omega
  · rw [h, h, h]; simp only [decide_eq_false_iff_not]; omega
theorem sortFunc_gen {w0 w : World} {F : Nat → Prop} {Γ : List Fact} {b c el bl k : Nat} {a : Option Addr} {L : List Commit} (hl : L.length ≤ 1000000)
    (ho : Hold w0 F (.own b el ((List.range L.length).map natV) :: .st (ro bl 0 [.slice a L.length k]) :: .st (sl a k L) :: Γ) w) :
    Calls Tryz.prog 63 ⟨[.slice (some ⟨b, 0, none⟩) L.length c, .func (.func 87) ⟨[]⟩ ⟨[.pointer (some ⟨bl, 0, none⟩)]⟩]⟩ w fun x w' =>
      ∃ O : Order (fun i j => cmpI (genC L i) (genC L j)) L.length, x = .returned (.tuple ⟨[]⟩) ∧ Hold w0 F (.own b el (O.1.map natV) :: .st (ro bl 0 [.slice a L.length k]) :: .st (sl a k L) :: Γ) w' := by
  refine sort_order sortInt _ (swo_gen L) _ _ hl ho (fun W hW x y hx hy => ?_)
  have h1 := hW (sl a k L) (ho.get (A := sl a k L))
  have h2 := hW (ro bl 0 [.slice a L.length k]) (ho.get (A := ro bl 0 [.slice a L.length k]))
  have := @of1_dag ⟨True⟩ W _ a k bl L x y hx hy h1 h2
  simpa [genC, List.getD_eq_getElem?_getD, hx, hy] using this
theorem may_gen {c : Commit} (h : may c = true) : 1 ≤ c.gen ∧ c.gen ≤ 1048576 := by
  unfold may at h
  split at h
  · cases h
  · rename_i hn
    simp only [Bool.or_eq_true, Bool.not_eq_true', not_or, Bool.not_eq_false, inB, Bool.and_eq_true, decide_eq_true_eq] at hn
    exact hn.1.1.1
end Ab
end Go.Proofs.YtcmfemfndadfmaaGreat
