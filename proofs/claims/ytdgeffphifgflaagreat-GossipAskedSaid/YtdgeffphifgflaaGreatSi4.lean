/- Lemmas for the walks, part 4 of 6: LogW, LogP, Scope, LogR, Dec2, Dec3, Def, ComG, WalkV, Dag, WalkW, WalkX, DagC, More12, WalkB2, DagA, Draw2, DagB, DagE, Cmp, Sort2, Lays3, DagD, DagF, DagG, DagH, WalkY, WalkZ, DagI, DagJ. -/
import Derived.Test.YtdgeffphifgflaaGreatSi2
import Derived.Test.YtdgeffphifgflaaGreatSi3
import Derived.ScopeJumps
import Derived.WideLaws
import Derived.Shelf.SlSortCmp.NoneTotal
import Derived.Test.YtdgeffphifgflaaGreatChecked
import Derived.KernelRfl
namespace Go.Proofs.YtdgeffphifgflaaGreat
namespace Ab
open Go Go.RowKit
set_option linter.unusedVariables false
set_option linter.unusedSimpArgs false
set_option synthInstance.maxSize 4000
set_option synthInstance.maxHeartbeats 400000
attribute [local irreducible] JC JO JR JQ andThen inBlock OpV Gives retTo JM JS
def quadL (L : List UInt8) : List UInt8 := (sumL L).take 4
theorem quadL_length (L : List UInt8) : (quadL L).length = 4 := by unfold quadL; rw [List.length_take, sumL_length]; rfl
theorem four {L : List UInt8} (h : L.length = 32) : ∃ a b c d r, L = a :: b :: c :: d :: r ∧ L.take 4 = [a, b, c, d] := by
  match L, h with
  | a :: b :: c :: d :: r, _ => exact ⟨a, b, c, d, r, rfl, rfl⟩
set_option maxHeartbeats 1000000 in
theorem sum_log (w : World) (F : Nat → Prop) (a : Option Addr) (c : Nat) (L : List UInt8) (h : (sl a c L).holds F w) (hL : L.length ≤ 1048576) :
    GivesV Tryz.prog 177 [.slice a L.length c] w F (.agg ⟨(quadL L).map byteV⟩) := by
  obtain ⟨s0, s1, s2, s3, r, h1, h2⟩ := four (sumL_length L)
  have hq : quadL L = [s0, s1, s2, s3] := h2
  rw [hq]
  have hi : idc (sumI L) = byteV s0 :: byteV s1 :: byteV s2 :: byteV s3 :: r.map byteV := by
    show (sumI L).1.map byteV = _
    rw [sumI_val, h1]; rfl
  refine gives_of Tryz.func177 rfl Tryz.ntmps177 rfl rfl [.st (sl a c L)] (.start1 h) ?_
  repeat (first|refine Wa ?_|refine Wb ?_|refine Wc ?_|refine Wd ?_|refine We rfl ?_|refine Wf (by exact Va) rfl ?_|(refine Wg rfl ?_; intro _))
  refine JR.callV rfl (fun w1 hw => sum_sha w1 _ a c L hw.get hL) ?_
  repeat (first|refine Wa ?_|refine Wb ?_|refine Wc ?_|refine Wd ?_|refine We rfl ?_|(refine Wg rfl ?_; intro _)|refine Wi ?_)
  refine Wf (OpV.sliceArrTo (k := 4) (by decide)) rfl ?_
  repeat (refine We rfl ?_)
  refine Wf (OpV.arrayPtrV (by decide)) rfl ?_
  rw [hi]
  repeat (first|refine Wa ?_|refine Wd ?_|refine We rfl ?_|refine Wf (by exact Vc) rfl ?_|refine Wi ?_|refine Ws ?_)
  exact CT.done () rfl (fun w ho => ho.ent)
def frameL (L : List UInt8) : List UInt8 := numL L.length ++ L ++ quadL L
theorem frameL_length (L : List UInt8) : (frameL L).length = (numL L.length).length + L.length + 4 := by unfold frameL; rw [List.length_append, List.length_append, quadL_length]
def frameT (L : List UInt8) : List UInt8 × Int := if 4000 < L.length then ([], 5) else (frameL L, 0)
set_option maxHeartbeats 1000000 in
theorem frame_log (w : World) (F : Nat → Prop) (a : Option Addr) (c : Nat) (L : List UInt8) (h : (sl a c L).holds F w) :
    GivesSlT Tryz.prog 116 [.slice a L.length c] w F (frameT L).1 [.int .i64 (frameT L).2] := by
  obtain ⟨s0, s1, s2, s3, r, h1, h2⟩ := four (sumL_length L)
  have hq : quadL L = [s0, s1, s2, s3] := h2
  refine gives_of Tryz.func116 rfl Tryz.ntmps116 rfl rfl [.st (sl a c L)] (.start1 h) ?_
  repeat (first|refine Wa ?_|refine Wb ?_|refine Wc ?_|refine Wd ?_|refine We rfl ?_|refine Wf (by first|exact Va|exact Vb|exact Vf|exact Vo) rfl ?_)
  refine JC.test (fun h4 => ?_) (fun h4 => ?_)
  · have e : frameT L = ([], 5) := if_pos (by omega)
    rw [e]
    repeat (first|refine Wa ?_|refine Wb ?_|refine Wc ?_|refine Wd ?_|refine We rfl ?_|refine Wf (by exact Vb) rfl ?_|refine Ws ?_|refine Wt ?_)
    exact CT.done (none, 0) rfl (fun w ho => (ho.ent : Hold _ _ [] w).add sl_nil)
  · have e : frameT L = (frameL L, 0) := if_neg (by omega)
    rw [e]
    repeat (first|refine Wa ?_|refine Wb ?_|refine Wc ?_|refine We rfl ?_|refine Wf (by exact Va) rfl ?_|refine Wl ?_)
    refine JR.callV rfl (fun w1 hw => sum_log w1 _ a c L hw.get (by omega)) ?_
    rw [hq]
    repeat (first|refine We rfl ?_|(refine Wg rfl ?_; intro _))
    rename_i b4
    refine JR.reslot 9 (.agg ⟨[byteV s0, byteV s1, byteV s2, byteV s3]⟩) rfl ?_
    repeat (first|refine Wa ?_|refine Wb ?_|refine Wd ?_|refine Wi ?_)
    refine JC.drawP mixed ?_
    refine JP.pure 0 rfl (by kernel_rfl) rfl (fun _ => Va) rfl rfl ?_
    refine JP.pure 1 rfl (by kernel_rfl) rfl (fun _ => Vf) rfl rfl ?_
    refine JP.pure 2 rfl (by kernel_rfl) rfl (fun _ => OpV.conv) rfl rfl ?_
    refine JP.reslot 12 (.int .u64 (L.length : Int)) (by rw [wrap64]; congr 2; omega) ?_
    refine JP.pure 4 rfl (by kernel_rfl) rfl (fun _ => Va) rfl rfl ?_
    refine JP.pure 6 rfl (by kernel_rfl) rfl (fun _ => OpV.sliceArrAll) rfl rfl ?_
    refine JP.op 3 (by kernel_rfl) rfl rfl (JR.callBuf rfl (fun w1 hw => num_enc L.length (by omega) w1 _) fun a5 c5 => Wd ⟨rfl, (by repeat (first|exact Obs.nil|refine Obs.keep ?_|refine Obs.skip (by kernel_rfl) ?_)), ?_⟩)
    refine JP.op 5 (by kernel_rfl) rfl rfl (JR.appendSl (L' := L) rfl (by exact ⟨rfl, rfl, by decide⟩) (by have := numL_length L.length; omega) fun a6 c6 => Wd ⟨rfl, (by repeat (first|exact Obs.nil|refine Obs.keep ?_|refine Obs.skip (by kernel_rfl) ?_)), ?_⟩)
    refine JP.op 7 (by kernel_rfl) rfl rfl (JR.appendBytes (M := quadL L) rfl (by rw [hq]; rfl) rfl (quadL_length L) (by exact ⟨rfl, rfl, by decide⟩) (by have := numL_length L.length; rw [List.length_append]; omega) fun a7 c7 => Wd ⟨rfl, (by repeat (first|exact Obs.nil|refine Obs.keep ?_|refine Obs.skip (by kernel_rfl) ?_)), ?_⟩)
    refine JP.pure 8 rfl (by kernel_rfl) rfl (fun _ => Vb) rfl rfl ?_
    refine JP.pure 9 rfl (by kernel_rfl) rfl (fun _ => Vb) rfl rfl ?_
    refine JP.nil (by kernel_rfl) ?_
    refine Wa ?_
    refine JC.more (fun w ho => ho.pub) ?_
    repeat (refine Ws ?_)
    exact CT.done (a7, c7) rfl (fun w ho => (ho.ent : Hold _ _ [.st (sl a7 c7 (numL L.length ++ L ++ quadL L))] w))
def writeT (b : List UInt8) (room : Int) (L : List UInt8) : List UInt8 × Int :=
  if 4000 < L.length then ([], 5) else if room < (b.length + (frameL L).length : Nat) then ([], 4) else (b ++ frameL L, 0)
set_option maxHeartbeats 1000000 in
theorem write_log (w : World) (F : Nat → Prop) (a a2 : Option Addr) (c c2 : Nat) (b L : List UInt8) (room : Int) (h : (sl a c b).holds F w) (h2 : (sl a2 c2 L).holds F w) (hb : b.length ≤ 1048576) :
    Gives Tryz.prog 58 [.slice a b.length c, .int .i64 room, .slice a2 L.length c2] w F (fun y : Option Addr × Nat => .tuple ⟨[.slice y.1 (writeT b room L).1.length y.2, .int .i64 (writeT b room L).2]⟩) (fun y => [.res (buf y.1 y.2 5 (writeT b room L).1)]) := by
  refine gives_of Tryz.func58 rfl Tryz.ntmps58 rfl rfl [.st (sl a c b), .st (sl a2 c2 L)] (.start2 h h2) ?_
  repeat (first|refine Wa ?_|refine Wb ?_|refine Wc ?_|refine Wd ?_|refine We rfl ?_|refine Wf (by first|exact Va|exact Vb) rfl ?_)
  refine JR.callSlT rfl (fun w1 hw => frame_log w1 _ a2 c2 L (hw.get (A := sl a2 c2 L))) ?_
  intro a3 c3
  by_cases h4 : 4000 < L.length
  · have e : frameT L = ([], 5) := if_pos h4
    have e2 : writeT b room L = ([], 5) := if_pos h4
    rw [e, e2]
    repeat (first|refine Wa ?_|refine Wb ?_|refine Wc ?_|refine Wd ?_|refine We rfl ?_|refine Wf (by first|exact Va|exact Vb|exact Vm|exact Vq) rfl ?_|refine Wj ?_|refine Ws ?_|refine Wt ?_)
    exact CT.done (none, 0) rfl (fun w ho => ((ho.ent : Hold _ _ [] w).bufNil : Hold _ _ [.res (buf (α := UInt8) none 0 5 [])] w))
  have e : frameT L = (frameL L, 0) := if_neg h4
  rw [e]
  dsimp only
  have hfl := frameL_length L
  have hnl := numL_length L.length
  repeat (first|refine Wa ?_|refine Wb ?_|refine Wc ?_|refine Wd ?_|refine We rfl ?_|refine Wf (by first|exact Va|exact Vb|exact Vf|exact Vm|exact Vo|exact Vq|exact Vs (by omega)) rfl ?_|refine Wk ?_|refine Wl ?_)
  refine JC.test (fun h5 => ?_) (fun h5 => ?_)
  · have e2 : writeT b room L = ([], 4) := by unfold writeT; rw [if_neg h4, if_pos (by omega)]
    rw [e2]
    repeat (first|refine Wa ?_|refine Wb ?_|refine Wc ?_|refine Wd ?_|refine We rfl ?_|refine Wf (by exact Vb) rfl ?_|refine Ws ?_|refine Wt ?_)
    exact CT.done (none, 0) rfl (fun w ho => ((ho.ent : Hold _ _ [] w).bufNil : Hold _ _ [.res (buf (α := UInt8) none 0 5 [])] w))
  · have e2 : writeT b room L = (b ++ frameL L, 0) := by unfold writeT; rw [if_neg h4, if_neg (by omega)]
    rw [e2]
    repeat (first|refine Wa ?_|refine Wb ?_|refine Wc ?_|refine We rfl ?_|refine Wf (by exact Va) rfl ?_|refine Wl ?_)
    refine JR.callBuf rfl (fun w1 hw => clone_bytes w1 _ a c b (hw.get (A := sl a c b)) (by omega)) ?_
    intro a5 c5
    repeat (first|refine We rfl ?_|refine Wf (by exact Va) rfl ?_)
    refine JR.appendSl (L' := frameL L) rfl (by exact ⟨rfl, rfl, by decide⟩) (by omega) ?_
    intro a6 c6
    repeat (first|refine Wa ?_|refine Wd ?_|refine We rfl ?_|refine Wf (by exact Vb) rfl ?_|refine Ws ?_)
    exact CT.done (a6, c6) rfl (fun w ho => ho.ent)
noncomputable def storeT (b : List UInt8) (room : Int) (c : Commit) : List UInt8 × Int := if (putCommit c).2 = 0 then writeT b room (putCommit c).1 else ([], (putCommit c).2)
set_option maxHeartbeats 1000000 in
theorem put_store (w : World) (F : Nat → Prop) (a a2 : Option Addr) (k k2 : Nat) (b : List UInt8) (room : Int) (c : Commit) (h : (sl a k b).holds F w) (h2 : (sl a2 k2 c.parents).holds F w) (ht : texts c) (hb : b.length ≤ 1048576) :
    Gives Tryz.prog 15 [.slice a b.length k, .int .i64 room, commitV c a2 k2] w F (fun y : Option Addr × Nat => .tuple ⟨[.slice y.1 (storeT b room c).1.length y.2, .int .i64 (storeT b room c).2]⟩) (fun y => [.res (buf y.1 y.2 5 (storeT b room c).1)]) := by
  refine gives_of Tryz.func15 rfl Tryz.ntmps15 rfl rfl [.st (sl a k b), .st (sl a2 k2 c.parents)] (.start2 h h2) ?_
  repeat (first|refine Wa ?_|refine Wb ?_|refine Wc ?_|refine Wd ?_|refine We rfl ?_|refine Wf (by first|exact Vb|exact Vc) rfl ?_|(refine Wh rfl ?_; intro _))
  refine JR.callSlT rfl (fun w1 hw => put_commit w1 _ c a2 k2 (hw.get (A := sl a2 k2 c.parents)) ht) ?_
  intro a3 c3
  repeat (first|refine Wa ?_|refine Wb ?_|refine Wc ?_|refine Wd ?_|refine We rfl ?_|refine Wf (by first|exact Va|exact Vb|exact Vm|exact Vq) rfl ?_)
  refine JC.test (fun h5 => ?_) (fun h5 => ?_)
  · have e2 : storeT b room c = ([], (putCommit c).2) := if_neg h5
    rw [e2]
    repeat (first|refine Wa ?_|refine Wb ?_|refine Wc ?_|refine Wd ?_|refine We rfl ?_|refine Wf (by first|exact Va|exact Vb) rfl ?_|refine Ws ?_|refine Wt ?_)
    exact CT.done (none, 0) rfl (fun w ho => ((ho.ent : Hold _ _ [] w).bufNil : Hold _ _ [.res (buf (α := UInt8) none 0 5 [])] w))
  · have e2 : storeT b room c = writeT b room (putCommit c).1 := if_pos (by omega)
    rw [e2]
    repeat (first|refine Wa ?_|refine Wb ?_|refine Wc ?_|refine We rfl ?_|refine Wf (by exact Va) rfl ?_|refine Wl ?_)
    refine JR.call1 (B := fun y : Option Addr × Nat => .res (buf y.1 y.2 5 (writeT b room (putCommit c).1).1)) rfl (fun w1 hw => write_log w1 _ a a3 k c3 b (putCommit c).1 room (hw.get (A := sl a k b)) (hw.get (A := sl a3 c3 (putCommit c).1)) hb) ?_
    rintro ⟨a6, c6⟩
    dsimp only
    repeat (first|refine Wa ?_|refine Wd ?_|refine We rfl ?_|refine Wf (by first|exact Vb|exact Vq) rfl ?_|refine Ws ?_)
    exact CT.done (a6, c6) rfl (fun w ho => ho.ent)
noncomputable def readStep (b : List UInt8) : Option (List UInt8 × List UInt8) :=
  if (getN b).2 = 0 ∨ 4000 < (getN b).1 ∨ b.length < (getN b).2 + (getN b).1 + 4 then none
  else if quadL ((b.drop (getN b).2).take (getN b).1) = (b.drop ((getN b).2 + (getN b).1)).take 4 then some ((b.drop (getN b).2).take (getN b).1, b.drop ((getN b).2 + (getN b).1 + 4)) else none
theorem readStep_some {b x r : List UInt8} (h : readStep b = some (x, r)) : x.length ≤ 4000 ∧ b = frameL x ++ r := by
  unfold readStep at h
  split at h
  · cases h
  · rename_i h0
    split at h
    · rename_i hq
      cases h
      obtain ⟨h1, h2, h3, h4⟩ := getN_some (b := b) (by omega)
      have hl : ((b.drop (getN b).2).take (getN b).1).length = (getN b).1 := by rw [List.length_take, List.length_drop]; omega
      refine ⟨by rw [hl]; omega, ?_⟩
      unfold frameL
      rw [hl, hq]
      have e1 : b.drop ((getN b).2 + (getN b).1 + 4) = (b.drop ((getN b).2 + (getN b).1)).drop 4 := by rw [List.drop_drop]
      have e2 : b.drop ((getN b).2 + (getN b).1) = (b.drop (getN b).2).drop (getN b).1 := by rw [List.drop_drop]
      rw [e1, List.append_assoc _ (List.take 4 _), List.take_append_drop, e2, List.append_assoc, List.take_append_drop]
      exact h3
    · cases h
theorem readStep_lt {b x r : List UInt8} (h : readStep b = some (x, r)) : r.length + 5 ≤ b.length := by
  obtain ⟨_, rfl⟩ := readStep_some h
  rw [List.length_append, frameL_length]
  have := numL_pos x.length
  omega
noncomputable def readF : Nat → List UInt8 → List (List UInt8)
  | 0, _ => []
  | f + 1, b => match readStep b with | none => [] | some q => q.1 :: readF f q.2
noncomputable def readL (b : List UInt8) : List (List UInt8) := readF b.length b
theorem readF_eq : ∀ (f g : Nat) (b : List UInt8), b.length ≤ f → b.length ≤ g → readF f b = readF g b
  | 0, 0, _, _, _ => rfl
  | 0, g + 1, b, h, _ => by
    have h0 : b = [] := List.eq_nil_of_length_eq_zero (by omega)
    subst h0
    unfold readF
    cases hs : readStep [] with
    | none => rfl
    | some q => have := readStep_lt (x := q.1) (r := q.2) hs; simp at this
  | f + 1, 0, b, _, h => by
    have h0 : b = [] := List.eq_nil_of_length_eq_zero (by omega)
    subst h0
    unfold readF
    cases hs : readStep [] with
    | none => rfl
    | some q => have := readStep_lt (x := q.1) (r := q.2) hs; simp at this
  | f + 1, g + 1, b, hf, hg => by
    unfold readF
    cases hs : readStep b with
    | none => rfl
    | some q =>
      have := readStep_lt (x := q.1) (r := q.2) hs
      dsimp only
      rw [readF_eq f g q.2 (by omega) (by omega)]
theorem readL_none {b : List UInt8} (h : readStep b = none) : readL b = [] := by
  unfold readL
  cases hl : b.length with
  | zero => rfl
  | succ f => unfold readF; rw [h]
theorem readL_some {b x r : List UInt8} (h : readStep b = some (x, r)) : readL b = x :: readL r := by
  have hlt := readStep_lt h
  unfold readL
  cases hl : b.length with
  | zero => omega
  | succ f =>
    rw [readF, h]
    dsimp only
    rw [readF_eq f r.length r (by omega) (Nat.le_refl _)]
def framesL (l : List (List UInt8)) : List UInt8 := (l.map frameL).flatten
theorem framesL_append (l m : List (List UInt8)) : framesL (l ++ m) = framesL l ++ framesL m := by simp [framesL]
theorem framesL_one (x : List UInt8) : framesL [x] = frameL x := by simp [framesL]
theorem framesL_cons (x : List UInt8) (l : List (List UInt8)) : framesL (x :: l) = frameL x ++ framesL l := by simp [framesL]
noncomputable def readEnd (b : List UInt8) : Nat := (framesL (readL b)).length
end Ab
end Go.Proofs.YtdgeffphifgflaaGreat
namespace Go.Proofs.YtdgeffphifgflaaGreat
namespace Ab
open Go Go.RowKit
set_option linter.unusedVariables false
set_option linter.unusedSimpArgs false
section
variable {Q : Cont} {e : E} {Γ : List Fact}
def jumpTo (l : Nat) (J : E → List Fact → Prop) (Q : Cont) : Cont
  | .goto l', e, Γ => l' = l ∧ J e Γ
  | x, e, Γ => Q x e Γ
theorem CT.jump {l : Nat} {J : E → List Fact → Prop} (h : J e Γ) : jumpTo l J Q (.goto l) e Γ := ⟨rfl, h⟩
theorem CT.jumpRet {l : Nat} {J : E → List Fact → Prop} (h : Q .ret e Γ) : jumpTo l J Q .ret e Γ := h
end
section
variable {P : Program} {n : Nn} {w0 : World} {F : Nat → Prop} {Q : Cont} {e : E} {Γ : List Fact} [Dr]
theorem JC.scope {A : Type} {c rest : Code} (l : Nat) (St : A → E) (Me : A → List Fact) (I : A → Prop) (μ : A → Nat) (x0 : A) (h0 : I x0) (hf : findLabel c l = some (.seq .skip rest))
    (round : ∀ x, I x → JC P n w0 F rest (jumpTo l (fun e Γ => ∃ y, I y ∧ μ y < μ x ∧ Ent e Γ (St y) (Me y)) Q) (St x) (Me x))
    (first : (∀ e Γ, Ent e Γ (St x0) (Me x0) → JC P n w0 F rest (jumpTo l (fun e Γ => ∃ y, I y ∧ Ent e Γ (St y) (Me y)) Q) e Γ) → JC P n w0 F c (jumpTo l (fun e Γ => ∃ y, I y ∧ Ent e Γ (St y) (Me y)) Q) e Γ) : JC P n w0 F (.scope c) Q e Γ := by
  classical
  intro a w fr ho
  let R : Nat → Act → World → Prop := fun m a w => ∃ x, I x ∧ μ x = m ∧ Fr n (St x) a ∧ Hold w0 F (Me x) w
  let μ' : Act → World → Nat := fun a w => if h : ∃ m, R m a w then Classical.choose (least _ h) else 0
  have hμ' : ∀ a w (h : ∃ m, R m a w), R (μ' a w) a w ∧ ∀ k, R k a w → μ' a w ≤ k := by
    intro a w h
    have : μ' a w = Classical.choose (least _ h) := dif_pos h
    rw [this]; exact Classical.choose_spec (least _ h)
  have go : ∀ x, I x → ∀ a w, Fr n (St x) a → Hold w0 F (Me x) w → rest.wp P (Exit.jump l (fun a w => (∃ m, R m a w) ∧ μ' a w < μ x) (up n w0 F Q)) a w := by
    intro x hx a w fr ho
    refine wp_mono (round x hx a w fr ho) ?_
    rintro z a1 w1 ⟨e1, Γ1, hq, fr1, ho1⟩
    cases z with
    | goto l' =>
      obtain ⟨rfl, y, hy, hm, hent⟩ := hq
      have hR : R (μ y) a1 w1 := ⟨y, hy, rfl, hent.slots n a1 fr1, hent.facts w0 F w1 ho1⟩
      refine ⟨rfl, ⟨_, hR⟩, ?_⟩
      have := (hμ' a1 w1 ⟨_, hR⟩).2 _ hR
      omega
    | _ => exact ⟨e1, Γ1, hq, fr1, ho1⟩
  refine wp_scope_jumps l (fun a w => ∃ m, R m a w) μ' hf ?_ ?_
  · refine wp_mono (first (fun e Γ hent => ?_) a w fr ho) ?_
    · refine ((round x0 h0).mono ?_).weaken (fun a fr => hent.slots n a fr) (fun w ho => hent.facts w0 F w ho)
      intro z e1 Γ1 hz
      cases z with
      | goto l' => exact ⟨hz.1, let ⟨y, hy, _, h⟩ := hz.2; ⟨y, hy, h⟩⟩
      | _ => exact hz
    · rintro z a1 w1 ⟨e1, Γ1, hq, fr1, ho1⟩
      cases z with
      | goto l' =>
        obtain ⟨rfl, y, hy, hent⟩ := hq
        exact ⟨rfl, _, y, hy, rfl, hent.slots n a1 fr1, hent.facts w0 F w1 ho1⟩
      | _ => exact ⟨e1, Γ1, hq, fr1, ho1⟩
  · intro a1 w1 hR
    obtain ⟨⟨x, hx, hxm, fr1, ho1⟩, _⟩ := hμ' a1 w1 hR
    refine wp_seq (wp_skip ?_)
    have := go x hx a1 w1 fr1 ho1
    rw [hxm] at this
    exact this
end
end Ab
end Go.Proofs.YtdgeffphifgflaaGreat
namespace Go.Proofs.YtdgeffphifgflaaGreat
namespace Ab
open Go Go.RowKit
set_option linter.unusedVariables false
set_option linter.unusedSimpArgs false
set_option synthInstance.maxSize 4000
set_option synthInstance.maxHeartbeats 400000
attribute [local irreducible] JC JO JR JQ andThen inBlock OpV Gives retTo JM JS
attribute [local irreducible] JX
instance {Γ : List Fact} {a : Option Addr} {c : Nat} {L : List UInt8} [h : Mem (sl a c L) Γ] : Typed Γ [.slice a L.length c] L := ⟨(a, c), rfl, fun A hA => by
  simp only [Cell.facts, List.mem_singleton] at hA
  subst hA; exact h.ok⟩
set_option maxHeartbeats 4000000 in
theorem read_log (w : World) (F : Nat → Prop) (a : Option Addr) (c : Nat) (b : List UInt8) (h : (sl a c b).holds F w) (hb : b.length ≤ 1048576) :
    GivesSlT Tryz.prog 122 [.slice a b.length c] w F (readL b) [.int .i64 (readEnd b : Int)] := by
  refine gives_of Tryz.func122 rfl Tryz.ntmps122 rfl rfl [.st (sl a c b)] (.start1 h) ?_
  repeat (first|refine Wa ?_|refine Wb ?_|refine Wc ?_|refine Wd ?_|refine We rfl ?_|refine Wf (by exact Vb) rfl ?_)
  refine JC.scope (A := List (List UInt8) × List UInt8 × Option Addr × Nat) 0 (fun x => [(0, .slice a b.length c), (4, .slice x.2.2.1 x.1.length x.2.2.2), (5, .int .i64 ((framesL x.1).length : Int))])
    (fun x => [.st (sl a c b), .res (buf x.2.2.1 x.2.2.2 22 x.1)]) (fun x => b = framesL x.1 ++ x.2.1 ∧ readL b = x.1 ++ readL x.2.1) (fun x => x.2.1.length) ([], b, none, 0) ⟨rfl, rfl⟩ (by rfl) ?_ ?_
  · rintro ⟨l, R, p, q⟩ ⟨hb1, hb2⟩
    dsimp only at hb1 hb2 ⊢
    have hbl : b.length = (framesL l).length + R.length := by rw [hb1, List.length_append]
    have hdrop : b.drop (framesL l).length = R := by rw [hb1]; exact List.drop_left' rfl
    repeat (first|refine Wb ?_|refine Wc ?_|refine We rfl ?_|refine Wf (by exact Va) rfl ?_)
    refine JR.sliceFrom (L := b) (k := (framesL l).length) rfl rfl (by omega) ?_
    rw [hdrop]
    intro a1 c1
    repeat (first|refine Wa ?_|refine Wb ?_|refine Wc ?_|refine Wd ?_|refine We rfl ?_|refine Wf (by first|exact Va|exact Vb) rfl ?_)
    refine JR.callV rfl (fun w1 hw => get_enc w1 _ a1 c1 R (hw.get (A := sl a1 c1 R))) ?_
    have hk10 := getN_le R
    have hn64 := getN_lt R
    repeat (first|refine Wa ?_|refine Wb ?_|refine Wc ?_|refine Wd ?_|refine We rfl ?_|refine Wf (by first|exact Va|exact Vb|exact Vl|exact Vq) rfl ?_)
    refine JO.test 21 (fun h0 => ?_) (fun h0 => ?_)
    · have hs : readStep R = none := if_pos (.inl (by omega))
      have hL : readL b = l := by rw [hb2, readL_none hs, List.append_nil]
      have hE : readEnd b = (framesL l).length := by unfold readEnd; rw [hL]
      rw [hL, hE]
      repeat (first|refine Wa ?_|refine Wb ?_|refine Wc ?_|refine Wd ?_|refine We rfl ?_|refine Wf (by first|exact Va|exact Vb|exact Vi) rfl ?_|refine Wj ?_|refine Ws ?_|refine Wt ?_|refine Wv rfl rfl ?_)
      refine CT.jumpRet ?_
      exact CT.done (p, q) rfl (fun w ho => (ho.ent : Hold _ _ [.res (buf p q 22 l)] w).pub)
    repeat (first|refine We rfl ?_|refine Wf (by first|exact Va|exact Vj|exact Vo) rfl ?_)
    refine JO.test 25 (fun h1 => ?_) (fun h1 => ?_)
    · have hs : readStep R = none := if_pos (.inr (.inl (by omega)))
      have hL : readL b = l := by rw [hb2, readL_none hs, List.append_nil]
      have hE : readEnd b = (framesL l).length := by unfold readEnd; rw [hL]
      rw [hL, hE]
      repeat (first|refine Wa ?_|refine Wb ?_|refine Wc ?_|refine Wd ?_|refine We rfl ?_|refine Wf (by first|exact Va|exact Vb|exact Vi) rfl ?_|refine Wj ?_|refine Ws ?_|refine Wt ?_|refine Wv rfl rfl ?_)
      refine CT.jumpRet ?_
      exact CT.done (p, q) rfl (fun w ho => (ho.ent : Hold _ _ [.res (buf p q 22 l)] w).pub)
    repeat (first|refine We rfl ?_|refine Wf (by first|exact Va|exact Vf) rfl ?_)
    refine Wf OpV.conv rfl ?_
    refine JO.reslot 30 (.int .i64 ((getN R).1 : Int)) (by rw [wrap_in (by omega)]) ?_
    repeat (first|refine Wa ?_|refine Wd ?_|refine We rfl ?_|refine Wf (by first|exact Vg|exact Vj|exact Vs (by omega)) rfl ?_)
    refine JC.test (fun h2 => ?_) (fun h2 => ?_)
    · have hs : readStep R = none := if_pos (.inr (.inr (by omega)))
      have hL : readL b = l := by rw [hb2, readL_none hs, List.append_nil]
      have hE : readEnd b = (framesL l).length := by unfold readEnd; rw [hL]
      rw [hL, hE]
      repeat (first|refine Wa ?_|refine Wb ?_|refine Wc ?_|refine Wd ?_|refine We rfl ?_|refine Wf (by first|exact Va|exact Vb) rfl ?_|refine Ws ?_|refine Wt ?_)
      refine CT.jumpRet ?_
      exact CT.done (p, q) rfl (fun w ho => (ho.ent : Hold _ _ [.res (buf p q 22 l)] w).pub)
    repeat (first|refine Wa ?_|refine Wb ?_|refine Wl ?_)
    generalize hk : (getN R).2 = k at *
    generalize hn : (getN R).1 = n at *
    have hkn : k + n + 4 ≤ R.length := by omega
    refine JC.drawP mixed ?_
    refine JP.pure 0 rfl (by kernel_rfl) rfl (fun _ => Va) rfl rfl ?_
    refine JP.pure 1 rfl (by kernel_rfl) rfl (fun _ => Va) rfl rfl ?_
    refine JP.pure 2 rfl (by kernel_rfl) rfl (fun _ => Va) rfl rfl ?_
    refine JP.pure 3 rfl (by kernel_rfl) rfl (fun _ => Va) rfl rfl ?_
    refine JP.pure 4 rfl (by kernel_rfl) rfl (fun _ => OpV.conv) rfl rfl ?_
    refine JP.reslot 41 (.int .i64 (n : Int)) (by rw [wrap_in (by omega)]) ?_
    refine JP.pure 5 rfl (by kernel_rfl) rfl (fun _ => Vs (k := k) (m := n) (by omega)) rfl rfl ?_
    refine JP.take 6 [.st (sl a1 c1 R)] rfl (by kernel_rfl) rfl (OpV.sliceMidA (l := k) (h := k + n) (s := 1) rfl (fun w1 ho => ⟨by omega, by have := (Hold.get (A := sl a1 c1 R) ho).1; omega⟩)) rfl rfl ?_
    refine JP.pure 7 rfl (by kernel_rfl) rfl (fun _ => Va) rfl rfl ?_
    refine JP.pure 8 rfl (by kernel_rfl) rfl (fun _ => Va) rfl rfl ?_
    refine JP.pure 9 rfl (by kernel_rfl) rfl (fun _ => Va) rfl rfl ?_
    refine JP.pure 10 rfl (by kernel_rfl) rfl (fun _ => OpV.conv) rfl rfl ?_
    refine JP.reslot 47 (.int .i64 (n : Int)) (by rw [wrap_in (by omega)]) ?_
    refine JP.pure 11 rfl (by kernel_rfl) rfl (fun _ => Vs (k := k) (m := n) (by omega)) rfl rfl ?_
    refine JP.take 12 [.st (sl a1 c1 R)] rfl (by kernel_rfl) rfl (OpV.sliceFromA (l := k + n) (s := 1) rfl (fun w1 ho => ⟨by omega, by have := (Hold.get (A := sl a1 c1 R) ho).1; omega⟩)) rfl rfl ?_
    have hxl : ((R.drop k).take n).length = n := by rw [List.length_take, List.length_drop]; omega
    have htl : (R.drop (k + n)).length = R.length - (k + n) := List.length_drop
    refine JP.reslot 43 (.slice (fromA a1 c1 k 1) ((R.drop k).take n).length (c1 - k)) (by rw [hxl]; congr 1; omega) ?_
    refine JP.reslot 49 (.slice (fromA a1 c1 (k + n) 1) (R.drop (k + n)).length (c1 - (k + n))) (by rw [htl]) ?_
    refine JP.pure 13 rfl (by kernel_rfl) rfl (fun _ => Vb) rfl rfl ?_
    refine JP.pure 14 rfl (by kernel_rfl) rfl (fun _ => Vb) rfl rfl ?_
    refine JP.nil (by kernel_rfl) ?_
    refine Wa ?_
    refine JC.more (Γ' := .st (sl (fromA a1 c1 k 1) (c1 - k) ((R.drop k).take n)) :: .st (sl (fromA a1 c1 (k + n) 1) (c1 - (k + n)) (R.drop (k + n))) :: [.st (sl a c b), .res (buf p q 22 l)]) (fun w1 ho => ?_) ?_
    · have e2 := ho.add (sl_from (k := k + n) (ho.get (A := sl a1 c1 R)) (by omega))
      exact (e2.add (sl_mid (l := k) (m := n) (e2.get (A := sl a1 c1 R)) (by omega))).ent
    generalize hx : (R.drop k).take n = x at hxl ⊢
    generalize htd : R.drop (k + n) = T at htl ⊢
    have h4 : 4 ≤ T.length := by omega
    generalize fromA a1 c1 k 1 = ax
    generalize fromA a1 c1 (k + n) 1 = at1
    generalize c1 - k = cx
    generalize c1 - (k + n) = ct
    refine JC.know (fun w1 ho => sl_some (ho.get (A := sl at1 ct T)) (by intro h; rw [h] at h4; simp at h4)) ?_
    rintro ⟨bt, ot, rfl⟩
    obtain ⟨t0, t1, t2, t3, T', hT⟩ : ∃ t0 t1 t2 t3 T', T = t0 :: t1 :: t2 :: t3 :: T' := by
      match T, h4 with
      | t0 :: t1 :: t2 :: t3 :: T', _ => exact ⟨t0, t1, t2, t3, T', rfl⟩
    have hT4 : T.take 4 = [t0, t1, t2, t3] := by rw [hT]; rfl
    refine JC.more (Γ' := .st (ro bt ot [byteV t0, byteV t1, byteV t2, byteV t3]) :: .st (sl (some ⟨bt, ot, none⟩) ct T) :: .st (sl ax cx x) :: [.st (sl a c b), .res (buf p q 22 l)]) (fun w1 ho => ?_) ?_
    · have e1 := sl_take (k := 4) (c' := ct) (ho.get (A := sl (some ⟨bt, ot, none⟩) ct T)) h4 ⟨by have := (ho.get (A := sl (some ⟨bt, ot, none⟩) ct T)).1; omega, Nat.le_refl _⟩
      have e2 := sl_ro e1 (by rw [hT4]; simp)
      rw [hT4] at e2
      exact (ho.add (A := ro bt ot [byteV t0, byteV t1, byteV t2, byteV t3]) e2).ent
    refine Wb ?_
    refine Wb ?_
    refine JC.drawP mixed ?_
    refine JP.pure 0 rfl (by kernel_rfl) rfl (fun _ => Va) rfl rfl ?_
    refine JP.takeCall 1 [.st (sl ax cx x)] rfl (by kernel_rfl) rfl (fun w1 hw => sum_log w1 _ ax cx x hw.get (by omega)) rfl rfl ?_
    refine JP.pure 2 rfl (by kernel_rfl) rfl (fun _ => Va) rfl rfl ?_
    refine JP.take 3 [.st (sl (some ⟨bt, ot, none⟩) ct T)] rfl (by kernel_rfl) rfl (OpV.sliceToV (k := 4) (fun w1 ho => by have := (Hold.get (A := sl (some ⟨bt, ot, none⟩) ct T) ho).1; omega)) rfl rfl ?_
    refine JP.pure 4 rfl (by kernel_rfl) rfl (fun _ => OpV.arrayPtrV (by decide)) rfl rfl ?_
    refine JP.take 5 [.st (ro bt ot [byteV t0, byteV t1, byteV t2, byteV t3])] rfl (by kernel_rfl) rfl Vc rfl rfl ?_
    refine JP.pure 6 rfl (by kernel_rfl) rfl (fun _ => OpV.neqArr (quadL x) [t0, t1, t2, t3] (quadL_length x) rfl rfl rfl) rfl rfl ?_
    refine JP.nil (by kernel_rfl) ?_
    repeat (refine Wa ?_)
    refine JC.test (fun h5 => ?_) (fun h5 => ?_)
    · have hs : readStep R = none := by
        unfold readStep
        rw [hk, hn, hx, htd, if_neg (by omega), if_neg (by rw [hT4]; simpa using h5)]
      have hL : readL b = l := by rw [hb2, readL_none hs, List.append_nil]
      have hE : readEnd b = (framesL l).length := by unfold readEnd; rw [hL]
      rw [hL, hE]
      repeat (first|refine Wa ?_|refine Wb ?_|refine Wc ?_|refine Wd ?_|refine We rfl ?_|refine Wf (by first|exact Va|exact Vb) rfl ?_|refine Ws ?_|refine Wt ?_)
      refine CT.jumpRet ?_
      exact CT.done (p, q) rfl (fun w ho => (ho.ent : Hold _ _ [.res (buf p q 22 l)] w).pub)
    · have hs : readStep R = some (x, R.drop (k + n + 4)) := by
        unfold readStep
        rw [hk, hn, hx, htd, if_neg (by omega), if_pos (by rw [hT4]; simpa using h5)]
      have hlt := readStep_lt hs
      have hL2 : readL b = (l ++ [x]) ++ readL (R.drop (k + n + 4)) := by rw [hb2, readL_some hs]; simp
      have hR2 : b = framesL (l ++ [x]) ++ R.drop (k + n + 4) := by rw [hb1, framesL_append, framesL_one, List.append_assoc, ← (readStep_some hs).2]
      have hfl : (framesL (l ++ [x])).length = (framesL l).length + (k + n + 4) := by
        have := congrArg List.length hR2
        rw [List.length_append, List.length_drop] at this
        omega
      have hll : l.length ≤ b.length := by
        have : ∀ l : List (List UInt8), l.length ≤ (framesL l).length := by
          intro l
          induction l with
          | nil => simp
          | cons y l ih => rw [framesL_cons, List.length_append, frameL_length, List.length_cons]; omega
        have := this l
        omega
      repeat (first|refine Wa ?_|refine Wb ?_|refine Wc ?_|refine We rfl ?_|refine Wf (by exact Va) rfl ?_|refine Wl ?_)
      refine JR.callBuf rfl (fun w1 hw => clone_bytes w1 _ ax cx x (hw.get (A := sl ax cx x)) (by omega)) ?_
      intro a5 c5
      refine JO.more (fun w ho => ho.pub) ?_
      repeat (first|refine We rfl ?_|(refine Ww rfl ⟨rfl, by decide, by decide, by decide⟩ ?_; intro _))
      rename_i bl
      refine JR.append1 (L := l) (u := x) rfl (by exact ⟨rfl, rfl, by decide⟩) (by omega) ?_
      intro a6 c6
      repeat (first|refine Wa ?_|refine Wb ?_|refine Wc ?_|refine Wd ?_|refine We rfl ?_|refine Wf (by first|exact Va|exact Vb) rfl ?_)
      refine Wf OpV.conv rfl ?_
      refine JO.reslot 67 (.int .i64 (n : Int)) (by rw [wrap_in (by omega)]) ?_
      repeat (first|refine Wa ?_|refine Wd ?_|refine We rfl ?_|refine Wf (by first|exact Vb|exact Vs (by omega)) rfl ?_)
      refine JC.goto ?_
      refine CT.jump ⟨(l ++ [x], R.drop (k + n + 4), a6, c6), ⟨hR2, hL2⟩, by show (R.drop (k + n + 4)).length < _; omega, ?_⟩
      show Ent _ _ [(0, .slice a b.length c), (4, .slice a6 (l ++ [x]).length c6), (5, .int .i64 ((framesL (l ++ [x])).length : Int))] [.st (sl a c b), .res (buf a6 c6 22 (l ++ [x]))]
      rw [hfl]
      exact inferInstance
  · intro hrest
    refine JC.more (Γ' := .res (buf (α := List UInt8) none 0 22 []) :: [.st (sl a c b)]) (fun w ho => ho.bufNil) ?_
    repeat (first|refine Wa ?_|refine Wb ?_|refine Wc ?_|refine Wd ?_|refine We rfl ?_|refine Wf (by exact Vb) rfl ?_)
    refine JC.label ?_
    refine Wa ?_
    exact hrest _ _ (show Ent _ _ [(0, .slice a b.length c), (4, .slice none 0 0), (5, .int .i64 0)] [.st (sl a c b), .res (buf (α := List UInt8) none 0 22 [])] from inferInstance)
end Ab
end Go.Proofs.YtdgeffphifgflaaGreat
namespace Go.Proofs.YtdgeffphifgflaaGreat
namespace Ab
open Go Go.RowKit
set_option linter.unusedVariables false
set_option linter.unusedSimpArgs false
set_option synthInstance.maxSize 4000
set_option synthInstance.maxHeartbeats 400000
attribute [local irreducible] JC JO JR JQ andThen inBlock OpV Gives retTo JM JS
theorem field_kind3 (f1 f2 f3 : FuncId) (w : World) : (Instr.field 197 (.agg ⟨[fnV f1, fnV f2, fnV f3]⟩) 2).run Tryz.prog w = .ok (fnV f3) w := by
  have h1 := run_und (P := Tryz.prog) (t := 197) w
  unfold Instr.field
  rw [Sem.run_bind, h1]
  simp [asAgg, part, isAgg, Sem.run_bind]
section
variable {w0 w : World} {F : Nat → Prop} {Γ : List Fact} {bo : Nat} {a : Option Addr} {c : Nat} {b : List UInt8} {o : Op_}
theorem kinds3 (ho : Hold w0 F (.own bo 27 [.int .i64 o.kind, .string o.key, .string o.elem, .int .i64 o.n] :: .st (sl a c b) :: Γ) w) :
    Calls Tryz.prog 219 ⟨[.pointer (some ⟨bo, 0, none⟩), .slice a b.length c]⟩ w fun x w' => ∃ y : Option Addr × Nat, x = .returned (.tuple ⟨[.slice y.1 (b.drop (getN b).2).length y.2, .bool (decide (0 < (getN b).2))]⟩) ∧ Hold w0 F (.own bo 27 [.int .i64 o.kind, .string o.key, .string o.elem, .int .i64 (unfoldN (getN b).1)] :: .st (sl y.1 y.2 (b.drop (getN b).2)) :: Γ) w' := by
  have hkl := (getN_le b).1
  have hn64 := getN_lt b
  refine calls_of (v := fun y : Option Addr × Nat => .tuple ⟨[.slice y.1 (b.drop (getN b).2).length y.2, .bool (decide (0 < (getN b).2))]⟩) (B := fun y => .own bo 27 [.int .i64 o.kind, .string o.key, .string o.elem, .int .i64 (unfoldN (getN b).1)] :: .st (sl y.1 y.2 (b.drop (getN b).2)) :: Γ) Tryz.func219 rfl Tryz.ntmps219 rfl rfl _ ho ?_
  repeat (first|refine Wa ?_|refine Wb ?_|refine Wc ?_|refine Wd ?_|refine We rfl ?_|refine Wf (by first|exact Va|exact Vb) rfl ?_)
  refine JR.callV rfl (fun w1 hw => get_enc w1 _ a c b hw.get) ?_
  repeat (first|refine Wa ?_|refine Wb ?_|refine Wc ?_|refine Wd ?_|refine We rfl ?_|refine Wf (by first|exact Va|exact Vb|exact Vq) rfl ?_)
  refine JR.callV rfl (fun w1 hw => unfold_enc w1 _ (getN b).1 hn64) ?_
  repeat (refine We rfl ?_)
  refine Wf OpV.nilCheck rfl ?_
  repeat (first|refine Wa ?_|refine Wb ?_|refine Wc ?_|refine Wd ?_|refine We rfl ?_|refine Wf (by first|exact Va|exact Vd) rfl ?_|refine Wi ?_)
  refine JR.sliceFrom (L := b) (k := (getN b).2) rfl rfl hkl ?_
  intro a2 c2
  repeat (first|refine Wa ?_|refine Wd ?_|refine We rfl ?_|refine Wf (by first|exact Va|exact Vb|exact Vo) rfl ?_|refine Ws ?_)
  refine CT.done (a2, c2) ?_ (fun w ho => ho.ent)
  simp [packed]
theorem kinds6 (hl : b.length ≤ 34359738368) (ho : Hold w0 F (.own bo 27 [.int .i64 o.kind, .string o.key, .string o.elem, .int .i64 o.n] :: .st (sl a c b) :: Γ) w) :
    Calls Tryz.prog 223 ⟨[.pointer (some ⟨bo, 0, none⟩), .slice a b.length c]⟩ w fun x w' => ∃ y : Option Addr × Nat, x = .returned (.tuple ⟨[.slice y.1 (cutT b 8).2.1.length y.2, .bool (cutT b 8).2.2]⟩) ∧ Hold w0 F (.own bo 27 [.int .i64 o.kind, .string o.key, .string (cutT b 8).1, .int .i64 o.n] :: .st (sl y.1 y.2 (cutT b 8).2.1) :: Γ) w' := by
  refine calls_of (v := fun y : Option Addr × Nat => .tuple ⟨[.slice y.1 (cutT b 8).2.1.length y.2, .bool (cutT b 8).2.2]⟩) (B := fun y => .own bo 27 [.int .i64 o.kind, .string o.key, .string (cutT b 8).1, .int .i64 o.n] :: .st (sl y.1 y.2 (cutT b 8).2.1) :: Γ) Tryz.func223 rfl Tryz.ntmps223 rfl rfl _ ho ?_
  repeat (first|refine Wa ?_|refine Wb ?_|refine Wc ?_|refine Wd ?_|refine We rfl ?_|refine Wf (by first|exact Va|exact Vb) rfl ?_)
  refine JR.call1 (B := fun y : Option Addr × Nat => .st (sl y.1 y.2 (cutT b 8).2.1)) rfl (fun w1 hw => cut_enc w1 _ a c b 8 hw.get hl (by decide)) ?_
  rintro ⟨a2, c2⟩
  dsimp only
  repeat (first|refine We rfl ?_|refine Wf (by first|exact Va|exact Vq) rfl ?_)
  refine Wf OpV.nilCheck rfl ?_
  repeat (first|refine Wa ?_|refine Wb ?_|refine Wc ?_|refine Wd ?_|refine We rfl ?_|refine Wf (by first|exact Va|exact Vb|exact Vd) rfl ?_|refine Wi ?_|refine Ws ?_)
  exact CT.done (a2, c2) rfl (fun w ho => ho.ent)
end
noncomputable def restOp (k : Nat) (key : ByteArray) (b : List UInt8) : Op_ × List UInt8 × Bool :=
  if k = 0 then (⟨0, key, .empty, unfoldN (getN b).1⟩, b.drop (getN b).2, decide (0 < (getN b).2)) else (⟨(k : Int), key, (cutT b 8).1, 0⟩, (cutT b 8).2.1, (cutT b 8).2.2)
noncomputable def getOp (b : List UInt8) : Op_ × List UInt8 × Int :=
  if (getN b).2 = 0 ∨ 4 ≤ (getN b).1 then (op0, [], 2) else
  if (cutT (b.drop (getN b).2) 8).2.2 = false then (op0, [], 2) else
  if (restOp (getN b).1 (cutT (b.drop (getN b).2) 8).1 (cutT (b.drop (getN b).2) 8).2.1).2.2 = true ∧ opMay (restOp (getN b).1 (cutT (b.drop (getN b).2) 8).1 (cutT (b.drop (getN b).2) 8).2.1).1 = true then
    ((restOp (getN b).1 (cutT (b.drop (getN b).2) 8).1 (cutT (b.drop (getN b).2) 8).2.1).1, (restOp (getN b).1 (cutT (b.drop (getN b).2) 8).1 (cutT (b.drop (getN b).2) 8).2.1).2.1, 0) else (op0, [], 2)
theorem cutT_len (b : List UInt8) (m : Nat) : (cutT b m).2.1.length ≤ b.length := by
  unfold cutT
  split
  · simp
  · simp only [List.length_drop]; omega
theorem restOp_len (k : Nat) (key : ByteArray) (b : List UInt8) : (restOp k key b).2.1.length ≤ b.length := by
  unfold restOp
  split
  · simp only [List.length_drop]; omega
  · exact cutT_len b 8
theorem restOp_texts (k : Nat) (key : ByteArray) (b : List UInt8) (h : key.size ≤ 8) : (restOp k key b).1.key.size < 4611686018427387904 ∧ (restOp k key b).1.elem.size < 4611686018427387904 := by
  have := cutT_size b 8
  unfold restOp
  split
  · exact ⟨by show key.size < _; omega, (by decide : ByteArray.empty.size < 4611686018427387904)⟩
  · exact ⟨by show key.size < _; omega, by show (cutT b 8).1.size < _; omega⟩
theorem kinds_get (k : Nat) (h : k < 4) : ∃ (f1 f2 f3 : FuncId) (_ : Body Tryz.prog f3), (gotten kindsM (k : Int)).getD noneV = .agg ⟨[fnV f1, fnV f2, fnV f3]⟩ ∧
    ∀ (key : ByteArray) (b : List UInt8), b.length ≤ 34359738368 → ∀ (w0 w : World) (F : Nat → Prop) (Γ : List Fact) (bo : Nat) (a : Option Addr) (c : Nat),
      Hold w0 F (.own bo 27 [.int .i64 (k : Int), .string key, .string .empty, .int .i64 0] :: .st (sl a c b) :: Γ) w →
      Calls Tryz.prog f3 ⟨[.pointer (some ⟨bo, 0, none⟩), .slice a b.length c]⟩ w fun x w' => ∃ y : Option Addr × Nat, x = .returned (.tuple ⟨[.slice y.1 (restOp k key b).2.1.length y.2, .bool (restOp k key b).2.2]⟩) ∧
        Hold w0 F (.own bo 27 [.int .i64 (restOp k key b).1.kind, .string (restOp k key b).1.key, .string (restOp k key b).1.elem, .int .i64 (restOp k key b).1.n] :: .st (sl y.1 y.2 (restOp k key b).2.1) :: Γ) w' := by
  by_cases h0 : k = 0
  · subst h0
    refine ⟨_, _, 219, inferInstance, rfl, fun key b hl w0 w F Γ bo a c ho => ?_⟩
    have := kinds3 (o := ⟨0, key, .empty, 0⟩) ho
    simp only [restOp, if_true]
    exact this
  · refine ⟨221, 222, 223, inferInstance, ?_, fun key b hl w0 w F Γ bo a c ho => ?_⟩
    · obtain h1 | h1 | h1 : k = 1 ∨ k = 2 ∨ k = 3 := by omega
      · subst h1; rfl
      · subst h1; rfl
      · subst h1; rfl
    · have := kinds6 (o := ⟨(k : Int), key, .empty, 0⟩) hl ho
      simp only [restOp, if_neg h0]
      exact this
set_option maxHeartbeats 4000000 in
theorem get_ops (w : World) (F : Nat → Prop) (a : Option Addr) (c : Nat) (b : List UInt8) (h : (sl a c b).holds F w) (hl : b.length ≤ 34359738368) :
    Gives Tryz.prog 229 [.slice a b.length c] w F (fun y : Option Addr × Nat => .tuple ⟨[opV (getOp b).1, .slice y.1 (getOp b).2.1.length y.2, .int .i64 (getOp b).2.2]⟩) (fun y => [.st (sl y.1 y.2 (getOp b).2.1)]) := by
  have hkl := (getN_le b).1
  have hn64 := getN_lt b
  refine gives_of Tryz.func229 rfl Tryz.ntmps229 rfl rfl [.st (sl a c b)] (.start1 h) ?_
  repeat (first|refine Wa ?_|refine Wb ?_|refine Wc ?_|refine Wd ?_|refine We rfl ?_|refine Wf (by first|exact Va|exact Vb) rfl ?_|(refine Wg rfl ?_; intro _))
  rename_i b2
  refine JR.callV rfl (fun w1 hw => get_enc w1 _ a c b hw.get) ?_
  repeat (first|refine Wa ?_|refine Wb ?_|refine Wc ?_|refine Wd ?_|refine We rfl ?_|refine Wf (by first|exact Va|exact Vb|exact Vl|exact Vq) rfl ?_)
  refine JO.test 18 (fun h0 => ?_) (fun h0 => ?_)
  · have e : getOp b = (op0, [], 2) := by unfold getOp; rw [if_pos (.inl (by omega))]
    rw [e]
    repeat (first|refine Wa ?_|refine Wb ?_|refine Wc ?_|refine Wd ?_|refine We rfl ?_|refine Wf (by exact Vi) rfl ?_|refine Wj ?_|refine Wv rfl rfl ?_)
    refine Wf (OpV.build [.int .i64 0, .string .empty, .string .empty, .int .i64 0] (by kernel_rfl)) rfl ?_
    repeat (first|refine Wa ?_|refine Wd ?_|refine We rfl ?_|refine Wf (by exact Vb) rfl ?_|refine Wi ?_|refine Ws ?_|refine Wt ?_)
    exact CT.done (none, 0) rfl (fun w ho => (ho.ent : Hold _ _ [] w).add sl_nil)
  repeat (first|refine Wa ?_|refine Wd ?_|refine We rfl ?_|refine Wf (by first|exact Va|exact Vj|exact Vp) rfl ?_)
  refine JC.test (fun h1 => ?_) (fun h1 => ?_)
  · have e : getOp b = (op0, [], 2) := by unfold getOp; rw [if_pos (.inr (by omega))]
    rw [e]
    repeat (first|refine Wb ?_|refine Wc ?_|refine We rfl ?_)
    refine Wf (OpV.build [.int .i64 0, .string .empty, .string .empty, .int .i64 0] (by kernel_rfl)) rfl ?_
    repeat (first|refine Wa ?_|refine Wd ?_|refine We rfl ?_|refine Wf (by exact Vb) rfl ?_|refine Wi ?_|refine Ws ?_|refine Wt ?_)
    exact CT.done (none, 0) rfl (fun w ho => (ho.ent : Hold _ _ [] w).add sl_nil)
  obtain ⟨k, hk⟩ : ∃ k, k = (getN b).1 := ⟨_, rfl⟩
  have hk4 : k < 4 := by omega
  obtain ⟨B, hB⟩ : ∃ B, B = b.drop (getN b).2 := ⟨_, rfl⟩
  have hBl : B.length ≤ b.length := by rw [hB, List.length_drop]; omega
  have hg : getOp b = if (cutT B 8).2.2 = false then (op0, [], 2) else if (restOp k (cutT B 8).1 (cutT B 8).2.1).2.2 = true ∧ opMay (restOp k (cutT B 8).1 (cutT B 8).2.1).1 = true then ((restOp k (cutT B 8).1 (cutT B 8).2.1).1, (restOp k (cutT B 8).1 (cutT B 8).2.1).2.1, 0) else (op0, [], 2) := by
    rw [hk, hB]; unfold getOp; rw [if_neg (by omega)]
  obtain ⟨f1, f2, f3, hbody, hlook, hget⟩ := kinds_get k hk4
  rw [← hk]
  repeat (first|refine Wa ?_|refine Wb ?_|refine Wc ?_|refine We rfl ?_|refine Wf (by exact Va) rfl ?_|refine Wl ?_)
  refine Wf OpV.conv rfl ?_
  refine JO.reslot 24 (.int .i64 (k : Int)) (by rw [wrap_in (by omega)]) ?_
  repeat (refine We rfl ?_)
  refine Wf (OpV.build [.int .i64 (k : Int), .string .empty, .string .empty, .int .i64 0] (by kernel_rfl)) rfl ?_
  repeat (first|refine Wa ?_|refine Wb ?_|refine Wc ?_|refine Wd ?_|refine We rfl ?_|refine Wf (by exact Va) rfl ?_|(refine Wg rfl ?_; intro _)|refine Wi ?_)
  rename_i b7
  refine JR.sliceFrom (L := b) (k := (getN b).2) rfl rfl hkl ?_
  rw [← hB]
  intro a1 c1
  repeat (refine We rfl ?_)
  refine JR.call1 (B := fun y : Option Addr × Nat => .st (sl y.1 y.2 (cutT B 8).2.1)) rfl (fun w1 hw => cut_enc w1 _ a1 c1 B 8 hw.get (by omega) (by decide)) ?_
  rintro ⟨a3, c3⟩
  dsimp only
  obtain ⟨key, T, is, hcut⟩ : ∃ key T is, cutT B 8 = (key, T, is) := ⟨_, _, _, rfl⟩
  have hks : key.size ≤ 8 := by have := cutT_size B 8; rw [hcut] at this; exact this
  have hTl : T.length ≤ B.length := by have := cutT_len B 8; rw [hcut] at this; exact this
  rw [hcut] at hg ⊢
  dsimp only at hg ⊢
  repeat (first|refine Wa ?_|refine Wb ?_|refine Wc ?_|refine Wd ?_|refine We rfl ?_|refine Wf (by first|exact Va|exact Vb|exact Vd|exact Vq) rfl ?_|refine Wi ?_)
  cases is with
  | false =>
    rw [if_pos rfl] at hg
    rw [hg]
    repeat (first|refine Wa ?_|refine Wb ?_|refine Wc ?_|refine Wd ?_|refine We rfl ?_|refine Wf (by first|exact Va|exact Vh|exact Vi) rfl ?_|refine Wj ?_|refine Wk ?_|refine Wl ?_|refine Wv rfl rfl ?_)
    skip
    refine Wf (OpV.build [.int .i64 0, .string .empty, .string .empty, .int .i64 0] (by kernel_rfl)) rfl ?_
    repeat (first|refine Wa ?_|refine Wd ?_|refine We rfl ?_|refine Wf (by exact Vb) rfl ?_|refine Wi ?_|refine Ws ?_|refine Wt ?_)
    exact CT.done (none, 0) rfl (fun w ho => (ho.ent : Hold _ _ [] w).add sl_nil)
  | true =>
    rw [if_neg (by simp)] at hg
    have hrt := restOp_texts k key T hks
    have hrl := restOp_len k key T
    have hget' := fun w0 w F Γ bo a c => hget key T (by omega) w0 w F Γ bo a c
    obtain ⟨o, R, ok, hro⟩ : ∃ o R ok, restOp k key T = (o, R, ok) := ⟨_, _, _, rfl⟩
    rw [hro] at hg hrt hrl hget'
    dsimp only at hg hrt hrl hget'
    repeat (refine Wj ?_)
    refine JC.drawP mixed ?_
    refine JP.pure 1 rfl (by kernel_rfl) rfl (fun _ => Vd) rfl rfl ?_
    refine JP.take 2 [.own b7 27 [.int .i64 (k : Int), .string key, .string .empty, .int .i64 0]] rfl (by kernel_rfl) rfl Vc rfl rfl ?_
    refine JP.pure 5 rfl (by kernel_rfl) rfl (fun _ => Va) rfl rfl ?_
    refine JP.op 0 (by kernel_rfl) rfl rfl (JR.call1 rfl (fun w1 hw => kinds_ops w1 _) fun mk => Wd ⟨rfl, (by repeat (first|exact Obs.nil|refine Obs.keep ?_|refine Obs.skip (by kernel_rfl) ?_)), ?_⟩)
    refine JP.take 3 [.omap mk (ents intV kindsM) kindsM.length] rfl (by kernel_rfl) rfl (OpV.lookupNo (k : Int) kindsM_nodup hlook) rfl rfl ?_
    refine JP.pure 4 rfl (by kernel_rfl) rfl (fun _ => OpV.fieldV (field_kind3 f1 f2 f3)) rfl rfl ?_
    refine JP.more (Γ' := .own b7 27 [.int .i64 (k : Int), .string key, .string .empty, .int .i64 0] :: .st (sl a3 c3 T) :: [.omap mk (ents intV kindsM) kindsM.length, .own b2 27 [.int .i64 0, .string .empty, .string .empty, .int .i64 0]]) (fun w1 ho => ho.ent) ?_
    refine JP.op 6 (by kernel_rfl) rfl rfl (JR.callW (v := fun y : Option Addr × Nat => .tuple ⟨[.slice y.1 R.length y.2, .bool ok]⟩) (B := fun y => .own b7 27 [.int .i64 o.kind, .string o.key, .string o.elem, .int .i64 o.n] :: .st (sl y.1 y.2 R) :: [.omap mk (ents intV kindsM) kindsM.length, .own b2 27 [.int .i64 0, .string .empty, .string .empty, .int .i64 0]]) rfl (fun w1 hw => hget' _ _ _ _ _ _ _ hw) fun y => Wd ⟨rfl, (by repeat (first|exact Obs.nil|refine Obs.keep ?_|refine Obs.skip (by kernel_rfl) ?_)), ?_⟩)
    refine JP.pure 7 rfl (by kernel_rfl) rfl (fun _ => Va) rfl rfl ?_
    refine JP.pure 8 rfl (by kernel_rfl) rfl (fun _ => Vq) rfl rfl ?_
    refine JP.pure 9 rfl (by kernel_rfl) rfl (fun _ => Vq) rfl rfl ?_
    refine JP.pure 10 rfl (by kernel_rfl) rfl (fun _ => Vb) rfl rfl ?_
    refine JP.pure 11 rfl (by kernel_rfl) rfl (fun _ => Vb) rfl rfl ?_
    refine JP.nil (by kernel_rfl) ?_
    cases ok with
    | false =>
      rw [if_neg (by simp)] at hg
      rw [hg]
      repeat (first|refine Wa ?_|refine Wb ?_|refine Wc ?_|refine Wd ?_|refine We rfl ?_|refine Wf (by first|exact Va|exact Vh|exact Vi) rfl ?_|refine Wj ?_|refine Wv rfl rfl ?_)
      skip
      refine Wf (OpV.build [.int .i64 0, .string .empty, .string .empty, .int .i64 0] (by kernel_rfl)) rfl ?_
      repeat (first|refine Wa ?_|refine Wd ?_|refine We rfl ?_|refine Wf (by exact Vb) rfl ?_|refine Wi ?_|refine Ws ?_|refine Wt ?_)
      exact CT.done (none, 0) rfl (fun w ho => (ho.ent : Hold _ _ [] w).add sl_nil)
    | true =>
      repeat (first|refine Wa ?_|refine Wb ?_|refine Wc ?_|refine We rfl ?_|refine Wf (by first|exact Va|exact Vc|exact Vh) rfl ?_)
      refine JR.callV rfl (fun w1 hw => may_ops w1 _ o hrt.1 hrt.2) ?_
      cases hm : opMay o with
      | false =>
        rw [if_neg (by simp [hm])] at hg
        rw [hg]
        repeat (first|refine Wa ?_|refine Wb ?_|refine Wc ?_|refine Wd ?_|refine We rfl ?_|refine Wf (by first|exact Vh|exact Vj) rfl ?_|refine Wj ?_)
        skip
        refine Wf (OpV.build [.int .i64 0, .string .empty, .string .empty, .int .i64 0] (by kernel_rfl)) rfl ?_
        repeat (first|refine Wa ?_|refine Wd ?_|refine We rfl ?_|refine Wf (by exact Vb) rfl ?_|refine Wi ?_|refine Ws ?_|refine Wt ?_)
        exact CT.done (none, 0) rfl (fun w ho => (ho.ent : Hold _ _ [] w).add sl_nil)
      | true =>
        rw [if_pos ⟨rfl, hm⟩] at hg
        rw [hg]
        repeat (first|refine Wa ?_|refine Wb ?_|refine Wd ?_|refine We rfl ?_|refine Wf (by first|exact Vh|exact Vj) rfl ?_|refine Wk ?_|refine Wl ?_)
        refine JC.drawP mixed ?_
        refine JP.take 0 [.own b7 27 [.int .i64 o.kind, .string o.key, .string o.elem, .int .i64 o.n]] rfl (by kernel_rfl) rfl Vc rfl rfl ?_
        refine JP.pure 1 rfl (by kernel_rfl) rfl (fun _ => Va) rfl rfl ?_
        refine JP.op 2 (by kernel_rfl) rfl rfl (JR.callBuf rfl (fun w1 hw => clone_bytes w1 _ y.1 y.2 R hw.get (by omega)) fun a5 c5 => Wd ⟨rfl, (by repeat (first|exact Obs.nil|refine Obs.keep ?_|refine Obs.skip (by kernel_rfl) ?_)), ?_⟩)
        refine JP.more (fun w1 ho => ho.pub) ?_
        refine JP.op 3 (by kernel_rfl) rfl rfl (Wi (Wd ⟨rfl, (by repeat (first|exact Obs.nil|refine Obs.keep ?_|refine Obs.skip (by kernel_rfl) ?_)), ?_⟩))
        refine JP.pure 4 rfl (by kernel_rfl) rfl (fun _ => Vb) rfl rfl ?_
        refine JP.pure 5 rfl (by kernel_rfl) rfl (fun _ => Vb) rfl rfl ?_
        refine JP.nil (by kernel_rfl) ?_
        repeat (first|refine Wa ?_|refine Ws ?_)
        exact CT.done (a5, c5) rfl (fun w ho => ho.ent)
noncomputable section
def numO (b : List UInt8) : Option (Nat × List UInt8) := if (getN b).2 = 0 then none else some ((getN b).1, b.drop (getN b).2)
def uptoO (m : Nat) (b : List UInt8) : Option (Nat × List UInt8) := if (getN b).2 = 0 ∨ m < (getN b).1 then none else some ((getN b).1, b.drop (getN b).2)
def getIds : Nat → List UInt8 → Option (List ID × List UInt8)
  | 0, b => some ([], b)
  | n + 1, b => if h : 32 ≤ b.length then (getIds n (b.drop 32)).map (fun q => (takeID b h :: q.1, q.2)) else none
def finC (c : Commit) (b : List UInt8) : Option (Commit × List UInt8) := if may c = true then some (c, b) else none
def opC (n0 : Int) (n1 n2 : Nat) (ps : List ID) (b : List UInt8) : Option (Commit × List UInt8) :=
  if n0 = -1 then finC ⟨⟨n0, n1⟩, n2, ps, op0⟩ b else if (getOp b).2.2 = 0 then finC ⟨⟨n0, n1⟩, n2, ps, (getOp b).1⟩ (getOp b).2.1 else none
def getC (b : List UInt8) : Option (Commit × List UInt8) :=
  (numO b).bind fun q0 => (uptoO 1048576 q0.2).bind fun q1 => (uptoO 1048576 q1.2).bind fun q2 => (uptoO 8 q2.2).bind fun q3 => (getIds q3.1 q3.2).bind fun q4 =>
    opC (unfoldN q0.1) q1.1 q2.1 q4.1 q4.2
end
theorem getOp_texts (b : List UInt8) : (getOp b).1.key.size < 4611686018427387904 ∧ (getOp b).1.elem.size < 4611686018427387904 := by
  have h0 : op0.key.size < 4611686018427387904 ∧ op0.elem.size < 4611686018427387904 := by constructor <;> decide
  unfold getOp
  split
  · exact h0
  · split
    · exact h0
    · split
      · exact restOp_texts _ _ _ (cutT_size _ 8)
      · exact h0
theorem getOp_len (b : List UInt8) : (getOp b).2.1.length ≤ b.length := by
  unfold getOp
  split
  · simp
  · split
    · simp
    · split
      · refine Nat.le_trans (restOp_len _ _ _) (Nat.le_trans (cutT_len _ 8) ?_)
        simp only [List.length_drop]; omega
      · simp
structure ReadY (L : List UInt8) where
  c : Commit
  r : List UInt8
  ok : getC L = some (c, r)
  pa : Option Addr
  pc : Nat
  ra : Option Addr
  rc : Nat
section
variable {w0 w : World} {F : Nat → Prop} {Γ : List Fact} {br : Nat} {a : Option Addr} {c : Nat} {L : List UInt8}
theorem numO_none {b : List UInt8} (h : (getN b).2 = 0) : numO b = none := if_pos h
theorem numO_some {b : List UInt8} (h : (getN b).2 ≠ 0) : numO b = some ((getN b).1, b.drop (getN b).2) := if_neg h
theorem uptoO_none {m : Nat} {b : List UInt8} (h : (getN b).2 = 0 ∨ m < (getN b).1) : uptoO m b = none := if_pos h
theorem uptoO_some {m : Nat} {b : List UInt8} (h : ¬ ((getN b).2 = 0 ∨ m < (getN b).1)) : uptoO m b = some ((getN b).1, b.drop (getN b).2) := if_neg h
set_option maxHeartbeats 4000000 in
theorem read_ends (hl : L.length ≤ 34359738368) (ho : Hold w0 F (.own br 207 [.slice a L.length c] :: .st (sl a c L) :: Γ) w) :
    Ends Tryz.prog 183 [.pointer (some ⟨br, 0, none⟩)] w w0 F (fun y : ReadY L => commitV y.c y.pa y.pc)
      (fun y => .own br 207 [.slice y.ra y.r.length y.rc] :: .st (sl y.ra y.rc y.r) :: .st (sl y.pa y.pc y.c.parents) :: Γ) (getC L = none) wrongP Γ := by
  refine ends_of Tryz.func183 rfl Tryz.ntmps183 rfl rfl _ ho ?_
  repeat (first|refine Wa ?_|refine Wb ?_|refine Wc ?_|refine Wd ?_|refine We rfl ?_|refine Wf (by exact Va) rfl ?_|(refine Wg rfl ?_; intro _))
  rename_i bp
  obtain ⟨T, hT⟩ : ∃ T : List Value, T = [.int .i64 0, .int .i64 0, .int .i64 0, .slice none 0 0, .int .i64 0, .string .empty, .string .empty, .int .i64 0] := ⟨_, rfl⟩
  have hg : getC L = (numO L).bind fun q0 => (uptoO 1048576 q0.2).bind fun q1 => (uptoO 1048576 q1.2).bind fun q2 => (uptoO 8 q2.2).bind fun q3 => (getIds q3.1 q3.2).bind fun q4 => opC (unfoldN q0.1) q1.1 q2.1 q4.1 q4.2 := rfl
  by_cases h0 : (getN L).2 = 0
  · rw [numO_none h0, Option.bind_none] at hg
    refine JR.more (Γ' := .own br 207 [.slice a L.length c] :: .st (sl a c L) :: Γ) (fun w ho => ho.ent) ?_
    refine JR.callP (fun w1 hw => num_bad h0 hw) ?_
    repeat (first | refine CT.panic ?_ | refine CT.blockPanic ?_)
    exact .inr ⟨hg, CT.gone (fun w ho => ho)⟩
  rw [numO_some h0, Option.bind_some] at hg
  dsimp only at hg
  have hn0 := getN_lt L
  refine JR.more (Γ' := .own br 207 [.slice a L.length c] :: .st (sl a c L) :: .own bp 29 [.int .i64 0, .int .i64 0, .int .i64 0, .slice none 0 0, .int .i64 0, .string .empty, .string .empty, .int .i64 0] :: Γ) (fun w ho => ho.ent) ?_
  refine JR.callW (v := fun y : Option Addr × Nat => .int .u64 ((getN L).1 : Int)) (B := fun y => .own br 207 [.slice y.1 (L.drop (getN L).2).length y.2] :: .st (sl y.1 y.2 (L.drop (getN L).2)) :: .own bp 29 [.int .i64 0, .int .i64 0, .int .i64 0, .slice none 0 0, .int .i64 0, .string .empty, .string .empty, .int .i64 0] :: Γ) rfl (fun w1 hw => num_ok h0 hw) ?_
  rintro ⟨a1, c1⟩
  dsimp only
  have hB : (L.drop (getN L).2).length ≤ 34359738368 := by rw [List.length_drop]; omega
  generalize L.drop (getN L).2 = B at hB hg ⊢
  generalize (getN L).1 = m0 at hn0 hg ⊢
  repeat (refine We rfl ?_)
  refine JR.callV rfl (fun w1 hw => unfold_enc w1 _ m0 hn0) ?_
  generalize unfoldN m0 = n0 at hg ⊢
  repeat (first|refine We rfl ?_|refine Wf (by exact Vd) rfl ?_)
  refine JR.reslot 10 (.pointer (some ⟨bp, 0, none⟩)) rfl ?_
  refine Wi ?_
  repeat (first|refine Wa ?_|refine Wb ?_|refine Wc ?_|refine Wd ?_|refine We rfl ?_|refine Wf (by exact Va) rfl ?_)
  by_cases h1 : (getN B).2 = 0 ∨ 1048576 < (getN B).1
  · rw [uptoO_none h1, Option.bind_none] at hg
    refine JR.more (Γ' := .own br 207 [.slice a1 B.length c1] :: .st (sl a1 c1 B) :: Γ) (fun w ho => ho.ent) ?_
    refine JR.callP (fun w1 hw => upto_bad 1048576 (by decide) h1 hw) ?_
    repeat (first | refine CT.panic ?_ | refine CT.blockPanic ?_)
    exact .inr ⟨hg, CT.gone (fun w ho => ho)⟩
  rw [uptoO_some h1, Option.bind_some] at hg
  dsimp only at hg
  have hn1 : (getN B).1 ≤ 1048576 := by omega
  refine JR.more (Γ' := .own br 207 [.slice a1 B.length c1] :: .st (sl a1 c1 B) :: .own bp 29 [.int .i64 n0, .int .i64 0, .int .i64 0, .slice none 0 0, .int .i64 0, .string .empty, .string .empty, .int .i64 0] :: Γ) (fun w ho => ho.ent) ?_
  refine JR.callW (v := fun y : Option Addr × Nat => .int .i64 ((getN B).1 : Int)) (B := fun y => .own br 207 [.slice y.1 (B.drop (getN B).2).length y.2] :: .st (sl y.1 y.2 (B.drop (getN B).2)) :: .own bp 29 [.int .i64 n0, .int .i64 0, .int .i64 0, .slice none 0 0, .int .i64 0, .string .empty, .string .empty, .int .i64 0] :: Γ) rfl (fun w1 hw => upto_ok 1048576 (by decide) (fun h => h1 (.inl h)) (by omega) hw) ?_
  rintro ⟨a2, c2⟩
  dsimp only
  replace hB : (B.drop (getN B).2).length ≤ 34359738368 := by rw [List.length_drop]; omega
  generalize B.drop (getN B).2 = B at hB hg ⊢
  generalize (getN _).1 = n1 at hn1 hg ⊢
  repeat (first|refine We rfl ?_|refine Wf (by exact Va) rfl ?_)
  by_cases h2 : (getN B).2 = 0 ∨ 1048576 < (getN B).1
  · rw [uptoO_none h2, Option.bind_none] at hg
    refine JR.more (Γ' := .own br 207 [.slice a2 B.length c2] :: .st (sl a2 c2 B) :: Γ) (fun w ho => ho.ent) ?_
    refine JR.callP (fun w1 hw => upto_bad 1048576 (by decide) h2 hw) ?_
    repeat (first | refine CT.panic ?_ | refine CT.blockPanic ?_)
    exact .inr ⟨hg, CT.gone (fun w ho => ho)⟩
  rw [uptoO_some h2, Option.bind_some] at hg
  dsimp only at hg
  have hn2 : (getN B).1 ≤ 1048576 := by omega
  refine JR.more (Γ' := .own br 207 [.slice a2 B.length c2] :: .st (sl a2 c2 B) :: .own bp 29 [.int .i64 n0, .int .i64 0, .int .i64 0, .slice none 0 0, .int .i64 0, .string .empty, .string .empty, .int .i64 0] :: Γ) (fun w ho => ho.ent) ?_
  refine JR.callW (v := fun y : Option Addr × Nat => .int .i64 ((getN B).1 : Int)) (B := fun y => .own br 207 [.slice y.1 (B.drop (getN B).2).length y.2] :: .st (sl y.1 y.2 (B.drop (getN B).2)) :: .own bp 29 [.int .i64 n0, .int .i64 0, .int .i64 0, .slice none 0 0, .int .i64 0, .string .empty, .string .empty, .int .i64 0] :: Γ) rfl (fun w1 hw => upto_ok 1048576 (by decide) (fun h => h2 (.inl h)) (by omega) hw) ?_
  rintro ⟨a3, c3⟩
  dsimp only
  replace hB : (B.drop (getN B).2).length ≤ 34359738368 := by rw [List.length_drop]; omega
  generalize B.drop (getN B).2 = B at hB hg ⊢
  generalize (getN _).1 = n2 at hn2 hg ⊢
  repeat (first|refine Wa ?_|refine Wb ?_|refine Wc ?_|refine Wd ?_|refine We rfl ?_|refine Wf (by first|exact Va|exact Vd) rfl ?_|refine Wi ?_)
  by_cases h3 : (getN B).2 = 0 ∨ 8 < (getN B).1
  · rw [uptoO_none h3, Option.bind_none] at hg
    refine JR.more (Γ' := .own br 207 [.slice a3 B.length c3] :: .st (sl a3 c3 B) :: Γ) (fun w ho => ho.ent) ?_
    refine JR.callP (fun w1 hw => upto_bad 8 (by decide) h3 hw) ?_
    repeat (first | refine CT.panic ?_ | refine CT.blockPanic ?_)
    exact .inr ⟨hg, CT.gone (fun w ho => ho)⟩
  rw [uptoO_some h3, Option.bind_some] at hg
  dsimp only at hg
  have hn3 : (getN B).1 ≤ 8 := by omega
  refine JR.more (Γ' := .own br 207 [.slice a3 B.length c3] :: .st (sl a3 c3 B) :: .own bp 29 [.int .i64 n0, .int .i64 (n1 : Int), .int .i64 (n2 : Int), .slice none 0 0, .int .i64 0, .string .empty, .string .empty, .int .i64 0] :: Γ) (fun w ho => ho.ent) ?_
  refine JR.callW (v := fun y : Option Addr × Nat => .int .i64 ((getN B).1 : Int)) (B := fun y => .own br 207 [.slice y.1 (B.drop (getN B).2).length y.2] :: .st (sl y.1 y.2 (B.drop (getN B).2)) :: .own bp 29 [.int .i64 n0, .int .i64 (n1 : Int), .int .i64 (n2 : Int), .slice none 0 0, .int .i64 0, .string .empty, .string .empty, .int .i64 0] :: Γ) rfl (fun w1 hw => upto_ok 8 (by decide) (fun h => h3 (.inl h)) (by omega) hw) ?_
  rintro ⟨a4, c4⟩
  dsimp only
  replace hB : (B.drop (getN B).2).length ≤ 34359738368 := by rw [List.length_drop]; omega
  generalize B.drop (getN B).2 = B at hB hg ⊢
  generalize (getN _).1 = n3 at hn3 hg ⊢
  repeat (first|refine Wa ?_|refine Wd ?_|refine We rfl ?_|refine Wf (by exact Va) rfl ?_|refine Wn ?_)
  generalize a4 = r1
  refine JC.more (Γ' := .res (buf (α := ID) none 0 81 []) :: .own br 207 [.slice r1 B.length c4] :: .st (sl r1 c4 B) :: .own bp 29 [.int .i64 n0, .int .i64 (n1 : Int), .int .i64 (n2 : Int), .slice none 0 0, .int .i64 0, .string .empty, .string .empty, .int .i64 0] :: Γ) (fun w ho => ho.bufNil) ?_
  refine JC.loop5 (fun (i : Nat) (ps : List ID) (p : Option Addr × Nat) (B : List UInt8) (r : Option Addr × Nat) => [(0, .pointer (some ⟨br, 0, none⟩)), (2, .pointer (some ⟨bp, 0, none⟩)), (19, .int .i64 (n3 : Int)), (20, .int .i64 (i : Int))])
    (fun i ps p B r => .own br 207 [.slice r.1 B.length r.2] :: .st (sl r.1 r.2 B) :: .res (buf p.1 p.2 81 ps) :: .own bp 29 [.int .i64 n0, .int .i64 (n1 : Int), .int .i64 (n2 : Int), .slice p.1 ps.length p.2, .int .i64 0, .string .empty, .string .empty, .int .i64 0] :: Γ)
    (fun i ps p B r => i ≤ n3 ∧ ps.length = i ∧ B.length ≤ 34359738368 ∧ getC L = (getIds (n3 - i) B).bind fun q => opC n0 n1 n2 (ps ++ q.1) q.2) (fun i _ _ _ _ => n3 - i) 0 [] (none, 0) B (r1, c4) ⟨Nat.zero_le _, rfl, hB, hg⟩ inferInstance ?_
  clear hg hB
  rintro i ps ⟨pa, pc⟩ B ⟨ra, rc⟩ ⟨hi, hlen, hB, hg⟩
  dsimp only
  repeat (first|refine Wa ?_|refine Wb ?_|refine Wc ?_|refine Wd ?_|refine We rfl ?_|refine Wf (by exact Vg) rfl ?_)
  refine JC.test (fun h4 => ?_) (fun h4 => ?_)
  · have hni : n3 - i = (n3 - (i + 1)) + 1 := by omega
    rw [hni] at hg
    repeat (first|refine Wa ?_|refine Wb ?_|refine Wl ?_|refine Wn ?_)
    refine JC.drawP mixed ?_
    refine JP.pure 0 rfl (by kernel_rfl) rfl (fun _ => Vd) rfl rfl ?_
    refine JP.take 1 [.own bp 29 [.int .i64 n0, .int .i64 (n1 : Int), .int .i64 (n2 : Int), .slice pa ps.length pc, .int .i64 0, .string .empty, .string .empty, .int .i64 0]] rfl (by kernel_rfl) rfl Vc rfl rfl ?_
    refine JP.pure 2 rfl (by kernel_rfl) rfl (fun _ => Va) rfl rfl ?_
    by_cases h32 : 32 ≤ B.length
    · have hgi : getIds (n3 - (i + 1) + 1) B = (getIds (n3 - (i + 1)) (B.drop 32)).map (fun q => (takeID B h32 :: q.1, q.2)) := dif_pos h32
      refine JP.op 3 (by kernel_rfl) rfl rfl (JR.callW (v := fun y : Option Addr × Nat => .agg ⟨idc (takeID B h32)⟩) (B := fun y => .own br 207 [.slice y.1 (B.drop 32).length y.2] :: .st (sl y.1 y.2 (B.drop 32)) :: .res (buf pa pc 81 ps) :: .own bp 29 [.int .i64 n0, .int .i64 (n1 : Int), .int .i64 (n2 : Int), .slice pa ps.length pc, .int .i64 0, .string .empty, .string .empty, .int .i64 0] :: Γ) rfl (fun w1 hw => id_ok h32 hw) fun y => Wd ⟨rfl, (by repeat (first|exact Obs.nil|refine Obs.keep ?_|refine Obs.skip (by kernel_rfl) ?_)), ?_⟩)
      refine JP.op 4 (by kernel_rfl) rfl rfl (Ww rfl ⟨rfl, by decide, by decide, by decide⟩ fun lb => Wd ⟨rfl, (by repeat (first|exact Obs.nil|refine Obs.keep ?_|refine Obs.skip (by kernel_rfl) ?_)), ?_⟩)
      refine JP.op 5 (by kernel_rfl) rfl rfl (JR.append1 (L := ps) (u := takeID B h32) rfl (by exact ⟨rfl, rfl, by decide⟩) (by omega) (fun pa2 pc2 => Wd ⟨rfl, (by repeat (first|exact Obs.nil|refine Obs.keep ?_|refine Obs.skip (by kernel_rfl) ?_)), ?_⟩))
      refine JP.pure 6 rfl (by kernel_rfl) rfl (fun _ => Vd) rfl rfl ?_
      refine JP.op 7 (by kernel_rfl) rfl rfl (Wi (Wd ⟨rfl, (by repeat (first|exact Obs.nil|refine Obs.keep ?_|refine Obs.skip (by kernel_rfl) ?_)), ?_⟩))
      refine JP.nil (by kernel_rfl) ?_
      repeat (first|refine Wa ?_|refine Wc ?_|refine Wd ?_|refine We rfl ?_|refine Wf (by first|exact Va|exact Vk (by omega)) rfl ?_|refine Wr ?_)
      refine ⟨i + 1, ps ++ [takeID B h32], (pa2, pc2), B.drop 32, y, ⟨by omega, by simp [hlen], by rw [List.length_drop]; omega, ?_⟩, by omega, inferInstance⟩
      rw [hg, hgi]
      cases getIds (n3 - (i + 1)) (B.drop 32) with
      | none => rfl
      | some q => simp
    · have hgi : getIds (n3 - (i + 1) + 1) B = none := dif_neg h32
      rw [hgi, Option.bind_none] at hg
      refine JP.more (Γ' := .own br 207 [.slice ra B.length rc] :: .st (sl ra rc B) :: Γ) (fun w ho => ho.ent) ?_
      refine JP.gone 3 (by kernel_rfl) rfl rfl (JR.callP (fun w1 hw => id_bad (by omega) hw) ⟨_, rfl, ?_⟩)
      repeat (first | refine CT.panic ?_ | refine CT.blockPanic ?_)
      exact .inr ⟨hg, CT.gone (fun w ho => ho)⟩
  · obtain rfl : i = n3 := by omega
    rw [Nat.sub_self] at hg
    have hg2 : getC L = opC n0 n1 n2 ps B := by rw [hg]; simp [getIds]
    repeat (first|refine Wa ?_|refine Wb ?_|refine Wc ?_|refine Wd ?_|refine We rfl ?_|refine Wf (by first|exact Vc|exact Vd|exact Vm) rfl ?_|refine Wm ?_|refine Wo ?_|refine Wp ?_)
    have hps : ps.length ≤ 8 := by omega
    refine JC.more (fun w ho => (ho.ent : Hold w0 F (.res (buf pa pc 81 ps) :: .own br 207 [.slice ra B.length rc] :: .st (sl ra rc B) :: .own bp 29 [.int .i64 n0, .int .i64 (n1 : Int), .int .i64 (n2 : Int), .slice pa ps.length pc, .int .i64 0, .string .empty, .string .empty, .int .i64 0] :: Γ) w).pub) ?_
    refine JC.test (fun h5 => ?_) (fun h5 => ?_)
    · have e5 : getC L = if (getOp B).2.2 = 0 then finC ⟨⟨n0, n1⟩, n2, ps, (getOp B).1⟩ (getOp B).2.1 else none := by rw [hg2]; exact if_neg h5
      have htx := getOp_texts B
      have hol := getOp_len B
      repeat (first|refine Wb ?_|refine Wc ?_|refine We rfl ?_|refine Wf (by exact Va) rfl ?_)
      refine Wf OpV.nilCheck rfl ?_
      repeat (first|refine We rfl ?_|refine Wf (by first|exact Vc|exact Vd) rfl ?_)
      refine JR.call1 (B := fun y : Option Addr × Nat => .st (sl y.1 y.2 (getOp B).2.1)) rfl (fun w1 hw => get_ops w1 _ ra rc B hw.get hB) ?_
      rintro ⟨ro, co⟩
      dsimp only
      obtain ⟨o, R, k, hk⟩ : ∃ o R k, getOp B = (o, R, k) := ⟨_, _, _, rfl⟩
      rw [hk] at e5 htx hol ⊢
      dsimp only at e5 htx hol ⊢
      repeat (first|refine Wa ?_|refine Wb ?_|refine Wc ?_|refine Wd ?_|refine We rfl ?_|refine Wf (by first|exact Va|exact Vb|exact Vl|exact Vq) rfl ?_|(refine Wg rfl ?_; intro _)|refine Wi ?_)
      by_cases hk0 : k = 0
      · rw [if_pos hk0] at e5
        refine JR.reslot 44 (.bool true) (by congr 1; exact decide_eq_true hk0) ?_
        refine JR.callV rfl (fun w1 hw => unless_ok w1 _) ?_
        repeat (first|refine Wa ?_|refine Wc ?_|refine Wd ?_|refine We rfl ?_|refine Wf (by first|exact Va|exact Vc|exact Vd) rfl ?_|refine Wi ?_)
        refine Wf OpV.nilCheck rfl ?_
        repeat (first|refine We rfl ?_|refine Wf (by exact Vd) rfl ?_)
        refine JR.reslot 51 (.pointer (some ⟨br, 0, none⟩)) rfl ?_
        refine Wi ?_
        repeat (first|refine Wa ?_|refine Wb ?_|refine Wc ?_|refine Wd ?_|refine We rfl ?_|refine Wf (by exact Vc) rfl ?_)
        refine JR.callV rfl (fun w1 hw => may_commit w1 _ ⟨⟨n0, n1⟩, n2, ps, o⟩ pa pc (hw.get (A := sl pa pc ps)) htx) ?_
        cases hmay : may ⟨⟨n0, n1⟩, n2, ps, o⟩ with
        | false =>
          have hg : getC L = none := by rw [e5]; unfold finC; rw [hmay]; rfl
          repeat (refine We rfl ?_)
          refine JR.more (Γ' := Γ) (fun w ho => ho.ent) ?_
          refine JR.callP (fun w1 hw => unless_bad hw) ?_
          repeat (first | refine CT.panic ?_ | refine CT.blockPanic ?_)
          exact .inr ⟨hg, CT.gone (fun w ho => ho)⟩
        | true =>
          have hg : getC L = some (⟨⟨n0, n1⟩, n2, ps, o⟩, R) := by rw [e5]; unfold finC; rw [hmay]; rfl
          repeat (refine We rfl ?_)
          refine JR.callV rfl (fun w1 hw => unless_ok w1 _) ?_
          repeat (first|refine Wa ?_|refine Wb ?_|refine Wc ?_|refine Wd ?_|refine We rfl ?_|refine Wf (by exact Vc) rfl ?_|refine Wi ?_|refine Ws ?_)
          exact .inl (CT.done (⟨⟨⟨n0, n1⟩, n2, ps, o⟩, R, hg, pa, pc, ro, co⟩ : ReadY L) rfl (fun w ho => ho.ent))
      · rw [if_neg hk0] at e5
        have hg := e5
        refine JR.reslot 44 (.bool false) (by congr 1; exact decide_eq_false hk0) ?_
        refine JR.more (Γ' := Γ) (fun w ho => ho.ent) ?_
        refine JR.callP (fun w1 hw => unless_bad hw) ?_
        repeat (first | refine CT.panic ?_ | refine CT.blockPanic ?_)
        exact .inr ⟨hg, CT.gone (fun w ho => ho)⟩
    · have e5 : getC L = finC ⟨⟨n0, n1⟩, n2, ps, op0⟩ B := by rw [hg2]; exact if_pos (by omega)
      repeat (first|refine Wa ?_|refine Wb ?_|refine Wc ?_|refine We rfl ?_|refine Wf (by exact Vc) rfl ?_|refine Wl ?_)
      refine JR.callV rfl (fun w1 hw => may_commit w1 _ ⟨⟨n0, n1⟩, n2, ps, op0⟩ pa pc (hw.get (A := sl pa pc ps)) (by unfold texts; exact (by decide : op0.key.size < 4611686018427387904 ∧ op0.elem.size < 4611686018427387904))) ?_
      cases hmay : may ⟨⟨n0, n1⟩, n2, ps, op0⟩ with
      | false =>
        have hg : getC L = none := by rw [e5]; unfold finC; rw [hmay]; rfl
        repeat (refine We rfl ?_)
        refine JR.more (Γ' := Γ) (fun w ho => ho.ent) ?_
        refine JR.callP (fun w1 hw => unless_bad hw) ?_
        repeat (first | refine CT.panic ?_ | refine CT.blockPanic ?_)
        exact .inr ⟨hg, CT.gone (fun w ho => ho)⟩
      | true =>
        have hg : getC L = some (⟨⟨n0, n1⟩, n2, ps, op0⟩, B) := by rw [e5]; unfold finC; rw [hmay]; rfl
        repeat (refine We rfl ?_)
        refine JR.callV rfl (fun w1 hw => unless_ok w1 _) ?_
        repeat (first|refine Wa ?_|refine Wb ?_|refine Wc ?_|refine Wd ?_|refine We rfl ?_|refine Wf (by exact Vc) rfl ?_|refine Wi ?_|refine Ws ?_)
        exact .inl (CT.done (⟨⟨⟨n0, n1⟩, n2, ps, op0⟩, B, hg, pa, pc, ra, rc⟩ : ReadY L) rfl (fun w ho => ho.ent))
end
end Ab
end Go.Proofs.YtdgeffphifgflaaGreat
namespace Go.Proofs.YtdgeffphifgflaaGreat
namespace Ab
open Go Go.RowKit
set_option linter.unusedVariables false
set_option linter.unusedSimpArgs false
section
variable {P : Program}
theorem wpOpsS_recover {ops : Array Oper} {R : Exit → Act → List Frame → World → Prop} {i : Nat} {rest : List Nat} {a : Act} {cs cs' : List Frame} {w : World} {o : Oper} {v : Value} (ho : ops[i]? = some o) (hw : Region.wanted o (yielded ops a.tmps) = true)
    (hr : (execOp a.eval o).run P w = .ok .recover w) (h4 : (match recoverD cs with | some (v, cs') => (v, cs') | none => (Value.nilIface, cs)) = (v, cs')) (h : wpOpsS P ops R rest (a.put o.dst v) cs' w) : wpOpsS P ops R (i :: rest) a cs w := by
  unfold wpOpsS
  rw [ho]
  dsimp only
  rw [if_pos hw, hr]
  dsimp only
  cases hd : recoverD cs with
  | none => rw [hd] at h4; cases h4; exact h
  | some p => rw [hd] at h4; cases h4; exact h
theorem wpOpsS_value {ops : Array Oper} {R : Exit → Act → List Frame → World → Prop} {i : Nat} {rest : List Nat} {a : Act} {cs : List Frame} {w : World} {o : Oper} {v : Value} (ho : ops[i]? = some o) (hw : Region.wanted o (yielded ops a.tmps) = true)
    (hr : (execOp a.eval o).run P w = .ok (.value v) w) (h : wpOpsS P ops R rest (a.put o.dst v) cs w) : wpOpsS P ops R (i :: rest) a cs w := by
  unfold wpOpsS
  rw [ho]
  dsimp only
  rw [if_pos hw, hr]
  exact h
end
section
variable {P : Program} {w0 : World} {F : Nat → Prop} {Q : Cont} {e : E} {Γ Γ' : List Fact} [Dr]
def Closes (P : Program) (w0 : World) (F : Nat → Prop) (g : FuncId) (us : List Value) (u u' : FrameMode) (Γ Γ' : List Fact) : Prop :=
  ∀ w, Hold w0 F Γ w → CallsD P g ⟨us⟩ u w fun x u1 w' => x = .returned (.tuple ⟨[]⟩) ∧ u1 = u' ∧ Hold w0 F Γ' w'
abbrev panR (v : Value) : List PanicEntry := [{ v := v, recovered := true }]
def deferTo (P : Program) (w0 : World) (F : Nat → Prop) (rs : List ResultVar) {Y : Type} (v : Y → Value) (B : Y → List Fact) (g : FuncId) (us : List Value) : Cont := fun x e Γ =>
  ∃ Γ', (((x = .ret ∨ x = .normal) ∧ Closes P w0 F g us .returning .returning Γ Γ') ∨ (∃ v0, x = .panic (pan v0) ∧ Closes P w0 F g us (.panicking (pan v0)) (.panicking (panR v0)) Γ Γ')) ∧ retTo P w0 F rs v B .ret e Γ'
theorem gives_defer {f : FuncId} {fn : Func} {c : Code} {rs : List ResultVar} {args : List Value} {w : World} {Y : Type} {v : Y → Value} {B : Y → List Fact}
    {m : Nat} (hf : P.funcs[f]? = some fn) (hb : fn.body = some c) (hn : fn.ntmps = m) (hr : fn.results = ⟨rs⟩) (hl : Nat.ble args.length m = true) (Γ : List Fact) (ho : Hold w F Γ w)
    (h : JX P ⟨m, []⟩ w F c (fun n' x e Γ => ∃ g us, Body P g ∧ n' = ⟨m, [⟨.fn (.func g) ⟨us⟩, #[]⟩]⟩ ∧ deferTo P w F rs v B g us x e Γ) (enum 0 args) Γ) : Gives P f args w F v B := by
  refine calls_of_wp_defers hf hb ?_
  rw [hn]
  refine wp_mono (h _ w (Fr.start hl) ho) ?_
  rintro x a w' ⟨n', e, Γ, ⟨g, us, hbd, rfl, Γ', hx, _, y, vs, hres, hpk, hB⟩, fr, ho'⟩
  have hi : ∀ w1, (invoke (.fn (.func g) ⟨us⟩) #[]).run P w1 = .ok (.enter g ⟨us⟩) w1 := fun w1 => by
    have e3 : (#[] : Array Value) ++ (⟨us⟩ : Array Value) = ⟨us⟩ := by apply Array.ext'; simp
    simp only [invoke, e3, hbd.ok]
  have hfin : ∀ w1, Hold w F Γ' w1 → Leaves P fn a.tmps (fun x w' => ∃ y, x = .returned (v y) ∧ Bel w.heap.size w w' ∧ Fresh w.heap.size F (B y) w') [] .returning w1 := fun w1 ho1 => by
    have fr' : Fr ⟨m, []⟩ e ⟨a.tmps, []⟩ := ⟨rfl, fr.size, fr.slot⟩
    have hrun := run_results (P := P) hr hres fr' ho1
    exact ⟨_, hrun, y, by rw [hpk], ho1.below, (hB w1 ho1).fresh⟩
  rcases hx with ⟨hx, hc⟩ | ⟨v0, rfl, hc⟩
  · have : Leaves P fn a.tmps (fun x w' => ∃ y, x = .returned (v y) ∧ Bel w.heap.size w w' ∧ Fresh w.heap.size F (B y) w') a.defers .returning w' := by
      rw [fr.defers]
      refine leaves_cons (by simp) (hi w') ((hc w' ho').mono ?_)
      rintro x u' w1 ⟨rfl, rfl, ho1⟩
      exact hfin w1 ho1
    rcases hx with rfl | rfl <;> exact this
  · show Leaves P fn a.tmps _ a.defers (.panicking (pan v0)) w'
    rw [fr.defers]
    refine leaves_cons (by simp) (hi w') ((hc w' ho').mono ?_)
    rintro x u' w1 ⟨rfl, rfl, ho1⟩
    exact hfin w1 ho1
theorem closes_of {g : FuncId} {fn : Func} {y : Code} {us : List Value} {m id d1 d2 : Nat} {t1 t2 : TypeId} {p1 p2 : String} {f1 f2 : Array Edge} {ats : Array TypeId} {u u' : FrameMode} {v0 : Value}
    (hu : (u = .returning ∧ u' = .returning ∧ v0 = .nilIface) ∨ (u = .panicking (pan v0) ∧ u' = .panicking (panR v0)))
    (hf : P.funcs[g]? = some fn) (hb : fn.body = some (.seq (.region id ⟨[⟨some d1, .call ⟨.builtin .recover, #[], ats⟩, t1, p1, f1, none⟩, ⟨some d2, .assign (.tmp d1), t2, p2, f2, none⟩]⟩ false) y)) (hn : fn.ntmps = m) (hr : fn.results = ⟨[]⟩)
    (hl : Nat.ble us.length m = true) (hd1 : Nat.blt d1 m = true) (hd2 : Nat.blt d2 m = true)
    (h : JC P ⟨m, []⟩ w0 F y (retTo P w0 F [] (fun _ : Unit => .tuple ⟨[]⟩) (fun _ => Γ')) ((d2, v0) :: (d1, v0) :: enum 0 us) Γ) : Closes P w0 F g us u u' Γ Γ' := by
  intro w ho
  refine callsD_of_wpS hf hb fun c₀ cs hc => ?_
  rw [hn]
  have fr0 := Fr.start (args := us) hl
  have fr1 := (fr0.put hd1 v0)
  have fr2 := (fr1.put hd2 v0)
  refine wpS_seq (wpS_region ?_)
  have hrg : List.range (Array.size (⟨[⟨some d1, .call ⟨.builtin .recover, #[], ats⟩, t1, p1, f1, none⟩, ⟨some d2, .assign (.tmp d1), t2, p2, f2, none⟩]⟩ : Array Oper)) = [0, 1] := rfl
  rw [hrg]
  have hw : ∀ y (o : Oper), o.guard = none → Region.wanted o y = true := fun y o h => by unfold Region.wanted; rw [h]
  generalize hA : ({ tmps := (⟨us⟩ : Array Value) ++ Array.replicate (m - (⟨us⟩ : Array Value).size) undef, defers := [] } : Act) = a at fr0 fr1 fr2 ⊢
  have h1 : (execOp a.eval ⟨some d1, .call ⟨.builtin .recover, #[], ats⟩, t1, p1, f1, none⟩).run P w = .ok .recover w := by
    simp [execOp, resolve_builtin, invoke, builtin]
  have h2 : (execOp (a.put (some d1) v0).eval ⟨some d2, .assign (.tmp d1), t2, p2, f2, none⟩).run P w = .ok (.value v0) w := by
    have h3 : (a.put (some d1) v0).eval (.tmp d1) = v0 := (inferInstance : Ev ((d1, v0) :: enum 0 us) (.tmp d1) v0).ok _ _ fr1
    simp [execOp, h3]
  have h4 : (match recoverD (c₀ :: cs) with | some (v, cs') => (v, cs') | none => (Value.nilIface, c₀ :: cs)) = (v0, { c₀ with mode := u' } :: cs) := by
    unfold recoverD
    rcases hu with ⟨rfl, rfl, rfl⟩ | ⟨rfl, rfl⟩
    · cases c₀; simp at hc; subst hc; rfl
    · cases c₀; simp at hc; subst hc; rfl
  refine wpOpsS_recover rfl (hw _ _ rfl) h1 h4 ?_
  refine wpOpsS_value rfl (hw _ _ rfl) h2 ?_
  unfold wpOpsS
  refine wpS_of_wp (wp_mono (h _ w fr2 ho) ?_)
  rintro x a1 w1 ⟨e1, Γ1, ⟨hx, y1, vs, hres, hpk, hB⟩, fr, ho1⟩
  have hrun := run_results (P := P) hr hres fr ho1
  rw [hpk] at hrun
  rcases hx with rfl | rfl
  · exact ⟨fr.defers, u', rfl, _, hrun, rfl, rfl, hB w1 ho1⟩
  · exact ⟨fr.defers, u', rfl, _, hrun, rfl, rfl, hB w1 ho1⟩
end
section
variable {P : Program} {n : Nn} {w0 : World} {F : Nat → Prop} {d : Option Nat} {t : TypeId} {pos : String} {aft : Array Edge} {g : Option (Nat × Bool)} {e : E} {Γ : List Fact} [Dr]
theorem OpV.neqNil0 {x : Operand} {ty yt : TypeId} [hx : Ev e x .nilIface] (hu : P.underlying ty = some (.interface (P.methodsAt ty))) : OpV P n w0 F ⟨d, .binOp .neq ty x (.const .nilIface) yt, t, pos, aft, g⟩ e Γ (.bool false) :=
  fun a w fr _ => by
    have h2 : (Act.eval a (.const .nilIface)) = .nilIface := rfl
    have h4 : (eqGuard .neq ty x (.const .nilIface) .nilIface .nilIface).run P w = .ok () w := by simp [eqGuard]
    simp only [execOp, hx.ok n a fr, h2, Sem.run_bind, h4, Result.andThen_ok, run_neq_nil_nil w ty hu, Sem.run_pure]
theorem OpV.neqNil1 {x : Operand} {ty yt u : TypeId} {v : Value} [hx : Ev e x (.iface u v)] (hu : P.underlying ty = some (.interface (P.methodsAt ty))) : OpV P n w0 F ⟨d, .binOp .neq ty x (.const .nilIface) yt, t, pos, aft, g⟩ e Γ (.bool true) :=
  fun a w fr _ => by
    have h2 : (Act.eval a (.const .nilIface)) = .nilIface := rfl
    have h4 : (eqGuard .neq ty x (.const .nilIface) (.iface u v) .nilIface).run P w = .ok () w := by simp [eqGuard]
    simp only [execOp, hx.ok n a fr, h2, Sem.run_bind, h4, Result.andThen_ok, run_neq_held_nil w ty u v hu, Sem.run_pure]
theorem OpV.assertOk {x : Operand} {xt at_ : TypeId} {v : Value} [hx : Ev e x (.iface at_ v)] (hi : ∀ w, (Instr.typeAssert (.iface at_ v) xt at_ true).run P w = .ok (.tuple ⟨[v, .bool true]⟩) w) : OpV P n w0 F ⟨d, .typeAssert x xt at_ true, t, pos, aft, g⟩ e Γ (.tuple ⟨[v, .bool true]⟩) :=
  fun a w fr _ => by simp [execOp, hx.ok n a fr, hi w]
end
end Ab
end Go.Proofs.YtdgeffphifgflaaGreat
namespace Go.Proofs.YtdgeffphifgflaaGreat
namespace Ab
open Go Go.RowKit
set_option linter.unusedVariables false
set_option linter.unusedSimpArgs false
set_option synthInstance.maxSize 4000
set_option synthInstance.maxHeartbeats 400000
attribute [local irreducible] JC JO JR JQ andThen inBlock OpV Gives retTo JM JS
section
variable {w0 : World} {F : Nat → Prop} {b2 b3 b4 : Nat} {A B C : List Value} {v2 v3 v4 : List Value}
theorem get1_idle {Γ : List Fact} : Closes Tryz.prog w0 F 182 [.pointer (some ⟨b2, 0, none⟩), .pointer (some ⟨b3, 0, none⟩), .pointer (some ⟨b4, 0, none⟩)] .returning .returning Γ Γ := by
  refine closes_of (.inl ⟨rfl, rfl, rfl⟩) Tryz.func182 rfl Tryz.ntmps182 rfl rfl rfl rfl ?_
  repeat (first|refine Wb ?_|refine Wc ?_|refine We rfl ?_|refine Wf (by exact Va) rfl ?_)
  refine Wf (OpV.neqNil0 (by kernel_rfl)) rfl ?_
  repeat (first|refine Wa ?_|refine Wd ?_|refine Wk ?_|refine Wl ?_)
  exact CT.doneN () rfl (fun w ho => ho)
theorem get1_wrong : Closes Tryz.prog w0 F 182 [.pointer (some ⟨b2, 0, none⟩), .pointer (some ⟨b3, 0, none⟩), .pointer (some ⟨b4, 0, none⟩)] (.panicking wrongP) (.panicking (panR wrongV))
    [.own b2 29 [.int .i64 0, .int .i64 0, .int .i64 0, .slice none 0 0, .int .i64 0, .string .empty, .string .empty, .int .i64 0], .own b3 22 [.slice none 0 0], .own b4 32 [.int .i64 0]]
    [.own b2 29 [.int .i64 0, .int .i64 0, .int .i64 0, .slice none 0 0, .int .i64 0, .string .empty, .string .empty, .int .i64 0], .own b3 22 [.slice none 0 0], .own b4 32 [.int .i64 2]] := by
  refine closes_of (.inr ⟨rfl, rfl⟩) Tryz.func182 rfl Tryz.ntmps182 rfl rfl rfl rfl ?_
  repeat (first|refine Wb ?_|refine Wc ?_|refine We rfl ?_|refine Wf (by exact Va) rfl ?_)
  refine Wf (OpV.neqNil1 (by kernel_rfl)) rfl ?_
  repeat (first|refine Wa ?_|refine Wb ?_|refine Wc ?_|refine Wd ?_|refine We rfl ?_|refine Wf (by exact Va) rfl ?_|refine Wj ?_)
  refine Wf (OpV.assertOk (fun w => by kernel_rfl)) rfl ?_
  repeat (first|refine Wa ?_|refine Wb ?_|refine Wc ?_|refine Wd ?_|refine We rfl ?_|refine Wf (by first|exact Va|exact Vb|exact Vh|exact Vq) rfl ?_|(refine Wg rfl ?_; intro _)|refine Wi ?_|refine Wk ?_|refine Wl ?_)
  refine Wf (OpV.build [.int .i64 0, .int .i64 0, .int .i64 0, .slice none 0 0, .int .i64 0, .string .empty, .string .empty, .int .i64 0] (by kernel_rfl)) rfl ?_
  repeat (first|refine Wd ?_|refine We rfl ?_|refine Wi ?_)
  exact CT.doneN () rfl (fun w ho => ho.ent)
end
def com0 : Commit := ⟨⟨0, 0⟩, 0, [], op0⟩
noncomputable def getT (b : List UInt8) : Commit × List UInt8 × Int := match getC b with | some q => (q.1, q.2, 0) | none => (com0, [], 2)
structure GetY (b : List UInt8) where
  pa : Option Addr
  pc : Nat
  ra : Option Addr
  rc : Nat
theorem getT_some {b : List UInt8} {c : Commit} {r : List UInt8} (h : getC b = some (c, r)) : getT b = (c, r, 0) := by unfold getT; rw [h]
theorem getT_none {b : List UInt8} (h : getC b = none) : getT b = (com0, [], 2) := by unfold getT; rw [h]
theorem getIds_len : ∀ (n : Nat) (b : List UInt8) (q), getIds n b = some q → q.2.length ≤ b.length
  | 0, b, q, h => by cases h; exact Nat.le_refl _
  | n + 1, b, q, h => by
    unfold getIds at h
    split at h
    · cases hq : getIds n (b.drop 32) with
      | none => rw [hq] at h; cases h
      | some q1 =>
        rw [hq] at h; cases h
        have := getIds_len n _ q1 hq
        rw [List.length_drop] at this
        show q1.2.length ≤ _
        omega
    · cases h
theorem numO_len {b : List UInt8} {q} (h : numO b = some q) : q.2.length ≤ b.length := by
  unfold numO at h
  split at h <;> cases h
  simp only [List.length_drop]; omega
theorem uptoO_len {m : Nat} {b : List UInt8} {q} (h : uptoO m b = some q) : q.2.length ≤ b.length := by
  unfold uptoO at h
  split at h <;> cases h
  simp only [List.length_drop]; omega
theorem finC_len {c : Commit} {b : List UInt8} {q} (h : finC c b = some q) : q.2.length ≤ b.length := by
  unfold finC at h
  split at h <;> cases h
  exact Nat.le_refl _
theorem opC_len {n0 : Int} {n1 n2 : Nat} {ps : List ID} {b : List UInt8} {q} (h : opC n0 n1 n2 ps b = some q) : q.2.length ≤ b.length := by
  unfold opC at h
  split at h
  · exact finC_len h
  · split at h
    · exact Nat.le_trans (finC_len h) (getOp_len b)
    · cases h
theorem getC_len {b : List UInt8} {c : Commit} {r : List UInt8} (h : getC b = some (c, r)) : r.length ≤ b.length := by
  unfold getC at h
  obtain ⟨q0, h0, h⟩ := Option.bind_eq_some_iff.1 h
  obtain ⟨q1, h1, h⟩ := Option.bind_eq_some_iff.1 h
  obtain ⟨q2, h2, h⟩ := Option.bind_eq_some_iff.1 h
  obtain ⟨q3, h3, h⟩ := Option.bind_eq_some_iff.1 h
  obtain ⟨q4, h4, h⟩ := Option.bind_eq_some_iff.1 h
  have := numO_len h0; have := uptoO_len h1; have := uptoO_len h2; have := uptoO_len h3; have := getIds_len _ _ _ h4; have := opC_len h
  simp only at *
  omega
set_option maxHeartbeats 1000000 in
theorem get_com (w : World) (F : Nat → Prop) (a : Option Addr) (c : Nat) (b : List UInt8) (h : (sl a c b).holds F w) (hl : b.length ≤ 34359738368) :
    Gives Tryz.prog 123 [.slice a b.length c] w F (fun y : GetY b => .tuple ⟨[commitV (getT b).1 y.pa y.pc, .slice y.ra (getT b).2.1.length y.rc, .int .i64 (getT b).2.2]⟩)
      (fun y => [.st (sl y.pa y.pc (getT b).1.parents), .st (sl y.ra y.rc (getT b).2.1)]) := by
  refine gives_defer (v := fun y : GetY b => .tuple ⟨[commitV (getT b).1 y.pa y.pc, .slice y.ra (getT b).2.1.length y.rc, .int .i64 (getT b).2.2]⟩) Tryz.func123 rfl Tryz.ntmps123 rfl rfl [.st (sl a c b)] (.start1 h) ?_
  refine JX.seq ?_
  repeat (first|refine Wc ?_|refine Wd ?_|refine We rfl ?_|(refine Wg rfl ?_; intro _))
  rename_i b2 b3 b4
  refine ⟨rfl, JX.defer rfl ?_⟩
  repeat (first|refine Wb ?_|refine Wc ?_|refine We rfl ?_|refine Wf (by exact Va) rfl ?_)
  refine Wf (OpV.build [.slice a b.length c] (by kernel_rfl)) rfl ?_
  repeat (first|refine Wa ?_|refine Wb ?_|refine Wc ?_|refine Wd ?_|refine We rfl ?_|refine Wf (by first|exact Va|exact Vb) rfl ?_|(refine Wh rfl ?_; intro _))
  rename_i br
  refine JR.more (Γ' := .own br 207 [.slice a b.length c] :: .st (sl a c b) :: [.own b2 29 [.int .i64 0, .int .i64 0, .int .i64 0, .slice none 0 0, .int .i64 0, .string .empty, .string .empty, .int .i64 0], .own b3 22 [.slice none 0 0], .own b4 32 [.int .i64 0]]) (fun w ho => ho.ent) ?_
  refine JR.callE rfl (fun w1 hw => read_ends hl hw) (fun y => ?_) (fun hn => ?_)
  · obtain ⟨cm, r, hg, pa, pc, ra, rc⟩ := y
    dsimp only
    rw [getT_some hg]
    dsimp only
    repeat (first|refine Wa ?_|refine Wb ?_|refine Wd ?_|refine We rfl ?_|refine Wi ?_)
    have hc := getC_len hg
    refine JC.drawP mixed ?_
    refine JP.take 0 [.own b2 29 [.int .i64 cm.ev.node, .int .i64 cm.ev.seq, .int .i64 cm.gen, .slice pa cm.parents.length pc, .int .i64 cm.op.kind, .string cm.op.key, .string cm.op.elem, .int .i64 cm.op.n]] rfl (by kernel_rfl) rfl Vc rfl rfl ?_
    refine JP.pure 1 rfl (by kernel_rfl) rfl (fun _ => Va) rfl rfl ?_
    refine JP.pure 2 rfl (by kernel_rfl) rfl (fun _ => OpV.nilCheck) rfl rfl ?_
    refine JP.pure 3 rfl (by kernel_rfl) rfl (fun _ => Vd) rfl rfl ?_
    refine JP.take 4 [.own br 207 [.slice ra r.length rc]] rfl (by kernel_rfl) rfl Vc rfl rfl ?_
    refine JP.op 5 (by kernel_rfl) rfl rfl (JR.callBuf rfl (fun w1 hw => clone_bytes w1 _ ra rc r hw.get (by omega)) fun a5 c5 => Wd ⟨rfl, (by repeat (first|exact Obs.nil|refine Obs.keep ?_|refine Obs.skip (by kernel_rfl) ?_)), ?_⟩)
    refine JP.more (fun w1 ho => ho.pub) ?_
    refine JP.op 6 (by kernel_rfl) rfl rfl (Wi (Wd ⟨rfl, (by repeat (first|exact Obs.nil|refine Obs.keep ?_|refine Obs.skip (by kernel_rfl) ?_)), ?_⟩))
    refine JP.op 7 (by kernel_rfl) rfl rfl (Wi (Wd ⟨rfl, (by repeat (first|exact Obs.nil|refine Obs.keep ?_|refine Obs.skip (by kernel_rfl) ?_)), ?_⟩))
    refine JP.op 8 (by kernel_rfl) rfl rfl (Wi (Wd ⟨rfl, (by repeat (first|exact Obs.nil|refine Obs.keep ?_|refine Obs.skip (by kernel_rfl) ?_)), ?_⟩))
    refine JP.nil (by kernel_rfl) ?_
    repeat (first|refine Wa ?_|refine Ws ?_)
    refine ⟨182, _, inferInstance, rfl, _, .inl ⟨.inl rfl, get1_idle⟩, ?_⟩
    exact CT.done (⟨pa, pc, a5, c5⟩ : GetY b) rfl (fun w ho => ho.ent)
  · rw [getT_none hn]
    dsimp only
    repeat (first | refine CT.panic ?_ | refine CT.blockPanic ?_)
    refine ⟨182, _, inferInstance, rfl, _, .inr ⟨wrongV, rfl, get1_wrong⟩, ?_⟩
    exact CT.done (⟨none, 0, none, 0⟩ : GetY b) rfl (fun w ho => ((ho.ent : Hold _ _ [] w).add sl_nil).add sl_nil)
end Ab
end Go.Proofs.YtdgeffphifgflaaGreat
namespace Go.Proofs.YtdgeffphifgflaaGreat
namespace Ab
open Go Go.RowKit
set_option linter.unusedVariables false
set_option linter.unusedSimpArgs false
set_option synthInstance.maxSize 4000
set_option synthInstance.maxHeartbeats 400000
attribute [local irreducible] JC JO JR JQ andThen inBlock OpV Gives retTo JM JS
attribute [local irreducible] sumI hashC
def hashO (c : Commit) : Option ID := if (hashC c).2 = 0 then some (hashC c).1 else none
def hashes (L : List Commit) : List ID := L.filterMap hashO
def parentsL (L : List Commit) : List ID := L.flatMap (·.parents)
def missL (L : List Commit) (H : List ID) : List ID := someIds (parentsL L) (H ++ hashes L) false
theorem hashes_next (L : List Commit) (k : Nat) (hk : k < L.length) : hashes (L.take (k + 1)) = hashes (L.take k) ++ (hashO L[k]).toList := by
  rw [hashes, hashes, List.take_succ_eq_append_getElem hk, List.filterMap_append]
  congr 1
theorem parentsL_next (L : List Commit) (k : Nat) (hk : k < L.length) : parentsL (L.take (k + 1)) = parentsL (L.take k) ++ L[k].parents := by
  rw [parentsL, parentsL, List.take_succ_eq_append_getElem hk, List.flatMap_append]
  simp
theorem hashes_le (L : List Commit) : (hashes L).length ≤ L.length := List.length_filterMap_le _ _
theorem parentsL_le (L : List Commit) (k : Nat) : (parentsL (L.take k)).length ≤ (parentsL L).length := by
  have h1 := congrArg (fun l => (parentsL l).length) (List.take_append_drop k L)
  simp only [parentsL, List.flatMap_append, List.length_append] at h1 ⊢
  omega
set_option maxHeartbeats 2000000 in
theorem missing_wait (w : World) (F : Nat → Prop) (a b : Option Addr) (k m : Nat) (L : List Commit) (H : List ID) (h : (sl a k L).holds F w) (h' : (sl b m H).holds F w) (hl : L.length + H.length ≤ 34359738360) (hp : (parentsL L).length ≤ 34359738360) (hf : ∀ x ∈ L, fine x) :
    GivesBuf Tryz.prog 146 [.slice a L.length k, .slice b H.length m] w F 81 (missL L H) := by
  refine gives_of Tryz.func146 rfl Tryz.ntmps146 rfl rfl [.st (sl a k L), .st (sl b m H)] (.start2 h h') ?_
  repeat (first|refine Wa ?_|refine Wb ?_|refine Wc ?_|refine Wd ?_|refine We rfl ?_|refine Wf (by first|exact Va|exact Vb) rfl ?_)
  refine JR.callBuf rfl (fun w1 hw => clone_ids_buf w1 _ b m H hw.get (by omega)) ?_
  intro a2 c2
  repeat (first|refine Wa ?_|refine Wb ?_|refine Wc ?_|refine Wd ?_|refine We rfl ?_|refine Wf (by first|exact Va|exact Vb|exact Vf) rfl ?_|refine Wn ?_)
  refine JC.buf_nil (α := ID) 81 ?_
  refine JC.loop5 (fun (i : Nat) p q r s => [(5, .slice p (parentsL (L.take i)).length q), (6, .slice r (H ++ hashes (L.take i)).length s), (13, .slice a L.length k), (14, .int .i64 (L.length : Int)), (15, .int .i64 (i : Int))])
    (fun i p q r s => [.st (sl a k L), .res (buf p q 81 (parentsL (L.take i))), .res (buf r s 81 (H ++ hashes (L.take i)))])
    (fun i _ _ _ _ => i ≤ L.length) (fun i _ _ _ _ => L.length - i) 0 none 0 a2 c2 (Nat.zero_le _) (by rw [List.take_zero, show parentsL [] = [] from rfl, show hashes [] = [] from rfl, List.append_nil]; infer_instance) ?_
  intro i p q r s hi
  repeat (first|refine Wa ?_|refine Wb ?_|refine Wc ?_|refine Wd ?_|refine We rfl ?_|refine Wf (by exact Vg) rfl ?_)
  refine JC.test (fun hlt => ?_) (fun hge => ?_)
  · have hlt' : i < L.length := by omega
    have hfx := hf _ (List.getElem_mem hlt')
    have h1 := hashes_le (L.take i)
    rw [List.length_take] at h1
    have h2 := parentsL_le L (i + 1)
    rw [parentsL_next L i hlt', List.length_append] at h2
    repeat (first|refine Wa ?_|refine Wb ?_|refine Wc ?_|refine We rfl ?_|refine Wl ?_|refine Wn ?_)
    refine JR.indexCommit rfl hlt' ?_
    intro b2 o2 p2 q2
    repeat (first|refine Wa ?_|refine Wb ?_|refine Wc ?_|refine Wd ?_|refine We rfl ?_|refine Wf (by exact Vc) rfl ?_|(refine Wg rfl ?_; intro _)|refine Wi ?_)
    rename_i bc
    refine JR.callV rfl (fun w1 hw => hash_commit w1 _ (L[i]) p2 q2 hw.get hfx.1) ?_
    repeat (first|refine Wa ?_|refine Wb ?_|refine Wc ?_|refine Wd ?_|refine We rfl ?_|refine Wf (by first|exact Va|exact Vb|exact Vl|exact Vq) rfl ?_|(refine Wg rfl ?_; intro _)|refine Wi ?_)
    refine JC.test (fun h0 => ?_) (fun h0 => ?_)
    · have ho : hashO L[i] = some (hashC L[i]).1 := by simp [hashO, h0]
      have hnx : H ++ hashes (L.take (i + 1)) = H ++ hashes (L.take i) ++ [(hashC L[i]).1] := by rw [hashes_next _ _ hlt', ho, List.append_assoc]; rfl
      repeat (first|refine Wc ?_|refine We rfl ?_|refine Wf (by first|exact Va|exact Vc) rfl ?_|(refine Ww rfl ⟨rfl, by decide, by decide, by decide⟩ ?_; intro _))
      refine JR.append1 rfl (by exact ⟨rfl, rfl, by decide⟩) (by rw [List.length_append]; omega) ?_
      intro r3 s3
      repeat (first|refine Wa ?_|refine Wc ?_|refine Wd ?_|refine We rfl ?_|refine Wf (by first|exact Va|exact Vb|exact Vc|exact Vd) rfl ?_)
      refine JR.appendSl rfl (by exact ⟨rfl, rfl, by decide⟩) (by omega) ?_
      intro p3 q3
      repeat (first|refine Wa ?_|refine Wc ?_|refine Wd ?_|refine We rfl ?_|refine Wf (by first|exact Va|exact Vb|exact Vk (by omega)) rfl ?_|refine Wr ?_)
      exact ⟨i + 1, p3, q3, r3, s3, by omega, by omega, by rw [hnx, parentsL_next _ _ hlt']; infer_instance⟩
    · have ho : hashO L[i] = none := by simp [hashO, h0]
      have hnx : H ++ hashes (L.take (i + 1)) = H ++ hashes (L.take i) := by rw [hashes_next _ _ hlt', ho]; simp
      obtain ⟨r3, hr3⟩ : ∃ r3, r3 = r := ⟨_, rfl⟩
      obtain ⟨s3, hs3⟩ : ∃ s3, s3 = s := ⟨_, rfl⟩
      subst hr3 hs3
      repeat (first|refine Wa ?_|refine Wc ?_|refine We rfl ?_|refine Wf (by first|exact Va|exact Vc|exact Vd) rfl ?_|refine Wl ?_)
      refine JR.appendSl rfl (by exact ⟨rfl, rfl, by decide⟩) (by omega) ?_
      intro p3 q3
      repeat (first|refine Wa ?_|refine Wc ?_|refine Wd ?_|refine We rfl ?_|refine Wf (by first|exact Va|exact Vb|exact Vk (by omega)) rfl ?_|refine Wr ?_)
      exact ⟨i + 1, p3, q3, r3, s3, by omega, by omega, by rw [hnx, parentsL_next _ _ hlt']; infer_instance⟩
  · obtain rfl : i = L.length := by omega
    rw [List.take_length]
    repeat (first | refine Wa ?_ | refine Wo ?_ | refine Wp ?_ | refine Wq rfl ?_ | refine Wr ?_ | refine Wm ?_)
    refine JC.more (Γ' := [.st (sl r s (H ++ hashes L)), .st (sl p q (parentsL L))]) (fun w1 ho => ?_) ?_
    · have h1 : Hold _ _ [.res (buf p q 81 (parentsL L)), .res (buf r s 81 (H ++ hashes L))] w1 := ho.ent
      have h2 : Hold _ _ [.res (buf r s 81 (H ++ hashes L)), .st (sl p q (parentsL L))] w1 := (h1.pub).ent
      exact h2.pub
    repeat (first|refine Wb ?_|refine Wc ?_|refine We rfl ?_|refine Wf (by exact Va) rfl ?_)
    refine JR.callBuf rfl (fun w1 hw => without_ids w1 _ p r q s (parentsL L) (H ++ hashes L) hw.get hw.get (by omega)) ?_
    intro a5 c5
    repeat (first|refine Wa ?_|refine Wd ?_|refine We rfl ?_|refine Wf (by exact Vb) rfl ?_|refine Ws ?_)
    exact CT.done (a5, c5) rfl (fun w ho => (ho.ent : Hold _ _ [.res (buf a5 c5 81 (someIds (parentsL L) (H ++ hashes L) false))] w))
end Ab
end Go.Proofs.YtdgeffphifgflaaGreat
namespace Go.Proofs.YtdgeffphifgflaaGreat
namespace Ab
open Go Go.RowKit
set_option linter.unusedVariables false
set_option linter.unusedSimpArgs false
set_option synthInstance.maxSize 4000
set_option synthInstance.maxHeartbeats 400000
attribute [local irreducible] JC JO JR JQ andThen inBlock OpV Gives retTo JM JS
def idC (c : Commit) : ID := (hashC c).1
def cids (L : List Commit) : List ID := L.map idC
def par (L : List Commit) (x y : ID) : Prop := ∃ c ∈ L, idC c = x ∧ y ∈ c.parents ∧ y ∈ cids L
def knows (L : List Commit) (x y : ID) : Prop := Relation.TransGen (par L) x y
def genAt (L : List Commit) (p : ID) : Int := match L.find? (fun c => decide (idC c = p)) with | some c => c.gen | none => 0
def maxGen (L : List Commit) (ps : List ID) : Int := ps.foldl (fun g p => max g (genAt L p)) 0
structure Fine (L : List Commit) (c : Commit) : Prop where
  merge : merge c = false
  here : ∀ p ∈ c.parents, p ∈ cids L
  free : ∀ p ∈ c.parents, ∀ q ∈ c.parents, ¬ knows L p q
  gen : c.gen = maxGen L c.parents + 1
def evOk (L : List Commit) (c d : Commit) : Prop := idC c ≠ idC d → c.ev.node = d.ev.node → c.ev.seq ≠ d.ev.seq ∧ (d.ev.seq < c.ev.seq → knows L (idC c) (idC d))
structure Closed (L : List Commit) : Prop where
  may : ∀ c ∈ L, may c = true
  nodup : (cids L).Nodup
  fine : ∀ c ∈ L, Fine L c
  ev : ∀ c ∈ L, ∀ d ∈ L, evOk L c d
theorem mem_cids {L : List Commit} {x : ID} : x ∈ cids L ↔ ∃ c ∈ L, idC c = x := by simp [cids]
theorem cids_perm {L M : List Commit} (h : L.Perm M) : (cids L).Perm (cids M) := h.map _
theorem par_perm {L M : List Commit} (h : L.Perm M) (x y : ID) : par L x y ↔ par M x y := by
  unfold par
  constructor
  · rintro ⟨c, h1, h2, h3, h4⟩; exact ⟨c, h.mem_iff.1 h1, h2, h3, (cids_perm h).mem_iff.1 h4⟩
  · rintro ⟨c, h1, h2, h3, h4⟩; exact ⟨c, h.mem_iff.2 h1, h2, h3, (cids_perm h).mem_iff.2 h4⟩
theorem par_perm_eq {L M : List Commit} (h : L.Perm M) : par L = par M := by
  funext x y; exact propext (par_perm h x y)
theorem knows_perm {L M : List Commit} (h : L.Perm M) : knows L = knows M := by unfold knows; rw [par_perm_eq h]
theorem id_inj {L : List Commit} (h : (cids L).Nodup) {c d : Commit} (hc : c ∈ L) (hd : d ∈ L) (e : idC c = idC d) : c = d := by
  induction L with
  | nil => cases hc
  | cons a L ih =>
    simp only [cids, List.map_cons, List.nodup_cons, List.mem_map, not_exists, not_and] at h
    rcases List.mem_cons.1 hc with e1 | hc'
    · rcases List.mem_cons.1 hd with e2 | hd'
      · rw [e1, e2]
      · exact (h.1 d hd' (by rw [← e1, e])).elim
    · rcases List.mem_cons.1 hd with e2 | hd'
      · exact (h.1 c hc' (by rw [← e2, e])).elim
      · exact ih h.2 hc' hd'
theorem genAt_of {L : List Commit} (h : (cids L).Nodup) {c : Commit} (hc : c ∈ L) : genAt L (idC c) = c.gen := by
  unfold genAt
  cases hf : L.find? (fun d => decide (idC d = idC c)) with
  | none => exact absurd (List.find?_eq_none.1 hf c hc) (by simp)
  | some d =>
    have h1 := List.find?_some hf
    have h2 := List.mem_of_find?_eq_some hf
    rw [id_inj h h2 hc (by simpa using h1)]
theorem genAt_none {L : List Commit} {p : ID} (h : p ∉ cids L) : genAt L p = 0 := by
  unfold genAt
  cases hf : L.find? (fun d => decide (idC d = p)) with
  | none => rfl
  | some d =>
    have h1 := List.find?_some hf
    exact (h (mem_cids.2 ⟨d, List.mem_of_find?_eq_some hf, by simpa using h1⟩)).elim
theorem genAt_perm {L M : List Commit} (h : L.Perm M) (hn : (cids L).Nodup) (p : ID) : genAt L p = genAt M p := by
  by_cases hp : p ∈ cids L
  · obtain ⟨c, hc, rfl⟩ := mem_cids.1 hp
    rw [genAt_of hn hc, genAt_of ((cids_perm h).nodup_iff.1 hn) (h.mem_iff.1 hc)]
  · rw [genAt_none hp, genAt_none (fun hq => hp ((cids_perm h).mem_iff.2 hq))]
theorem foldl_max_le (f : ID → Int) (ps : List ID) : ∀ g : Int, g ≤ ps.foldl (fun g p => max g (f p)) g := by
  induction ps with
  | nil => intro g; exact Int.le_refl _
  | cons p ps ih => intro g; exact Int.le_trans (Int.le_max_left _ _) (ih _)
theorem foldl_max_mem (f : ID → Int) (ps : List ID) : ∀ (g : Int), ∀ p ∈ ps, f p ≤ ps.foldl (fun g p => max g (f p)) g := by
  induction ps with
  | nil => intro g p hp; cases hp
  | cons q ps ih =>
    intro g p hp
    rcases List.mem_cons.1 hp with rfl | hp
    · exact Int.le_trans (Int.le_max_right _ _) (foldl_max_le f ps _)
    · exact ih _ p hp
theorem foldl_max_congr (f g : ID → Int) (ps : List ID) (h : ∀ p ∈ ps, f p = g p) : ∀ a : Int, ps.foldl (fun g p => max g (f p)) a = ps.foldl (fun a p => max a (g p)) a := by
  induction ps with
  | nil => intro a; rfl
  | cons q ps ih =>
    intro a
    simp only [List.foldl_cons]
    rw [h q (by simp)]
    exact ih (fun p hp => h p (by simp [hp])) _
theorem maxGen_mem (L : List Commit) (ps : List ID) (p : ID) (h : p ∈ ps) : genAt L p ≤ maxGen L ps := foldl_max_mem _ _ _ p h
theorem maxGen_congr {L M : List Commit} {ps : List ID} (h : ∀ p ∈ ps, genAt L p = genAt M p) : maxGen L ps = maxGen M ps := foldl_max_congr _ _ _ h _
theorem Closed.perm {L M : List Commit} (h : L.Perm M) (hc : Closed L) : Closed M := by
  have hk := knows_perm h
  refine ⟨fun c hm => hc.may c (h.mem_iff.2 hm), (cids_perm h).nodup_iff.1 hc.nodup, fun c hm => ?_, fun c hm d hd => ?_⟩
  · have hf := hc.fine c (h.mem_iff.2 hm)
    refine ⟨hf.merge, fun p hp => (cids_perm h).mem_iff.1 (hf.here p hp), ?_, ?_⟩
    · rw [← hk]; exact hf.free
    · rw [hf.gen, maxGen_congr fun p _ => genAt_perm h hc.nodup p]
  · have := hc.ev c (h.mem_iff.2 hm) d (h.mem_iff.2 hd)
    unfold evOk at *
    rw [← hk]; exact this
theorem closed_nil : Closed [] := ⟨by simp, by simp [cids], by simp, by simp⟩
theorem Closed.par_gen {L : List Commit} (h : Closed L) {x y : ID} (hp : par L x y) : genAt L y < genAt L x := by
  obtain ⟨c, h1, rfl, h3, _⟩ := hp
  rw [genAt_of h.nodup h1, (h.fine c h1).gen]
  have := maxGen_mem L c.parents y h3
  omega
theorem Closed.knows_gen {L : List Commit} (h : Closed L) {x y : ID} (hp : knows L x y) : genAt L y < genAt L x := by
  induction hp with
  | single h1 => exact h.par_gen h1
  | tail _ h1 ih => exact Int.lt_trans (h.par_gen h1) ih
theorem Closed.irrefl {L : List Commit} (h : Closed L) (x : ID) : ¬ knows L x x := fun hk => Int.lt_irrefl _ (h.knows_gen hk)
theorem knows_ids {L : List Commit} {x y : ID} (h : knows L x y) : x ∈ cids L ∧ y ∈ cids L := by
  have hp : ∀ {x y}, par L x y → x ∈ cids L ∧ y ∈ cids L := fun ⟨c, h1, h2, _, h4⟩ => ⟨mem_cids.2 ⟨c, h1, h2⟩, h4⟩
  induction h with
  | single h1 => exact hp h1
  | tail _ h1 ih => exact ⟨ih.1, (hp h1).2⟩
theorem knows_iff {L : List Commit} (hn : (cids L).Nodup) {c : Commit} (hc : c ∈ L) (hh : ∀ p ∈ c.parents, p ∈ cids L) (y : ID) :
    knows L (idC c) y ↔ ∃ p ∈ c.parents, y = p ∨ knows L p y := by
  constructor
  · intro h
    have key : ∀ {x y}, Relation.TransGen (par L) x y → ∃ z, par L x z ∧ (y = z ∨ Relation.TransGen (par L) z y) := by
      intro x y h
      induction h with
      | single h1 => exact ⟨_, h1, .inl rfl⟩
      | tail _ h1 ih =>
        obtain ⟨z, h2, h3⟩ := ih
        refine ⟨z, h2, .inr ?_⟩
        rcases h3 with rfl | h3
        · exact .single h1
        · exact .tail h3 h1
    obtain ⟨z, ⟨d, h1, h2, h3, _⟩, h4⟩ := key h
    have : d = c := id_inj hn h1 hc h2
    subst this
    exact ⟨z, h3, h4⟩
  · rintro ⟨p, hp, h⟩
    have h1 : par L (idC c) p := ⟨c, hc, rfl, hp, hh p hp⟩
    rcases h with rfl | h
    · exact .single h1
    · exact Relation.TransGen.trans (.single h1) h
theorem knows_sub {L M : List Commit} (hs : ∀ c ∈ M, c ∈ L) (hn : (cids L).Nodup) (hh : ∀ c ∈ M, ∀ p ∈ c.parents, p ∈ cids M) {x : ID} (hx : x ∈ cids M) (y : ID) :
    knows M x y ↔ knows L x y := by
  have hi : ∀ z, z ∈ cids M → z ∈ cids L := fun z hz => by
    obtain ⟨c, hc, rfl⟩ := mem_cids.1 hz; exact mem_cids.2 ⟨c, hs c hc, rfl⟩
  constructor
  · intro h
    refine Relation.TransGen.rec (motive := fun y _ => knows L x y) ?_ ?_ h
    · rintro y ⟨c, h1, h2, h3, h4⟩; exact .single ⟨c, hs c h1, h2, h3, hi _ h4⟩
    · rintro y z _ ⟨c, h1, h2, h3, h4⟩ ih; exact .tail ih ⟨c, hs c h1, h2, h3, hi _ h4⟩
  · intro h
    have step : ∀ {x y}, x ∈ cids M → par L x y → par M x y ∧ y ∈ cids M := by
      rintro x y hx ⟨c, h1, h2, h3, _⟩
      obtain ⟨d, hd, he⟩ := mem_cids.1 hx
      have : d = c := id_inj hn (hs d hd) h1 (he.trans h2.symm)
      subst this
      exact ⟨⟨d, hd, he, h3, hh d hd y h3⟩, hh d hd y h3⟩
    have : knows M x y ∧ y ∈ cids M := by
      refine Relation.TransGen.rec (motive := fun y _ => knows M x y ∧ y ∈ cids M) ?_ ?_ h
      · intro y h1; exact ⟨.single (step hx h1).1, (step hx h1).2⟩
      · intro y z _ h1 ih; exact ⟨.tail ih.1 (step ih.2 h1).1, (step ih.2 h1).2⟩
    exact this.1
theorem genAt_sub {L M : List Commit} (hs : ∀ c ∈ M, c ∈ L) (hn : (cids L).Nodup) (hm : (cids M).Nodup) {x : ID} (hx : x ∈ cids M) : genAt M x = genAt L x := by
  obtain ⟨c, hc, rfl⟩ := mem_cids.1 hx
  rw [genAt_of hm hc, genAt_of hn (hs c hc)]
theorem nodup_sub {L M : List Commit} (hn : (cids L).Nodup) (hs : M.Sublist L) : (cids M).Nodup := hn.sublist (hs.map _)
theorem Closed.sub {L M : List Commit} (h : Closed L) (hs : ∀ c ∈ M, c ∈ L) (hm : (cids M).Nodup) (hh : ∀ c ∈ M, ∀ p ∈ c.parents, p ∈ cids M) : Closed M := by
  refine ⟨fun c hc => h.may c (hs c hc), hm, fun c hc => ?_, fun c hc d hd => ?_⟩
  · have hf := h.fine c (hs c hc)
    refine ⟨hf.merge, hh c hc, fun p hp q hq hk => hf.free p hp q hq ((knows_sub hs h.nodup hh (hh c hc p hp) q).1 hk), ?_⟩
    rw [hf.gen, maxGen_congr fun p hp => (genAt_sub hs h.nodup hm (hh c hc p hp))]
  · have := h.ev c (hs c hc) d (hs d hd)
    intro h1 h2
    obtain ⟨h3, h4⟩ := this h1 h2
    exact ⟨h3, fun h5 => (knows_sub hs h.nodup hh (mem_cids.2 ⟨c, hc, rfl⟩) _).2 (h4 h5)⟩
def nodes (G : List (Commit × List ID)) : List Commit := G.map (·.1)
def knownBy (G : List (Commit × List ID)) (q : ID) : List ID := match G.find? (fun g => decide (idC g.1 = q)) with | some g => g.2 | none => []
def addOk (G : List (Commit × List ID)) (c : Commit) : Bool := c.parents.all (fun p => decide (p ∈ cids (nodes G))) && c.parents.all (fun p => c.parents.all fun q => decide (p ∉ knownBy G q))
def addGen (G : List (Commit × List ID)) (c : Commit) : Bool := decide (c.gen = maxGen (nodes G) c.parents + 1)
def isKnown (G : List (Commit × List ID)) (c : Commit) (S : List ID) : Prop := ∀ x, x ∈ S ↔ ∃ p ∈ c.parents, x = p ∨ x ∈ knownBy G p
inductive Built : List (Commit × List ID) → Prop
  | nil : Built []
  | snoc {G : List (Commit × List ID)} {c : Commit} {S : List ID} : Built G → idC c ∉ cids (nodes G) → merge c = false → addOk G c = true → addGen G c = true → isKnown G c S → Built (G ++ [(c, S)])
theorem nodes_snoc (G : List (Commit × List ID)) (c : Commit) (S : List ID) : nodes (G ++ [(c, S)]) = nodes G ++ [c] := by simp [nodes]
theorem cids_append (L M : List Commit) : cids (L ++ M) = cids L ++ cids M := by simp [cids]
theorem cids_snoc (L : List Commit) (c : Commit) : cids (L ++ [c]) = cids L ++ [idC c] := by simp [cids]
theorem knownBy_of {G : List (Commit × List ID)} (h : (cids (nodes G)).Nodup) {g : Commit × List ID} (hg : g ∈ G) : knownBy G (idC g.1) = g.2 := by
  unfold knownBy
  cases hf : G.find? (fun d => decide (idC d.1 = idC g.1)) with
  | none => exact absurd (List.find?_eq_none.1 hf g hg) (by simp)
  | some d =>
    have h1 := List.find?_some hf
    have h2 := List.mem_of_find?_eq_some hf
    have h3 : idC d.1 = idC g.1 := by simpa using h1
    have : d = g := by
      clear hf h1
      induction G with
      | nil => cases hg
      | cons a G ih =>
        simp only [nodes, cids, List.map_cons, List.nodup_cons, List.mem_map, not_exists, not_and] at h
        rcases List.mem_cons.1 h2 with e1 | h2'
        · rcases List.mem_cons.1 hg with e2 | hg'
          · rw [e1, e2]
          · exact (h.1 g.1 ⟨g, hg', rfl⟩ (by rw [← e1, h3])).elim
        · rcases List.mem_cons.1 hg with e2 | hg'
          · exact (h.1 d.1 ⟨d, h2', rfl⟩ (by rw [← e2, h3])).elim
          · exact ih h.2 hg' h2'
    rw [this]
theorem knownBy_snoc {G : List (Commit × List ID)} {c : Commit} {S : List ID} {q : ID} (h : q ∈ cids (nodes G)) : knownBy (G ++ [(c, S)]) q = knownBy G q := by
  obtain ⟨c', hc', he⟩ := mem_cids.1 h
  obtain ⟨g, hg, rfl⟩ := List.mem_map.1 hc'
  unfold knownBy
  rw [List.find?_append]
  cases hf : G.find? (fun d => decide (idC d.1 = q)) with
  | none => exact absurd (List.find?_eq_none.1 hf g hg) (by simpa using he)
  | some d => rfl
theorem addOk_iff (G : List (Commit × List ID)) (c : Commit) : addOk G c = true ↔ (∀ p ∈ c.parents, p ∈ cids (nodes G)) ∧ ∀ p ∈ c.parents, ∀ q ∈ c.parents, p ∉ knownBy G q := by
  simp only [addOk, Bool.and_eq_true, List.all_eq_true, decide_eq_true_eq]
structure BuiltR (G : List (Commit × List ID)) : Prop where
  nodup : (cids (nodes G)).Nodup
  here : ∀ c ∈ nodes G, ∀ p ∈ c.parents, p ∈ cids (nodes G)
  known : ∀ q ∈ cids (nodes G), ∀ x, x ∈ knownBy G q ↔ knows (nodes G) q x
  fine : ∀ c ∈ nodes G, Fine (nodes G) c
theorem Built.right {G : List (Commit × List ID)} (h : Built G) : BuiltR G := by
  induction h with
  | nil => exact ⟨by simp [nodes, cids], by simp [nodes], by simp [nodes, cids], by simp [nodes]⟩
  | snoc h1 h2 h3 h4 h5 h6 ih =>
    rename_i G c S
    have hn : (cids (nodes (G ++ [(c, S)]))).Nodup := by
      rw [nodes_snoc, cids_snoc]
      exact List.nodup_append.2 ⟨ih.nodup, by simp, fun a ha b hb => by simp at hb; subst hb; exact fun e => h2 (e ▸ ha)⟩
    obtain ⟨h7, h8⟩ := (addOk_iff G c).1 h4
    have hs : ∀ d ∈ nodes G, d ∈ nodes (G ++ [(c, S)]) := fun d hd => by rw [nodes_snoc]; exact List.mem_append_left _ hd
    have hi : ∀ x ∈ cids (nodes G), x ∈ cids (nodes (G ++ [(c, S)])) := fun x hx => by rw [nodes_snoc, cids_append]; exact List.mem_append_left _ hx
    have hc : c ∈ nodes (G ++ [(c, S)]) := by rw [nodes_snoc]; simp
    have hsub : ∀ {x}, x ∈ cids (nodes G) → ∀ y, knows (nodes G) x y ↔ knows (nodes (G ++ [(c, S)])) x y := fun hx y => knows_sub hs hn ih.here hx y
    have hgen : ∀ x ∈ cids (nodes G), genAt (nodes G) x = genAt (nodes (G ++ [(c, S)])) x := fun x hx => genAt_sub hs hn ih.nodup hx
    have hcc : ∀ x, x ∈ S ↔ knows (nodes (G ++ [(c, S)])) (idC c) x := by
      intro x
      rw [h6 x, knows_iff hn hc (fun p hp => hi p (h7 p hp))]
      constructor
      · rintro ⟨p, hp, h9⟩
        exact ⟨p, hp, h9.imp id fun h9 => (hsub (h7 p hp) x).1 ((ih.known p (h7 p hp) x).1 h9)⟩
      · rintro ⟨p, hp, h9⟩
        exact ⟨p, hp, h9.imp id fun h9 => (ih.known p (h7 p hp) x).2 ((hsub (h7 p hp) x).2 h9)⟩
    refine ⟨hn, fun d hd p hp => ?_, fun q hq x => ?_, fun d hd => ?_⟩
    · rw [nodes_snoc] at hd
      rcases List.mem_append.1 hd with hd | hd
      · exact hi p (ih.here d hd p hp)
      · simp at hd; subst hd; exact hi p (h7 p hp)
    · by_cases hq' : q ∈ cids (nodes G)
      · rw [knownBy_snoc hq', ih.known q hq', hsub hq']
      · have : q = idC c := by
          rw [nodes_snoc, cids_snoc] at hq
          rcases List.mem_append.1 hq with hq | hq
          · exact (hq' hq).elim
          · simpa using hq
        subst this
        rw [knownBy_of hn (g := (c, S)) (by simp)]
        exact hcc x
    · rw [nodes_snoc] at hd
      rcases List.mem_append.1 hd with hd | hd
      · have hf := ih.fine d hd
        refine ⟨hf.merge, fun p hp => hi p (hf.here p hp), fun p hp q hq hk => hf.free p hp q hq ((hsub (hf.here p hp) q).2 hk), ?_⟩
        rw [hf.gen, maxGen_congr fun p hp => hgen p (hf.here p hp)]
      · simp at hd; subst hd
        refine ⟨h3, fun p hp => hi p (h7 p hp), fun p hp q hq hk => h8 q hq p hp ((ih.known p (h7 p hp) q).2 ((hsub (h7 p hp) q).2 hk)), ?_⟩
        have := of_decide_eq_true h5
        rw [this, maxGen_congr fun p hp => hgen p (h7 p hp)]
theorem Built.closed {G : List (Commit × List ID)} (h : Built G) (hm : ∀ c ∈ nodes G, may c = true) (he : ∀ c ∈ nodes G, ∀ d ∈ nodes G, evOk (nodes G) c d) : Closed (nodes G) :=
  ⟨hm, h.right.nodup, h.right.fine, he⟩
theorem Closed.step {Lo : List Commit} (h : Closed Lo) (hs : Lo.Pairwise (fun c d => c.gen ≤ d.gen)) {G : List (Commit × List ID)} (hb : Built G) {k : Nat} (hk : k < Lo.length) (hG : nodes G = Lo.take k) :
    idC Lo[k] ∉ cids (nodes G) ∧ merge Lo[k] = false ∧ addOk G Lo[k] = true ∧ addGen G Lo[k] = true := by
  have hm := List.getElem_mem hk
  have hf := h.fine _ hm
  have hr := hb.right
  have hsub : ∀ c ∈ nodes G, c ∈ Lo := fun c hc => by rw [hG] at hc; exact List.mem_of_mem_take hc
  have hpar : ∀ p ∈ Lo[k].parents, p ∈ cids (nodes G) := by
    intro p hp
    obtain ⟨d, hd, rfl⟩ := mem_cids.1 (hf.here p hp)
    have hlt : d.gen < Lo[k].gen := by
      have := h.par_gen (x := idC Lo[k]) (y := idC d) ⟨_, hm, rfl, hp, hf.here _ hp⟩
      rwa [genAt_of h.nodup hd, genAt_of h.nodup hm] at this
    obtain ⟨j, hj, rfl⟩ := List.getElem_of_mem hd
    have hjk : j < k := by
      apply Classical.byContradiction
      intro hge
      by_cases he : j = k
      · subst he; omega
      · have := List.pairwise_iff_getElem.1 hs k j hk hj (by omega)
        omega
    rw [hG]
    refine mem_cids.2 ⟨Lo[j], ?_, rfl⟩
    rw [List.mem_take_iff_getElem]
    exact ⟨j, by omega, rfl⟩
  refine ⟨?_, hf.merge, (addOk_iff G _).2 ⟨hpar, fun p hp q hq hk' => ?_⟩, ?_⟩
  · intro hc
    obtain ⟨d, hd, he⟩ := mem_cids.1 hc
    rw [hG, List.mem_take_iff_getElem] at hd
    obtain ⟨j, hj, rfl⟩ := hd
    have h1 := List.pairwise_iff_getElem.1 (show (cids Lo).Pairwise _ from h.nodup) j k (by simp [cids]; omega) (by simpa [cids] using hk) (by omega)
    simp [cids] at h1
    exact h1 he
  · exact hf.free q hq p hp ((knows_sub hsub h.nodup hr.here (hpar q hq) p).1 ((hr.known q (hpar q hq) p).1 hk'))
  · refine decide_eq_true ?_
    rw [hf.gen, maxGen_congr fun p hp => (genAt_sub hsub h.nodup hr.nodup (hpar p hp)).symm]
def istep (L : List Commit) (i j : Nat) : Prop := ∃ h : i < L.length, ∃ p ∈ L[i].parents, (cids L).findIdx? (fun x => decide (x = p)) = some j
def knowsI (L : List Commit) (i j : Nat) : Prop := Relation.TransGen (istep L) i j
theorem cids_length (L : List Commit) : (cids L).length = L.length := by simp [cids]
theorem cids_get (L : List Commit) (i : Nat) (h : i < (cids L).length) : (cids L)[i] = idC (L[i]'(by simpa [cids] using h)) := by simp [cids]
def oneI (L : List Commit) (i : Nat) : Prop := ∃ h : i < L.length, (∀ p ∈ L[i].parents, p ∈ cids L) ∧
  (∀ a b, istep L i a → istep L i b → ¬ knowsI L a b) ∧ L[i].gen = maxGen L L[i].parents + 1
def evI (L : List Commit) (i j : Nat) : Prop := ∃ hi : i < L.length, ∃ hj : j < L.length, L[i].ev.node = L[j].ev.node →
  L[i].ev.seq ≠ L[j].ev.seq ∧ (L[j].ev.seq < L[i].ev.seq → knowsI L i j) ∧ (L[i].ev.seq < L[j].ev.seq → knowsI L j i)
def fewC (c : Commit) : Bool := decide (c.parents.length ≤ 20) && decide (c.op.key.size ≤ 100) && decide (c.op.elem.size ≤ 100)
theorem few_one (w : World) (F : Nat → Prop) (c : Commit) (a : Option Addr) (k : Nat) : GivesV Tryz.prog 14 [commitV c a k] w F (.bool (fewC c)) := by
  refine gives_of Tryz.func14 rfl Tryz.ntmps14 rfl rfl [] (.start w F) ?_
  repeat (first|refine Wa ?_|refine Wb ?_|refine Wc ?_|refine Wd ?_|refine We rfl ?_|refine Wf (by first|exact Va|exact Vb|exact Vc|exact Vd|exact Vf|exact Vn) rfl ?_|(refine Wh rfl ?_; intro _))
  refine JO.test 7 (fun h1 => ?_) (fun h1 => ?_)
  · repeat (first|refine We rfl ?_|refine Wf (by first|exact Va|exact Vc|exact Vd|exact Vi|exact Vn|exact Vw) rfl ?_)
    refine JO.test 14 (fun h2 => ?_) (fun h2 => ?_)
    · repeat (first|refine Wa ?_|refine Wd ?_|refine We rfl ?_|refine Wf (by first|exact Vb|exact Vc|exact Vd|exact Vi|exact Vn|exact Vw) rfl ?_|refine Ws ?_)
      refine CT.done () ?_ (fun w ho => ho.ent)
      have h1 : c.parents.length ≤ 20 := by omega
      have h2 : c.op.key.size ≤ 100 := by omega
      have h3 : ((c.op.elem.size : Int) ≤ 100) ↔ c.op.elem.size ≤ 100 := by omega
      simp [packed, fewC, h1, h2, h3]
    · repeat (first|refine Wa ?_|refine Wd ?_|refine We rfl ?_|refine Wf (by first|exact Vb|exact Vj) rfl ?_|refine Ws ?_|refine Wv rfl rfl ?_)
      refine CT.done () ?_ (fun w ho => ho.ent)
      have h2 : ¬ c.op.key.size ≤ 100 := by omega
      simp [packed, fewC, h2]
  · repeat (first|refine Wa ?_|refine Wd ?_|refine We rfl ?_|refine Wf (by first|exact Va|exact Vb|exact Vj) rfl ?_|refine Ws ?_|refine Wv rfl rfl ?_)
    refine CT.done () ?_ (fun w ho => ho.ent)
    have h1 : ¬ c.parents.length ≤ 20 := by omega
    simp [packed, fewC, h1]
def fewL (L : List Commit) (m : Nat) : Bool := decide (L.length ≤ m) && L.all fewC
theorem few_all (w : World) (F : Nat → Prop) (a : Option Addr) (c : Nat) (L : List Commit) (m : Nat) (h : (sl a c L).holds F w) :
    GivesV Tryz.prog 24 [.slice a L.length c, .int .i64 (m : Int)] w F (.bool (fewL L m)) := by
  have hL : L.length < 9223372036854775807 := by have := h.2.2.1; simp only [lim] at this; omega
  refine gives_of Tryz.func24 rfl Tryz.ntmps24 rfl rfl [.st (sl a c L)] (.start1 h) ?_
  repeat (first|refine Wa ?_|refine Wb ?_|refine Wc ?_|refine Wd ?_|refine We rfl ?_|refine Wf (by first|exact Va|exact Vb|exact Vf|exact Vo) rfl ?_)
  refine JC.test (fun h1 => ?_) (fun h1 => ?_)
  · repeat (first|refine Wa ?_|refine Wb ?_|refine Wc ?_|refine Wd ?_|refine We rfl ?_|refine Wf (by exact Vb) rfl ?_|refine Ws ?_|refine Wt ?_)
    refine CT.done () ?_ (fun w ho => ho.ent)
    have h1 : ¬ L.length ≤ m := by omega
    simp [packed, fewL, h1]
  · have h1 : L.length ≤ m := by omega
    repeat (first|refine Wa ?_|refine Wb ?_|refine Wc ?_|refine Wd ?_|refine We rfl ?_|refine Wf (by exact Vb) rfl ?_|refine Wl ?_|refine Wn ?_)
    refine JC.loop1 (fun k0 : Nat => [(0, .slice a L.length c), (5, .int .i64 (k0 : Int))]) (fun _ => [.st (sl a c L)])
      (fun k0 => k0 ≤ L.length ∧ (L.take k0).all fewC = true) (fun k0 => L.length - k0) 0 ⟨Nat.zero_le _, rfl⟩ inferInstance ?_
    intro k0 ⟨hk, heq⟩
    repeat (first|refine Wa ?_|refine Wb ?_|refine Wc ?_|refine Wd ?_|refine We rfl ?_|refine Wf (by first|exact Va|exact Vf|exact Vg) rfl ?_)
    refine JC.test (fun hlt => ?_) (fun hge => ?_)
    · have hlt' : k0 < L.length := by omega
      repeat (first|refine Wa ?_|refine Wb ?_|refine Wc ?_|refine We rfl ?_|refine Wf (by exact Va) rfl ?_|refine Wl ?_|refine Wn ?_)
      refine JR.indexCommit rfl hlt' ?_
      intro b1 o1 p1 q1
      repeat (first|refine We rfl ?_|refine Wf (by exact Vc) rfl ?_)
      refine JR.callV rfl (fun w1 hw => few_one w1 _ L[k0] p1 q1) ?_
      repeat (first|refine Wa ?_|refine Wb ?_|refine Wc ?_|refine Wd ?_|refine We rfl ?_|refine Wf (by first|exact Va|exact Vb|exact Vh) rfl ?_)
      refine JC.test (fun hne => ?_) (fun heq2 => ?_)
      · repeat (first|refine Wa ?_|refine Wb ?_|refine Wc ?_|refine Wd ?_|refine We rfl ?_|refine Wf (by exact Vb) rfl ?_|refine Ws ?_|refine Wt ?_|refine Wu ?_)
        refine CT.done () ?_ (fun w ho => ho.ent)
        have h3 : L.all fewC = false := by
          rw [← Bool.not_eq_true]
          intro h4
          exact hne (List.all_eq_true.1 h4 _ (List.getElem_mem hlt'))
        simp only [packed, fewL, h3, Bool.and_false]
      · repeat (first|refine Wa ?_|refine Wc ?_|refine Wd ?_|refine We rfl ?_|refine Wf (by first|exact Va|exact Vb|exact Vk (by omega)) rfl ?_|refine Wl ?_|refine Wr ?_)
        refine ⟨k0 + 1, ⟨by omega, ?_⟩, by omega, inferInstance⟩
        have heq2 : fewC L[k0] = true := by simpa using heq2
        rw [List.take_succ_eq_append_getElem hlt', List.all_append, heq]
        simp [heq2]
    · have hk0 : k0 = L.length := by omega
      subst hk0
      rw [List.take_length] at heq
      repeat (first|refine Wa ?_|refine Wb ?_|refine Wc ?_|refine Wd ?_|refine We rfl ?_|refine Wf (by exact Vb) rfl ?_|refine Wm ?_|refine Wo ?_|refine Wp ?_|refine Ws ?_)
      refine CT.done () ?_ (fun w ho => ho.ent)
      simp only [packed, fewL, heq, h1, decide_true, Bool.and_self]
end Ab
end Go.Proofs.YtdgeffphifgflaaGreat
namespace Go.Proofs.YtdgeffphifgflaaGreat
namespace Ab
open Go Go.RowKit
set_option linter.unusedVariables false
set_option linter.unusedSimpArgs false
set_option synthInstance.maxSize 4000
set_option synthInstance.maxHeartbeats 400000
attribute [local irreducible] JC JO JR JQ andThen inBlock OpV Gives retTo JM JS
attribute [local irreducible] hashC
theorem hash_err (c : Commit) : ((hashC c).2 = 0) ↔ may c = true := by
  unfold hashC; cases may c <;> simp
def idsP (L : List Commit) : List ID := if L.all may then cids L else []
theorem idsP_all {L : List Commit} (h : ∀ c ∈ L, may c = true) : idsP L = cids L := by
  rw [idsP, if_pos (List.all_eq_true.2 h)]
theorem idsP_not {L : List Commit} {c : Commit} (hc : c ∈ L) (h : may c = false) : idsP L = [] := by
  rw [idsP, if_neg]
  intro h'
  have := List.all_eq_true.1 h' c hc
  rw [h] at this; cases this
theorem cids_take_next {L : List Commit} {i : Nat} (h : i < L.length) : cids (L.take (i + 1)) = cids (L.take i) ++ [idC L[i]] := by
  rw [List.take_succ_eq_append_getElem h, cids_append]; rfl
set_option maxHeartbeats 1000000 in
theorem ids_dag (w : World) (F : Nat → Prop) (a : Option Addr) (k : Nat) (L : List Commit) (h : (sl a k L).holds F w) (hl : L.length < 34359738368) (hf : ∀ x ∈ L, fine x) :
    GivesSl Tryz.prog 43 [.slice a L.length k] w F (idsP L) := by
  refine gives_of Tryz.func43 rfl Tryz.ntmps43 rfl rfl [.st (sl a k L)] (.start1 h) ?_
  repeat (first|refine Wa ?_|refine Wb ?_|refine Wc ?_|refine Wd ?_|refine We rfl ?_|refine Wf (by first|exact Va|exact Vb|exact Vf) rfl ?_|refine Wn ?_)
  refine JC.buf_nil (α := ID) 81 ?_
  refine JC.loop3 (fun (i : Nat) p q => [(3, .slice p (cids (L.take i)).length q), (8, .slice a L.length k), (9, .int .i64 (L.length : Int)), (10, .int .i64 (i : Int))])
    (fun i p q => [.res (buf p q 81 (cids (L.take i))), .st (sl a k L)])
    (fun i _ _ => i ≤ L.length ∧ ∀ c ∈ L.take i, may c = true) (fun i _ _ => L.length - i) 0 none 0 ⟨Nat.zero_le _, by simp⟩ (by rw [List.take_zero, show cids [] = [] from rfl]; infer_instance) ?_
  intro i p q ⟨hi, hm⟩
  repeat (first|refine Wa ?_|refine Wb ?_|refine Wc ?_|refine Wd ?_|refine We rfl ?_|refine Wf (by exact Vg) rfl ?_)
  refine JC.test (fun hlt => ?_) (fun hge => ?_)
  · have hlt' : i < L.length := by omega
    have hfx := hf _ (List.getElem_mem hlt')
    repeat (first|refine Wa ?_|refine Wb ?_|refine Wc ?_|refine We rfl ?_|refine Wl ?_|refine Wn ?_)
    refine JR.indexCommit rfl hlt' ?_
    intro b1 o1 p1 q1
    repeat (first|refine Wa ?_|refine Wb ?_|refine Wc ?_|refine Wd ?_|refine We rfl ?_|refine Wf (by exact Vc) rfl ?_|(refine Wg rfl ?_; intro _)|refine Wi ?_)
    refine JR.callV rfl (fun w1 hw => hash_commit w1 _ (L[i]) p1 q1 hw.get hfx.1) ?_
    repeat (first|refine Wa ?_|refine Wb ?_|refine Wc ?_|refine Wd ?_|refine We rfl ?_|refine Wf (by first|exact Va|exact Vb|exact Vm|exact Vq) rfl ?_|(refine Wg rfl ?_; intro _)|refine Wi ?_)
    refine JC.test (fun h0 => ?_) (fun h0 => ?_)
    · have hmay : may L[i] = false := by
        rw [← Bool.not_eq_true, ← hash_err]; exact h0
      repeat (first|refine Wa ?_|refine Wb ?_|refine Wc ?_|refine Wd ?_|refine We rfl ?_|refine Wf (by exact Vb) rfl ?_|refine Ws ?_|refine Wt ?_|refine Wu ?_)
      rw [idsP_not (List.getElem_mem hlt') hmay]
      exact CT.done (none, 0) rfl (fun w ho => (ho.ent : Hold _ _ [.st (sl a k L)] w).tail.add sl_nil)
    · have hmay : may L[i] = true := (hash_err _).1 (by simpa using h0)
      have h1 : (cids (L.take i)).length ≤ i := by simp [cids]; omega
      repeat (first|refine Wa ?_|refine Wc ?_|refine We rfl ?_|refine Wf (by first|exact Va|exact Vc) rfl ?_|refine Wl ?_|(refine Ww rfl ⟨rfl, by decide, by decide, by decide⟩ ?_; intro _))
      refine JR.append1 (u := idC L[i]) rfl (by exact ⟨rfl, rfl, by decide⟩) (by omega) ?_
      intro r s
      repeat (first|refine Wa ?_|refine Wc ?_|refine Wd ?_|refine We rfl ?_|refine Wf (by first|exact Va|exact Vb|exact Vk (by omega)) rfl ?_|refine Wr ?_)
      refine ⟨i + 1, r, s, ⟨by omega, fun c hc => ?_⟩, by omega, by rw [cids_take_next hlt']; infer_instance⟩
      rw [List.take_succ_eq_append_getElem hlt', List.mem_append, List.mem_singleton] at hc
      rcases hc with hc | rfl
      · exact hm c hc
      · exact hmay
  · obtain rfl : i = L.length := by omega
    rw [List.take_length] at hm ⊢
    refine JC.more (fun w1 ho => ho.pub) ?_
    repeat (first|refine Wa ?_|refine Wb ?_|refine Wc ?_|refine Wd ?_|refine We rfl ?_|refine Wf (by first|exact Va|exact Vb) rfl ?_|refine Wm ?_|refine Wo ?_|refine Wp ?_|refine Ws ?_)
    rw [idsP_all hm]
    exact CT.done (p, q) rfl (fun w ho => (ho.ent : Hold _ _ [.st (sl p q (cids L))] w))
theorem own_dag (w : World) (F : Nat → Prop) (c : Commit) (a : Option Addr) (k : Nat) (h : (sl a k c.parents).holds F w) (hp : c.parents.length ≤ 34359738368) :
    Gives Tryz.prog 74 [commitV c a k] w F (fun y : Option Addr × Nat => commitV c y.1 y.2) (fun y => [.st (sl y.1 y.2 c.parents)]) := by
  refine gives_of Tryz.func74 rfl Tryz.ntmps74 rfl rfl [.st (sl a k c.parents)] (.start1 h) ?_
  repeat (first|refine Wa ?_|refine Wb ?_|refine Wc ?_|refine Wd ?_|refine We rfl ?_|refine Wf (by first|exact Vc|exact Vd) rfl ?_|(refine Wg rfl ?_; intro _)|(refine Wh rfl ?_; intro _))
  refine JR.callBuf rfl (fun w1 hw => clone_ids_buf w1 _ a k c.parents hw.get hp) ?_
  intro p q
  refine JO.more (fun w1 ho => ho.pub) ?_
  repeat (first|refine Wa ?_|refine Wb ?_|refine Wc ?_|refine Wd ?_|refine We rfl ?_|refine Wf (by first|exact Vc|exact Vd) rfl ?_|refine Wi ?_|refine Ws ?_)
  exact CT.done (p, q) rfl (fun w ho => ho.ent)
def findC (L : List Commit) (x : ID) : Option Commit := L.find? (fun c => decide (hashO c = some x))
def findR (L : List Commit) (x : ID) : Commit × Bool := match findC L x with | some c => (c, true) | none => (commit0, false)
end Ab
end Go.Proofs.YtdgeffphifgflaaGreat
namespace Go.Proofs.YtdgeffphifgflaaGreat
namespace Ab
open Go Go.RowKit
set_option linter.unusedVariables false
set_option linter.unusedSimpArgs false
set_option synthInstance.maxSize 4000
set_option synthInstance.maxHeartbeats 400000
attribute [local irreducible] JC JO JR JQ andThen inBlock OpV Gives retTo JM JS
theorem sort_ids (w : World) (F : Nat → Prop) (a : Option Addr) (c : Nat) (L : List ID) (h : (sl a c L).holds F w) (hl : L.length ≤ 34359738368) :
    GivesBuf Tryz.prog 52 [.slice a L.length c] w F 81 (sortL (setOf L)) := by
  refine gives_of Tryz.func52 rfl Tryz.ntmps52 rfl rfl [.st (sl a c L)] (.start1 h) ?_
  repeat (first|refine Wa ?_|refine Wb ?_|refine Wc ?_|refine Wd ?_|refine We rfl ?_|refine Wf (by first|exact Va|exact Vb) rfl ?_)
  refine JR.call1 rfl (fun w1 hw => of_ids w1 _ a c L hw.get) ?_
  intro m
  refine JO.more (fun w ho => ho.pubMap) ?_
  repeat (refine We rfl ?_)
  refine JR.callBuf rfl (fun w1 hw => list_ids w1 _ m _ (setOf_nodup L) (Nat.le_trans (setOf_length L) hl) hw.get) ?_
  intro a2 c2
  repeat (first|refine Wa ?_|refine Wd ?_|refine We rfl ?_|refine Wf (by exact Vb) rfl ?_|refine Ws ?_)
  exact CT.done (a2, c2) rfl (fun w ho => ho.ent)
end Ab
end Go.Proofs.YtdgeffphifgflaaGreat
namespace Go.Proofs.YtdgeffphifgflaaGreat
namespace Ab
open Go Go.RowKit
set_option linter.unusedVariables false
set_option linter.unusedSimpArgs false
set_option synthInstance.maxSize 4000
set_option synthInstance.maxHeartbeats 400000
attribute [local irreducible] JC JO JR JQ andThen inBlock OpV Gives retTo JM JS
attribute [local irreducible] ents hashC
abbrev Row := (Commit × List ID) × (Option Addr × Nat × Nat)
def ofM (R : List Row) : List (ID × Value) := R.map fun r => (idC r.1.1, commitV r.1.1 r.2.1 r.2.2.1)
def knM (R : List Row) : List (ID × Value) := R.map fun r => (idC r.1.1, .map (some r.2.2.2))
def grOf (R : List Row) : List (Commit × List ID) := R.map (·.1)
def rowA (r : Row) : List Asn := [sl r.2.1 r.2.2.1 r.1.1.parents, rmap r.2.2.2 (ents idV (sety r.1.2)) r.1.2.length]
def graphA (R : List Row) : Asn where
  holds F w := ∀ r ∈ R, ∀ A ∈ rowA r, A.holds F w
  mono F G w h hh := fun r hr A hA => A.mono F G w h (hh r hr A hA)
  frame F w w' hk h := fun r hr A hA => A.frame F w w' hk (h r hr A hA)
  within F w h := fun r hr A hA => A.within F w (h r hr A hA)
theorem nodes_gr (R : List Row) : nodes (grOf R) = R.map (·.1.1) := by simp [nodes, grOf]
theorem ids_gr (R : List Row) : cids (nodes (grOf R)) = R.map (fun r => idC r.1.1) := by simp [nodes_gr, cids]
theorem ofM_keys (R : List Row) : (ofM R).map (·.1) = cids (nodes (grOf R)) := by simp [ids_gr, ofM]
theorem knM_keys (R : List Row) : (knM R).map (·.1) = cids (nodes (grOf R)) := by simp [ids_gr, knM]
theorem row_of {R : List Row} {p : ID} (hn : (cids (nodes (grOf R))).Nodup) (hp : p ∈ cids (nodes (grOf R))) :
    ∃ r ∈ R, idC r.1.1 = p ∧ gotten (ofM R) p = some (commitV r.1.1 r.2.1 r.2.2.1) ∧ gotten (knM R) p = some (.map (some r.2.2.2)) ∧ knownBy (grOf R) p = r.1.2 := by
  rw [ids_gr] at hp
  obtain ⟨r, hr, he⟩ := List.mem_map.1 hp
  cases hf : R.find? (fun r => decide (idC r.1.1 = p)) with
  | none => exact absurd (List.find?_eq_none.1 hf r hr) (by simpa using he)
  | some q =>
    have h1 := List.find?_some hf
    have h1' : idC q.1.1 = p := by simpa using h1
    have h2 := List.mem_of_find?_eq_some hf
    refine ⟨q, h2, h1', ?_, ?_, ?_⟩
    · simp only [gotten, ofM, List.find?_map, Function.comp_def]
      rw [hf]; rfl
    · simp only [gotten, knM, List.find?_map, Function.comp_def]
      rw [hf]; rfl
    · have := knownBy_of (G := grOf R) hn (g := q.1) (List.mem_map.2 ⟨q, h2, rfl⟩)
      rw [← h1']; exact this
theorem row_none {R : List Row} {p : ID} (hp : p ∉ cids (nodes (grOf R))) : gotten (ofM R) p = none ∧ gotten (knM R) p = none := by
  rw [ids_gr] at hp
  have hf : R.find? (fun r => decide (idC r.1.1 = p)) = none := by
    rw [List.find?_eq_none]
    intro r hr h
    exact hp (List.mem_map.2 ⟨r, hr, by simpa using h⟩)
  constructor
  · simp only [gotten, ofM, List.find?_map, Function.comp_def]
    rw [hf]; rfl
  · simp only [gotten, knM, List.find?_map, Function.comp_def]
    rw [hf]; rfl
theorem upd_new {K : Type} [DecidableEq K] {M : List (K × Value)} {k : K} (v : Value) (h : k ∉ M.map (·.1)) : upd M k v = M ++ [(k, v)] := by
  have : plc M k = none := by
    simp only [plc, List.findIdx?_eq_none_iff, decide_eq_false_iff_not]
    intro p hp e
    exact h (List.mem_map.2 ⟨p, hp, e⟩)
  simp [upd, this]
theorem mem_take_succ {α : Type} {L : List α} {i : Nat} (h : i < L.length) {x : α} : x ∈ L.take (i + 1) ↔ x ∈ L.take i ∨ x = L[i] := by
  rw [List.take_succ_eq_append_getElem h, List.mem_append, List.mem_singleton]
theorem maxGen_snoc (L : List Commit) (ps : List ID) (p : ID) : maxGen L (ps ++ [p]) = max (maxGen L ps) (genAt L p) := by simp [maxGen]
theorem not_ok_of_none {G : List (Commit × List ID)} {c : Commit} {p : ID} (hp : p ∈ c.parents) (h : p ∉ cids (nodes G)) : addOk G c = false := by
  rw [← Bool.not_eq_true, addOk_iff]; exact fun h' => h (h'.1 p hp)
theorem not_ok_of_known {G : List (Commit × List ID)} {c : Commit} {p q : ID} (hp : p ∈ c.parents) (hq : q ∈ c.parents) (h : p ∈ knownBy G q) : addOk G c = false := by
  rw [← Bool.not_eq_true, addOk_iff]; exact fun h' => h'.2 p hp q hq h
theorem graph_row {R : List Row} {F : Nat → Prop} {w : World} (h : (graphA R).holds F w) {r : Row} (hr : r ∈ R) : (sl r.2.1 r.2.2.1 r.1.1.parents).holds F w ∧ (rmap r.2.2.2 (ents idV (sety r.1.2)) r.1.2.length).holds F w :=
  ⟨h r hr _ (by simp [rowA]), h r hr _ (by simp [rowA])⟩
theorem graph_snoc {R : List Row} {F : Nat → Prop} {w : World} (h : (graphA R).holds F w) {c : Commit} {S : List ID} {a : Option Addr} {k b : Nat} (h1 : (sl a k c.parents).holds F w) (h2 : (rmap b (ents idV (sety S)) S.length).holds F w) :
    (graphA (R ++ [((c, S), (a, k, b))])).holds F w := by
  intro r hr A hA
  rcases List.mem_append.1 hr with hr | hr
  · exact h r hr A hA
  · simp only [List.mem_singleton] at hr
    subst hr
    simp only [rowA, List.mem_cons, List.not_mem_nil, or_false] at hA
    rcases hA with rfl | rfl
    · exact h1
    · exact h2
theorem graph_nil {F : Nat → Prop} {w : World} : (graphA []).holds F w := fun r hr => by cases hr
theorem ofM_snoc (R : List Row) (c : Commit) (S : List ID) (a : Option Addr) (k b : Nat) : ofM (R ++ [((c, S), (a, k, b))]) = ofM R ++ [(idC c, commitV c a k)] := by simp [ofM]
theorem knM_snoc (R : List Row) (c : Commit) (S : List ID) (a : Option Addr) (k b : Nat) : knM (R ++ [((c, S), (a, k, b))]) = knM R ++ [(idC c, .map (some b))] := by simp [knM]
theorem grOf_snoc (R : List Row) (c : Commit) (S : List ID) (a : Option Addr) (k b : Nat) : grOf (R ++ [((c, S), (a, k, b))]) = grOf R ++ [(c, S)] := by simp [grOf]
end Ab
end Go.Proofs.YtdgeffphifgflaaGreat
namespace Go.Proofs.YtdgeffphifgflaaGreat
namespace Ab
open Go Go.RowKit
set_option linter.unusedVariables false
set_option linter.unusedSimpArgs false
section
variable {P : Program} {ops : Array Oper} {C : World → Prop} {R : Exit → Act → World → Prop} [Dr]
def cOp (P : Program) (ops : Array Oper) (C : World → Prop) (i : Nat) (K : Act → World → Prop) (a : Act) (w : World) : Prop :=
  match ops[i]? with
  | none => K a w
  | some o => if Region.wanted o (yielded ops a.tmps) then o.wp P a w (fun a' w' => (C w → C w') ∧ K a' w') noExit else K (a.put o.dst undef) w
def cAny (P : Program) (ops : Array Oper) (C : World → Prop) (R : Exit → Act → World → Prop) : Nat → Array Bool → Act → World → Prop
  | 0, listed, a, w => Region.ready .any ops listed = [] ∧ R .normal a w
  | fuel + 1, listed, a, w => (Region.ready .any ops listed = [] → R .normal a w) ∧ ∀ i ∈ Region.ready .any ops listed, cOp P ops C i (cAny P ops C R fuel (listed.setIfInBounds i true)) a w
end
section
variable {P : Program} {ops : Array Oper} {C : World → Prop} {R : Exit → Act → World → Prop}
theorem cOp_wp {i : Nat} {K K' : Act → World → Prop} {a : Act} {w : World} (hk : ∀ a w, K a w → K' a w) (h : cOp P ops C i K a w) : wpOp P ops R i K' a w := by
  unfold cOp at h
  unfold wpOp
  split
  · rename_i ho; simp only [ho] at h; exact hk _ _ h
  · rename_i o ho
    simp only [ho] at h
    split
    · rename_i hw; simp only [hw, if_true] at h; exact .inl (noExit_wp (fun a w h => hk a w h.2) h)
    · rename_i hw; simp only [hw] at h; exact hk _ _ h
end
section
variable {P : Program} {ops : Array Oper} {C : World → Prop} {R : Exit → Act → World → Prop} [Dr]
end
section
variable {P : Program} {ops : Array Oper} {C : World → Prop} {R : Exit → Act → World → Prop}
theorem cAny_wp : ∀ (fuel : Nat) (listed : Array Bool) (a : Act) (w : World), cAny P ops C R fuel listed a w → wpAny P .any ops R fuel listed a w
  | 0, _, _, _, h => h
  | fuel + 1, listed, a, w, h => ⟨h.1, fun i hi => cOp_wp (fun a w => cAny_wp fuel _ a w) (h.2 i hi)⟩
end
section
variable {P : Program} {ops : Array Oper} {C : World → Prop} {R : Exit → Act → World → Prop} [Dr]
def GivesC (P : Program) (ops : Array Oper) (C : World → Prop) (o : Oper) (v : Value) (a : Act) : Prop :=
  Region.wanted o (yielded ops a.tmps) = true ∧ ∀ w, C w → (execOp a.eval o).run P w = .ok (.value v) w
end
section
variable {P : Program} {ops : Array Oper} {C : World → Prop} {R : Exit → Act → World → Prop}
theorem GivesC.cOp {i : Nat} {o : Oper} {v : Value} {a : Act} (hi : ops[i]? = some o) (hy : GivesC P ops C o v a) {K : Act → World → Prop} {w : World} (hC : C w) (h : K (a.put o.dst v) w) : cOp P ops C i K a w := by
  unfold Ab.cOp
  simp only [hi]
  obtain ⟨hw, hv⟩ := hy
  simp only [hw, if_true]
  unfold Oper.wp
  rw [hv w hC]
  exact ⟨fun h => h, h⟩
end
section
variable {P : Program} {ops : Array Oper} {C : World → Prop} {R : Exit → Act → World → Prop} [Dr]
end
section
variable {P : Program} {ops : Array Oper} {C : World → Prop} {R : Exit → Act → World → Prop}
theorem GivesC.same {o : Oper} {v : Value} {a a' : Act} (hy : GivesC P ops C o v a) (he : execOp a'.eval o = execOp a.eval o)
    (hw : Region.wanted o (yielded ops a'.tmps) = Region.wanted o (yielded ops a.tmps)) : GivesC P ops C o v a' := by
  unfold GivesC at *
  rw [he, hw]
  exact hy
end
section
variable {P : Program} {ops : Array Oper} {C : World → Prop} {R : Exit → Act → World → Prop} [Dr]
end
section
variable {P : Program} {ops : Array Oper} {C : World → Prop} {R : Exit → Act → World → Prop}
theorem cOp_put {j : Nat} {oi oj : Oper} {v : Value} (hj : ops[j]? = some oj) (hap : oi.apart ops oj = true)
    (hsi : ∀ cs b, oi.op ≠ .select cs b) (hsj : ∀ cs b, oj.op ≠ .select cs b) {K : Act → World → Prop} {a : Act} {w : World}
    (hw0 : C w) (hy : GivesC P ops C oi v a) (h : cOp P ops C j K (a.put oi.dst v) w) :
    cOp P ops C j (fun a' w' => (C w' ∧ GivesC P ops C oi v a') ∧ K (a'.put oi.dst v) w') a w := by
  obtain ⟨h1, h2, h3⟩ := Oper.apart_spec hap
  have keep : ∀ u, GivesC P ops C oi v (a.put oj.dst u) := fun u => hy.same (execOp_put oi hsi a oj.dst u h3) (wanted_put oi a oj.dst u h3)
  unfold cOp at *
  simp only [hj] at *
  rw [wanted_put oj a oi.dst v h1] at h
  split
  · rename_i hw
    simp only [hw, if_true] at h
    unfold Oper.wp at *
    rw [execOp_put oj hsj a oi.dst v h1] at h
    generalize (execOp a.eval oj).run P w = r at *
    have put : ∀ u w', ((C w → C w') ∧ K ((a.put oi.dst v).put oj.dst u) w') → ((C w → C w') ∧ (C w' ∧ GivesC P ops C oi v (a.put oj.dst u)) ∧ K ((a.put oj.dst u).put oi.dst v) w') :=
      fun u w' hh => ⟨hh.1, ⟨hh.1 hw0, keep u⟩, by rw [← Act.put_comm a v u h2]; exact hh.2⟩
    cases r with
    | ok n w' =>
      cases n <;> simp only [Oper.upon] at h ⊢
      case value u => exact put u _ h
      case skip => exact put undef _ h
      case defer d =>
        have hd : GivesC P ops C oi v ({ a with defers := d :: a.defers } : Act) := hy.same rfl rfl
        refine ⟨h.1, ⟨h.1 hw0, hd.same (execOp_put oi hsi _ oj.dst undef h3) (wanted_put oi _ oj.dst undef h3)⟩, ?_⟩
        rw [← Act.put_comm _ v undef h2, ← Act.put_defers]
        exact h.2
      case enter f args =>
        refine Calls.mono h fun e w'' he => ?_
        cases e with
        | returned u => exact put u _ he
        | panicked c => exact he
        | outgrown => exact he
      case row row args => exact Rows.mono h fun u w'' he => put u _ he
    | halt x w' =>
      cases x <;> simp only [Oper.upon] at h ⊢
      case panic u => exact h
  · rename_i hw
    simp only [hw] at h
    exact ⟨⟨hw0, keep _⟩, by rw [← Act.put_comm a v undef h2]; exact h⟩
end
section
variable {P : Program} {ops : Array Oper} {C : World → Prop} {R : Exit → Act → World → Prop} [Dr]
end
section
variable {P : Program} {ops : Array Oper} {C : World → Prop} {R : Exit → Act → World → Prop}
theorem cOp_mono {i : Nat} {K K' : Act → World → Prop} {a : Act} {w : World} (hk : ∀ a w, K a w → K' a w) (h : cOp P ops C i K a w) : cOp P ops C i K' a w := by
  unfold cOp at *
  split
  · rename_i ho; simp only [ho] at h; exact hk _ _ h
  · rename_i o ho
    simp only [ho] at h
    split
    · rename_i hw; simp only [hw, if_true] at h; exact Oper.wp_mono (fun a w h => ⟨h.1, hk _ _ h.2⟩) h
    · rename_i hw; simp only [hw] at h; exact hk _ _ h
end
section
variable {P : Program} {ops : Array Oper} {C : World → Prop} {R : Exit → Act → World → Prop} [Dr]
end
section
variable {P : Program} {ops : Array Oper} {C : World → Prop} {R : Exit → Act → World → Prop}
theorem cAny_first {i : Nat} {oi : Oper} {v : Value} (hi : ops[i]? = some oi) (hsel : ∀ (j : Nat) (o : Oper) cs b, ops[j]? = some o → o.op ≠ .select cs b) :
    ∀ (fuel : Nat) (listed : Array Bool) (a : Act) (w : World),
      (∀ j oj, ops[j]? = some oj → j ≠ i → listed.getD j true = false → (∀ e ∈ oj.after, Region.binds .any e = true → e.on ≠ i) → oi.apart ops oj = true) →
      i ∈ Region.ready .any ops listed → C w → GivesC P ops C oi v a →
      cAny P ops C R fuel (listed.setIfInBounds i true) (a.put oi.dst v) w → cAny P ops C R (fuel + 1) listed a w := by
  intro fuel
  induction fuel with
  | zero =>
    intro listed a w _ hr hw hy H
    refine ⟨fun h => (by rw [h] at hr; cases hr), fun j hj => ?_⟩
    by_cases hji : j = i
    · subst hji; exact hy.cOp hi hw H
    · have := ready_mono hj hji
      rw [H.1] at this
      cases this
  | succ fuel ih =>
    intro listed a w hfree hr hw hy H
    refine ⟨fun h => (by rw [h] at hr; cases hr), fun j hj => ?_⟩
    by_cases hji : j = i
    · subst hji; exact hy.cOp hi hw H
    · have h1 := H.2 j (ready_mono hj hji)
      obtain ⟨hjun, oj, hoj, hall⟩ := mem_ready.1 hj
      have hnot : ∀ e ∈ oj.after, Region.binds .any e = true → e.on ≠ i := fun e he hb heq => by
        have h1 := hall e he hb
        have h0 := (mem_ready.1 hr).1
        rw [heq] at h1
        rcases Nat.lt_or_ge i listed.size with h' | h'
        · simp [h'] at h0 h1; rw [h0] at h1; cases h1
        · simp [Array.getElem?_eq_none h'] at h1
      have h2 := cOp_put hoj (hfree j oj hoj hji hjun hnot) (fun cs b => hsel i oi cs b hi) (fun cs b => hsel j oj cs b hoj) hw hy h1
      have hfree' : ∀ k ok, ops[k]? = some ok → k ≠ i → (listed.setIfInBounds j true).getD k true = false →
          (∀ e ∈ ok.after, Region.binds .any e = true → e.on ≠ i) → oi.apart ops ok = true := fun k ok hk hki hun hno => by
        refine hfree k ok hk hki ?_ hno
        by_cases hjk : j = k
        · subst hjk; exact hjun
        · rw [getD_set_ne true hjk] at hun; exact hun
      refine cOp_mono (fun a' w' h3 => ih (listed.setIfInBounds j true) a' w' hfree' (ready_mono hr (Ne.symm hji)) h3.1.1 h3.1.2 ?_) h2
      rw [Array.setIfInBounds_comm _ _ hji]
      exact h3.2
end
section
variable {P : Program} {ops : Array Oper} {C : World → Prop} {R : Exit → Act → World → Prop} [Dr]
end
def JN [Dr] (P : Program) (n : Nn) (w0 : World) (F : Nat → Prop) (ops : List Oper) (Δ : List Fact) (fuel : Nat) (done : List Bool) (Q : Cont) (e : E) (Γ : List Fact) : Prop :=
  ∀ a w, Fr n e a → Hold w0 F Γ w → cAny P ⟨ops⟩ (Hold w0 F Δ) (up n w0 F Q) fuel ⟨done⟩ a w
section
variable {P : Program} {n : Nn} {w0 : World} {F : Nat → Prop} {ops : List Oper} {Δ : List Fact} {fuel i d : Nat} {done done' : List Bool} {t : TypeId} {pos : String} {aft : Array Edge} {g : Option (Nat × Bool)} {Q : Cont} {e : E} {Γ : List Fact} [Dr]
theorem JC.drawN {id : Nat} (Δ : List Fact) (hm : P.follows .mixedOrders = true) (h : JN P n w0 F ops Δ ops.length (List.replicate ops.length false) Q e Γ) : JC P n w0 F (.region id ⟨ops⟩ true) Q e Γ := by
  intro a w fr ho
  refine wp_region_any hm ?_
  have := cAny_wp _ _ _ _ (h a w.drew fr ho.drew)
  have e1 : (⟨List.replicate ops.length false⟩ : Array Bool) = Array.replicate (⟨ops⟩ : Array Oper).size false := by apply Array.ext'; simp
  rw [← e1]
  exact this
theorem JN.nil (hr : Region.ready .any ⟨ops⟩ ⟨done⟩ = []) (h : Q .normal e Γ) : JN P n w0 F ops Δ fuel done Q e Γ := by
  intro a w fr ho
  cases fuel with
  | zero => exact ⟨hr, e, Γ, h, fr, ho⟩
  | succ fuel => exact ⟨fun _ => ⟨e, Γ, h, fr, ho⟩, by rw [hr]; simp⟩
def takeOkN (ops : List Oper) (done : List Bool) (i : Nat) : Bool :=
  Region.noSelect ⟨ops⟩ && Region.free .any ⟨ops⟩ ⟨done⟩ i && (Region.ready .any ⟨ops⟩ ⟨done⟩).contains i
theorem JN.take {op : Op} {v : Value} (i : Nat) (hi : ops[i]? = some ⟨some d, op, t, pos, aft, g⟩) (hok : takeOkN ops done i = true) (hg : gtest ops e g = some true) [hs : Sub Γ Δ] (h : OpV P n w0 F ⟨some d, op, t, pos, aft, g⟩ e Δ v) (hd : Nat.blt d n.s = true)
    (hdone : done.set i true = done') (k : JN P n w0 F ops Δ fuel done' Q ((d, v) :: e) Γ) : JN P n w0 F ops Δ (fuel + 1) done Q e Γ := by
  intro a w fr ho
  simp only [takeOkN, Bool.and_eq_true] at hok
  obtain ⟨⟨h2, h3⟩, h4⟩ := hok
  have hi' : (⟨ops⟩ : Array Oper)[i]? = some ⟨some d, op, t, pos, aft, g⟩ := by simpa using hi
  refine cAny_first hi' (Region.noSelect_spec h2) fuel ⟨done⟩ a w (Region.free_spec hi' h3) (by simpa using h4) (ho.sub hs) ⟨gtest_ok (o := ⟨some d, op, t, pos, aft, g⟩) hg fr, fun w ho => h a w fr ho⟩ ?_
  have := k _ w (fr.put hd v) ho
  rw [← hdone] at this
  simpa using this
theorem JN.reslot (s : Nat) {v : Value} (u : Value) [hs : Lk e s v] (h : v = u) (k : JN P n w0 F ops Δ fuel done Q ((s, u) :: e) Γ) : JN P n w0 F ops Δ fuel done Q e Γ :=
  fun a w fr ho => k a w (fr.again (by rw [← h]; exact hs.ok)) ho
theorem JN.more {Γ' : List Fact} (h : ∀ w, Hold w0 F Γ w → Hold w0 F Γ' w) (k : JN P n w0 F ops Δ fuel done Q e Γ') : JN P n w0 F ops Δ fuel done Q e Γ :=
  fun a w fr ho => k a w fr (h w ho)
theorem opN {o : Oper} (i : Nat) (hi : ops[i]? = some o) (hg : gtest ops e o.guard = some true)
    (h : JR P n w0 F ⟨[o]⟩ 0 o [] (fun x e' Γ' => x = .normal ∧ Sub Γ' Δ ∧ JN P n w0 F ops Δ fuel (done.set i true) Q e' Γ') e Γ) (a : Act) (w : World) (fr : Fr n e a) (ho : Hold w0 F Γ w) :
    cOp P ⟨ops⟩ (Hold w0 F Δ) i (cAny P ⟨ops⟩ (Hold w0 F Δ) (up n w0 F Q) fuel ((⟨done⟩ : Array Bool).setIfInBounds i true)) a w := by
  have hi' : (⟨ops⟩ : Array Oper)[i]? = some o := by simpa using hi
  unfold cOp
  simp only [hi']
  rw [if_pos (gtest_ok hg fr)]
  have h1 := h rfl a w fr ho
  have key : ∀ (K K' : Act → World → Prop) (Q1 Q2 : Exit → Act → World → Prop), (∀ a w, K a w → K' a w) → (∀ x a w, Q1 x a w → x = .normal) → o.wp P a w K Q1 → o.wp P a w K' Q2 := by
    intro K K' Q1 Q2 hk hq hh
    have hh' := Oper.wp_mono (P := P) hk hh
    unfold Oper.wp at *
    generalize (execOp a.eval o).run P w = r at *
    cases r with
    | ok n w' =>
      cases n <;> simp only [Oper.upon] at hh' ⊢ <;> first | exact hh' | skip
      refine Calls.mono hh' fun e w'' he => ?_
      cases e with
      | returned v => exact he
      | panicked c => have := hq _ _ _ he; cases this
      | outgrown => obtain ⟨_, _, h⟩ := he; have := hq _ _ _ h; cases this
    | halt x w' => cases x <;> simp only [Oper.upon] at hh' ⊢ <;> first | exact hh' | (have := hq _ _ _ hh'; cases this)
  refine key _ _ _ _ (fun a' w' hk => ?_) ?_ h1
  · simp only [List.range'_zero, List.length_nil, wpOps] at hk
    obtain ⟨e', Γ', ⟨_, hs, hj⟩, fr', ho'⟩ := hk
    have := hj a' w' fr' ho'
    exact ⟨fun _ => ho'.sub hs, by simpa using this⟩
  · rintro x a w ⟨e', Γ', ⟨hx, _⟩, _⟩
    exact hx
theorem JN.op {o : Oper} (i : Nat) (hr : Region.ready .any ⟨ops⟩ ⟨done⟩ = [i]) (hi : ops[i]? = some o) (hg : gtest ops e o.guard = some true)
    (h : JR P n w0 F ⟨[o]⟩ 0 o [] (fun x e' Γ' => x = .normal ∧ Sub Γ' Δ ∧ JN P n w0 F ops Δ fuel (done.set i true) Q e' Γ') e Γ) : JN P n w0 F ops Δ (fuel + 1) done Q e Γ := by
  intro a w fr ho
  refine ⟨fun h0 => ?_, fun j hj => ?_⟩
  · rw [h0] at hr; cases hr
  · rw [hr] at hj
    simp only [List.mem_singleton] at hj; subst hj
    exact opN j hi hg h a w fr ho
theorem JN.both {o o' : Oper} (i j : Nat) (hr : Region.ready .any ⟨ops⟩ ⟨done⟩ = [i, j]) (hi : ops[i]? = some o) (hj : ops[j]? = some o') (hg : gtest ops e o.guard = some true) (hg' : gtest ops e o'.guard = some true)
    (h : JR P n w0 F ⟨[o]⟩ 0 o [] (fun x e' Γ' => x = .normal ∧ Sub Γ' Δ ∧ JN P n w0 F ops Δ fuel (done.set i true) Q e' Γ') e Γ)
    (h' : JR P n w0 F ⟨[o']⟩ 0 o' [] (fun x e' Γ' => x = .normal ∧ Sub Γ' Δ ∧ JN P n w0 F ops Δ fuel (done.set j true) Q e' Γ') e Γ) : JN P n w0 F ops Δ (fuel + 1) done Q e Γ := by
  intro a w fr ho
  refine ⟨fun h0 => ?_, fun k hk => ?_⟩
  · rw [h0] at hr; cases hr
  · rw [hr] at hk
    simp only [List.mem_cons, List.not_mem_nil, or_false] at hk
    rcases hk with rfl | rfl
    · exact opN k hi hg h a w fr ho
    · exact opN k hj hg' h' a w fr ho
end
end Ab
end Go.Proofs.YtdgeffphifgflaaGreat
namespace Go.Proofs.YtdgeffphifgflaaGreat
namespace Ab
open Go Go.RowKit
set_option linter.unusedVariables false
set_option linter.unusedSimpArgs false
set_option synthInstance.maxSize 4000
set_option synthInstance.maxHeartbeats 400000
attribute [local irreducible] JC JO JR JQ andThen inBlock OpV Gives retTo JM JS
attribute [local irreducible] JN
attribute [local irreducible] ents hashC graphA
abbrev AddY (R : List Row) (c : Commit) := { y : List ID × Nat × Bool // y.2.2 = (addOk (grOf R) c && addGen (grOf R) c) ∧ (y.2.2 = true → y.1.Nodup ∧ isKnown (grOf R) c y.1) }
abbrev addB (bo bk : Nat) (R : List Row) (c : Commit) (a : Option Addr) (k : Nat) (Γ : List Fact) (S : List ID) (ba : Nat) : List Fact :=
  .omap bo (ents idV (ofM (R ++ [((c, S), (a, k, ba))]))) (ofM (R ++ [((c, S), (a, k, ba))])).length :: .omap bk (ents idV (knM (R ++ [((c, S), (a, k, ba))]))) (knM (R ++ [((c, S), (a, k, ba))])).length :: .st (graphA (R ++ [((c, S), (a, k, ba))])) :: Γ
set_option maxHeartbeats 4000000 in
theorem add_graph {w0 w : World} {F : Nat → Prop} {Γ : List Fact} {bo bk : Nat} {R : List Row} {c : Commit} {a : Option Addr} {k : Nat}
    (hn : (cids (nodes (grOf R))).Nodup) (hS : ∀ r ∈ R, r.1.2.Nodup) (hnew : idC c ∉ cids (nodes (grOf R))) (hg : ∀ r ∈ R, 0 ≤ r.1.1.gen ∧ r.1.1.gen ≤ 1048576)
    (ho : Hold w0 F (.omap bo (ents idV (ofM R)) (ofM R).length :: .omap bk (ents idV (knM R)) (knM R).length :: .st (graphA R) :: .st (sl a k c.parents) :: Γ) w) :
    Calls Tryz.prog 135 ⟨[.agg ⟨[.map (some bo), .map (some bk)]⟩, .agg ⟨idc (idC c)⟩, commitV c a k]⟩ w fun x w' =>
      ∃ y : AddY R c, x = .returned (.bool y.1.2.2) ∧ Hold w0 F (if y.1.2.2 = true then addB bo bk R c a k Γ y.1.1 y.1.2.1 else Γ) w' := by
  have hpl : c.parents.length < 9223372036854775807 := by
    have h1 : (sl a k c.parents).holds _ w := ho.sat (.st (sl a k c.parents)) (by simp)
    have := h1.2.2.1; simp only [lim] at this; omega
  have hkO : ((ofM R).map (·.1)).Nodup := by rw [ofM_keys]; exact hn
  have hkK : ((knM R).map (·.1)).Nodup := by rw [knM_keys]; exact hn
  refine calls_of (v := fun y : AddY R c => .bool y.1.2.2) (B := fun y => if y.1.2.2 = true then addB bo bk R c a k Γ y.1.1 y.1.2.1 else Γ) Tryz.func135 rfl Tryz.ntmps135 rfl rfl _ ho ?_
  repeat (first|refine Wa ?_|refine Wb ?_|refine Wc ?_|refine Wd ?_|refine We rfl ?_|refine Wf (by exact Vb) rfl ?_|(refine Wh rfl ?_; intro _))
  rename_i b3 b4 b5
  refine JR.makeSet idV rfl ?_
  intro ba
  repeat (first|refine Wa ?_|refine Wb ?_|refine Wc ?_|refine Wd ?_|refine We rfl ?_|refine Wf (by first|exact Va|exact Vb|exact Vc|exact Vd|exact Vf) rfl ?_|refine Wn ?_)
  refine JC.loop3 (fun (i : Nat) (A : List ID) (g : Int) => [(3, .pointer (some ⟨b3, 0, none⟩)), (4, .pointer (some ⟨b4, 0, none⟩)), (5, .pointer (some ⟨b5, 0, none⟩)), (7, .int .i64 g), (8, .map (some ba)), (20, .slice a c.parents.length k), (21, .int .i64 (c.parents.length : Int)), (22, .int .i64 (i : Int))])
    (fun i A g => .omap bo (ents idV (ofM R)) (ofM R).length :: .omap bk (ents idV (knM R)) (knM R).length :: .own b3 101 [.map (some bo), .map (some bk)] :: .own b4 81 (idc (idC c)) :: .own b5 29 [.int .i64 c.ev.node, .int .i64 c.ev.seq, .int .i64 c.gen, .slice a c.parents.length k, .int .i64 c.op.kind, .string c.op.key, .string c.op.elem, .int .i64 c.op.n] :: .omap ba (ents idV (sety A)) A.length :: .st (graphA R) :: .st (sl a k c.parents) :: Γ)
    (fun i A g => i ≤ c.parents.length ∧ A.Nodup ∧ (∀ p ∈ c.parents.take i, p ∈ cids (nodes (grOf R))) ∧ (∀ x, x ∈ A ↔ ∃ p ∈ c.parents.take i, x ∈ knownBy (grOf R) p) ∧ g = maxGen (nodes (grOf R)) (c.parents.take i) ∧ 0 ≤ g ∧ g ≤ 1048576)
    (fun i _ _ => c.parents.length - i) 0 [] 0 ⟨Nat.zero_le _, List.nodup_nil, by simp, by simp, by simp [maxGen], by decide, by decide⟩ inferInstance ?_
  intro i A g ⟨hi, hA, hin, hmem, hmax, hg0, hg1⟩
  repeat (first|refine Wa ?_|refine Wb ?_|refine Wc ?_|refine Wd ?_|refine We rfl ?_|refine Wf (by exact Vg) rfl ?_)
  refine JC.test (fun hlt => ?_) (fun hge => ?_)
  · have hlt' : i < c.parents.length := by omega
    repeat (first|refine Wa ?_|refine Wb ?_|refine Wc ?_|refine We rfl ?_|refine Wl ?_|refine Wn ?_)
    refine JR.indexID rfl hlt' ?_
    intro bp op
    repeat (first|refine Wa ?_|refine Wb ?_|refine Wc ?_|refine Wd ?_|refine We rfl ?_|refine Wf (by first|exact Vc|exact Vd) rfl ?_|(refine Wg rfl ?_; intro _)|refine Wi ?_)
    have hpm : c.parents[i] ∈ c.parents := List.getElem_mem hlt'
    by_cases hin' : c.parents[i] ∈ cids (nodes (grOf R))
    · obtain ⟨r, hr, hre, hgo, hgk, hkn⟩ := row_of hn hin'
      have hga : genAt (nodes (grOf R)) c.parents[i] = r.1.1.gen := by
        rw [← hre]; exact genAt_of hn (by rw [nodes_gr]; exact List.mem_map.2 ⟨r, hr, rfl⟩)
      obtain ⟨hr0, hr1⟩ := hg r hr
      refine Wf (OpV.lookupOk (M := ofM R) (v := commitV r.1.1 r.2.1 r.2.2.1) (is := true) c.parents[i] hkO (by rw [hgo]; rfl) (by rw [hgo]; rfl)) rfl ?_
      repeat (first|refine Wa ?_|refine Wb ?_|refine Wc ?_|refine Wd ?_|refine We rfl ?_|refine Wf (by first|exact Va|exact Vb|exact Vc|exact Vh|exact Vq) rfl ?_|(refine Wg rfl ?_; intro _)|refine Wi ?_)
      refine Wf (OpV.setHas (L := A) c.parents[i] hA) rfl ?_
      repeat (first|refine Wa ?_|refine Wd ?_|refine We rfl ?_|refine Wf (by exact Vj) rfl ?_)
      refine JC.test (fun hy => ?_) (fun hno => ?_)
      · obtain ⟨q, hq, hqk⟩ := (hmem _).1 (by simpa using hy)
        repeat (first|refine Wa ?_|refine Wb ?_|refine Wc ?_|refine Wd ?_|refine We rfl ?_|refine Wf (by exact Vb) rfl ?_|refine Ws ?_|refine Wt ?_|refine Wu ?_)
        exact CT.done ⟨([], 0, false), by rw [not_ok_of_known hpm (List.mem_of_mem_take hq) hqk]; rfl, by simp⟩ rfl (fun w ho => (ho.ent : Hold w0 F Γ w))
      · repeat (first|refine Wa ?_|refine Wb ?_|refine Wc ?_|refine We rfl ?_|refine Wf (by first|exact Va|exact Vc|exact Vd) rfl ?_|refine Wl ?_)
        refine Wf OpV.max rfl ?_
        repeat (first|refine Wa ?_|refine Wb ?_|refine Wc ?_|refine Wd ?_|refine We rfl ?_|refine Wf (by first|exact Vb|exact Vc|exact Vd) rfl ?_)
        refine Wf (OpV.lookupNo (M := knM R) (v := .map (some r.2.2.2)) c.parents[i] hkK (by rw [hgk]; rfl)) rfl ?_
        refine JO.more (fun w1 ho => ho.add (A := rmap r.2.2.2 (ents idV (sety r.1.2)) r.1.2.length) (graph_row (ho.get (A := graphA R)) hr).2) ?_
        refine We rfl ?_
        refine JR.rangeS rfl ?_
        intro ri
        repeat (first|refine Wa ?_|refine Wd ?_|refine Wn ?_)
        refine JC.loop2 (fun (S : List Nat) (A' : List ID) => [(3, .pointer (some ⟨b3, 0, none⟩)), (4, .pointer (some ⟨b4, 0, none⟩)), (5, .pointer (some ⟨b5, 0, none⟩)), (7, .int .i64 (max g r.1.1.gen)), (8, .map (some ba)), (20, .slice a c.parents.length k), (21, .int .i64 (c.parents.length : Int)), (22, .int .i64 (i : Int)), (48, .pointer (some ⟨ri, 0, none⟩))])
          (fun S A' => .omap bo (ents idV (ofM R)) (ofM R).length :: .omap bk (ents idV (knM R)) (knM R).length :: .own b3 101 [.map (some bo), .map (some bk)] :: .own b4 81 (idc (idC c)) :: .own b5 29 [.int .i64 c.ev.node, .int .i64 c.ev.seq, .int .i64 c.gen, .slice a c.parents.length k, .int .i64 c.op.kind, .string c.op.key, .string c.op.elem, .int .i64 c.op.n] :: .omap ba (ents idV (sety A')) A'.length :: .obj ri (.mapIter (some r.2.2.2) r.1.2.length S.toArray r.1.2.length) :: .st (rmap r.2.2.2 (ents idV (sety r.1.2)) r.1.2.length) :: .st (graphA R) :: .st (sl a k c.parents) :: Γ)
          (fun S A' => S.Nodup ∧ (∀ j ∈ S, j < r.1.2.length) ∧ A'.Nodup ∧ ∀ x, x ∈ A' ↔ x ∈ A ∨ ∃ j ∈ S, r.1.2[j]? = some x)
          (fun S _ => r.1.2.length - S.length) [] A ⟨List.nodup_nil, by simp, hA, by simp⟩ inferInstance ?_
        intro S A' ⟨hS1, hS2, hA', hmem'⟩
        have hSl : S.length ≤ r.1.2.length := nodup_le hS1 hS2
        repeat (first|refine Wb ?_|refine Wc ?_|refine We rfl ?_)
        refine JR.nextS rfl hS2 (fun hall => ?_) (fun j hj hjS => ?_)
        · repeat (first|refine Wa ?_|refine Wb ?_|refine Wc ?_|refine Wd ?_|refine We rfl ?_|refine Wf (by first|exact Va|exact Vk (by omega)|exact Vq) rfl ?_|refine Wk ?_|refine Wm ?_|refine Wo ?_|refine Wp ?_|refine Wr ?_)
          refine ⟨i + 1, A', max g r.1.1.gen, ⟨by omega, hA', fun p hp => ?_, fun x => ?_, ?_, by omega, by omega⟩, by omega, inferInstance⟩
          · rcases (mem_take_succ hlt').1 hp with hp | rfl
            · exact hin p hp
            · exact hin'
          · rw [hmem', hmem]
            constructor
            · rintro (⟨q, hq, hx⟩ | ⟨j, hj, hx⟩)
              · exact ⟨q, (mem_take_succ hlt').2 (.inl hq), hx⟩
              · exact ⟨c.parents[i], (mem_take_succ hlt').2 (.inr rfl), by rw [hkn]; exact List.mem_of_getElem? hx⟩
            · rintro ⟨q, hq, hx⟩
              rcases (mem_take_succ hlt').1 hq with hq | rfl
              · exact .inl ⟨q, hq, hx⟩
              · rw [hkn] at hx
                obtain ⟨j, hj, rfl⟩ := List.getElem_of_mem hx
                exact .inr ⟨j, hall j hj, List.getElem?_eq_getElem hj⟩
          · rw [List.take_succ_eq_append_getElem hlt', maxGen_snoc, ← hmax, hga]
        · repeat (first|refine Wa ?_|refine Wb ?_|refine Wc ?_|refine Wd ?_|refine We rfl ?_|refine Wf (by exact Vq) rfl ?_|refine Wj ?_|refine Wl ?_|refine Wn ?_)
          refine Wf (OpV.entryS hj) rfl ?_
          repeat (first|refine Wa ?_|refine Wc ?_|refine Wd ?_|refine We rfl ?_|refine Wf (by first|exact Va|exact Vc|exact Vq) rfl ?_|(refine Wg rfl ?_; intro _)|refine Wi ?_)
          refine JR.setAdd r.1.2[j] hA' ?_
          have hS3 : (S ++ [j]).Nodup := List.nodup_append.2 ⟨hS1, by simp, fun x hx y hy => by simp at hy; subst hy; exact fun e => hjS (e ▸ hx)⟩
          have hS4 : ∀ i ∈ S ++ [j], i < r.1.2.length := fun i hi => by
            rcases List.mem_append.1 hi with hi | hi
            · exact hS2 i hi
            · simp at hi; subst hi; exact hj
          have hlt2 := nodup_le hS3 hS4
          repeat (first|refine Wa ?_|refine Wd ?_|refine Wr ?_)
          refine ⟨S ++ [j], addK A' r.1.2[j], ⟨hS3, hS4, addK_nodup hA' _, fun x => ?_⟩, by simp at hlt2 ⊢; omega, inferInstance⟩
          rw [mem_addK, hmem']
          constructor
          · rintro ((h | ⟨q, hq, hx⟩) | rfl)
            · exact .inl h
            · exact .inr ⟨q, by simp [hq], hx⟩
            · exact .inr ⟨j, by simp, List.getElem?_eq_getElem hj⟩
          · rintro (h | ⟨q, hq, hx⟩)
            · exact .inl (.inl h)
            · rcases List.mem_append.1 hq with hq | hq
              · exact .inl (.inr ⟨q, hq, hx⟩)
              · simp at hq; subst hq
                rw [List.getElem?_eq_getElem hj] at hx
                injection hx with hx
                exact .inr hx.symm
    · obtain ⟨hgo, hgk⟩ := row_none hin'
      refine Wf (OpV.lookupOk (M := ofM R) (v := .agg ⟨[.int .i64 0, .int .i64 0, .int .i64 0, .slice none 0 0, .int .i64 0, .string .empty, .string .empty, .int .i64 0]⟩) (is := false) c.parents[i] hkO (by rw [hgo]; rfl) (by rw [hgo]; rfl)) rfl ?_
      repeat (first|refine Wa ?_|refine Wb ?_|refine Wc ?_|refine Wd ?_|refine We rfl ?_|refine Wf (by first|exact Va|exact Vb|exact Vh|exact Vi|exact Vq) rfl ?_|(refine Wg rfl ?_; intro _)|refine Wi ?_|refine Wj ?_|refine Ws ?_|refine Wt ?_|refine Wu ?_|refine Wv rfl rfl ?_)
      exact CT.done ⟨([], 0, false), by rw [not_ok_of_none hpm hin']; rfl, by simp⟩ rfl (fun w ho => (ho.ent : Hold w0 F Γ w))
  · obtain rfl : i = c.parents.length := by omega
    rw [List.take_length] at hin hmem hmax
    repeat (first|refine Wa ?_|refine Wb ?_|refine Wc ?_|refine Wd ?_|refine We rfl ?_|refine Wf (by first|exact Va|exact Vc|exact Vd|exact Vf) rfl ?_|refine Wm ?_|refine Wn ?_|refine Wo ?_|refine Wp ?_)
    refine JC.loop1 (fun (i : Nat) => [(3, .pointer (some ⟨b3, 0, none⟩)), (4, .pointer (some ⟨b4, 0, none⟩)), (5, .pointer (some ⟨b5, 0, none⟩)), (7, .int .i64 g), (8, .map (some ba)), (57, .slice a c.parents.length k), (58, .int .i64 (c.parents.length : Int)), (59, .int .i64 (i : Int))])
      (fun i => .omap bo (ents idV (ofM R)) (ofM R).length :: .omap bk (ents idV (knM R)) (knM R).length :: .own b3 101 [.map (some bo), .map (some bk)] :: .own b4 81 (idc (idC c)) :: .own b5 29 [.int .i64 c.ev.node, .int .i64 c.ev.seq, .int .i64 c.gen, .slice a c.parents.length k, .int .i64 c.op.kind, .string c.op.key, .string c.op.elem, .int .i64 c.op.n] :: .omap ba (ents idV (sety A)) A.length :: .st (graphA R) :: .st (sl a k c.parents) :: Γ)
      (fun i => i ≤ c.parents.length ∧ ∀ p ∈ c.parents.take i, p ∉ A) (fun i => c.parents.length - i) 0 ⟨Nat.zero_le _, by simp⟩ inferInstance ?_
    intro i ⟨hi, hfree⟩
    repeat (first|refine Wa ?_|refine Wb ?_|refine Wc ?_|refine Wd ?_|refine We rfl ?_|refine Wf (by exact Vg) rfl ?_)
    refine JC.test (fun hlt => ?_) (fun hge => ?_)
    · have hlt' : i < c.parents.length := by omega
      repeat (first|refine Wa ?_|refine Wb ?_|refine Wc ?_|refine We rfl ?_|refine Wl ?_|refine Wn ?_)
      refine JR.indexID rfl hlt' ?_
      intro bp op
      repeat (first|refine Wa ?_|refine Wb ?_|refine Wc ?_|refine Wd ?_|refine We rfl ?_|refine Wf (by first|exact Va|exact Vc) rfl ?_|(refine Wg rfl ?_; intro _)|refine Wi ?_)
      refine Wf (OpV.setHas (L := A) c.parents[i] hA) rfl ?_
      repeat (first|refine Wa ?_|refine Wd ?_)
      refine JC.test (fun hy => ?_) (fun hno => ?_)
      · obtain ⟨q, hq, hqk⟩ := (hmem _).1 (by simpa using hy)
        repeat (first|refine Wa ?_|refine Wb ?_|refine Wc ?_|refine Wd ?_|refine We rfl ?_|refine Wf (by exact Vb) rfl ?_|refine Ws ?_|refine Wt ?_|refine Wu ?_)
        exact CT.done ⟨([], 0, false), by rw [not_ok_of_known (List.getElem_mem hlt') hq hqk]; rfl, by simp⟩ rfl (fun w ho => (ho.ent : Hold w0 F Γ w))
      · repeat (first|refine Wa ?_|refine Wc ?_|refine Wd ?_|refine We rfl ?_|refine Wf (by first|exact Va|exact Vk (by omega)) rfl ?_|refine Wl ?_|refine Wr ?_)
        refine ⟨i + 1, ⟨by omega, fun p hp => ?_⟩, by omega, inferInstance⟩
        rcases (mem_take_succ hlt').1 hp with hp | rfl
        · exact hfree p hp
        · simpa using hno
    · obtain rfl : i = c.parents.length := by omega
      rw [List.take_length] at hfree
      have hok : addOk (grOf R) c = true := (addOk_iff _ _).2 ⟨hin, fun p hp q hq hk => hfree p hp ((hmem p).2 ⟨q, hq, hk⟩)⟩
      repeat (first|refine Wa ?_|refine Wb ?_|refine Wc ?_|refine Wd ?_|refine We rfl ?_|refine Wf (by first|exact Va|exact Vc|exact Vd|exact Vf) rfl ?_|refine Wm ?_|refine Wn ?_|refine Wo ?_|refine Wp ?_)
      refine JC.loop2 (fun (i : Nat) (A' : List ID) => [(3, .pointer (some ⟨b3, 0, none⟩)), (4, .pointer (some ⟨b4, 0, none⟩)), (5, .pointer (some ⟨b5, 0, none⟩)), (7, .int .i64 g), (8, .map (some ba)), (68, .slice a c.parents.length k), (69, .int .i64 (c.parents.length : Int)), (70, .int .i64 (i : Int))])
        (fun i A' => .omap bo (ents idV (ofM R)) (ofM R).length :: .omap bk (ents idV (knM R)) (knM R).length :: .own b3 101 [.map (some bo), .map (some bk)] :: .own b4 81 (idc (idC c)) :: .own b5 29 [.int .i64 c.ev.node, .int .i64 c.ev.seq, .int .i64 c.gen, .slice a c.parents.length k, .int .i64 c.op.kind, .string c.op.key, .string c.op.elem, .int .i64 c.op.n] :: .omap ba (ents idV (sety A')) A'.length :: .st (graphA R) :: .st (sl a k c.parents) :: Γ)
        (fun i A' => i ≤ c.parents.length ∧ A'.Nodup ∧ ∀ x, x ∈ A' ↔ x ∈ A ∨ x ∈ c.parents.take i) (fun i _ => c.parents.length - i) 0 A ⟨Nat.zero_le _, hA, by simp⟩ inferInstance ?_
      intro i A' ⟨hi, hA', hmem'⟩
      repeat (first|refine Wa ?_|refine Wb ?_|refine Wc ?_|refine Wd ?_|refine We rfl ?_|refine Wf (by exact Vg) rfl ?_)
      refine JC.test (fun hlt => ?_) (fun hge => ?_)
      · have hlt' : i < c.parents.length := by omega
        repeat (first|refine Wa ?_|refine Wb ?_|refine Wc ?_|refine We rfl ?_|refine Wl ?_|refine Wn ?_)
        refine JR.indexID rfl hlt' ?_
        intro bp op
        repeat (first|refine Wa ?_|refine Wc ?_|refine Wd ?_|refine We rfl ?_|refine Wf (by first|exact Va|exact Vc) rfl ?_|(refine Wg rfl ?_; intro _)|refine Wi ?_)
        refine JR.setAdd c.parents[i] hA' ?_
        repeat (first|refine Wa ?_|refine Wc ?_|refine Wd ?_|refine We rfl ?_|refine Wf (by first|exact Va|exact Vk (by omega)) rfl ?_|refine Wr ?_)
        refine ⟨i + 1, addK A' c.parents[i], ⟨by omega, addK_nodup hA' _, fun x => ?_⟩, by omega, inferInstance⟩
        rw [mem_addK, hmem', mem_take_succ hlt', or_assoc]
      · obtain rfl : i = c.parents.length := by omega
        rw [List.take_length] at hmem'
        repeat (first|refine Wa ?_|refine Wb ?_|refine Wm ?_|refine Wo ?_|refine Wp ?_)
        have hkn : isKnown (grOf R) c A' := fun x => by
          rw [hmem', hmem]
          constructor
          · rintro (⟨q, hq, hx⟩ | h)
            · exact ⟨q, hq, .inr hx⟩
            · exact ⟨x, h, .inl rfl⟩
          · rintro ⟨q, hq, (rfl | hx)⟩
            · exact .inr hq
            · exact .inl ⟨q, hq, hx⟩
        have eO : upd (ofM R) (idC c) (.agg ⟨[.int .i64 c.ev.node, .int .i64 c.ev.seq, .int .i64 c.gen, .slice a c.parents.length k, .int .i64 c.op.kind, .string c.op.key, .string c.op.elem, .int .i64 c.op.n]⟩) = ofM (R ++ [((c, A'), (a, k, ba))]) := by
          rw [upd_new _ (by rw [ofM_keys]; exact hnew), ofM_snoc]
        have eK : upd (knM R) (idC c) (.map (some ba)) = knM (R ++ [((c, A'), (a, k, ba))]) := by
          rw [upd_new _ (by rw [knM_keys]; exact hnew), knM_snoc]
        refine JC.drawN [.own b3 101 [.map (some bo), .map (some bk)], .own b4 81 (idc (idC c)), .own b5 29 [.int .i64 c.ev.node, .int .i64 c.ev.seq, .int .i64 c.gen, .slice a c.parents.length k, .int .i64 c.op.kind, .string c.op.key, .string c.op.elem, .int .i64 c.op.n]] mixed ?_
        refine JN.take 0 rfl (by kernel_rfl) rfl Vd rfl rfl ?_
        refine JN.take 1 rfl (by kernel_rfl) rfl Vc rfl rfl ?_
        refine JN.take 2 rfl (by kernel_rfl) rfl Vc rfl rfl ?_
        refine JN.take 3 rfl (by kernel_rfl) rfl Vd rfl rfl ?_
        refine JN.take 4 rfl (by kernel_rfl) rfl Vc rfl rfl ?_
        refine JN.take 5 rfl (by kernel_rfl) rfl Vc rfl rfl ?_
        refine JN.take 6 rfl (by kernel_rfl) rfl Vc rfl rfl ?_
        refine JN.take 7 rfl (by kernel_rfl) rfl Va rfl rfl ?_
        refine JN.op 8 (by kernel_rfl) rfl rfl (JR.mapUpdate_ (M := ofM R) (k := idC c) (.inl rfl) hkO (Wd ⟨rfl, inferInstance, ?_⟩))
        refine JN.op 9 (by kernel_rfl) rfl rfl (JR.mapUpdate_ (M := knM R) (k := idC c) (.inl rfl) hkK (Wd ⟨rfl, inferInstance, ?_⟩))
        refine JN.nil (by kernel_rfl) ?_
        rw [eO, eK]
        repeat (first|refine Wa ?_|refine Wb ?_|refine Wc ?_|refine Wd ?_|refine We rfl ?_|refine Wf (by first|exact Va|exact Vb|exact Vc|exact Vd|exact Vl|exact Vt (by omega)) rfl ?_|refine Ws ?_)
        refine CT.done ⟨(A', ba, decide (c.gen = g + 1)), by rw [hok, hmax]; rfl, fun _ => ⟨hA', hkn⟩⟩ rfl (fun w ho => ?_)
        have h1 : Hold _ _ (.omap ba (ents idV (sety A')) A'.length :: .omap bo (ents idV (ofM (R ++ [((c, A'), (a, k, ba))]))) (ofM (R ++ [((c, A'), (a, k, ba))])).length :: .omap bk (ents idV (knM (R ++ [((c, A'), (a, k, ba))]))) (knM (R ++ [((c, A'), (a, k, ba))])).length :: .st (graphA R) :: .st (sl a k c.parents) :: Γ) w := ho.ent
        have h2 := h1.pubMap
        have h3 := h2.add (graph_snoc (S := A') (h2.get (A := graphA R)) (h2.get (A := sl a k c.parents)) (h2.get (A := rmap ba (ents idV (sety A')) A'.length)))
        by_cases hb : c.gen = g + 1
        · rw [if_pos (by simpa using hb)]; exact h3.ent
        · rw [if_neg (by simpa using hb)]; exact h3.ent
end Ab
end Go.Proofs.YtdgeffphifgflaaGreat
namespace Go.Proofs.YtdgeffphifgflaaGreat
namespace Ab
open Go Go.RowKit
set_option linter.unusedVariables false
set_option linter.unusedSimpArgs false
set_option synthInstance.maxSize 4000
set_option synthInstance.maxHeartbeats 400000
attribute [local irreducible] JC JO JR JQ andThen inBlock OpV Gives retTo JM JS
attribute [local irreducible] ents hashC graphA
def evBad (r s : Row) : Bool := decide (idC r.1.1 ≠ idC s.1.1) && decide (r.1.1.ev.node = s.1.1.ev.node) && (decide (r.1.1.ev.seq = s.1.1.ev.seq) || (decide (s.1.1.ev.seq < r.1.1.ev.seq) && decide (idC s.1.1 ∉ r.1.2)))
def evG (R : List Row) : Bool := R.all fun r => R.all fun s => !evBad r s
theorem ofM_get (R : List Row) (j : Nat) (h : j < (ofM R).length) : (ofM R)[j] = (idC (R[j]'(by simpa [ofM] using h)).1.1, commitV (R[j]'(by simpa [ofM] using h)).1.1 (R[j]'(by simpa [ofM] using h)).2.1 (R[j]'(by simpa [ofM] using h)).2.2.1) := by simp [ofM]
theorem ofM_length (R : List Row) : (ofM R).length = R.length := by simp [ofM]
theorem evG_false {R : List Row} {r s : Row} (hr : r ∈ R) (hs : s ∈ R) (h : evBad r s = true) : evG R = false := by
  rw [← Bool.not_eq_true]
  intro he
  have := List.all_eq_true.1 (List.all_eq_true.1 he r hr) s hs
  rw [h] at this; cases this
set_option maxHeartbeats 4000000 in
theorem events_graph (w : World) (F : Nat → Prop) (bo bk : Nat) (R : List Row) (hn : (cids (nodes (grOf R))).Nodup) (hS : ∀ r ∈ R, r.1.2.Nodup)
    (h1 : (rmap bo (ents idV (ofM R)) (ofM R).length).holds F w) (h2 : (rmap bk (ents idV (knM R)) (knM R).length).holds F w) (h3 : (graphA R).holds F w) :
    GivesV Tryz.prog 136 [.agg ⟨[.map (some bo), .map (some bk)]⟩] w F (.bool (evG R)) := by
  have hkK : ((knM R).map (·.1)).Nodup := by rw [knM_keys]; exact hn
  refine gives_of Tryz.func136 rfl Tryz.ntmps136 rfl rfl [.st (rmap bo (ents idV (ofM R)) (ofM R).length), .st (rmap bk (ents idV (knM R)) (knM R).length), .st (graphA R)] (.start3 h1 h2 h3) ?_
  repeat (first|refine Wa ?_|refine Wb ?_|refine Wc ?_|refine Wd ?_|refine We rfl ?_|refine Wf (by first|exact Vb|exact Vc|exact Vd) rfl ?_|(refine Wh rfl ?_; intro _))
  rename_i bg
  refine JR.range (M := ofM R) rfl ?_
  intro r1
  repeat (first|refine Wa ?_|refine Wd ?_|refine Wn ?_)
  refine JC.loop1 (fun (S : List Nat) => [(1, .pointer (some ⟨bg, 0, none⟩)), (9, .pointer (some ⟨r1, 0, none⟩))])
    (fun S => [.obj r1 (.mapIter (some bo) (ofM R).length S.toArray (ofM R).length), .own bg 101 [.map (some bo), .map (some bk)], .st (rmap bo (ents idV (ofM R)) (ofM R).length), .st (rmap bk (ents idV (knM R)) (knM R).length), .st (graphA R)])
    (fun S => S.Nodup ∧ (∀ j ∈ S, j < (ofM R).length) ∧ ∀ j ∈ S, ∀ hj : j < R.length, ∀ s ∈ R, evBad R[j] s = false) (fun S => (ofM R).length - S.length) [] ⟨List.nodup_nil, by simp, by simp⟩ inferInstance ?_
  intro S ⟨hS1, hS2, hok⟩
  repeat (first|refine Wb ?_|refine Wc ?_|refine We rfl ?_)
  refine JR.next (M := ofM R) rfl hS2 (fun hall => ?_) (fun j hj hjS => ?_)
  · have e1 : evG R = true := by
      refine List.all_eq_true.2 fun r hr => List.all_eq_true.2 fun s hs => ?_
      obtain ⟨j, hj, rfl⟩ := List.getElem_of_mem hr
      rw [hok j (hall j (by rw [ofM_length]; exact hj)) hj s hs]; rfl
    rw [e1]
    repeat (first|refine Wa ?_|refine Wb ?_|refine Wc ?_|refine Wd ?_|refine We rfl ?_|refine Wf (by first|exact Vb|exact Vq) rfl ?_|refine Wk ?_|refine Wm ?_|refine Wo ?_|refine Wp ?_|refine Ws ?_)
    exact CT.done () rfl (fun w ho => ho.ent)
  · have hjR : j < R.length := by rw [ofM_length] at hj; exact hj
    obtain ⟨r, hr⟩ : ∃ r, r = R[j] := ⟨_, rfl⟩
    have hrm : r ∈ R := by rw [hr]; exact List.getElem_mem hjR
    have eg := ofM_get R j hj
    rw [← hr] at eg
    have hS3 : (S ++ [j]).Nodup := List.nodup_append.2 ⟨hS1, by simp, fun x hx y hy => by simp at hy; subst hy; exact fun e => hjS (e ▸ hx)⟩
    have hS4 : ∀ i ∈ S ++ [j], i < (ofM R).length := fun i hi => by
      rcases List.mem_append.1 hi with hi | hi
      · exact hS2 i hi
      · simp at hi; subst hi; exact hj
    have hlt2 := nodup_le hS3 hS4
    repeat (first|refine Wa ?_|refine Wb ?_|refine Wc ?_|refine Wd ?_|refine We rfl ?_|refine Wf (by exact Vq) rfl ?_|refine Wj ?_|refine Wl ?_|refine Wn ?_)
    refine Wf (OpV.entry (M := ofM R) hj) rfl ?_
    refine JO.reslot 12 (.tuple ⟨[idV (idC r.1.1), commitV r.1.1 r.2.1 r.2.2.1]⟩) (by rw [eg]) ?_
    refine JO.more (fun w1 ho => (ho.add (A := sl r.2.1 r.2.2.1 r.1.1.parents) (graph_row (ho.get (A := graphA R)) hrm).1).add (A := rmap r.2.2.2 (ents idV (sety r.1.2)) r.1.2.length) (graph_row (ho.add (A := sl r.2.1 r.2.2.1 r.1.1.parents) (graph_row (ho.get (A := graphA R)) hrm).1 |>.get (A := graphA R)) hrm).2) ?_
    repeat (first|refine Wa ?_|refine Wb ?_|refine Wc ?_|refine Wd ?_|refine We rfl ?_|refine Wf (by first|exact Vc|exact Vd|exact Vq) rfl ?_|(refine Wg rfl ?_; intro _)|refine Wi ?_)
    rename_i b3 b4
    refine JR.range (M := ofM R) rfl ?_
    intro r2
    repeat (first|refine Wa ?_|refine Wd ?_|refine Wn ?_)
    refine JC.loop1 (fun (S2 : List Nat) => [(1, .pointer (some ⟨bg, 0, none⟩)), (9, .pointer (some ⟨r1, 0, none⟩)), (3, .pointer (some ⟨b3, 0, none⟩)), (4, .pointer (some ⟨b4, 0, none⟩)), (17, .pointer (some ⟨r2, 0, none⟩))])
      (fun S2 => [.obj r2 (.mapIter (some bo) (ofM R).length S2.toArray (ofM R).length), .own b3 81 (idc (idC r.1.1)), .own b4 29 [.int .i64 r.1.1.ev.node, .int .i64 r.1.1.ev.seq, .int .i64 r.1.1.gen, .slice r.2.1 r.1.1.parents.length r.2.2.1, .int .i64 r.1.1.op.kind, .string r.1.1.op.key, .string r.1.1.op.elem, .int .i64 r.1.1.op.n],
        .obj r1 (.mapIter (some bo) (ofM R).length (S ++ [j]).toArray (ofM R).length), .own bg 101 [.map (some bo), .map (some bk)], .st (rmap r.2.2.2 (ents idV (sety r.1.2)) r.1.2.length), .st (rmap bo (ents idV (ofM R)) (ofM R).length), .st (rmap bk (ents idV (knM R)) (knM R).length), .st (graphA R)])
      (fun S2 => S2.Nodup ∧ (∀ j ∈ S2, j < (ofM R).length) ∧ ∀ j ∈ S2, ∀ hj : j < R.length, evBad r R[j] = false) (fun S2 => (ofM R).length - S2.length) [] ⟨List.nodup_nil, by simp, by simp⟩ inferInstance ?_
    intro S2 ⟨hT1, hT2, hok2⟩
    repeat (first|refine Wb ?_|refine Wc ?_|refine We rfl ?_)
    refine JR.next (M := ofM R) rfl hT2 (fun hall => ?_) (fun i hi hiS => ?_)
    · repeat (first|refine Wa ?_|refine Wb ?_|refine Wd ?_|refine We rfl ?_|refine Wf (by exact Vq) rfl ?_|refine Wk ?_|refine Wm ?_|refine Wo ?_|refine Wp ?_|refine Wr ?_)
      refine ⟨S ++ [j], ⟨hS3, hS4, fun x hx hxR s hs => ?_⟩, by simp at hlt2 ⊢; omega, inferInstance⟩
      rcases List.mem_append.1 hx with hx | hx
      · exact hok x hx hxR s hs
      · simp only [List.mem_singleton] at hx
        subst hx
        obtain ⟨y, hy, rfl⟩ := List.getElem_of_mem hs
        rw [← hr]
        exact hok2 y (hall y (by rw [ofM_length]; exact hy)) hy
    · have hiR : i < R.length := by rw [ofM_length] at hi; exact hi
      obtain ⟨s, hs⟩ : ∃ s, s = R[i] := ⟨_, rfl⟩
      have hsm : s ∈ R := by rw [hs]; exact List.getElem_mem hiR
      have eg2 := ofM_get R i hi
      rw [← hs] at eg2
      have hT3 : (S2 ++ [i]).Nodup := List.nodup_append.2 ⟨hT1, by simp, fun x hx y hy => by simp at hy; subst hy; exact fun e => hiS (e ▸ hx)⟩
      have hT4 : ∀ x ∈ S2 ++ [i], x < (ofM R).length := fun x hx => by
        rcases List.mem_append.1 hx with hx | hx
        · exact hT2 x hx
        · simp at hx; subst hx; exact hi
      have hlt3 := nodup_le hT3 hT4
      have next : evBad r s = false → ∀ x ∈ S2 ++ [i], ∀ hx : x < R.length, evBad r R[x] = false := fun hb x hx hxR => by
        rcases List.mem_append.1 hx with hx | hx
        · exact hok2 x hx hxR
        · simp only [List.mem_singleton] at hx; subst hx; rw [← hs]; exact hb
      repeat (first|refine Wa ?_|refine Wb ?_|refine Wc ?_|refine Wd ?_|refine We rfl ?_|refine Wf (by exact Vq) rfl ?_|refine Wj ?_|refine Wl ?_|refine Wn ?_)
      refine Wf (OpV.entry (M := ofM R) hi) rfl ?_
      refine JO.reslot 20 (.tuple ⟨[idV (idC s.1.1), commitV s.1.1 s.2.1 s.2.2.1]⟩) (by rw [eg2]) ?_
      refine JO.more (fun w1 ho => ho.add (A := sl s.2.1 s.2.2.1 s.1.1.parents) (graph_row (ho.get (A := graphA R)) hsm).1) ?_
      repeat (first|refine Wa ?_|refine Wb ?_|refine Wc ?_|refine Wd ?_|refine We rfl ?_|refine Wf (by first|exact Va|exact Vc|exact Vq|exact Vx) rfl ?_|(refine Wg rfl ?_; intro _)|refine Wi ?_)
      refine JO.test 26 (fun he => ?_) (fun he => ?_)
      · have hb : evBad r s = false := by simp [evBad, he]
        repeat (first|refine Wa ?_|refine Wd ?_|refine We rfl ?_|refine Wf (by exact Vi) rfl ?_|refine Wj ?_|refine Wm ?_|refine Wo ?_|refine Wp ?_|refine Wv rfl rfl ?_)
        exact ⟨S2 ++ [i], ⟨hT3, hT4, next hb⟩, by simp at hlt3 ⊢; omega, inferInstance⟩
      repeat (first|refine Wa ?_|refine Wd ?_|refine We rfl ?_|refine Wf (by first|exact Vc|exact Vd|exact Vj|exact Vm) rfl ?_)
      refine JC.test (fun hnd => ?_) (fun hnd => ?_)
      · have hb : evBad r s = false := by simp only [ne_eq] at hnd; simp [evBad, hnd]
        repeat (first|refine Wa ?_|refine Wm ?_|refine Wo ?_|refine Wp ?_)
        exact ⟨S2 ++ [i], ⟨hT3, hT4, next hb⟩, by simp at hlt3 ⊢; omega, inferInstance⟩
      have hnd' : r.1.1.ev.node = s.1.1.ev.node := by simpa using hnd
      repeat (first|refine Wa ?_|refine Wb ?_|refine Wl ?_)
      have hgk : gotten (knM R) (idC r.1.1) = some (.map (some r.2.2.2)) := by
        obtain ⟨q, hq, hqe, _, hqk, _⟩ := row_of hn (p := idC r.1.1) (by rw [ids_gr]; exact List.mem_map.2 ⟨r, hrm, rfl⟩)
        have : q = r := by
          obtain ⟨x, hx, hxq⟩ := List.getElem_of_mem hq
          obtain ⟨y, hy, hyr⟩ := List.getElem_of_mem hrm
          rw [ids_gr] at hn
          rcases Nat.lt_trichotomy x y with h | h | h
          · have := List.pairwise_iff_getElem.1 hn x y (by simpa using hx) (by simpa using hy) h
            simp [hxq, hyr, hqe] at this
          · subst h; rw [← hxq, ← hyr]
          · have := List.pairwise_iff_getElem.1 hn y x (by simpa using hy) (by simpa using hx) h
            simp [hxq, hyr, hqe] at this
        rw [← this]; rw [this] at hqk ⊢; exact hqk
      refine JC.quiet mixed (by kernel_rfl) ?_
      repeat (refine Wy rfl (by first|exact Va|exact Vc|exact Vd|exact Vl) rfl ?_)
      by_cases hsq : r.1.1.ev.seq = s.1.1.ev.seq
      · have hb : evBad r s = true := by simp [evBad, he, hnd', hsq]
        refine JQ.reslot 42 (.bool true) (by simp [hsq]) ?_
        repeat (first|refine Wy rfl (by first|exact Va|exact Vc|exact Vd|exact Vi) rfl ?_|refine Wz rfl rfl ?_|refine WA rfl rfl ?_|refine WB ?_)
        repeat (first|refine Wa ?_|refine Wb ?_|refine Wc ?_|refine Wd ?_|refine We rfl ?_|refine Wf (by exact Vb) rfl ?_|refine Wj ?_|refine Ws ?_|refine Wt ?_|refine Wu ?_)
        rw [evG_false hrm hsm hb]
        exact CT.done () rfl (fun w ho => ho.ent)
      refine JQ.reslot 42 (.bool false) (by simp [hsq]) ?_
      repeat (refine Wy rfl (by first|exact Va|exact Vc|exact Vd|exact Vo) rfl ?_)
      by_cases hlt : s.1.1.ev.seq < r.1.1.ev.seq
      · refine JQ.reslot 50 (.bool true) (by simp [hlt]) ?_
        repeat (refine Wy rfl (by first|exact Vc|exact Vd) rfl ?_)
        refine Wy rfl (OpV.lookupNo (M := knM R) (v := .map (some r.2.2.2)) (idC r.1.1) hkK (by rw [hgk]; rfl)) rfl ?_
        repeat (refine Wy rfl (by exact Vc) rfl ?_)
        refine Wy rfl (OpV.setHas (L := r.1.2) (idC s.1.1) (hS r hrm)) rfl ?_
        repeat (first|refine Wy rfl (by first|exact Vh|exact Vi|exact Vj) rfl ?_|refine WB ?_)
        repeat (refine Wa ?_)
        refine JC.test (fun hk => ?_) (fun hk => ?_)
        · have hb : evBad r s = true := by
            have hk' : idC s.1.1 ∉ r.1.2 := by simpa using hk
            simp [evBad, he, hnd', hlt, hk']
          repeat (first|refine Wa ?_|refine Wb ?_|refine Wc ?_|refine Wd ?_|refine We rfl ?_|refine Wf (by exact Vb) rfl ?_|refine Ws ?_|refine Wt ?_|refine Wu ?_)
          rw [evG_false hrm hsm hb]
          exact CT.done () rfl (fun w ho => ho.ent)
        · have hb : evBad r s = false := by
            have hk' : idC s.1.1 ∈ r.1.2 := by simpa using hk
            simp [evBad, hsq, hk']
          repeat (first|refine Wa ?_|refine Wl ?_|refine Wr ?_)
          exact ⟨S2 ++ [i], ⟨hT3, hT4, next hb⟩, by simp at hlt3 ⊢; omega, inferInstance⟩
      · have hb : evBad r s = false := by simp [evBad, hsq, hlt]
        refine JQ.reslot 50 (.bool false) (by simp [hlt]) ?_
        repeat (first|refine Wy rfl (by first|exact Vc|exact Vd|exact Vj) rfl ?_|refine Wz rfl rfl ?_|refine WB ?_)
        repeat (first|refine Wa ?_|refine Wk ?_|refine Wl ?_|refine Wr ?_)
        exact ⟨S2 ++ [i], ⟨hT3, hT4, next hb⟩, by simp at hlt3 ⊢; omega, inferInstance⟩
end Ab
end Go.Proofs.YtdgeffphifgflaaGreat
namespace Go.Proofs.YtdgeffphifgflaaGreat
namespace Ab
open Go Go.RowKit
set_option linter.unusedVariables false
set_option linter.unusedSimpArgs false
set_option synthInstance.maxSize 4000
set_option synthInstance.maxHeartbeats 400000
attribute [local irreducible] JC JO JR JQ andThen inBlock OpV Gives retTo JM JS
def cmpI (a b : Int) : Int := if a < b then -1 else if b < a then 1 else 0
theorem nan_int [Dr] (w : World) (F : Nat → Prop) (a : Int) : GivesV Tryz.prog 139 [.int .i64 a] w F (.bool false) := by
  refine gives_of Tryz.func139 rfl Tryz.ntmps139 rfl rfl [] (.start w F) ?_
  repeat (first|refine Wa ?_|refine Wb ?_|refine Wc ?_|refine Wd ?_|refine We rfl ?_|refine Wf (by first|exact Va|exact Vb|exact Vm) rfl ?_|refine Ws ?_)
  exact CT.done () (by simp [packed]) (fun w ho => ho.ent)
theorem compare_int [Dr] (w : World) (F : Nat → Prop) (a b : Int) : GivesV Tryz.prog 72 [.int .i64 a, .int .i64 b] w F (.int .i64 (cmpI a b)) := by
  refine gives_of Tryz.func72 rfl Tryz.ntmps72 rfl rfl [] (.start w F) ?_
  repeat (first|refine Wa ?_|refine Wb ?_|refine Wc ?_|refine Wd ?_|refine We rfl ?_|refine Wf (by first|exact Va|exact Vb) rfl ?_)
  refine JR.callV rfl (fun w1 hw => nan_int w1 _ a) ?_
  repeat (first|refine Wa ?_|refine Wb ?_|refine Wc ?_|refine Wd ?_|refine We rfl ?_|refine Wf (by first|exact Va|exact Vb) rfl ?_)
  refine JR.callV rfl (fun w1 hw => nan_int w1 _ b) ?_
  repeat (first|refine Wa ?_|refine Wb ?_|refine Wc ?_|refine Wd ?_|refine We rfl ?_|refine Wf (by first|exact Va|exact Vb|exact Vg) rfl ?_|refine Wk ?_|refine Wl ?_)
  refine JC.test (fun h => ?_) (fun h => ?_)
  · have e1 : cmpI a b = -1 := by simp [cmpI, h]
    rw [e1]
    repeat (first|refine Wa ?_|refine Wb ?_|refine Wc ?_|refine Wd ?_|refine We rfl ?_|refine Wf (by exact Vb) rfl ?_|refine Ws ?_|refine Wt ?_)
    exact CT.done () rfl (fun w ho => ho.ent)
  repeat (first|refine Wa ?_|refine Wb ?_|refine Wc ?_|refine Wd ?_|refine We rfl ?_|refine Wf (by first|exact Va|exact Vo) rfl ?_|refine Wl ?_)
  refine JC.test (fun h' => ?_) (fun h' => ?_)
  · have e1 : cmpI a b = 1 := by simp [cmpI, h, h']
    rw [e1]
    repeat (first|refine Wa ?_|refine Wb ?_|refine Wc ?_|refine Wd ?_|refine We rfl ?_|refine Wf (by exact Vb) rfl ?_|refine Ws ?_|refine Wt ?_)
    exact CT.done () rfl (fun w ho => ho.ent)
  · have e1 : cmpI a b = 0 := by simp [cmpI, h, h']
    rw [e1]
    repeat (first|refine Wa ?_|refine Wb ?_|refine Wc ?_|refine Wd ?_|refine We rfl ?_|refine Wf (by exact Vb) rfl ?_|refine Wl ?_|refine Ws ?_)
    exact CT.done () rfl (fun w ho => ho.ent)
def orL : List Int → Int
  | [] => 0
  | x :: l => if x ≠ 0 then x else orL l
theorem orL_take (L : List Int) (k : Nat) (hk : k ≤ L.length) (h : ∀ j (hj : j < L.length), j < k → L[j] = 0) : orL L = orL (L.drop k) := by
  induction k generalizing L with
  | zero => rfl
  | succ k ih =>
    cases L with
    | nil => simp at hk
    | cons x L =>
      have h0 : x = 0 := h 0 (by simp) (by omega)
      have := ih L (by simpa using hk) (fun j hj hjk => h (j + 1) (by simpa using hj) (by omega))
      simp [orL, h0, this]
theorem or_int [Dr] (w : World) (F : Nat → Prop) (a : Option Addr) (k : Nat) (L : List Int) (h : (sl a k L).holds F w) : GivesV Tryz.prog 71 [.slice a L.length k] w F (.int .i64 (orL L)) := by
  have hL : L.length < 9223372036854775807 := by have := h.2.2.1; simp only [lim] at this; omega
  refine gives_of Tryz.func71 rfl Tryz.ntmps71 rfl rfl [.st (sl a k L)] (.start1 h) ?_
  repeat (first|refine Wa ?_|refine Wb ?_|refine Wc ?_|refine Wd ?_|refine We rfl ?_|refine Wf (by first|exact Va|exact Vb|exact Vf) rfl ?_|refine Wn ?_)
  refine JC.loop1 (fun i : Nat => [(3, .int .i64 0), (6, .slice a L.length k), (7, .int .i64 (L.length : Int)), (8, .int .i64 (i : Int))]) (fun i => [.st (sl a k L)])
    (fun i => i ≤ L.length ∧ ∀ j (hj : j < L.length), j < i → L[j] = 0) (fun i => L.length - i) 0 ⟨Nat.zero_le _, fun j hj h => by omega⟩ inferInstance ?_
  intro i ⟨hi, hz⟩
  repeat (first|refine Wa ?_|refine Wb ?_|refine Wc ?_|refine Wd ?_|refine We rfl ?_|refine Wf (by exact Vg) rfl ?_)
  refine JC.test (fun hlt => ?_) (fun hge => ?_)
  · have hlt' : i < L.length := by omega
    repeat (first|refine Wa ?_|refine Wb ?_|refine Wc ?_|refine We rfl ?_|refine Wl ?_|refine Wn ?_)
    refine JR.indexInt rfl hlt' ?_
    intro b o
    repeat (first|refine Wa ?_|refine Wb ?_|refine Wc ?_|refine Wd ?_|refine We rfl ?_|refine Wf (by first|exact Va|exact Vb|exact Vc|exact Vm) rfl ?_)
    refine JC.test (fun h0 => ?_) (fun h0 => ?_)
    · have e1 : orL L = L[i] := by
        rw [orL_take L i hi hz, List.drop_eq_getElem_cons hlt']
        simp [orL, h0]
      rw [e1]
      repeat (first|refine Wa ?_|refine Wb ?_|refine Wc ?_|refine Wd ?_|refine We rfl ?_|refine Wf (by first|exact Va|exact Vb) rfl ?_|refine Ws ?_|refine Wt ?_|refine Wu ?_)
      exact CT.done () rfl (fun w ho => ho.ent)
    · repeat (first|refine Wa ?_|refine Wc ?_|refine Wd ?_|refine We rfl ?_|refine Wf (by first|exact Va|exact Vk (by omega)) rfl ?_|refine Wl ?_|refine Wr ?_)
      refine ⟨i + 1, ⟨by omega, fun j hj hji => ?_⟩, by omega, inferInstance⟩
      by_cases hj' : j = i
      · subst hj'; simpa using h0
      · exact hz j hj (by omega)
  · have e1 : orL L = 0 := by rw [orL_take L i hi hz, List.drop_of_length_le (by omega)]; rfl
    rw [e1]
    repeat (first|refine Wa ?_|refine Wb ?_|refine Wc ?_|refine Wd ?_|refine We rfl ?_|refine Wf (by first|exact Va|exact Vb) rfl ?_|refine Wm ?_|refine Wo ?_|refine Wp ?_|refine Ws ?_)
    exact CT.done () rfl (fun w ho => ho.ent)
theorem of1_dag [Dr] (w : World) (F : Nat → Prop) (a : Option Addr) (k bl : Nat) (L : List Commit) (i j : Nat) (hi : i < L.length) (hj : j < L.length) (h : (sl a k L).holds F w) (hb : (ro bl 0 [.slice a L.length k]).holds F w) :
    GivesV Tryz.prog 134 [.int .i64 (i : Int), .int .i64 (j : Int), .pointer (some ⟨bl, 0, none⟩)] w F (.int .i64 (cmpI L[i].gen L[j].gen)) := by
  refine gives_of Tryz.func134 rfl Tryz.ntmps134 rfl rfl [.st (sl a k L), .st (ro bl 0 [.slice a L.length k])] (.start2 h hb) ?_
  repeat (first|refine Wa ?_|refine Wb ?_|refine Wc ?_|refine Wd ?_|refine We rfl ?_|refine Wf (by exact Vb) rfl ?_)
  refine JC.openCommit (L := L) (.slice a L.length k) i hi ?_
  intro b1 o1 p1 q1
  refine JC.openCommit (L := L) (.slice a L.length k) j hj ?_
  intro b2 o2 p2 q2
  refine JC.quiet mixed (by kernel_rfl) ?_
  repeat (refine Wy rfl (by first|exact Va|exact Vc|exact Vd|exact Ve) rfl ?_)
  refine JQ.call rfl rfl (fun w1 hw => compare_int w1 _ (L[i]).gen (L[j]).gen) ?_
  repeat (first|refine Wy rfl (by exact Vb) rfl ?_|refine WB ?_)
  repeat (first|refine Wa ?_|refine Ws ?_)
  exact CT.done () rfl (fun w ho => ho.ent)
theorem Hold.start4 [Dr] {A B C D : Asn} {w : World} {F : Nat → Prop} (h : A.holds F w) (h2 : B.holds F w) (h3 : C.holds F w) (h4 : D.holds F w) : Hold w F [.st A, .st B, .st C, .st D] w :=
  (Hold.start3 h2 h3 h4).add (Asn.mono _ _ _ _ (fun k hk => ⟨.inl hk, by simp [free, Fact.owns]⟩) h)
theorem sl_ints {w : World} {b : Nat} {L : List Int} {t : TypeId} (h : w.heap[b]? = some (.cells (L.map (fun n => Value.int .i64 n)).toArray t (0, 0))) (hmax : L.length ≤ 4096) : (sl (some ⟨b, 0, none⟩) L.length L).holds (fun _ => True) w := by
  refine ⟨by omega, by simp [maxLen]; omega, by simp only [lim]; omega, fun hne => ⟨b, 0, rfl, trivial, (Array.getElem?_eq_some_iff.1 h).1, fun i hi => ⟨(), ?_, by simp [Cell.facts]⟩⟩⟩
  intro j v hj
  simp only [Cell.cells, List.getElem?_singleton] at hj
  split at hj
  · rename_i h0; subst h0
    injection hj with hj
    subst hj
    rw [cell_of_row w b _ _ _ _ h]
    simp [Cell.sz, hi]
  · cases hj
theorem sorted1_dag [Dr] (w : World) (F : Nat → Prop) (a c : Option Addr) (k m bl ba : Nat) (L : List Commit) (I : List ID) (i j : Nat) (hi : i < L.length) (hj : j < L.length) (hi' : i < I.length) (hj' : j < I.length)
    (h : (sl a k L).holds F w) (hb : (ro bl 0 [.slice a L.length k]).holds F w) (h' : (sl c m I).holds F w) (hb' : (ro ba 0 [.slice c I.length m]).holds F w) :
    GivesV Tryz.prog 70 [.int .i64 (i : Int), .int .i64 (j : Int), .pointer (some ⟨bl, 0, none⟩), .pointer (some ⟨ba, 0, none⟩)] w F (.int .i64 (orL [cmpI L[i].gen L[j].gen, idCmp I[i] I[j]])) := by
  refine gives_of Tryz.func70 rfl Tryz.ntmps70 rfl rfl [.st (sl a k L), .st (ro bl 0 [.slice a L.length k]), .st (sl c m I), .st (ro ba 0 [.slice c I.length m])] (.start4 h hb h' hb') ?_
  repeat (first|refine Wa ?_|refine Wb ?_|refine Wc ?_|refine Wd ?_|refine We rfl ?_|refine Wf (by exact Vb) rfl ?_)
  refine JC.openCommit (L := L) (.slice a L.length k) i hi ?_
  intro b1 o1 p1 q1
  refine JC.openCommit (L := L) (.slice a L.length k) j hj ?_
  intro b2 o2 p2 q2
  refine JC.openID (L := I) (.slice c I.length m) i hi' ?_
  intro b3 o3
  refine JC.openID (L := I) (.slice c I.length m) j hj' ?_
  intro b4 o4
  refine JC.draw 20 mixed ?_
  refine JM.take 0 rfl (by kernel_rfl) rfl Vc rfl rfl ?_
  refine JM.take 1 rfl (by kernel_rfl) rfl Va rfl rfl ?_
  refine JM.take 2 rfl (by kernel_rfl) rfl Ve rfl rfl ?_
  refine JM.take 3 rfl (by kernel_rfl) rfl Vd rfl rfl ?_
  refine JM.take 4 rfl (by kernel_rfl) rfl Vc rfl rfl ?_
  refine JM.take 5 rfl (by kernel_rfl) rfl Vc rfl rfl ?_
  refine JM.take 6 rfl (by kernel_rfl) rfl Va rfl rfl ?_
  refine JM.take 7 rfl (by kernel_rfl) rfl Ve rfl rfl ?_
  refine JM.take 8 rfl (by kernel_rfl) rfl Vd rfl rfl ?_
  refine JM.take 9 rfl (by kernel_rfl) rfl Vc rfl rfl ?_
  refine JM.takeCall 10 rfl (by kernel_rfl) rfl (fun w1 hw => compare_int w1 _ (L[i]).gen (L[j]).gen) rfl rfl ?_
  refine JM.take 11 rfl (by kernel_rfl) rfl Vc rfl rfl ?_
  refine JM.take 12 rfl (by kernel_rfl) rfl Va rfl rfl ?_
  refine JM.take 13 rfl (by kernel_rfl) rfl Ve rfl rfl ?_
  refine JM.take 14 rfl (by kernel_rfl) rfl (OpV.sliceArr (by decide)) rfl rfl ?_
  refine JM.take 15 rfl (by kernel_rfl) rfl Vc rfl rfl ?_
  refine JM.take 16 rfl (by kernel_rfl) rfl Va rfl rfl ?_
  refine JM.take 17 rfl (by kernel_rfl) rfl Ve rfl rfl ?_
  refine JM.take 18 rfl (by kernel_rfl) rfl (OpV.sliceArr (by decide)) rfl rfl ?_
  refine JM.takeCall (v := .int .i64 (idCmp I[i] I[j])) 19 rfl (by kernel_rfl) rfl (fun w1 hw => ?_) rfl rfl ?_
  · have e1 := At.sl_bytes (Γ := [.st (ro b3 o3 (idc I[i]))]) (b := b3) inferInstance rfl hw.ent (I[i]).2 (by decide)
    have e2 := At.sl_bytes (Γ := [.st (ro b4 o4 (idc I[j]))]) (b := b4) inferInstance rfl hw.ent (I[j]).2 (by decide)
    have := (compare_bytes w1 (fun _ => True) (some ⟨b3, o3, none⟩) (some ⟨b4, o4, none⟩) 32 32 (I[i]).1 (I[j]).1 e1 e2)
    rw [(I[i]).2, (I[j]).2] at this
    exact this.any
  refine JM.last 20 (by kernel_rfl) rfl rfl rfl (Ww rfl ⟨rfl, by decide, by decide, by decide⟩ fun lb => Wd ⟨rfl, ?_⟩)
  refine JM.last 21 (by kernel_rfl) rfl rfl rfl (JR.callV (v := .int .i64 (orL [cmpI L[i].gen L[j].gen, idCmp I[i] I[j]])) rfl (fun w1 hw => ?_) (Wd ⟨rfl, ?_⟩))
  · have hb := hw.sat (.own lb 3 [.int .i64 (cmpI L[i].gen L[j].gen), .int .i64 (idCmp I[i] I[j])]) (by simp)
    exact (or_int w1 (fun _ => True) _ 2 [cmpI L[i].gen L[j].gen, idCmp I[i] I[j]] (sl_ints (L := [cmpI L[i].gen L[j].gen, idCmp I[i] I[j]]) hb (by simp))).any
  refine JM.last 22 (by kernel_rfl) rfl rfl rfl (Wf Vb rfl (Wd ⟨rfl, ?_⟩))
  refine JM.nil (by kernel_rfl) ?_
  repeat (first|refine Wa ?_|refine Ws ?_)
  exact CT.done () rfl (fun w ho => ho.ent)
end Ab
end Go.Proofs.YtdgeffphifgflaaGreat
namespace Go.Proofs.YtdgeffphifgflaaGreat
namespace Ab
open Go Go.RowKit Go.Sort Go.Shelf
set_option linter.unusedVariables false
set_option linter.unusedSimpArgs false
theorem grow_of_bel [dr : Dr] (hdr : Dr.on) {w w' : World} (h : Bel w.heap.size w w') : ∃ q os, w' = grow (w.drewN q) os := by
  refine ⟨w'.drawn - w.drawn, w'.heap.extract w.heap.size, ?_⟩
  have h1 := h.drawn hdr
  have h2 := h.os; have h3 := h.tape; have h4 := h.output
  have hh : w.heap ++ w'.heap.extract w.heap.size = w'.heap := by
    apply Array.ext_getElem?
    intro i
    by_cases hi : i < w.heap.size
    · rw [Array.getElem?_append_left hi]; exact (h.block i hi).symm
    · rw [Array.getElem?_append_right (by omega), Array.getElem?_extract]
      have := h.size
      by_cases hi' : i < w'.heap.size
      · rw [if_pos (by omega)]; congr 1; omega
      · rw [if_neg (by omega), Array.getElem?_eq_none (by omega)]
  cases w; cases w'
  simp only [World.drewN, grow] at *
  subst h2 h3 h4
  simp only [hh]
  congr 1
  omega
abbrev Sorted2 {m : Nat} (cf : Fin (m + 1) → Fin (m + 1) → Int) := { O : List (Fin (m + 1)) // O.Perm (List.finRange (m + 1)) ∧ O.Pairwise (fun i j => Go.Proofs.ltOf cf j i = false) }
theorem sort_places [Dr] {P : Program} {ρ : Ren} (Ly : Go.Proofs.SlLaysF.n6 P ρ) {m : Nat} (cf : Fin (m + 1) → Fin (m + 1) → Int) (hO : SWO (Go.Proofs.ltOf cf)) (g : FuncId) (caps : List Value) [eg : Body P g] {w0 w : World} {F : Nat → Prop} {Γ : List Fact} {b c : Nat} {el : TypeId}
    (hm : m < 1000000) (ho : Hold w0 F (.own b el ((List.range (m + 1)).map natV) :: Γ) w)
    (hc : ∀ W : World, (∀ A : Asn, A.holds (fp w0 F (.own b el ((List.range (m + 1)).map natV) :: Γ)) w → A.holds (fp w0 F (.own b el ((List.range (m + 1)).map natV) :: Γ)) W) →
      ∀ x y : Fin (m + 1), @GivesV ⟨True⟩ P g ([natV x.1, natV y.1] ++ caps) W (fp w0 F (.own b el ((List.range (m + 1)).map natV) :: Γ)) (.int .i64 (cf x y))) :
    Calls P (ρ.f 6) ⟨[.slice (some ⟨b, 0, none⟩) (m + 1) c, .func (.func g) ⟨[]⟩ ⟨caps⟩]⟩ w fun x w' => ∃ O : Sorted2 cf, x = .returned (.tuple ⟨[]⟩) ∧ Hold w0 F (.own b el (O.1.map fun i => natV i.1) :: Γ) w' := by
  have hw : w.heap[b]? = some (.cells ((List.range (m + 1)).map natV).toArray el (0, 0)) := ho.sat (.own b el _) (by simp)
  have hlt : b < w.heap.size := (Array.getElem?_eq_some_iff.1 hw).1
  obtain ⟨enc, henc⟩ : ∃ enc : Fin (m + 1) → Value, enc = fun i => natV i.1 := ⟨_, rfl⟩
  obtain ⟨d, hd⟩ : ∃ d : Array (Fin (m + 1)), d = (List.finRange (m + 1)).toArray := ⟨_, rfl⟩
  have hds : d.size = m + 1 := by rw [hd]; simp
  have hdg : ∀ j, j < m + 1 → enc d[j]! = natV j := by
    intro j hj
    rw [henc, hd]
    simp [hj]
  have hH : Holds enc w b 0 d := by
    intro j hj
    rw [hds] at hj
    rw [hdg j hj]
    constructor
    · rw [Nat.zero_add, cell_of_row w b j _ el _ hw]
      simp [hj]
    · simp [World.frozen?, hw]
  have h1 : Go.Proofs.OneCell enc := fun x => by rw [henc]; rfl
  have hcmp : Go.Proofs.CmpLays1 P g ⟨caps⟩ enc cf b 0 d.size w := by
    intro q os dk hdk x y
    have hold : ∀ k, k < w.heap.size → k ≠ b → (Go.Proofs.sortWorld enc w b 0 q dk os).heap[k]? = w.heap[k]? := by
      intro k hk hkb
      unfold Go.Proofs.sortWorld
      rw [heap_grow_old]
      · simp [Go.Sort.putRow, Go.Sort.mapBlock, Array.getElem?_modify, Ne.symm hkb, Go.Sort.ahead]
      · simp [Go.Sort.putRow, Go.Sort.mapBlock, Go.Sort.ahead]; exact hk
    have hx := hc (Go.Proofs.sortWorld enc w b 0 q dk os) (fun A hA => by
      have hA2 := A.within _ _ hA
      refine A.mono _ _ _ (fun k hk => hk.1) (A.frame _ _ _ (fun k hk => ?_) hA2)
      exact hold k hk.2 (fun e => hk.1.2 (.own b el ((List.range (m + 1)).map natV)) (by simp) e)) x y
    have e1 : (#[enc x, enc y] ++ (⟨caps⟩ : Array Value)) = ⟨[natV x.1, natV y.1] ++ caps⟩ := by rw [henc]; apply Array.ext'; simp
    rw [e1]
    refine Calls.mono hx ?_
    rintro e w' ⟨_, he, hb, _⟩
    exact ⟨he, grow_of_bel (dr := ⟨True⟩) trivial hb⟩
  have hs := Go.Proofs.Any.slices_SortFunc Ly enc h1 cf hO g ⟨caps⟩ b 0 c d w eg.ok hcmp hH hlt (by rw [hds]; omega)
  rw [hds] at hs
  refine Calls.mono hs ?_
  rintro x w' ⟨hx, d', q, os, hp, hsrt, rfl⟩
  obtain ⟨hp1, _, hp3⟩ := hp
  have hd's : d'.size = m + 1 := by rw [hp1, hds]
  have hperm : d'.toList.Perm (List.finRange (m + 1)) := by
    have e1 : (d'.extract 0 (m + 1)).toList = d'.toList := by rw [Array.extract_eq_self_of_le (by omega)]
    have e2 : (d.extract 0 (m + 1)).toList = d.toList := by rw [Array.extract_eq_self_of_le (by omega)]
    rw [e1, e2] at hp3
    rw [hd] at hp3
    exact hp3
  have hpair : d'.toList.Pairwise (fun i j => Go.Proofs.ltOf cf j i = false) := by
    rw [List.pairwise_iff_getElem]
    intro i j hi hj hij
    have hi' : i < d'.size := by simpa using hi
    have hj' : j < d'.size := by simpa using hj
    have := hsrt i j (Nat.zero_le _) hij (by omega)
    rw [getElem!_pos d' j hj', getElem!_pos d' i hi'] at this
    simpa using this
  refine ⟨⟨d'.toList, hperm, hpair⟩, hx, ?_⟩
  have hrow : (Go.Sort.putRow enc (Go.Sort.ahead w q) b 0 d').heap[b]? = some (.cells (d'.toList.map fun i => natV i.1).toArray el (0, 0)) := by
    have : (Go.Sort.ahead w q).heap[b]? = some (.cells ((List.range (m + 1)).map natV).toArray el (0, 0)) := hw
    simp only [Go.Sort.putRow, Go.Sort.mapBlock, Array.getElem?_modify, this]
    simp only [if_true, Option.map_some, Go.Sort.onCells]
    congr 2
    apply Array.ext_getElem?
    intro k
    simp only [Go.Sort.putCells, Array.getElem?_mapIdx]
    by_cases hk : k < m + 1
    · have hk' : k < d'.size := by omega
      simp [hk, hk', henc]
    · have hk' : ¬ k < d'.size := by omega
      simp [hk, hk']
  have h2 : Hold w0 F (.own b el (d'.toList.map fun i => natV i.1) :: Γ) (Go.Sort.putRow enc (Go.Sort.ahead w q) b 0 d') :=
    ho.swap (b := b) (fun _ => Iff.rfl) (fun _ => Iff.rfl) rfl rfl rfl (by simp [Go.Sort.putRow, Go.Sort.mapBlock, Go.Sort.ahead])
      (fun k hk => by simp [Go.Sort.putRow, Go.Sort.mapBlock, Array.getElem?_modify, Ne.symm hk, Go.Sort.ahead]) hrow (hdr := Nat.le_add_right _ _)
  exact h2.of_below ⟨rfl, rfl, rfl, by simp [Go.Proofs.sortWorld, grow, Go.Sort.putRow, Go.Sort.mapBlock, Go.Sort.ahead], fun k hk => heap_grow_old _ _ hk, fun _ => Nat.le_refl _⟩
abbrev Order (cf : Nat → Nat → Int) (n : Nat) := { O : List Nat // O.Perm (List.range n) ∧ O.Pairwise (fun i j => ¬ cf j i < 0) }
theorem sort_order [Dr] {P : Program} {ρ : Ren} (Ly : Go.Proofs.SlLaysF.n6 P ρ) (cf : Nat → Nat → Int) (hO : SWO (Go.Proofs.ltOf cf)) (g : FuncId) (caps : List Value) [eg : Body P g] {w0 w : World} {F : Nat → Prop} {Γ : List Fact} {b c n : Nat} {el : TypeId}
    (hm : n ≤ 1000000) (ho : Hold w0 F (.own b el ((List.range n).map natV) :: Γ) w)
    (hc : ∀ W : World, (∀ A : Asn, A.holds (fp w0 F (.own b el ((List.range n).map natV) :: Γ)) w → A.holds (fp w0 F (.own b el ((List.range n).map natV) :: Γ)) W) →
      ∀ x y : Nat, x < n → y < n → @GivesV ⟨True⟩ P g ([natV x, natV y] ++ caps) W (fp w0 F (.own b el ((List.range n).map natV) :: Γ)) (.int .i64 (cf x y))) :
    Calls P (ρ.f 6) ⟨[.slice (some ⟨b, 0, none⟩) n c, .func (.func g) ⟨[]⟩ ⟨caps⟩]⟩ w fun x w' => ∃ O : Order cf n, x = .returned (.tuple ⟨[]⟩) ∧ Hold w0 F (.own b el (O.1.map natV) :: Γ) w' := by
  cases n with
  | zero =>
    refine Calls.mono (Go.Proofs.AnyF.slices_SortFunc_none (P := P) (ρ := ρ) { Ly with } (some ⟨b, 0, none⟩) c _ w) ?_
    rintro x w' ⟨hx, rfl⟩
    exact ⟨⟨[], by simp, by simp⟩, hx, ho⟩
  | succ m =>
    have := sort_places Ly (m := m) (c := c) (fun x y => cf x.1 y.1) ⟨fun x => hO.irrefl x.1, fun x y z h1 h2 => hO.trans x.1 y.1 z.1 h1 h2, fun x y z h1 h2 => hO.ntrans x.1 y.1 z.1 h1 h2⟩ g caps (by omega) ho (fun W hW x y => hc W hW x.1 y.1 x.2 y.2)
    refine Calls.mono this ?_
    rintro x w' ⟨O, hx, hO'⟩
    refine ⟨⟨O.1.map (·.1), ?_, ?_⟩, hx, by rw [List.map_map]; exact hO'⟩
    · have := O.2.1.map (·.1)
      have e : (List.finRange (m + 1)).map (fun x => x.1) = List.range (m + 1) := by
        apply List.ext_getElem
        · simp
        · intro i h1 h2; simp
      rwa [e] at this
    · rw [List.pairwise_map]
      refine O.2.2.imp ?_
      intro i j h
      simpa [Go.Proofs.ltOf] using h
end Ab
end Go.Proofs.YtdgeffphifgflaaGreat
namespace Go.Proofs.YtdgeffphifgflaaGreat
namespace Ab
open Go
def sortInt_ren : Go.Shelf.Ren := ⟨fun | 6 => 69 | 14 => 137 | 15 => 138 | 20 => 189 | 21 => 190 | 22 => 191 | 23 => 192 | 24 => 193 | 25 => 194 | 26 => 195 | 27 => 196 | 28 => 197 | 29 => 198 | 46 => 238 | 47 => 239 | 48 => 240 | 49 => 241 | 50 => 242 | 57 => 258 | n => n, fun | 22 => 45 | 24 => 3 | 25 => 106 | 39 => 166 | 45 => 211 | 46 => 212 | 50 => 119 | 53 => 62 | 55 => 144 | 66 => 237 | 70 => 240 | 76 => 253 | 77 => 254 | n => n, fun | n => n⟩
open Go.Shelf Go.Proofs in
theorem sortInt : SlLaysF.n6 Tryz.prog sortInt_ren where
  mixed := by kernel_rfl
  f6 := ⟨ "slices.SortFunc[[]int,int]", by decide, Tryz.func69.trans (congrArg some (by kernel_rfl))⟩
  f14 := ⟨ "slices.pdqsortCmpFunc[int]", by decide, Tryz.func137.trans (congrArg some (by kernel_rfl))⟩
  f15 := Tryz.func138.trans (congrArg some (by kernel_rfl))
  f20 := ⟨ "slices.insertionSortCmpFunc[int]", by decide, Tryz.func189.trans (congrArg some (by kernel_rfl))⟩
  f21 := ⟨ "slices.heapSortCmpFunc[int]", by decide, Tryz.func190.trans (congrArg some (by kernel_rfl))⟩
  f22 := ⟨ "slices.breakPatternsCmpFunc[int]", by decide, Tryz.func191.trans (congrArg some (by kernel_rfl))⟩
  f23 := ⟨ "slices.choosePivotCmpFunc[int]", by decide, Tryz.func192.trans (congrArg some (by kernel_rfl))⟩
  f24 := ⟨ "slices.reverseRangeCmpFunc[int]", by decide, Tryz.func193.trans (congrArg some (by kernel_rfl))⟩
  f25 := ⟨ "slices.partialInsertionSortCmpFunc[int]", by decide, Tryz.func194.trans (congrArg some (by kernel_rfl))⟩
  f26 := ⟨ "slices.partitionEqualCmpFunc[int]", by decide, Tryz.func195.trans (congrArg some (by kernel_rfl))⟩
  f27 := ⟨ "slices.partitionCmpFunc[int]", by decide, Tryz.func196.trans (congrArg some (by kernel_rfl))⟩
  f28 := Tryz.func197.trans (congrArg some (by kernel_rfl))
  f29 := Tryz.func198.trans (congrArg some (by kernel_rfl))
  f46 := ⟨ "slices.siftDownCmpFunc[int]", by decide, Tryz.func238.trans (congrArg some (by kernel_rfl))⟩
  f47 := Tryz.func239.trans (congrArg some (by kernel_rfl))
  f48 := Tryz.func240.trans (congrArg some (by kernel_rfl))
  f49 := ⟨ "slices.medianAdjacentCmpFunc[int]", by decide, Tryz.func241.trans (congrArg some (by kernel_rfl))⟩
  f50 := ⟨ "slices.medianCmpFunc[int]", by decide, Tryz.func242.trans (congrArg some (by kernel_rfl))⟩
  f57 := ⟨ "slices.order2CmpFunc[int]", by decide, Tryz.func258.trans (congrArg some (by kernel_rfl))⟩
  t0 := Tryz.underlying0
  a0 := Tryz.isAgg0
  z0 := Tryz.sizeOf0
  v0 := Tryz.zeroValue0
  t3 := Tryz.underlying3
  a3 := Tryz.isAgg3
  z3 := Tryz.sizeOf3
  v3 := Tryz.zeroValue3
  t4 := Tryz.underlying4
  a4 := Tryz.isAgg4
  z4 := Tryz.sizeOf4
  v4 := Tryz.zeroValue4
  t5 := Tryz.underlying5
  a5 := Tryz.isAgg5
  z5 := Tryz.sizeOf5
  v5 := Tryz.zeroValue5
  t9 := Tryz.underlying9
  a9 := Tryz.isAgg9
  z9 := Tryz.sizeOf9
  v9 := Tryz.zeroValue9
  t22 := Tryz.underlying45
  a22 := Tryz.isAgg45
  z22 := Tryz.sizeOf45
  v22 := Tryz.zeroValue45
  a24 := Tryz.isAgg3
  z24 := Tryz.sizeOf3
  t25 := Tryz.underlying106
  a25 := Tryz.isAgg106
  z25 := Tryz.sizeOf106
  v25 := Tryz.zeroValue106
  t39 := Tryz.underlying166
  a39 := Tryz.isAgg166
  z39 := Tryz.sizeOf166
  v39 := Tryz.zeroValue166
  t45 := Tryz.underlying211
  a45 := Tryz.isAgg211
  z45 := Tryz.sizeOf211
  v45 := Tryz.zeroValue211
  t46 := Tryz.underlying212
  a46 := Tryz.isAgg212
  z46 := Tryz.sizeOf212
  v46 := Tryz.zeroValue212
  t50 := Tryz.underlying119
  a50 := Tryz.isAgg119
  z50 := Tryz.sizeOf119
  v50 := Tryz.zeroValue119
  t53 := Tryz.underlying62
  a53 := Tryz.isAgg62
  z53 := Tryz.sizeOf62
  v53 := Tryz.zeroValue62
  t55 := Tryz.underlying144
  a55 := Tryz.isAgg144
  z55 := Tryz.sizeOf144
  v55 := Tryz.zeroValue144
  t66 := Tryz.underlying237
  a66 := Tryz.isAgg237
  z66 := Tryz.sizeOf237
  v66 := Tryz.zeroValue237
  t70 := Tryz.underlying240
  a70 := Tryz.isAgg240
  z70 := Tryz.sizeOf240
  v70 := Tryz.zeroValue240
  t76 := Tryz.underlying253
  a76 := Tryz.isAgg253
  z76 := Tryz.sizeOf253
  v76 := Tryz.zeroValue253
  t77 := Tryz.underlying254
  a77 := Tryz.isAgg254
  z77 := Tryz.sizeOf254
  v77 := Tryz.zeroValue254
end Ab
end Go.Proofs.YtdgeffphifgflaaGreat
namespace Go.Proofs.YtdgeffphifgflaaGreat
namespace Ab
open Go Go.RowKit
set_option linter.unusedVariables false
set_option linter.unusedSimpArgs false
set_option synthInstance.maxSize 4000
set_option synthInstance.maxHeartbeats 400000
attribute [local irreducible] JC JO JR JQ andThen inBlock OpV Gives retTo JM JS
attribute [local irreducible] ents hashC graphA
theorem evG_iff {R : List Row} (hb : BuiltR (grOf R)) : evG R = true ↔ ∀ c ∈ nodes (grOf R), ∀ d ∈ nodes (grOf R), evOk (nodes (grOf R)) c d := by
  have hk : ∀ r ∈ R, ∀ x, x ∈ r.1.2 ↔ knows (nodes (grOf R)) (idC r.1.1) x := by
    intro r hr x
    have hg : r.1 ∈ grOf R := List.mem_map.2 ⟨r, hr, rfl⟩
    have h1 := knownBy_of hb.nodup hg
    rw [← h1]
    exact hb.known _ (mem_cids.2 ⟨r.1.1, by rw [nodes_gr]; exact List.mem_map.2 ⟨r, hr, rfl⟩, rfl⟩) x
  have hn : ∀ c, c ∈ nodes (grOf R) ↔ ∃ r ∈ R, r.1.1 = c := fun c => by rw [nodes_gr]; exact List.mem_map
  have key : ∀ r ∈ R, ∀ s ∈ R, evBad r s = false ↔ evOk (nodes (grOf R)) r.1.1 s.1.1 := by
    intro r hr s hs
    unfold evBad evOk
    have := hk r hr (idC s.1.1)
    rw [← this]
    by_cases h1 : idC r.1.1 = idC s.1.1
    · simp [h1]
    by_cases h2 : r.1.1.ev.node = s.1.1.ev.node
    · simp [h1, h2]
    · simp [h2]
  rw [evG, List.all_eq_true]
  simp only [List.all_eq_true, Bool.not_eq_true']
  constructor
  · intro h c hc d hd
    obtain ⟨r, hr, rfl⟩ := (hn c).1 hc
    obtain ⟨s, hs, rfl⟩ := (hn d).1 hd
    exact (key r hr s hs).1 (h r hr s hs)
  · intro h r hr s hs
    exact (key r hr s hs).2 (h _ ((hn _).2 ⟨r, hr, rfl⟩) _ ((hn _).2 ⟨s, hs, rfl⟩))
structure OfR where
  bo : Nat
  bk : Nat
  R : List Row
  I : List ID
  p : Option Addr
  q : Nat
  b : Bool
structure OfOk (L : List Commit) (y : OfR) : Prop where
  iff : y.b = true ↔ Closed L
  len : y.I.length ≤ L.length
  ids : y.b = true → y.I = cids L
  built : y.b = true → Built (grOf y.R)
  perm : y.b = true → (nodes (grOf y.R)).Perm L
  nodup : y.b = true → ∀ r ∈ y.R, r.1.2.Nodup
abbrev OfY (L : List Commit) := { y : OfR // OfOk L y }
abbrev ofV {L : List Commit} (y : OfY L) : Value := .tuple ⟨[.agg ⟨[.map (some y.1.bo), .map (some y.1.bk)]⟩, .slice y.1.p y.1.I.length y.1.q, .bool y.1.b]⟩
abbrev ofB {L : List Commit} (y : OfY L) : List Fact := if y.1.b = true then [.st (rmap y.1.bo (ents idV (ofM y.1.R)) (ofM y.1.R).length), .st (rmap y.1.bk (ents idV (knM y.1.R)) (knM y.1.R).length), .st (graphA y.1.R), .st (sl y.1.p y.1.q y.1.I)] else [.st (sl y.1.p y.1.q y.1.I)]
theorem ofOk_no {L : List Commit} {bo bk q : Nat} {R : List Row} {I : List ID} {p : Option Addr} (h : ¬ Closed L) (hl : I.length ≤ L.length) : OfOk L ⟨bo, bk, R, I, p, q, false⟩ :=
  ⟨⟨fun h => Bool.noConfusion h, fun h' => (h h').elim⟩, hl, fun h => Bool.noConfusion h, fun h => Bool.noConfusion h, fun h => Bool.noConfusion h, fun h => Bool.noConfusion h⟩
def genC (L : List Commit) (i : Nat) : Int := (L.getD i commit0).gen
def byO (L : List Commit) (O : List Nat) : List Commit := O.map fun i => L.getD i commit0
theorem byO_perm {L : List Commit} {O : List Nat} (h : O.Perm (List.range L.length)) : (byO L O).Perm L := by
  have h1 := h.map (fun i => L.getD i commit0)
  have e : (List.range L.length).map (fun i => L.getD i commit0) = L := by
    apply List.ext_getElem
    · simp
    · intro i h1 h2; simp [List.getD_eq_getElem?_getD, h2]
  rwa [e] at h1
theorem cmpI_lt (a b : Int) : cmpI a b < 0 ↔ a < b := by
  unfold cmpI
  split
  · simp [*]
  · split <;> simp [*]
theorem swo_gen (L : List Commit) : Go.Sort.SWO (Go.Proofs.ltOf fun i j => cmpI (genC L i) (genC L j)) := by
  have h : ∀ i j, Go.Proofs.ltOf (fun i j => cmpI (genC L i) (genC L j)) i j = decide (genC L i < genC L j) := fun i j => by
    simp only [Go.Proofs.ltOf, cmpI_lt]
  refine ⟨fun x => ?_, fun x y z => ?_, fun x y z => ?_⟩
  · rw [h]; simp
  · rw [h, h, h]; simp only [decide_eq_true_eq]; omega
  · rw [h, h, h]; simp only [decide_eq_false_iff_not]; omega
theorem sortFunc_gen {w0 w : World} {F : Nat → Prop} {Γ : List Fact} {b c el bl k : Nat} {a : Option Addr} {L : List Commit} (hl : L.length ≤ 1000000)
    (ho : Hold w0 F (.own b el ((List.range L.length).map natV) :: .st (ro bl 0 [.slice a L.length k]) :: .st (sl a k L) :: Γ) w) :
    Calls Tryz.prog 69 ⟨[.slice (some ⟨b, 0, none⟩) L.length c, .func (.func 134) ⟨[]⟩ ⟨[.pointer (some ⟨bl, 0, none⟩)]⟩]⟩ w fun x w' =>
      ∃ O : Order (fun i j => cmpI (genC L i) (genC L j)) L.length, x = .returned (.tuple ⟨[]⟩) ∧ Hold w0 F (.own b el (O.1.map natV) :: .st (ro bl 0 [.slice a L.length k]) :: .st (sl a k L) :: Γ) w' := by
  refine sort_order sortInt _ (swo_gen L) _ _ hl ho (fun W hW x y hx hy => ?_)
  have h1 := hW (sl a k L) (ho.get (A := sl a k L))
  have h2 := hW (ro bl 0 [.slice a L.length k]) (ho.get (A := ro bl 0 [.slice a L.length k]))
  have := @of1_dag ⟨True⟩ W _ a k bl L x y hx hy h1 h2
  simpa [genC, List.getD_eq_getElem?_getD, hx, hy] using this
theorem may_gen {c : Commit} (h : may c = true) : 1 ≤ c.gen ∧ c.gen ≤ 1048576 := by
  unfold may at h
  split at h
  · cases h
  · rename_i hn
    simp only [Bool.or_eq_true, Bool.not_eq_true', not_or, Bool.not_eq_false, inB, Bool.and_eq_true, decide_eq_true_eq] at hn
    exact hn.1.1.1
end Ab
end Go.Proofs.YtdgeffphifgflaaGreat
namespace Go.Proofs.YtdgeffphifgflaaGreat
namespace Ab
open Go Go.RowKit
set_option linter.unusedVariables false
set_option linter.unusedSimpArgs false
set_option synthInstance.maxSize 4000
set_option synthInstance.maxHeartbeats 400000
attribute [local irreducible] JC JO JR JQ andThen inBlock OpV Gives retTo JM JS
attribute [local irreducible] JN
attribute [local irreducible] ents hashC graphA
set_option maxHeartbeats 4000000 in
theorem of_dag (w : World) (F : Nat → Prop) (a : Option Addr) (k : Nat) (L : List Commit) (h : (sl a k L).holds F w) (hl : L.length ≤ 1000000) (hf : ∀ x ∈ L, fine x) :
    Gives Tryz.prog 68 [.slice a L.length k] w F (fun y : OfY L => ofV y) (fun y => ofB y) := by
  refine gives_of Tryz.func68 rfl Tryz.ntmps68 rfl rfl [.st (sl a k L)] (.start1 h) ?_
  repeat (first|refine Wa ?_|refine Wb ?_|refine Wc ?_|refine Wd ?_|refine We rfl ?_|refine Wf (by exact Vb) rfl ?_|(refine Wg rfl ?_; intro _)|(refine Wh rfl ?_; intro _))
  rename_i b1 b2
  refine JR.makeMap idV rfl ?_
  intro bo
  refine We rfl ?_
  refine JR.makeMap idV rfl ?_
  intro bk
  refine We rfl ?_
  refine Wf (OpV.build [.map (some bo), .map (some bk)] (by kernel_rfl)) rfl ?_
  repeat (first|refine Wa ?_|refine Wb ?_|refine Wc ?_|refine Wd ?_|refine We rfl ?_|refine Wf (by exact Vc) rfl ?_|(refine Wg rfl ?_; intro _)|refine Wi ?_)
  rename_i b5
  refine JR.pubOwn b1 ?_
  refine JR.callSl rfl (fun w1 hw => ids_dag w1 _ a k L hw.get (by omega) hf) ?_
  intro p q
  repeat (first|refine Wa ?_|refine Wb ?_|refine Wc ?_|refine Wd ?_|refine We rfl ?_|refine Wf (by first|exact Va|exact Vb|exact Vc|exact Vf|exact Vm) rfl ?_)
  refine JC.test (fun hne => ?_) (fun heq => ?_)
  · have hno : ¬ Closed L := fun hc => hne (by rw [idsP_all hc.may]; simp [cids])
    repeat (first|refine Wa ?_|refine Wb ?_|refine Wc ?_|refine Wd ?_|refine We rfl ?_|refine Wf (by first|exact Vb|exact Vc) rfl ?_|refine Wi ?_|refine Ws ?_|refine Wt ?_)
    exact CT.done (Y := OfY L) ⟨⟨bo, bk, [], [], none, 0, false⟩, ofOk_no hno (Nat.zero_le _)⟩ rfl (fun w ho => (Hold.add (A := sl (α := ID) none 0 []) (ho.ent : Hold _ _ [] w) sl_nil))
  · have hmay : ∀ c ∈ L, may c = true := by
      intro c hc
      rw [← Bool.not_eq_false]
      intro hn
      have h1 : (idsP L).length = L.length := by omega
      rw [idsP_not hc hn, List.length_nil] at h1
      have := List.length_pos_of_mem hc
      omega
    have hids := idsP_all hmay
    have hcl : (cids L).length = L.length := cids_length L
    repeat (first|refine Wa ?_|refine Wb ?_|refine Wc ?_|refine We rfl ?_|refine Wf (by first|exact Vc|exact Vf) rfl ?_|refine Wl ?_)
    refine JR.makeInts rfl rfl (by omega) ?_
    intro bO
    repeat (first|refine Wa ?_|refine Wb ?_|refine Wc ?_|refine Wd ?_|refine We rfl ?_|refine Wf (by first|exact Va|exact Vb|exact Vf) rfl ?_|refine Wn ?_)
    rw [hids]
    refine JC.more (Γ' := .own bO 3 ((List.replicate L.length 0).map natV) :: .own b2 101 [.map none, .map none] :: .own b5 101 [.map (some bo), .map (some bk)] :: .omap bo (ents idV ([] : List (ID × Value))) ([] : List (ID × Value)).length :: .omap bk (ents idV ([] : List (ID × Value))) ([] : List (ID × Value)).length :: .st (graphA []) :: .st (ro b1 0 [.slice a L.length k]) :: .st (sl a k L) :: .st (sl p q (cids L)) :: []) (fun w1 ho => (ho.add (A := graphA []) graph_nil).ent) ?_
    refine JC.loop1 (fun (i : Nat) => [(1, .pointer (some ⟨b1, 0, none⟩)), (2, .pointer (some ⟨b2, 0, none⟩)), (5, .pointer (some ⟨b5, 0, none⟩)), (6, .slice p (cids L).length q), (7, .slice (some ⟨bO, 0, none⟩) L.length L.length), (28, .int .i64 (L.length : Int)), (29, .int .i64 (i : Int))])
      (fun i => .own bO 3 ((List.range i ++ List.replicate (L.length - i) 0).map natV) :: .own b2 101 [.map none, .map none] :: .own b5 101 [.map (some bo), .map (some bk)] :: .omap bo (ents idV ([] : List (ID × Value))) ([] : List (ID × Value)).length :: .omap bk (ents idV ([] : List (ID × Value))) ([] : List (ID × Value)).length :: .st (graphA []) :: .st (ro b1 0 [.slice a L.length k]) :: .st (sl a k L) :: .st (sl p q (cids L)) :: [])
      (fun i => i ≤ L.length) (fun i => L.length - i) 0 (Nat.zero_le _) (by rw [List.range_zero, List.nil_append, Nat.sub_zero]; infer_instance) ?_
    intro i hi
    repeat (first|refine Wa ?_|refine Wb ?_|refine Wc ?_|refine Wd ?_|refine We rfl ?_|refine Wf (by exact Vg) rfl ?_)
    refine JC.test (fun hlt => ?_) (fun hge => ?_)
    · have hlt' : i < L.length := by omega
      have e : (List.range i ++ List.replicate (L.length - i) 0).set i i = List.range (i + 1) ++ List.replicate (L.length - (i + 1)) 0 := by
        obtain ⟨m, hm⟩ : ∃ m, L.length - i = m + 1 := ⟨L.length - i - 1, by omega⟩
        rw [hm, List.replicate_succ, List.set_append_right _ _ (by simp), List.length_range, Nat.sub_self, List.set_cons_zero, List.range_succ, List.append_assoc, show L.length - (i + 1) = m by omega]
        rfl
      repeat (first|refine Wa ?_|refine Wb ?_|refine Wc ?_|refine Wd ?_|refine We rfl ?_|refine Wf (by first|exact Va|exact Vb) rfl ?_|refine Wl ?_|refine Wn ?_)
      refine Wf (OpV.indexBuf (k := i) hlt') rfl ?_
      refine We rfl ?_
      refine JR.setW (f := natV) i i (by simp; omega) (by omega) rfl ?_
      rw [e]
      repeat (first|refine Wa ?_|refine Wc ?_|refine Wd ?_|refine We rfl ?_|refine Wf (by first|exact Va|exact Vk (by omega)) rfl ?_|refine Wr ?_)
      exact ⟨i + 1, by omega, by omega, inferInstance⟩
    obtain rfl : i = L.length := by omega
    rw [show List.range L.length ++ List.replicate (L.length - L.length) 0 = List.range L.length by simp]
    repeat (first|refine Wa ?_|refine Wb ?_|refine Wc ?_|refine We rfl ?_|refine Wf (by first|exact Va|exact Vr) rfl ?_|refine Wm ?_|refine Wo ?_|refine Wp ?_)
    refine JR.callW (v := fun _ : Order (fun i j => cmpI (genC L i) (genC L j)) L.length => .tuple ⟨[]⟩) rfl (fun w1 hw => sortFunc_gen (el := 3) (a := a) (k := k) (bl := b1) (Γ := .own b2 101 [.map none, .map none] :: .own b5 101 [.map (some bo), .map (some bk)] :: .omap bo (ents idV ([] : List (ID × Value))) ([] : List (ID × Value)).length :: .omap bk (ents idV ([] : List (ID × Value))) ([] : List (ID × Value)).length :: .st (graphA []) :: .st (sl p q (cids L)) :: []) hl hw.ent) ?_
    rintro ⟨O, hO1, hO2⟩
    dsimp only
    have hOl : O.length = L.length := by rw [hO1.length_eq, List.length_range]
    obtain ⟨Lo, hLo⟩ : ∃ Lo, Lo = byO L O := ⟨_, rfl⟩
    have hLp : Lo.Perm L := hLo ▸ byO_perm hO1
    have hLl : Lo.length = L.length := hLp.length_eq
    have hLs : Lo.Pairwise (fun c d => c.gen ≤ d.gen) := by
      rw [hLo, byO, List.pairwise_map]
      refine hO2.imp ?_
      intro i j hij
      rw [cmpI_lt] at hij
      simp only [genC] at hij
      omega
    repeat (first|refine Wa ?_|refine Wb ?_|refine Wc ?_|refine Wd ?_|refine We rfl ?_|refine Wf (by first|exact Va|exact Vf) rfl ?_|refine Wn ?_)
    refine JC.loop2 (fun (i : Nat) (R : List Row) => [(1, .pointer (some ⟨b1, 0, none⟩)), (2, .pointer (some ⟨b2, 0, none⟩)), (5, .pointer (some ⟨b5, 0, none⟩)), (6, .slice p (cids L).length q), (40, .slice (some ⟨bO, 0, none⟩) L.length L.length), (41, .int .i64 (L.length : Int)), (42, .int .i64 (i : Int))])
      (fun i R => .own bO 3 (O.map natV) :: .own b2 101 [.map none, .map none] :: .own b5 101 [.map (some bo), .map (some bk)] :: .omap bo (ents idV (ofM R)) (ofM R).length :: .omap bk (ents idV (knM R)) (knM R).length :: .st (graphA R) :: .st (ro b1 0 [.slice a L.length k]) :: .st (sl a k L) :: .st (sl p q (cids L)) :: [])
      (fun i R => i ≤ L.length ∧ Built (grOf R) ∧ nodes (grOf R) = Lo.take i ∧ ∀ r ∈ R, r.1.2.Nodup) (fun i _ => L.length - i) 0 [] ⟨Nat.zero_le _, .nil, rfl, by simp⟩ (by rw [show ofM [] = [] from rfl, show knM [] = [] from rfl]; infer_instance) ?_
    intro i R ⟨hi, hB, hnd, hS⟩
    have hR := hB.right
    have hgen : ∀ r ∈ R, 0 ≤ r.1.1.gen ∧ r.1.1.gen ≤ 1048576 := fun r hr => by
      have h1 : r.1.1 ∈ nodes (grOf R) := by rw [nodes_gr]; exact List.mem_map.2 ⟨r, hr, rfl⟩
      rw [hnd] at h1
      have h2 := may_gen (hmay _ (hLp.mem_iff.1 (List.mem_of_mem_take h1)))
      omega
    repeat (first|refine Wa ?_|refine Wb ?_|refine Wc ?_|refine Wd ?_|refine We rfl ?_|refine Wf (by exact Vg) rfl ?_)
    refine JC.test (fun hlt => ?_) (fun hge => ?_)
    · have hlt' : i < L.length := by omega
      have hiO : i < O.length := by omega
      obtain ⟨j, hj⟩ : ∃ j, j = O[i] := ⟨_, rfl⟩
      have hjn : j < L.length := by rw [hj]; exact List.mem_range.1 (hO1.mem_iff.1 (List.getElem_mem hiO))
      have hLi : i < Lo.length := by omega
      have hLoi : Lo[i] = L[j] := by
        subst hLo
        simp [byO, ← hj, List.getD_eq_getElem?_getD, hjn]
      have hjm : L[j] ∈ L := List.getElem_mem hjn
      have hxe : (cids L)[j]'(by omega) = idC L[j] := cids_get L j (by omega)
      have hstep : Closed L → idC L[j] ∉ cids (nodes (grOf R)) ∧ merge L[j] = false ∧ addOk (grOf R) L[j] = true ∧ addGen (grOf R) L[j] = true := fun hc => by
        have := (Closed.perm hLp.symm hc).step hLs hB hLi hnd
        rwa [hLoi] at this
      have hkO : ((ofM R).map (·.1)).Nodup := by rw [ofM_keys]; exact hR.nodup
      repeat (first|refine Wa ?_|refine Wb ?_|refine Wc ?_|refine We rfl ?_|refine Wl ?_|refine Wn ?_)
      refine Wf (OpV.indexBuf (k := i) (by omega)) rfl ?_
      refine We rfl ?_
      refine Wf (OpV.getW (f := natV) i (by omega) (by omega) rfl) rfl ?_
      refine JO.reslot 45 (natV j) (by rw [hj]) ?_
      repeat (first|refine Wa ?_|refine Wb ?_|refine Wd ?_|refine We rfl ?_|refine Wf (by exact Vb) rfl ?_)
      refine JC.openID (L := cids L) (.slice p (cids L).length q) j (by omega) ?_
      intro bi oi
      rw [hxe]
      by_cases hd : idC L[j] ∈ cids (nodes (grOf R))
      · have hno : ¬ Closed L := fun hc => (hstep hc).1 hd
        obtain ⟨r, hr, hre, hgo, hgk, hkn⟩ := row_of hR.nodup hd
        refine JC.drawN [.own b5 101 [.map (some bo), .map (some bk)], .omap bo (ents idV (ofM R)) (ofM R).length, .st (elA (.slice p (cids L).length q) j 32 bi oi), .st (ro bi oi (idc (idC L[j])))] mixed ?_
        refine JN.take 0 rfl (by kernel_rfl) rfl Vd rfl rfl ?_
        refine JN.take 1 rfl (by kernel_rfl) rfl Vc rfl rfl ?_
        refine JN.take 2 rfl (by kernel_rfl) rfl Va rfl rfl ?_
        refine JN.take 3 rfl (by kernel_rfl) rfl Va rfl rfl ?_
        refine JN.take 4 rfl (by kernel_rfl) rfl Ve rfl rfl ?_
        refine JN.take 5 rfl (by kernel_rfl) rfl Vc rfl rfl ?_
        refine JN.take 6 rfl (by kernel_rfl) rfl (OpV.lookupOk (M := ofM R) (v := commitV r.1.1 r.2.1 r.2.2.1) (is := true) (idC L[j]) hkO (by rw [hgo]; rfl) (by rw [hgo]; rfl)) rfl rfl ?_
        refine JN.take 7 rfl (by kernel_rfl) rfl Va rfl rfl ?_
        refine JN.take 8 rfl (by kernel_rfl) rfl Vq rfl rfl ?_
        refine JN.take 9 rfl (by kernel_rfl) rfl Vq rfl rfl ?_
        refine JN.op 10 (by kernel_rfl) rfl rfl (Wg rfl (fun b11 => Wd ⟨rfl, inferInstance, ?_⟩))
        refine JN.op 11 (by kernel_rfl) rfl rfl (Wi (Wd ⟨rfl, inferInstance, ?_⟩))
        refine JN.op 12 (by kernel_rfl) rfl rfl (Wf Vb rfl (Wd ⟨rfl, inferInstance, ?_⟩))
        refine JN.nil (by kernel_rfl) ?_
        repeat (first|refine Wa ?_|refine Wb ?_)
        refine JC.quiet mixed (by kernel_rfl) ?_
        repeat (first|refine Wy rfl (by first|exact Va|exact Vc|exact Vi) rfl ?_|refine Wz rfl rfl ?_|refine WB ?_)
        repeat (first|refine Wa ?_|refine Wb ?_|refine Wc ?_|refine Wd ?_|refine We rfl ?_|refine Wf (by first|exact Vb|exact Vc) rfl ?_|refine Wi ?_|refine Wj ?_|refine Ws ?_|refine Wt ?_|refine Wu ?_)
        exact CT.done (Y := OfY L) ⟨⟨bo, bk, [], [], none, 0, false⟩, ofOk_no hno (Nat.zero_le _)⟩ rfl (fun w ho => (Hold.add (A := sl (α := ID) none 0 []) (ho.ent : Hold _ _ [] w) sl_nil))
      · obtain ⟨hgo, hgk⟩ := row_none hd
        refine JC.drawN [.own b5 101 [.map (some bo), .map (some bk)], .omap bo (ents idV (ofM R)) (ofM R).length, .st (elA (.slice p (cids L).length q) j 32 bi oi), .st (ro bi oi (idc (idC L[j])))] mixed ?_
        refine JN.take 0 rfl (by kernel_rfl) rfl Vd rfl rfl ?_
        refine JN.take 1 rfl (by kernel_rfl) rfl Vc rfl rfl ?_
        refine JN.take 2 rfl (by kernel_rfl) rfl Va rfl rfl ?_
        refine JN.take 3 rfl (by kernel_rfl) rfl Va rfl rfl ?_
        refine JN.take 4 rfl (by kernel_rfl) rfl Ve rfl rfl ?_
        refine JN.take 5 rfl (by kernel_rfl) rfl Vc rfl rfl ?_
        refine JN.take 6 rfl (by kernel_rfl) rfl (OpV.lookupOk (M := ofM R) (v := .agg ⟨[.int .i64 0, .int .i64 0, .int .i64 0, .slice none 0 0, .int .i64 0, .string .empty, .string .empty, .int .i64 0]⟩) (is := false) (idC L[j]) hkO (by rw [hgo]; rfl) (by rw [hgo]; rfl)) rfl rfl ?_
        refine JN.take 7 rfl (by kernel_rfl) rfl Va rfl rfl ?_
        refine JN.take 8 rfl (by kernel_rfl) rfl Vq rfl rfl ?_
        refine JN.take 9 rfl (by kernel_rfl) rfl Vq rfl rfl ?_
        refine JN.op 10 (by kernel_rfl) rfl rfl (Wg rfl (fun b11 => Wd ⟨rfl, inferInstance, ?_⟩))
        refine JN.op 11 (by kernel_rfl) rfl rfl (Wi (Wd ⟨rfl, inferInstance, ?_⟩))
        refine JN.op 12 (by kernel_rfl) rfl rfl (Wf Vb rfl (Wd ⟨rfl, inferInstance, ?_⟩))
        refine JN.nil (by kernel_rfl) ?_
        repeat (first|refine Wa ?_|refine Wb ?_)
        refine JC.openCommit (L := L) (.slice a L.length k) j hjn ?_
        intro bc oc pc qc
        have hfx := hf _ hjm
        cases hmer : merge L[j] with
        | true =>
          have hno : ¬ Closed L := fun hc => by have := (hstep hc).2.1; rw [hmer] at this; cases this
          refine JC.quiet mixed (by kernel_rfl) ?_
          repeat (refine Wy rfl (by first|exact Va|exact Vc|exact Ve) rfl ?_)
          refine JQ.call rfl rfl (fun w1 hw => merge_commit w1 _ (L[j]) pc qc hw.get hfx.1) ?_
          refine JQ.reslot 62 (.bool true) (by rw [hmer]) ?_
          repeat (first|refine Wy rfl (by first|exact Va|exact Vc|exact Vi|exact Vj) rfl ?_|refine Wz rfl rfl ?_|refine WB ?_)
          repeat (first|refine Wa ?_|refine Wb ?_|refine Wc ?_|refine Wd ?_|refine We rfl ?_|refine Wf (by first|exact Vb|exact Vc) rfl ?_|refine Wi ?_|refine Wj ?_|refine Ws ?_|refine Wt ?_|refine Wu ?_)
          exact CT.done (Y := OfY L) ⟨⟨bo, bk, [], [], none, 0, false⟩, ofOk_no hno (Nat.zero_le _)⟩ rfl (fun w ho => (Hold.add (A := sl (α := ID) none 0 []) (ho.ent : Hold _ _ [] w) sl_nil))
        | false =>
          refine JC.draw 18 mixed ?_
          refine JM.take 0 rfl (by kernel_rfl) rfl Va rfl rfl ?_
          refine JM.take 1 rfl (by kernel_rfl) rfl Va rfl rfl ?_
          refine JM.take 2 rfl (by kernel_rfl) rfl Vc rfl rfl ?_
          refine JM.take 3 rfl (by kernel_rfl) rfl Va rfl rfl ?_
          refine JM.take 4 rfl (by kernel_rfl) rfl Ve rfl rfl ?_
          refine JM.take 5 rfl (by kernel_rfl) rfl Vc rfl rfl ?_
          refine JM.takeCall 6 rfl (by kernel_rfl) rfl (fun w1 hw => merge_commit w1 _ (L[j]) pc qc hw.get hfx.1) rfl rfl ?_
          refine JM.reslot 62 (.bool false) (by rw [hmer]) ?_
          refine JM.take 7 rfl (by kernel_rfl) rfl Vj rfl rfl ?_
          refine JM.take 8 rfl (by kernel_rfl) rfl Va rfl rfl ?_
          refine JM.take 9 rfl (by kernel_rfl) rfl Vc rfl rfl ?_
          refine JM.take 10 rfl (by kernel_rfl) rfl Va rfl rfl ?_
          refine JM.take 11 rfl (by kernel_rfl) rfl Va rfl rfl ?_
          refine JM.take 12 rfl (by kernel_rfl) rfl Ve rfl rfl ?_
          refine JM.take 13 rfl (by kernel_rfl) rfl Vc rfl rfl ?_
          refine JM.take 14 rfl (by kernel_rfl) rfl Vc rfl rfl ?_
          refine JM.take 15 rfl (by kernel_rfl) rfl Va rfl rfl ?_
          refine JM.take 16 rfl (by kernel_rfl) rfl Ve rfl rfl ?_
          refine JM.take 17 rfl (by kernel_rfl) rfl Vc rfl rfl ?_
          refine JM.last 18 (by kernel_rfl) rfl rfl rfl (JR.callW (v := fun y : AddY R L[j] => .bool y.1.2.2) rfl (fun w1 hw => add_graph (a := pc) (k := qc) (Γ := .own bO 3 (O.map natV) :: .own b2 101 [.map none, .map none] :: .own b5 101 [.map (some bo), .map (some bk)] :: .st (ro b1 0 [.slice a L.length k]) :: .st (sl a k L) :: .st (sl p q (cids L)) :: []) hR.nodup hS hd hgen hw.ent) (fun y => ?_))
          rcases y with ⟨⟨S, ba, ok⟩, hy1, hy2⟩
          dsimp only at hy1 hy2 ⊢
          cases ok with
          | false =>
            have hno : ¬ Closed L := fun hc => by
              have := hstep hc
              rw [this.2.2.1, this.2.2.2] at hy1; cases hy1
            rw [if_neg (by simp)]
            refine Wd ⟨rfl, ?_⟩
            refine JM.last 19 (by kernel_rfl) rfl rfl rfl (Wf Vh rfl (Wd ⟨rfl, ?_⟩))
            refine JM.last 20 (by kernel_rfl) rfl rfl rfl (Wf Vj rfl (Wd ⟨rfl, ?_⟩))
            refine JM.nil (by kernel_rfl) ?_
            repeat (first|refine Wa ?_|refine Wb ?_|refine Wc ?_|refine Wd ?_|refine We rfl ?_|refine Wf (by first|exact Vb|exact Vc) rfl ?_|refine Wi ?_|refine Wj ?_|refine Ws ?_|refine Wt ?_|refine Wu ?_)
            exact CT.done (Y := OfY L) ⟨⟨bo, bk, [], [], none, 0, false⟩, ofOk_no hno (Nat.zero_le _)⟩ rfl (fun w ho => (Hold.add (A := sl (α := ID) none 0 []) (ho.ent : Hold _ _ [] w) sl_nil))
          | true =>
            obtain ⟨hSn, hSk⟩ := hy2 rfl
            have hy1' := hy1.symm
            rw [Bool.and_eq_true] at hy1'
            rw [if_pos rfl]
            refine Wd ⟨rfl, ?_⟩
            refine JM.last 19 (by kernel_rfl) rfl rfl rfl (Wf Vh rfl (Wd ⟨rfl, ?_⟩))
            refine JM.last 20 (by kernel_rfl) rfl rfl rfl (Wf Vj rfl (Wd ⟨rfl, ?_⟩))
            refine JM.nil (by kernel_rfl) ?_
            repeat (first|refine Wa ?_|refine Wc ?_|refine Wd ?_|refine We rfl ?_|refine Wf (by first|exact Va|exact Vk (by omega)) rfl ?_|refine Wk ?_|refine Wl ?_|refine Wr ?_)
            refine ⟨i + 1, R ++ [((L[j], S), (pc, qc, ba))], ⟨by omega, ?_, ?_, fun r hr => ?_⟩, by omega, inferInstance⟩
            · rw [grOf_snoc]; exact .snoc hB hd hmer hy1'.1 hy1'.2 hSk
            · rw [grOf_snoc, nodes_snoc, hnd, List.take_succ_eq_append_getElem hLi, hLoi]
            · rcases List.mem_append.1 hr with hr | hr
              · exact hS r hr
              · simp only [List.mem_singleton] at hr; subst hr; exact hSn
    · obtain rfl : i = L.length := by omega
      rw [List.take_of_length_le (by omega)] at hnd
      have hfin : Closed L ↔ evG R = true := by
        rw [evG_iff hR]
        constructor
        · intro hc c hcm d hdm
          rw [hnd] at hcm hdm ⊢
          exact (Closed.perm hLp.symm hc).ev c hcm d hdm
        · intro he
          have := hB.closed (fun c hc => hmay c (by rw [hnd] at hc; exact hLp.mem_iff.1 hc)) he
          rw [hnd] at this
          exact Closed.perm hLp this
      refine JC.more (Γ' := .st (rmap bo (ents idV (ofM R)) (ofM R).length) :: .st (rmap bk (ents idV (knM R)) (knM R).length) :: .st (graphA R) :: .own b2 101 [.map none, .map none] :: .own b5 101 [.map (some bo), .map (some bk)] :: .st (ro b1 0 [.slice a L.length k]) :: .st (sl a k L) :: .st (sl p q (cids L)) :: []) (fun w1 ho => ?_) ?_
      · have h1 : Hold _ _ (.omap bo (ents idV (ofM R)) (ofM R).length :: .omap bk (ents idV (knM R)) (knM R).length :: .st (graphA R) :: .own b2 101 [.map none, .map none] :: .own b5 101 [.map (some bo), .map (some bk)] :: .st (ro b1 0 [.slice a L.length k]) :: .st (sl a k L) :: .st (sl p q (cids L)) :: []) w1 := ho.ent
        have h2 : Hold _ _ (.omap bk (ents idV (knM R)) (knM R).length :: .st (rmap bo (ents idV (ofM R)) (ofM R).length) :: .st (graphA R) :: .own b2 101 [.map none, .map none] :: .own b5 101 [.map (some bo), .map (some bk)] :: .st (ro b1 0 [.slice a L.length k]) :: .st (sl a k L) :: .st (sl p q (cids L)) :: []) w1 := (h1.pubMap).ent
        exact (h2.pubMap).ent
      repeat (first|refine Wa ?_|refine Wb ?_|refine Wm ?_|refine Wo ?_|refine Wp ?_)
      refine JC.drawN [.own b5 101 [.map (some bo), .map (some bk)]] mixed ?_
      refine JN.take 0 rfl (by kernel_rfl) rfl Vc rfl rfl ?_
      refine JN.take 1 rfl (by kernel_rfl) rfl Va rfl rfl ?_
      refine JN.take 2 rfl (by kernel_rfl) rfl Vc rfl rfl ?_
      refine JN.op 3 (by kernel_rfl) rfl rfl (JR.callV rfl (fun w1 hw => events_graph w1 _ bo bk R hR.nodup hS hw.get hw.get hw.get) (Wd ⟨rfl, inferInstance, ?_⟩))
      refine JN.op 4 (by kernel_rfl) rfl rfl (Wi (Wd ⟨rfl, inferInstance, ?_⟩))
      refine JN.op 5 (by kernel_rfl) rfl rfl (Wf Vb rfl (Wd ⟨rfl, inferInstance, ?_⟩))
      refine JN.op 6 (by kernel_rfl) rfl rfl (Wf Vb rfl (Wd ⟨rfl, inferInstance, ?_⟩))
      refine JN.nil (by kernel_rfl) ?_
      repeat (first|refine Wa ?_|refine Ws ?_)
      refine CT.done (Y := OfY L) ⟨⟨bo, bk, R, cids L, p, q, evG R⟩, ⟨hfin.symm, by show (cids L).length ≤ _; omega, fun _ => rfl, fun _ => hB, fun _ => by rw [hnd]; exact hLp, fun _ => hS⟩⟩ rfl (fun w ho => ?_)
      by_cases hev : evG R = true
      · rw [ofB, if_pos hev]; exact ho.ent
      · rw [ofB, if_neg hev]; exact ho.ent
end Ab
end Go.Proofs.YtdgeffphifgflaaGreat
namespace Go.Proofs.YtdgeffphifgflaaGreat
namespace Ab
open Go Go.RowKit
set_option linter.unusedVariables false
set_option linter.unusedSimpArgs false
set_option synthInstance.maxSize 4000
set_option synthInstance.maxHeartbeats 400000
attribute [local irreducible] JC JO JR JQ andThen inBlock OpV Gives retTo JM JS
attribute [local irreducible] ents hashC graphA
theorem of_true {L : List Commit} {bo bk q : Nat} {R : List Row} {I : List ID} {p : Option Addr} (hy : OfOk L ⟨bo, bk, R, I, p, q, true⟩) :
    ofB (L := L) ⟨⟨bo, bk, R, I, p, q, true⟩, hy⟩ = [.st (rmap bo (ents idV (ofM R)) (ofM R).length), .st (rmap bk (ents idV (knM R)) (knM R).length), .st (graphA R), .st (sl p q I)] := if_pos rfl
theorem of_false {L : List Commit} {bo bk q : Nat} {R : List Row} {I : List ID} {p : Option Addr} (hy : OfOk L ⟨bo, bk, R, I, p, q, false⟩) :
    ofB (L := L) ⟨⟨bo, bk, R, I, p, q, false⟩, hy⟩ = [.st (sl p q I)] := if_neg (by simp)
abbrev IsClosed (L : List Commit) := { b : Bool // b = true ↔ Closed L }
theorem closed_dag (w : World) (F : Nat → Prop) (a : Option Addr) (k : Nat) (L : List Commit) (h : (sl a k L).holds F w) (hl : L.length ≤ 1000000) (hf : ∀ x ∈ L, fine x) :
    Gives Tryz.prog 25 [.slice a L.length k] w F (fun y : IsClosed L => .bool y.1) (fun _ => []) := by
  refine gives_of Tryz.func25 rfl Tryz.ntmps25 rfl rfl [.st (sl a k L)] (.start1 h) ?_
  repeat (first|refine Wa ?_|refine Wb ?_|refine Wc ?_|refine Wd ?_|refine We rfl ?_|refine Wf (by first|exact Va|exact Vb) rfl ?_)
  refine JR.call (v := fun y : OfY L => ofV y) rfl (fun w1 hw => of_dag w1 _ a k L hw.get hl hf) ?_
  rintro ⟨⟨bo, bk, R, I, p, q, b⟩, hy⟩
  dsimp only [ofV]
  refine JO.more (Γ' := []) (fun w1 ho => ho.ent) ?_
  repeat (first|refine Wa ?_|refine Wb ?_|refine Wc ?_|refine Wd ?_|refine We rfl ?_|refine Wf (by first|exact Va|exact Vb|exact Vq) rfl ?_|(refine Wg rfl ?_; intro _)|refine Wi ?_|refine Ws ?_)
  exact CT.done (Y := IsClosed L) ⟨b, hy.iff⟩ rfl (fun w ho => ho.ent)
theorem nodup_len {α : Type} [DecidableEq α] : ∀ (S L : List α), S.Nodup → (∀ x ∈ S, x ∈ L) → S.length ≤ L.length
  | [], _, _, _ => Nat.zero_le _
  | x :: S, L, h, hs => by
    have h1 := List.nodup_cons.1 h
    have := nodup_len S (L.erase x) h1.2 (fun y hy => (List.mem_erase_of_ne (by intro e; subst e; exact h1.1 hy)).2 (hs y (by simp [hy])))
    have h2 := List.length_erase_of_mem (hs x (by simp))
    have h3 := List.length_pos_of_mem (hs x (by simp))
    simp only [List.length_cons]; omega
def inAnc (L : List Commit) (A : List ID) (x : ID) : Prop := x ∈ cids L ∧ (x ∈ A ∨ ∃ y ∈ A, knows L y x)
structure AncR (L : List Commit) (A M : List ID) : Prop where
  sorted : M.Pairwise (fun x y => idLt y x = false)
  nodup : M.Nodup
  mem : Closed L → ∀ x, x ∈ M ↔ inAnc L A x
  not : ¬ Closed L → M = []
theorem AncR.unique {L : List Commit} {A M N : List ID} (h : AncR L A M) (k : AncR L A N) : M = N := by
  by_cases hc : Closed L
  · exact sorted_unique ((List.perm_ext_iff_of_nodup h.nodup k.nodup).2 fun x => (h.mem hc x).trans (k.mem hc x).symm) h.sorted k.sorted
  · rw [h.not hc, k.not hc]
abbrev AncY (L : List Commit) (A : List ID) := { y : List ID × Option Addr × Nat // AncR L A y.1 }
set_option maxHeartbeats 2000000 in
theorem anc_dag (w : World) (F : Nat → Prop) (a d : Option Addr) (k m : Nat) (L : List Commit) (A : List ID) (h : (sl a k L).holds F w) (h' : (sl d m A).holds F w) (hl : L.length ≤ 1000) (hA : A.length ≤ 1000) (hf : ∀ x ∈ L, fine x) :
    Gives Tryz.prog 45 [.slice a L.length k, .slice d A.length m] w F (fun y : AncY L A => .slice y.1.2.1 y.1.1.length y.1.2.2) (fun y => [.st (sl y.1.2.1 y.1.2.2 y.1.1)]) := by
  refine gives_of Tryz.func45 rfl Tryz.ntmps45 rfl rfl [.st (sl a k L), .st (sl d m A)] (.start2 h h') ?_
  repeat (first|refine Wa ?_|refine Wb ?_|refine Wc ?_|refine Wd ?_|refine We rfl ?_|refine Wf (by first|exact Va|exact Vb) rfl ?_)
  refine JR.call (v := fun y : OfY L => ofV y) rfl (fun w1 hw => of_dag w1 _ a k L hw.get (by omega) hf) ?_
  rintro ⟨⟨bo, bk, R, I, p, q, b⟩, hy⟩
  dsimp only [ofV]
  cases b with
  | false =>
    have hno : ¬ Closed L := fun hc => by have := hy.iff.2 hc; cases this
    refine JO.more (Γ' := []) (fun w1 ho => ho.ent) ?_
    repeat (first|refine Wa ?_|refine Wb ?_|refine Wc ?_|refine Wd ?_|refine We rfl ?_|refine Wf (by first|exact Va|exact Vb|exact Vh|exact Vq) rfl ?_|(refine Wg rfl ?_; intro _)|refine Wi ?_|refine Wj ?_|refine Ws ?_|refine Wt ?_)
    exact CT.done (Y := AncY L A) ⟨([], none, 0), ⟨List.Pairwise.nil, List.nodup_nil, fun hc => (hno hc).elim, fun _ => rfl⟩⟩ rfl (fun w ho => (Hold.add (A := sl (α := ID) none 0 []) (ho.ent : Hold _ _ [] w) sl_nil))
  | true =>
    have hc := hy.iff.1 rfl
    have hI := hy.ids rfl
    have hB := hy.built rfl
    have hP := hy.perm rfl
    have hS := hy.nodup rfl
    dsimp only at hI hB hP hS
    have hR := hB.right
    have hkO : ((ofM R).map (·.1)).Nodup := by rw [ofM_keys]; exact hR.nodup
    have hkK : ((knM R).map (·.1)).Nodup := by rw [knM_keys]; exact hR.nodup
    have hmem : ∀ x, x ∈ cids (nodes (grOf R)) ↔ x ∈ cids L := fun x => (cids_perm hP).mem_iff
    have hknow : knows (nodes (grOf R)) = knows L := knows_perm hP
    refine JO.more (Γ' := [.st (rmap bo (ents idV (ofM R)) (ofM R).length), .st (rmap bk (ents idV (knM R)) (knM R).length), .st (graphA R), .st (sl a k L), .st (sl d m A)]) (fun w1 ho => by rw [of_true hy] at ho; simp only [List.cons_append, List.nil_append] at ho; exact ho.ent) ?_
    repeat (first|refine Wa ?_|refine Wb ?_|refine Wc ?_|refine Wd ?_|refine We rfl ?_|refine Wf (by first|exact Va|exact Vb|exact Vf|exact Vh|exact Vq) rfl ?_|(refine Wg rfl ?_; intro _)|refine Wi ?_|refine Wk ?_|refine Wl ?_|refine Wn ?_)
    rename_i b5
    refine JC.buf_nil (α := ID) 81 ?_
    refine JC.loop4 (fun (i : Nat) (out : List ID) r s => [(5, .pointer (some ⟨b5, 0, none⟩)), (8, .slice r out.length s), (22, .slice d A.length m), (23, .int .i64 (A.length : Int)), (24, .int .i64 (i : Int))])
      (fun i out r s => [.res (buf r s 81 out), .own b5 101 [.map (some bo), .map (some bk)], .st (rmap bo (ents idV (ofM R)) (ofM R).length), .st (rmap bk (ents idV (knM R)) (knM R).length), .st (graphA R), .st (sl a k L), .st (sl d m A)])
      (fun i out r s => i ≤ A.length ∧ out.length ≤ i * 1001 ∧ ∀ x, x ∈ out ↔ ∃ y ∈ A.take i, y ∈ cids L ∧ (x = y ∨ knows L y x)) (fun i _ _ _ => A.length - i) 0 [] none 0 ⟨Nat.zero_le _, by simp, by simp⟩ inferInstance ?_
    intro i out r s ⟨hi, hol, hom⟩
    repeat (first|refine Wa ?_|refine Wb ?_|refine Wc ?_|refine Wd ?_|refine We rfl ?_|refine Wf (by exact Vg) rfl ?_)
    refine JC.test (fun hlt => ?_) (fun hge => ?_)
    · have hlt' : i < A.length := by omega
      repeat (first|refine Wa ?_|refine Wb ?_|refine Wc ?_|refine We rfl ?_|refine Wl ?_|refine Wn ?_)
      refine JR.indexID rfl hlt' ?_
      intro bi oi
      repeat (first|refine Wa ?_|refine Wb ?_|refine Wc ?_|refine Wd ?_|refine We rfl ?_|refine Wf (by first|exact Vc|exact Vd) rfl ?_|(refine Wg rfl ?_; intro _)|refine Wi ?_)
      by_cases hd : A[i] ∈ cids (nodes (grOf R))
      · obtain ⟨rw_, hr, hre, hgo, hgk, hkn⟩ := row_of hR.nodup hd
        have hSm : ∀ x, x ∈ rw_.1.2 ↔ knows L A[i] x := fun x => by rw [← hkn, hR.known _ hd, hknow]
        have hSl : rw_.1.2.length ≤ 1000 := by
          have := nodup_len rw_.1.2 (cids L) (hS rw_ hr) (fun x hx => (knows_ids ((hSm x).1 hx)).2)
          rw [cids_length] at this; omega
        refine Wf (OpV.lookupOk (M := ofM R) (v := commitV rw_.1.1 rw_.2.1 rw_.2.2.1) (is := true) A[i] hkO (by rw [hgo]; rfl) (by rw [hgo]; rfl)) rfl ?_
        repeat (first|refine Wa ?_|refine Wb ?_|refine Wc ?_|refine Wd ?_|refine We rfl ?_|refine Wf (by first|exact Va|exact Vb|exact Vc|exact Vh|exact Vq) rfl ?_|(refine Wg rfl ?_; intro _)|refine Wi ?_|refine Wk ?_|refine Wl ?_|(refine Ww rfl ⟨rfl, by decide, by decide, by decide⟩ ?_; intro _))
        refine JR.append1 (u := A[i]) rfl (by exact ⟨rfl, rfl, by decide⟩) (by omega) ?_
        intro r2 s2
        repeat (first|refine Wa ?_|refine Wb ?_|refine Wc ?_|refine Wd ?_|refine We rfl ?_|refine Wf (by first|exact Vb|exact Vc|exact Vd) rfl ?_)
        refine Wf (OpV.lookupNo (M := knM R) (v := .map (some rw_.2.2.2)) A[i] hkK (by rw [hgk]; rfl)) rfl ?_
        refine JO.more (fun w1 ho => ho.add (A := rmap rw_.2.2.2 (ents idV (sety rw_.1.2)) rw_.1.2.length) (graph_row (ho.get (A := graphA R)) hr).2) ?_
        refine We rfl ?_
        refine JR.rangeS rfl ?_
        intro ri
        repeat (first|refine Wa ?_|refine Wd ?_|refine Wn ?_)
        refine JC.loop4 (fun (S : List Nat) (o2 : List ID) r3 s3 => [(5, .pointer (some ⟨b5, 0, none⟩)), (8, .slice r3 o2.length s3), (22, .slice d A.length m), (23, .int .i64 (A.length : Int)), (24, .int .i64 (i : Int)), (45, .pointer (some ⟨ri, 0, none⟩))])
          (fun S o2 r3 s3 => [.res (buf r3 s3 81 o2), .obj ri (.mapIter (some rw_.2.2.2) rw_.1.2.length S.toArray rw_.1.2.length), .own b5 101 [.map (some bo), .map (some bk)], .st (rmap rw_.2.2.2 (ents idV (sety rw_.1.2)) rw_.1.2.length), .st (rmap bo (ents idV (ofM R)) (ofM R).length), .st (rmap bk (ents idV (knM R)) (knM R).length), .st (graphA R), .st (sl a k L), .st (sl d m A)])
          (fun S o2 _ _ => S.Nodup ∧ (∀ j ∈ S, j < rw_.1.2.length) ∧ o2.length = out.length + 1 + S.length ∧ ∀ x, x ∈ o2 ↔ x ∈ out ∨ x = A[i] ∨ ∃ j ∈ S, rw_.1.2[j]? = some x)
          (fun S _ _ _ => rw_.1.2.length - S.length) [] (out ++ [A[i]]) r2 s2 ⟨List.nodup_nil, by simp, by simp, by simp⟩ inferInstance ?_
        intro S o2 r3 s3 ⟨hS1, hS2, hlen, hmem2⟩
        have hSl2 : S.length ≤ rw_.1.2.length := nodup_le hS1 hS2
        repeat (first|refine Wb ?_|refine Wc ?_|refine We rfl ?_)
        refine JR.nextS rfl hS2 (fun hall => ?_) (fun j hj hjS => ?_)
        · repeat (first|refine Wa ?_|refine Wb ?_|refine Wc ?_|refine Wd ?_|refine We rfl ?_|refine Wf (by first|exact Va|exact Vk (by omega)|exact Vq) rfl ?_|refine Wk ?_|refine Wm ?_|refine Wo ?_|refine Wp ?_|refine Wr ?_)
          refine ⟨i + 1, o2, r3, s3, ⟨by omega, by omega, fun x => ?_⟩, by omega, inferInstance⟩
          rw [hmem2, hom]
          constructor
          · rintro (⟨y, hy, hx⟩ | rfl | ⟨j, hj, hx⟩)
            · exact ⟨y, (mem_take_succ hlt').2 (.inl hy), hx⟩
            · exact ⟨A[i], (mem_take_succ hlt').2 (.inr rfl), (hmem _).1 hd, .inl rfl⟩
            · exact ⟨A[i], (mem_take_succ hlt').2 (.inr rfl), (hmem _).1 hd, .inr ((hSm x).1 (List.mem_of_getElem? hx))⟩
          · rintro ⟨y, hy, hyc, hx⟩
            rcases (mem_take_succ hlt').1 hy with hy | rfl
            · exact .inl ⟨y, hy, hyc, hx⟩
            · rcases hx with rfl | hx
              · exact .inr (.inl rfl)
              · obtain ⟨j, hj, hjx⟩ := List.getElem_of_mem ((hSm x).2 hx)
                exact .inr (.inr ⟨j, hall j hj, by rw [List.getElem?_eq_getElem hj, hjx]⟩)
        · repeat (first|refine Wa ?_|refine Wb ?_|refine Wc ?_|refine Wd ?_|refine We rfl ?_|refine Wf (by exact Vq) rfl ?_|refine Wj ?_|refine Wl ?_|refine Wn ?_)
          refine Wf (OpV.entryS hj) rfl ?_
          repeat (first|refine Wa ?_|refine Wc ?_|refine Wd ?_|refine We rfl ?_|refine Wf (by first|exact Va|exact Vc|exact Vq) rfl ?_|(refine Wg rfl ?_; intro _)|refine Wi ?_|(refine Ww rfl ⟨rfl, by decide, by decide, by decide⟩ ?_; intro _))
          have hS3 : (S ++ [j]).Nodup := List.nodup_append.2 ⟨hS1, by simp, fun x hx y hy => by simp at hy; subst hy; exact fun e => hjS (e ▸ hx)⟩
          have hS4 : ∀ i ∈ S ++ [j], i < rw_.1.2.length := fun i hi => by
            rcases List.mem_append.1 hi with hi | hi
            · exact hS2 i hi
            · simp at hi; subst hi; exact hj
          have hlt2 := nodup_le hS3 hS4
          refine JR.append1 (u := rw_.1.2[j]) rfl (by exact ⟨rfl, rfl, by decide⟩) (by omega) ?_
          intro r4 s4
          repeat (first|refine Wa ?_|refine Wd ?_|refine We rfl ?_|refine Wf (by exact Vb) rfl ?_|refine Wr ?_)
          refine ⟨S ++ [j], o2 ++ [rw_.1.2[j]], r4, s4, ⟨hS3, hS4, by simp; omega, fun x => ?_⟩, by simp at hlt2 ⊢; omega, inferInstance⟩
          rw [List.mem_append, hmem2, List.mem_singleton]
          constructor
          · rintro ((h | h | ⟨y, hy, hx⟩) | rfl)
            · exact .inl h
            · exact .inr (.inl h)
            · exact .inr (.inr ⟨y, by simp [hy], hx⟩)
            · exact .inr (.inr ⟨j, by simp, List.getElem?_eq_getElem hj⟩)
          · rintro (h | h | ⟨y, hy, hx⟩)
            · exact .inl (.inl h)
            · exact .inl (.inr (.inl h))
            · rcases List.mem_append.1 hy with hy | hy
              · exact .inl (.inr (.inr ⟨y, hy, hx⟩))
              · simp at hy; subst hy
                rw [List.getElem?_eq_getElem hj] at hx
                injection hx with hx
                exact .inr hx.symm
      · obtain ⟨hgo, hgk⟩ := row_none hd
        refine Wf (OpV.lookupOk (M := ofM R) (v := .agg ⟨[.int .i64 0, .int .i64 0, .int .i64 0, .slice none 0 0, .int .i64 0, .string .empty, .string .empty, .int .i64 0]⟩) (is := false) A[i] hkO (by rw [hgo]; rfl) (by rw [hgo]; rfl)) rfl ?_
        repeat (first|refine Wa ?_|refine Wb ?_|refine Wc ?_|refine Wd ?_|refine We rfl ?_|refine Wf (by first|exact Va|exact Vb|exact Vh|exact Vk (by omega)|exact Vq) rfl ?_|(refine Wg rfl ?_; intro _)|refine Wi ?_|refine Wj ?_|refine Wm ?_|refine Wo ?_|refine Wp ?_)
        refine ⟨i + 1, out, r, s, ⟨by omega, Nat.le_trans hol (Nat.mul_le_mul_right 1001 (Nat.le_succ i)), fun x => ?_⟩, by omega, inferInstance⟩
        rw [hom]
        constructor
        · rintro ⟨y, hy, hx⟩; exact ⟨y, (mem_take_succ hlt').2 (.inl hy), hx⟩
        · rintro ⟨y, hy, hyc, hx⟩
          rcases (mem_take_succ hlt').1 hy with hy | rfl
          · exact ⟨y, hy, hyc, hx⟩
          · exact (hd ((hmem _).2 hyc)).elim
    · obtain rfl : i = A.length := by omega
      rw [List.take_length] at hom
      refine JC.more (fun w1 ho => ho.pub) ?_
      repeat (first|refine Wa ?_|refine Wb ?_|refine Wc ?_|refine We rfl ?_|refine Wf (by exact Va) rfl ?_|refine Wm ?_|refine Wo ?_|refine Wp ?_)
      refine JR.callBuf rfl (fun w1 hw => sort_ids w1 _ r s out hw.get (by omega)) ?_
      intro p3 q3
      refine JO.more (fun w1 ho => ho.pub) ?_
      repeat (first|refine Wa ?_|refine Wd ?_|refine We rfl ?_|refine Wf (by exact Vb) rfl ?_|refine Ws ?_)
      refine CT.done (Y := AncY L A) ⟨(sortL (setOf out), p3, q3), ⟨sortL_pairwise _, (sortL_perm' _).nodup_iff.2 (setOf_nodup _), fun _ x => ?_, fun hno => (hno hc).elim⟩⟩ rfl (fun w ho => ho.ent)
      rw [mem_sortL, mem_setOf, hom, inAnc]
      constructor
      · rintro ⟨y, hy, hyc, (rfl | hx)⟩
        · exact ⟨hyc, .inl hy⟩
        · exact ⟨(knows_ids hx).2, .inr ⟨y, hy, hx⟩⟩
      · rintro ⟨hx, (hxA | ⟨y, hy, hk⟩)⟩
        · exact ⟨x, hxA, hx, .inl rfl⟩
        · exact ⟨y, hy, (knows_ids hk).1, .inr hk⟩
structure PartR (L : List Commit) (A : List ID) (M : List Commit) : Prop where
  part : Closed L → M = L.filter (fun c => decide (idC c ∈ A))
  not : ¬ Closed L → M = []
abbrev PartY (L : List Commit) (A : List ID) := { y : List Commit × Option Addr × Nat // PartR L A y.1 }
set_option maxHeartbeats 2000000 in
theorem part_dag (w : World) (F : Nat → Prop) (a d : Option Addr) (k m : Nat) (L : List Commit) (A : List ID) (h : (sl a k L).holds F w) (h' : (sl d m A).holds F w) (hl : L.length ≤ 1000) (hf : ∀ x ∈ L, fine x) :
    Gives Tryz.prog 44 [.slice a L.length k, .slice d A.length m] w F (fun y : PartY L A => .slice y.1.2.1 y.1.1.length y.1.2.2) (fun y => [.st (sl y.1.2.1 y.1.2.2 y.1.1)]) := by
  refine gives_of Tryz.func44 rfl Tryz.ntmps44 rfl rfl [.st (sl a k L), .st (sl d m A)] (.start2 h h') ?_
  repeat (first|refine Wa ?_|refine Wb ?_|refine Wc ?_|refine Wd ?_|refine We rfl ?_|refine Wf (by first|exact Va|exact Vb) rfl ?_)
  refine JR.call (v := fun y : OfY L => ofV y) rfl (fun w1 hw => of_dag w1 _ a k L hw.get (by omega) hf) ?_
  rintro ⟨⟨bo, bk, R, I, p, q, b⟩, hy⟩
  dsimp only [ofV]
  have hIl : I.length ≤ L.length := hy.len
  refine JO.more (Γ' := [.st (sl p q I), .st (sl a k L), .st (sl d m A)]) (fun w1 ho => by
    cases b with
    | false => rw [of_false hy] at ho; simp only [List.cons_append, List.nil_append] at ho; exact ho.ent
    | true => rw [of_true hy] at ho; simp only [List.cons_append, List.nil_append] at ho; exact ho.ent) ?_
  repeat (first|refine Wa ?_|refine Wb ?_|refine Wc ?_|refine Wd ?_|refine We rfl ?_|refine Wf (by first|exact Va|exact Vb|exact Vf|exact Vq) rfl ?_|(refine Wg rfl ?_; intro _)|refine Wi ?_|refine Wn ?_)
  refine JC.buf_nil (α := Commit) 29 ?_
  cases b with
  | false =>
    have hno : ¬ Closed L := fun hc => by have := hy.iff.2 hc; cases this
    refine JC.loop1 (fun (i : Nat) => [(0, .slice a L.length k), (1, .slice d A.length m), (6, .slice p I.length q), (7, .bool false), (8, .slice none 0 0), (17, .int .i64 (I.length : Int)), (18, .int .i64 (i : Int))])
      (fun i => [.st (sl p q I), .st (sl a k L), .st (sl d m A)]) (fun i => i ≤ I.length) (fun i => I.length - i) 0 (Nat.zero_le _) inferInstance ?_
    intro i hi
    repeat (first|refine Wa ?_|refine Wb ?_|refine Wc ?_|refine Wd ?_|refine We rfl ?_|refine Wf (by exact Vg) rfl ?_)
    refine JC.test (fun hlt => ?_) (fun hge => ?_)
    · repeat (first|refine Wa ?_|refine Wb ?_|refine Wc ?_|refine Wd ?_|refine We rfl ?_|refine Wf (by first|exact Va|exact Vb|exact Vj|exact Vk (by omega)) rfl ?_|refine Wk ?_|refine Wl ?_|refine Wn ?_|refine Wr ?_|refine Wv rfl rfl ?_)
      exact ⟨i + 1, by omega, by omega, inferInstance⟩
    · repeat (first|refine Wa ?_|refine Wb ?_|refine Wc ?_|refine Wd ?_|refine We rfl ?_|refine Wf (by first|exact Va|exact Vb) rfl ?_|refine Wm ?_|refine Wo ?_|refine Wp ?_|refine Ws ?_)
      exact CT.done (Y := PartY L A) ⟨([], none, 0), ⟨fun hc => (hno hc).elim, fun _ => rfl⟩⟩ rfl (fun w ho => (Hold.add (A := sl (α := Commit) none 0 []) (ho.ent : Hold _ _ [] w) sl_nil))
  | true =>
    have hc := hy.iff.1 rfl
    have hI : I = cids L := hy.ids rfl
    subst hI
    have hcl : (cids L).length = L.length := cids_length L
    refine JC.loop4 (fun (i : Nat) (out : List Commit) r s => [(0, .slice a L.length k), (1, .slice d A.length m), (6, .slice p (cids L).length q), (7, .bool true), (8, .slice r out.length s), (17, .int .i64 ((cids L).length : Int)), (18, .int .i64 (i : Int))])
      (fun i out r s => [.res (buf r s 29 out), .st (sl p q (cids L)), .st (sl a k L), .st (sl d m A)]) (fun i out _ _ => i ≤ L.length ∧ out.length ≤ i ∧ out = (L.take i).filter (fun c => decide (idC c ∈ A))) (fun i _ _ _ => L.length - i) 0 [] none 0 ⟨Nat.zero_le _, by simp, by simp⟩ inferInstance ?_
    intro i out r s ⟨hi, hol, hout⟩
    repeat (first|refine Wa ?_|refine Wb ?_|refine Wc ?_|refine Wd ?_|refine We rfl ?_|refine Wf (by exact Vg) rfl ?_)
    refine JC.test (fun hlt => ?_) (fun hge => ?_)
    · have hlt' : i < L.length := by omega
      have hxe : (cids L)[i]'(by omega) = idC L[i] := cids_get L i (by omega)
      have hfx := hf _ (List.getElem_mem hlt')
      have hnx : (L.take (i + 1)).filter (fun c => decide (idC c ∈ A)) = out ++ (if idC L[i] ∈ A then [L[i]] else []) := by
        rw [List.take_succ_eq_append_getElem hlt', List.filter_append, ← hout]
        congr 1
        by_cases hA : idC L[i] ∈ A <;> simp [hA]
      repeat (first|refine Wa ?_|refine Wb ?_|refine Wc ?_|refine Wd ?_|refine We rfl ?_|refine Wf (by first|exact Va|exact Vb) rfl ?_|refine Wl ?_|refine Wn ?_)
      refine JR.indexID (L := cids L) rfl (by omega) ?_
      intro bi oi
      rw [hxe]
      repeat (first|refine We rfl ?_|refine Wf (by exact Vc) rfl ?_)
      refine JR.callV rfl (fun w1 hw => has_ids w1 _ d m A (idC L[i]) hw.get) ?_
      repeat (first|refine Wa ?_|refine Wd ?_|refine We rfl ?_|refine Wf (by exact Vi) rfl ?_)
      refine JC.test (fun hA => ?_) (fun hA => ?_)
      · repeat (first|refine Wc ?_|refine We rfl ?_|refine Wf (by exact Va) rfl ?_)
        refine JR.indexCommit rfl hlt' ?_
        intro b1 o1 p1 q1
        repeat (first|refine We rfl ?_|refine Wf (by exact Vc) rfl ?_)
        refine JR.call1 rfl (fun w1 hw => own_dag w1 _ (L[i]) p1 q1 hw.get hfx.2) ?_
        rintro ⟨p2, q2⟩
        dsimp only
        repeat (first|refine We rfl ?_|(refine Ww rfl ⟨rfl, by decide, by decide, by decide⟩ ?_; intro _))
        refine JR.append1 (u := L[i]) rfl (by exact ⟨rfl, rfl, by decide⟩) (by omega) ?_
        intro r2 s2
        repeat (first|refine Wa ?_|refine Wc ?_|refine Wd ?_|refine We rfl ?_|refine Wf (by first|exact Va|exact Vb|exact Vk (by omega)) rfl ?_|refine Wr ?_)
        exact ⟨i + 1, out ++ [L[i]], r2, s2, ⟨by omega, by simp; omega, by rw [hnx, if_pos hA]⟩, by omega, inferInstance⟩
      · repeat (first|refine Wa ?_|refine Wc ?_|refine Wd ?_|refine We rfl ?_|refine Wf (by first|exact Va|exact Vk (by omega)) rfl ?_|refine Wl ?_|refine Wr ?_)
        exact ⟨i + 1, out, r, s, ⟨by omega, by omega, by rw [hnx, if_neg hA, List.append_nil]⟩, by omega, inferInstance⟩
    · obtain rfl : i = L.length := by omega
      rw [List.take_length] at hout
      refine JC.more (fun w1 ho => ho.pub) ?_
      repeat (first|refine Wa ?_|refine Wb ?_|refine Wc ?_|refine Wd ?_|refine We rfl ?_|refine Wf (by first|exact Va|exact Vb) rfl ?_|refine Wm ?_|refine Wo ?_|refine Wp ?_|refine Ws ?_)
      exact CT.done (Y := PartY L A) ⟨(out, r, s), ⟨fun _ => hout, fun hn => (hn hc).elim⟩⟩ rfl (fun w ho => ho.ent)
def leS (c d : Commit) : Prop := c.gen < d.gen ∨ (c.gen = d.gen ∧ idLt (idC d) (idC c) = false)
structure SortedR (L M : List Commit) : Prop where
  perm : Closed L → M.Perm L
  sorted : Closed L → M.Pairwise leS
  not : ¬ Closed L → M = []
theorem sorted_uniqueC {L M N : List Commit} (h : (cids L).Nodup) (h1 : M.Perm L) (h2 : N.Perm L) (h3 : M.Pairwise leS) (h4 : N.Pairwise leS) : M = N := by
  refine List.Perm.eq_of_pairwise (le := leS) (fun c d hc hd h5 h6 => ?_) h3 h4 (h1.trans h2.symm)
  have e : idC c = idC d := by
    rcases h5 with h5 | ⟨h5, h7⟩ <;> rcases h6 with h6 | ⟨h6, h8⟩
    · omega
    · omega
    · omega
    · exact idLt_total h8 h7
  exact id_inj h (h1.mem_iff.1 hc) (h2.mem_iff.1 hd) e
abbrev SortY (L : List Commit) := { y : List Commit × Option Addr × Nat // SortedR L y.1 }
def idAt (L : List Commit) (i : Nat) : ID := idC (L.getD i commit0)
def cfS (L : List Commit) (i j : Nat) : Int := orL [cmpI (genC L i) (genC L j), idCmp (idAt L i) (idAt L j)]
theorem cmpI_zero (a b : Int) : cmpI a b ≠ 0 ↔ a ≠ b := by
  unfold cmpI
  split
  · simp; omega
  · split
    · simp; omega
    · simp; omega
theorem cfS_lt (L : List Commit) (i j : Nat) : cfS L i j < 0 ↔ genC L i < genC L j ∨ (genC L i = genC L j ∧ idLt (idAt L i) (idAt L j) = true) := by
  unfold cfS
  simp only [orL]
  by_cases h : genC L i = genC L j
  · rw [if_neg (by rw [cmpI_zero]; simpa using h)]
    have : (if idCmp (idAt L i) (idAt L j) ≠ 0 then idCmp (idAt L i) (idAt L j) else 0) = idCmp (idAt L i) (idAt L j) := by split <;> simp_all
    rw [this]
    simp [h, idLt]
  · rw [if_pos (by rw [cmpI_zero]; exact h), cmpI_lt]
    simp [h]
theorem swo_sorted (L : List Commit) : Go.Sort.SWO (Go.Proofs.ltOf (cfS L)) := by
  have h : ∀ i j, Go.Proofs.ltOf (cfS L) i j = true ↔ genC L i < genC L j ∨ (genC L i = genC L j ∧ idLt (idAt L i) (idAt L j) = true) := fun i j => by
    simp only [Go.Proofs.ltOf, decide_eq_true_eq, cfS_lt]
  have h' : ∀ i j, Go.Proofs.ltOf (cfS L) i j = false ↔ ¬ (genC L i < genC L j ∨ (genC L i = genC L j ∧ idLt (idAt L i) (idAt L j) = true)) := fun i j => by
    rw [← h]; simp
  refine ⟨fun x => ?_, fun x y z h1 h2 => ?_, fun x y z h1 h2 => ?_⟩
  · rw [h']; simp [idLt_irrefl]
  · rw [h] at h1 h2 ⊢
    rcases h1 with h1 | ⟨h1, h3⟩ <;> rcases h2 with h2 | ⟨h2, h4⟩
    · exact .inl (by omega)
    · exact .inl (by omega)
    · exact .inl (by omega)
    · exact .inr ⟨by omega, idLt_trans h3 h4⟩
  · rw [h'] at h1 h2 ⊢
    rintro (h3 | ⟨h3, h4⟩)
    · have h5 : ¬ genC L x < genC L y := fun h => h1 (.inl h)
      have h6 : ¬ genC L y < genC L z := fun h => h2 (.inl h)
      omega
    · have h5 : ¬ genC L x < genC L y := fun h => h1 (.inl h)
      have h6 : ¬ genC L y < genC L z := fun h => h2 (.inl h)
      have e1 : genC L x = genC L y := by omega
      have e2 : genC L y = genC L z := by omega
      have h7 : idLt (idAt L x) (idAt L y) = false := by rw [← Bool.not_eq_true]; exact fun h => h1 (.inr ⟨e1, h⟩)
      have h8 : idLt (idAt L y) (idAt L z) = false := by rw [← Bool.not_eq_true]; exact fun h => h2 (.inr ⟨e2, h⟩)
      have := idLe_trans h8 h7
      rw [this] at h4; cases h4
theorem sortFunc_sorted {w0 w : World} {F : Nat → Prop} {Γ : List Fact} {b c el bl ba k m : Nat} {a d : Option Addr} {L : List Commit} (hl : L.length ≤ 1000000)
    (ho : Hold w0 F (.own b el ((List.range L.length).map natV) :: .st (ro bl 0 [.slice a L.length k]) :: .st (sl a k L) :: .st (ro ba 0 [.slice d (cids L).length m]) :: .st (sl d m (cids L)) :: Γ) w) :
    Calls Tryz.prog 69 ⟨[.slice (some ⟨b, 0, none⟩) L.length c, .func (.func 70) ⟨[]⟩ ⟨[.pointer (some ⟨bl, 0, none⟩), .pointer (some ⟨ba, 0, none⟩)]⟩]⟩ w fun x w' =>
      ∃ O : Order (cfS L) L.length, x = .returned (.tuple ⟨[]⟩) ∧ Hold w0 F (.own b el (O.1.map natV) :: .st (ro bl 0 [.slice a L.length k]) :: .st (sl a k L) :: .st (ro ba 0 [.slice d (cids L).length m]) :: .st (sl d m (cids L)) :: Γ) w' := by
  refine sort_order sortInt _ (swo_sorted L) _ _ hl ho (fun W hW x y hx hy => ?_)
  have h1 := hW (sl a k L) (ho.get (A := sl a k L))
  have h2 := hW (ro bl 0 [.slice a L.length k]) (ho.get (A := ro bl 0 [.slice a L.length k]))
  have h3 := hW (sl d m (cids L)) (ho.get (A := sl d m (cids L)))
  have h4 := hW (ro ba 0 [.slice d (cids L).length m]) (ho.get (A := ro ba 0 [.slice d (cids L).length m]))
  have hx' : x < (cids L).length := by rw [cids_length]; exact hx
  have hy' : y < (cids L).length := by rw [cids_length]; exact hy
  have := @sorted1_dag ⟨True⟩ W _ a d k m bl ba L (cids L) x y hx hy hx' hy' h1 h2 h3 h4
  rw [cids_get L x hx', cids_get L y hy'] at this
  simpa [cfS, genC, idAt, List.getD_eq_getElem?_getD, hx, hy] using this
set_option maxHeartbeats 2000000 in
theorem sorted_dag (w : World) (F : Nat → Prop) (a : Option Addr) (k : Nat) (L : List Commit) (h : (sl a k L).holds F w) (hl : L.length ≤ 1000) (hf : ∀ x ∈ L, fine x) :
    Gives Tryz.prog 26 [.slice a L.length k] w F (fun y : SortY L => .slice y.1.2.1 y.1.1.length y.1.2.2) (fun y => [.st (sl y.1.2.1 y.1.2.2 y.1.1)]) := by
  refine gives_of Tryz.func26 rfl Tryz.ntmps26 rfl rfl [.st (sl a k L)] (.start1 h) ?_
  repeat (first|refine Wa ?_|refine Wb ?_|refine Wc ?_|refine Wd ?_|refine We rfl ?_|refine Wf (by first|exact Vb|exact Vc) rfl ?_|(refine Wh rfl ?_; intro _))
  rename_i b1
  refine JR.pubOwn b1 ?_
  refine JR.call (v := fun y : OfY L => ofV y) rfl (fun w1 hw => of_dag w1 _ a k L hw.get (by omega) hf) ?_
  rintro ⟨⟨bo, bk, R, I, p, q, b⟩, hy⟩
  dsimp only [ofV]
  refine JO.more (Γ' := [.st (sl p q I), .st (ro b1 0 [.slice a L.length k]), .st (sl a k L)]) (fun w1 ho => by
    cases b with
    | false => rw [of_false hy] at ho; simp only [List.cons_append, List.nil_append] at ho; exact ho.ent
    | true => rw [of_true hy] at ho; simp only [List.cons_append, List.nil_append] at ho; exact ho.ent) ?_
  repeat (first|refine Wa ?_|refine Wb ?_|refine Wc ?_|refine Wd ?_|refine We rfl ?_|refine Wf (by first|exact Va|exact Vb|exact Vh|exact Vq) rfl ?_|(refine Wg rfl ?_; intro _)|refine Wi ?_)
  cases b with
  | false =>
    have hno : ¬ Closed L := fun hc => by have := hy.iff.2 hc; cases this
    repeat (first|refine Wa ?_|refine Wb ?_|refine Wc ?_|refine Wd ?_|refine We rfl ?_|refine Wf (by exact Vb) rfl ?_|refine Wj ?_|refine Ws ?_|refine Wt ?_)
    exact CT.done (Y := SortY L) ⟨([], none, 0), ⟨fun hc => (hno hc).elim, fun hc => (hno hc).elim, fun _ => rfl⟩⟩ rfl (fun w ho => (Hold.add (A := sl (α := Commit) none 0 []) (ho.ent : Hold _ _ [] w) sl_nil))
  | true =>
    have hc := hy.iff.1 rfl
    have hI : I = cids L := hy.ids rfl
    subst hI
    have hcl : (cids L).length = L.length := cids_length L
    repeat (first|refine Wa ?_|refine Wb ?_|refine Wc ?_|refine We rfl ?_|refine Wf (by first|exact Vc|exact Vf) rfl ?_|refine Wk ?_|refine Wl ?_)
    rename_i b3 b4
    refine JR.makeInts rfl rfl (by omega) ?_
    intro bO
    repeat (first|refine Wa ?_|refine Wb ?_|refine Wc ?_|refine Wd ?_|refine We rfl ?_|refine Wf (by first|exact Va|exact Vb|exact Vf) rfl ?_|refine Wn ?_)
    refine JC.pubOwn b4 ?_
    refine JC.loop1 (fun (i : Nat) => [(1, .pointer (some ⟨b1, 0, none⟩)), (4, .pointer (some ⟨b4, 0, none⟩)), (6, .slice (some ⟨bO, 0, none⟩) L.length L.length), (23, .int .i64 (L.length : Int)), (24, .int .i64 (i : Int))])
      (fun i => .own bO 3 ((List.range i ++ List.replicate (L.length - i) 0).map natV) :: .st (ro b1 0 [.slice a L.length k]) :: .st (sl a k L) :: .st (ro b4 0 [.slice p (cids L).length q]) :: .st (sl p q (cids L)) :: [])
      (fun i => i ≤ L.length) (fun i => L.length - i) 0 (Nat.zero_le _) (by rw [List.range_zero, List.nil_append, Nat.sub_zero]; infer_instance) ?_
    intro i hi
    repeat (first|refine Wa ?_|refine Wb ?_|refine Wc ?_|refine Wd ?_|refine We rfl ?_|refine Wf (by exact Vg) rfl ?_)
    refine JC.test (fun hlt => ?_) (fun hge => ?_)
    · have hlt' : i < L.length := by omega
      have e : (List.range i ++ List.replicate (L.length - i) 0).set i i = List.range (i + 1) ++ List.replicate (L.length - (i + 1)) 0 := by
        obtain ⟨m, hm⟩ : ∃ m, L.length - i = m + 1 := ⟨L.length - i - 1, by omega⟩
        rw [hm, List.replicate_succ, List.set_append_right _ _ (by simp), List.length_range, Nat.sub_self, List.set_cons_zero, List.range_succ, List.append_assoc, show L.length - (i + 1) = m by omega]
        rfl
      repeat (first|refine Wa ?_|refine Wb ?_|refine Wc ?_|refine Wd ?_|refine We rfl ?_|refine Wf (by first|exact Va|exact Vb) rfl ?_|refine Wl ?_|refine Wn ?_)
      refine Wf (OpV.indexBuf (k := i) hlt') rfl ?_
      refine We rfl ?_
      refine JR.setW (f := natV) i i (by simp; omega) (by omega) rfl ?_
      rw [e]
      repeat (first|refine Wa ?_|refine Wc ?_|refine Wd ?_|refine We rfl ?_|refine Wf (by first|exact Va|exact Vk (by omega)) rfl ?_|refine Wr ?_)
      exact ⟨i + 1, by omega, by omega, inferInstance⟩
    obtain rfl : i = L.length := by omega
    rw [show List.range L.length ++ List.replicate (L.length - L.length) 0 = List.range L.length by simp]
    repeat (first|refine Wa ?_|refine Wb ?_|refine Wc ?_|refine We rfl ?_|refine Wf (by first|exact Va|exact Vr) rfl ?_|refine Wm ?_|refine Wo ?_|refine Wp ?_)
    refine JR.callW (v := fun _ : Order (cfS L) L.length => .tuple ⟨[]⟩) rfl (fun w1 hw => sortFunc_sorted (el := 3) (a := a) (k := k) (d := p) (m := q) (Γ := []) (by omega) hw.ent) ?_
    rintro ⟨O, hO1, hO2⟩
    dsimp only
    have hOl : O.length = L.length := by rw [hO1.length_eq, List.length_range]
    repeat (first|refine Wa ?_|refine Wb ?_|refine Wc ?_|refine Wd ?_|refine We rfl ?_|refine Wf (by first|exact Va|exact Vb|exact Vf) rfl ?_|refine Wn ?_)
    refine JC.buf_nil (α := Commit) 29 ?_
    refine JC.loop3 (fun (i : Nat) r s => [(1, .pointer (some ⟨b1, 0, none⟩)), (8, .slice r (byO L (O.take i)).length s), (35, .slice (some ⟨bO, 0, none⟩) L.length L.length), (36, .int .i64 (L.length : Int)), (37, .int .i64 (i : Int))])
      (fun i r s => .res (buf r s 29 (byO L (O.take i))) :: .own bO 3 (O.map natV) :: .st (ro b1 0 [.slice a L.length k]) :: .st (sl a k L) :: [])
      (fun i _ _ => i ≤ L.length) (fun i _ _ => L.length - i) 0 none 0 (Nat.zero_le _) (by rw [List.take_zero, show byO L [] = [] from rfl]; infer_instance) ?_
    intro i r s hi
    repeat (first|refine Wa ?_|refine Wb ?_|refine Wc ?_|refine Wd ?_|refine We rfl ?_|refine Wf (by exact Vg) rfl ?_)
    refine JC.test (fun hlt => ?_) (fun hge => ?_)
    · have hlt' : i < L.length := by omega
      have hiO : i < O.length := by omega
      obtain ⟨j, hj⟩ : ∃ j, j = O[i] := ⟨_, rfl⟩
      have hjn : j < L.length := by rw [hj]; exact List.mem_range.1 (hO1.mem_iff.1 (List.getElem_mem hiO))
      have hfx := hf _ (List.getElem_mem hjn)
      have hnx : byO L (O.take (i + 1)) = byO L (O.take i) ++ [L[j]] := by
        rw [List.take_succ_eq_append_getElem hiO, byO, List.map_append, ← hj]
        simp [byO, List.getD_eq_getElem?_getD, hjn]
      have hbl : (byO L (O.take i)).length ≤ i := by simp [byO]; omega
      repeat (first|refine Wa ?_|refine Wb ?_|refine Wc ?_|refine We rfl ?_|refine Wl ?_|refine Wn ?_)
      refine Wf (OpV.indexBuf (k := i) (by omega)) rfl ?_
      refine We rfl ?_
      refine Wf (OpV.getW (f := natV) i (by omega) (by omega) rfl) rfl ?_
      refine JO.reslot 40 (natV j) (by rw [hj]) ?_
      repeat (first|refine Wa ?_|refine Wc ?_|refine Wd ?_|refine We rfl ?_|refine Wf (by first|exact Va|exact Vb|exact Vc) rfl ?_)
      refine JR.indexCommit rfl hjn ?_
      intro bc oc pc qc
      repeat (first|refine We rfl ?_|refine Wf (by exact Vc) rfl ?_)
      refine JR.call1 rfl (fun w1 hw => own_dag w1 _ (L[j]) pc qc hw.get hfx.2) ?_
      rintro ⟨p2, q2⟩
      dsimp only
      repeat (first|refine We rfl ?_|(refine Ww rfl ⟨rfl, by decide, by decide, by decide⟩ ?_; intro _))
      refine JR.append1 (u := L[j]) rfl (by exact ⟨rfl, rfl, by decide⟩) (by omega) ?_
      intro r2 s2
      repeat (first|refine Wa ?_|refine Wc ?_|refine Wd ?_|refine We rfl ?_|refine Wf (by first|exact Va|exact Vb|exact Vk (by omega)) rfl ?_|refine Wr ?_)
      exact ⟨i + 1, r2, s2, by omega, by omega, by rw [hnx]; infer_instance⟩
    · obtain rfl : i = L.length := by omega
      rw [List.take_of_length_le (by omega)]
      refine JC.more (fun w1 ho => ho.pub) ?_
      repeat (first|refine Wa ?_|refine Wb ?_|refine Wc ?_|refine Wd ?_|refine We rfl ?_|refine Wf (by first|exact Va|exact Vb) rfl ?_|refine Wm ?_|refine Wo ?_|refine Wp ?_|refine Ws ?_)
      refine CT.done (Y := SortY L) ⟨(byO L O, r, s), ⟨fun _ => byO_perm hO1, fun _ => ?_, fun hn => (hn hc).elim⟩⟩ rfl (fun w ho => ho.ent)
      rw [byO, List.pairwise_map]
      refine hO2.imp ?_
      intro i j hij
      rw [cfS_lt] at hij
      simp only [leS]
      by_cases h1 : genC L j < genC L i
      · exact (hij (.inl h1)).elim
      · by_cases h2 : genC L i < genC L j
        · exact .inl h2
        · refine .inr ⟨by have : genC L i = genC L j := by omega
                          exact this, ?_⟩
          rw [← Bool.not_eq_true]
          exact fun h => hij (.inr ⟨by omega, h⟩)
end Ab
end Go.Proofs.YtdgeffphifgflaaGreat
namespace Go.Proofs.YtdgeffphifgflaaGreat
namespace Ab
open Go Go.RowKit
set_option linter.unusedVariables false
set_option linter.unusedSimpArgs false
set_option synthInstance.maxSize 4000
set_option synthInstance.maxHeartbeats 400000
attribute [local irreducible] JC JO JR JQ andThen inBlock OpV Gives retTo JM JS
attribute [local irreducible] hashC
def keyA : ByteArray := ⟨#[97]⟩
def l0 : Commit := ⟨⟨0, 1⟩, 1, [], ⟨0, keyA, .empty, 1⟩⟩
def idA : ID := (hashC l0).1
def l1 : Commit := ⟨⟨0, 2⟩, 2, [idA], ⟨0, keyA, .empty, 2⟩⟩
end Ab
end Go.Proofs.YtdgeffphifgflaaGreat
namespace Go.Proofs.YtdgeffphifgflaaGreat
namespace Ab
open Go Go.RowKit
set_option linter.unusedVariables false
set_option linter.unusedSimpArgs false
set_option synthInstance.maxSize 4000
set_option synthInstance.maxHeartbeats 400000
attribute [local irreducible] JC JO JR JQ andThen inBlock OpV Gives retTo JM JS
theorem some_one (x : ID) (M : List ID) (h : x ∉ M) : someIds [x] M false = [x] := by
  simp [someIds, pickIds, setOf, h, addK, sortL]
attribute [local irreducible] hashC idA l0 l1
theorem sl_of_ro {F : Nat → Prop} {w : World} {b : Nat} {x : ID} (h : (ro b 0 (idc x)).holds F w) : (sl (some ⟨b, 0, none⟩) 1 [x]).holds F w := by
  refine ⟨by simp, by simp [maxLen], by simp [lim], fun _ => ⟨b, 0, rfl, h.1, h.2.1, fun i hi => ⟨(), ?_, by simp [Cell.facts]⟩⟩⟩
  have h0 : i = 0 := by simpa using hi
  subst h0
  rw [Nat.zero_mul, Nat.add_zero]
  exact h.2.2
end Ab
end Go.Proofs.YtdgeffphifgflaaGreat
namespace Go.Proofs.YtdgeffphifgflaaGreat
namespace Ab
open Go Go.RowKit
set_option linter.unusedVariables false
set_option linter.unusedSimpArgs false
set_option synthInstance.maxSize 4000
set_option synthInstance.maxHeartbeats 400000
attribute [local irreducible] JC JO JR JQ andThen inBlock OpV Gives retTo JM JS
attribute [local irreducible] hashC
theorem closed_yes (w : World) (F : Nat → Prop) (a : Option Addr) (k : Nat) (L : List Commit) (h : (sl a k L).holds F w) (hl : L.length ≤ 1000000) (hf : ∀ x ∈ L, fine x) (hc : Closed L) :
    GivesV Tryz.prog 25 [.slice a L.length k] w F (.bool true) := by
  have h0 := closed_dag w F a k L h hl hf
  unfold Gives at h0
  unfold GivesV Gives
  refine Calls.mono h0 ?_
  rintro e w' ⟨y, rfl, hb, hB⟩
  exact ⟨(), by dsimp only; rw [y.2.2 hc], hb, hB⟩
theorem closed_no (w : World) (F : Nat → Prop) (a : Option Addr) (k : Nat) (L : List Commit) (h : (sl a k L).holds F w) (hl : L.length ≤ 1000000) (hf : ∀ x ∈ L, fine x) (hc : ¬ Closed L) :
    GivesV Tryz.prog 25 [.slice a L.length k] w F (.bool false) := by
  have h0 := closed_dag w F a k L h hl hf
  unfold Gives at h0
  unfold GivesV Gives
  refine Calls.mono h0 ?_
  rintro e w' ⟨y, rfl, hb, hB⟩
  refine ⟨(), ?_, hb, hB⟩
  have : y.1 = false := by rw [← Bool.not_eq_true]; exact fun h => hc (y.2.1 h)
  dsimp only
  rw [this]
theorem anc_sl (w : World) (F : Nat → Prop) (a d : Option Addr) (k m : Nat) (L : List Commit) (A M : List ID) (h : (sl a k L).holds F w) (h' : (sl d m A).holds F w) (hl : L.length ≤ 1000) (hA : A.length ≤ 1000) (hf : ∀ x ∈ L, fine x) (hM : AncR L A M) :
    GivesSl Tryz.prog 45 [.slice a L.length k, .slice d A.length m] w F M := by
  have h0 := anc_dag w F a d k m L A h h' hl hA hf
  unfold Gives at h0
  unfold GivesSl Gives
  refine Calls.mono h0 ?_
  rintro e w' ⟨⟨⟨N, p, q⟩, hN⟩, rfl, hb, hB⟩
  have : N = M := hN.unique hM
  subst this
  exact ⟨(p, q), rfl, hb, hB⟩
theorem anc_ex (L : List Commit) (A : List ID) : ∃ M, AncR L A M := by
  by_cases hc : Closed L
  · refine ⟨sortL ((cids L).filter fun x => @decide (inAnc L A x) (Classical.propDecidable _)), sortL_pairwise _, (sortL_perm' _).nodup_iff.2 (hc.nodup.sublist List.filter_sublist), fun _ x => ?_, fun h => (h hc).elim⟩
    rw [mem_sortL, List.mem_filter]
    constructor
    · rintro ⟨_, h⟩; exact @of_decide_eq_true _ (Classical.propDecidable _) h
    · intro h; exact ⟨h.1, @decide_eq_true _ (Classical.propDecidable _) h⟩
  · exact ⟨[], List.Pairwise.nil, List.nodup_nil, fun h => (hc h).elim, fun _ => rfl⟩
end Ab
end Go.Proofs.YtdgeffphifgflaaGreat
