/- Lemmas for the walks, part 5 of 6: Few, LawS, LawW, DagK, LawK, LawN, FrP, FrQ, RefA, RefB, RefC, RefD, RefE, RefF, RefG, RefH, RefI, RefJ, RefK, RefL, RefM, RfA, Mat, RfB, RfC, RfD, RfE, RfF, RfG, LawD, FrA, LoadP, Round, RoundX, LoadI, Load, Trip, StA, FrB, NdP, Lent, BrA, BrB, BrC, BrD, BrE, BrF, Poke, GsA, GsP, Peer, GsB, GsC, GsD, GsE, BrG. -/
import Derived.Test.YtdgeffphifgflaaGreatSi4
import Derived.Test.YtdgeffphifgflaaGreatSi2
import Derived.Test.YtdgeffphifgflaaGreatSi3
import Derived.RangeFuncLeaves
import Derived.RangeFuncCalls
import Derived.RangeFuncRecord
import Derived.RangeFuncSeq
import Derived.ControlIn
import Derived.Test.YtdgeffphifgflaaGreatSi1
import Derived.RangeFuncIn
namespace Go.Proofs.YtdgeffphifgflaaGreat
namespace Ab
open Go Go.RowKit
set_option linter.unusedVariables false
set_option linter.unusedSimpArgs false
set_option synthInstance.maxSize 4000
set_option synthInstance.maxHeartbeats 400000
attribute [local irreducible] JC JO JR JQ andThen inBlock OpV Gives retTo JM JS
attribute [local irreducible] hashC
theorem ready_to (w : World) (F : Nat → Prop) (a b : Option Addr) (k m : Nat) (L : List Commit) (H : List ID) (rc : Commit) (rl : List Commit) (rb : Bool) (hR : waitReady L H = (rc, rl, rb)) (h : (sl a k L).holds F w) (h' : (sl b m H).holds F w) (hl : L.length < 34359738368) (hf : ∀ x ∈ L, fine x) :
    Gives Tryz.prog 205 [.slice a L.length k, .slice b H.length m] w F
      (fun y : (Option Addr × Nat) × (Option Addr × Nat) => .tuple ⟨[commitV rc y.1.1 y.1.2, .slice y.2.1 rl.length y.2.2, .bool rb]⟩)
      (fun y => [.st (sl y.1.1 y.1.2 rc.parents), .st (sl y.2.1 y.2.2 rl)]) := by
  have := ready_wait w F a b k m L H h h' hl hf
  rw [hR] at this
  exact this
theorem fine_few {c : Commit} (h : fewC c = true) : fine c := by
  simp only [fewC, Bool.and_eq_true, decide_eq_true_eq] at h
  exact ⟨⟨by omega, by omega⟩, by omega⟩
theorem few_fine {L : List Commit} {m : Nat} (h : fewL L m = true) : L.length ≤ m ∧ ∀ x ∈ L, fine x := by
  simp only [fewL, Bool.and_eq_true, decide_eq_true_eq, List.all_eq_true] at h
  exact ⟨h.1, fun x hx => fine_few (h.2 x hx)⟩
instance : Cell (List ID) where
  Ix := Option Addr × Nat
  sz := 1
  cells l y := [.slice y.1 l.length y.2]
  facts l y := [sl y.1 y.2 l]
  len _ _ := rfl
  one l y := by simp [Value.oneCell']
  pos := by decide
section
variable {P : Program} {n : Nn} {w0 : World} {F : Nat → Prop} {ops : Array Oper} {i d : Nat} {t : TypeId} {pos : String} {aft : Array Edge} {g : Option (Nat × Bool)} {os : List Oper} {Q : Cont} {e : E} {Γ : List Fact} [Dr]
end
theorem common_ids (w : World) (F : Nat → Prop) (a b : Option Addr) (c k : Nat) (A B : List ID) (h : (sl a c A).holds F w) (h' : (sl b k B).holds F w) (hA : A.length ≤ 10000) :
    GivesBuf Tryz.prog 53 [.slice a A.length c, .slice b B.length k] w F 81 (someIds A B true) := by
  refine gives_of Tryz.func53 rfl Tryz.ntmps53 rfl rfl [.st (sl a c A), .st (sl b k B)] (.start2 h h') ?_
  repeat (first|refine Wa ?_|refine Wb ?_|refine Wc ?_|refine Wd ?_|refine We rfl ?_|refine Wf (by first|exact Va|exact Vb|exact Vc|exact Vd|exact Ve|exact Vf|exact Vg|exact Vh|exact Vi|exact Vj|exact Vk (by omega)|exact Vl|exact Vm|exact Vn|exact Vo|exact Vp|exact Vq|exact Vr|exact Vs (by omega)|exact Vt (by omega)|exact Vu (by omega)|exact Vv (by omega)|exact Vw|exact Vx|exact Vy|exact Vz|exact VA|exact VB|exact VC|exact VD|exact VE|exact VF) rfl ?_|(refine Wg rfl ?_; intro _)|(refine Wh rfl ?_; intro _)|refine Wi ?_|refine Wj ?_|refine Wk ?_|refine Wl ?_|refine Wm ?_|refine Wn ?_|refine Wo ?_|refine Wp ?_|refine Wq rfl ?_|refine Wr ?_|refine Ws ?_|refine Wt ?_|refine Wu ?_|refine Wv rfl rfl ?_|(refine Ww rfl ⟨rfl, by decide, by decide, by decide⟩ ?_; intro _))
  refine JR.callBuf rfl (fun w1 hw => some_ids w1 _ a b c k A B true hw.get hw.get (by omega)) ?_
  intro p q
  repeat (first|refine Wa ?_|refine Wb ?_|refine Wc ?_|refine Wd ?_|refine We rfl ?_|refine Wf (by first|exact Va|exact Vb|exact Vc|exact Vd|exact Ve|exact Vf|exact Vg|exact Vh|exact Vi|exact Vj|exact Vk (by omega)|exact Vl|exact Vm|exact Vn|exact Vo|exact Vp|exact Vq|exact Vr|exact Vs (by omega)|exact Vt (by omega)|exact Vu (by omega)|exact Vv (by omega)|exact Vw|exact Vx|exact Vy|exact Vz|exact VA|exact VB|exact VC|exact VD|exact VE|exact VF) rfl ?_|(refine Wg rfl ?_; intro _)|(refine Wh rfl ?_; intro _)|refine Wi ?_|refine Wj ?_|refine Wk ?_|refine Wl ?_|refine Wm ?_|refine Wn ?_|refine Wo ?_|refine Wp ?_|refine Wq rfl ?_|refine Wr ?_|refine Ws ?_|refine Wt ?_|refine Wu ?_|refine Wv rfl rfl ?_|(refine Ww rfl ⟨rfl, by decide, by decide, by decide⟩ ?_; intro _))
  exact CT.done (p, q) rfl (fun w ho => ho.ent)
end Ab
end Go.Proofs.YtdgeffphifgflaaGreat
namespace Go.Proofs.YtdgeffphifgflaaGreat
namespace Ab
open Go Go.RowKit
set_option linter.unusedVariables false
set_option linter.unusedSimpArgs false
set_option synthInstance.maxSize 4000
set_option synthInstance.maxHeartbeats 400000
attribute [local irreducible] JC JO JR JQ andThen inBlock OpV Gives retTo JM JS
attribute [local irreducible] hashC idA l0 l1 ents
theorem AncR.ids {L : List Commit} (hc : Closed L) {A X : List ID} (h : AncR L A X) {x : ID} (hx : x ∈ X) : x ∈ cids L := ((h.mem hc x).1 hx).1
theorem mem_someT {A B : List ID} {x : ID} : x ∈ someIds A B true ↔ x ∈ A ∧ x ∈ B := by
  rw [someIds, mem_sortL, mem_setOf, pickIds, List.mem_filter]
  simp
end Ab
end Go.Proofs.YtdgeffphifgflaaGreat
namespace Go.Proofs.YtdgeffphifgflaaGreat
namespace Ab
open Go Go.RowKit
set_option linter.unusedVariables false
set_option linter.unusedSimpArgs false
set_option synthInstance.maxSize 4000
set_option synthInstance.maxHeartbeats 400000
attribute [local irreducible] JC JO JR JQ andThen inBlock OpV Gives retTo JM JS
attribute [local irreducible] hashC idA l0 l1 ents
open Classical in
noncomputable def closedB (L : List Commit) : Bool := decide (Closed L)
theorem closedB_iff {L : List Commit} : closedB L = true ↔ Closed L := by simp [closedB]
theorem closedB_yes {L : List Commit} (h : Closed L) : closedB L = true := closedB_iff.2 h
theorem closedB_no {L : List Commit} (h : ¬ Closed L) : closedB L = false := by rw [← Bool.not_eq_true, closedB_iff]; exact h
noncomputable def ancF (L : List Commit) (A : List ID) : List ID := Classical.choose (anc_ex L A)
theorem ancF_ok (L : List Commit) (A : List ID) : AncR L A (ancF L A) := Classical.choose_spec (anc_ex L A)
noncomputable def partF (L : List Commit) (A : List ID) : List Commit := if closedB L then L.filter (fun c => decide (idC c ∈ A)) else []
theorem partF_ok (L : List Commit) (A : List ID) : PartR L A (partF L A) :=
  ⟨fun h => by rw [partF, closedB_yes h, if_pos rfl], fun h => by rw [partF, closedB_no h]; rfl⟩
noncomputable def frontF (L : List Commit) : List ID := if closedB L then someIds (cids L) (parentsL L) false else []
def topL (L : List Commit) : Int := L.foldl (fun g c => max g c.gen) 0
def headC (g : Int) (f : List ID) : Commit := ⟨⟨-1, 0⟩, g, f, op0⟩
def mergeR (g : Int) (f : List ID) : Commit × Bool := if merge (headC g f) then (headC g f, true) else (commit0, false)
noncomputable def joinF (L : List Commit) (A : List ID) : Commit × Bool :=
  match frontF (partF L (ancF L A)) with
  | [] => (commit0, false)
  | [x] => findR L x
  | f => mergeR (topL (partF L f) + 1) f
noncomputable def headF (L : List Commit) : Commit × Bool := joinF L (idsP L)
noncomputable def baseF (L : List Commit) (A B : List ID) : List ID := someIds (ancF L A) (ancF L B) true
noncomputable def nextC (L : List Commit) (ev : Ev_) (o : Op_) : Commit := ⟨ev, topL L + 1, frontF L, o⟩
noncomputable def nextF (L : List Commit) (ev : Ev_) (o : Op_) : Commit × Bool :=
  if closedB L && may (nextC L ev o) && closedB (L ++ [nextC L ev o]) then (nextC L ev o, true) else (commit0, false)
theorem mem_someF {A B : List ID} {x : ID} : x ∈ someIds A B false ↔ x ∈ A ∧ x ∉ B := by
  rw [someIds, mem_sortL, mem_setOf, pickIds, List.mem_filter]
  simp
theorem some_nodup (A B : List ID) (w : Bool) : (someIds A B w).Nodup := by unfold someIds; exact (sortL_perm' _).nodup_iff.2 (setOf_nodup _)
theorem mem_parentsL {L : List Commit} {x : ID} : x ∈ parentsL L ↔ ∃ c ∈ L, x ∈ c.parents := by simp [parentsL]
theorem mem_front {L : List Commit} (hc : Closed L) {x : ID} : x ∈ frontF L ↔ x ∈ cids L ∧ ∀ c ∈ L, x ∉ c.parents := by
  rw [frontF, closedB_yes hc, if_pos rfl, mem_someF, mem_parentsL]
  simp
theorem front_not {L : List Commit} (hc : ¬ Closed L) : frontF L = [] := by rw [frontF, closedB_no hc]; rfl
theorem front_over {L : List Commit} (hc : Closed L) : ∀ (n : Nat) (x : ID), x ∈ cids L → (topL L - genAt L x).toNat ≤ n → x ∈ frontF L ∨ ∃ y ∈ frontF L, knows L y x := by
  have htop : ∀ x ∈ cids L, genAt L x ≤ topL L := fun x hx => by
    obtain ⟨c, hm, rfl⟩ := mem_cids.1 hx
    rw [genAt_of hc.nodup hm]
    have key : ∀ (M : List Commit) (g : Int), g ≤ M.foldl (fun g c => max g c.gen) g ∧ ∀ d ∈ M, d.gen ≤ M.foldl (fun g c => max g c.gen) g := by
      intro M
      induction M with
      | nil => intro g; exact ⟨Int.le_refl _, by simp⟩
      | cons e M ih =>
        intro g
        obtain ⟨h1, h2⟩ := ih (max g e.gen)
        refine ⟨by simp only [List.foldl_cons]; omega, fun d hd => ?_⟩
        rcases List.mem_cons.1 hd with rfl | hd
        · simp only [List.foldl_cons]; omega
        · exact h2 d hd
    exact (key L 0).2 c hm
  intro n
  induction n with
  | zero =>
    intro x hx hn
    refine .inl ((mem_front hc).2 ⟨hx, fun c hm hp => ?_⟩)
    have h1 := hc.par_gen (x := idC c) (y := x) ⟨c, hm, rfl, hp, hx⟩
    have h2 := htop (idC c) (mem_cids.2 ⟨c, hm, rfl⟩)
    omega
  | succ n ih =>
    intro x hx hn
    by_cases hf : ∀ c ∈ L, x ∉ c.parents
    · exact .inl ((mem_front hc).2 ⟨hx, hf⟩)
    · obtain ⟨c, hm, hp⟩ : ∃ c, c ∈ L ∧ x ∈ c.parents := by
        apply Classical.byContradiction
        intro hn'
        exact hf fun c hm hp => hn' ⟨c, hm, hp⟩
      have hpar : par L (idC c) x := ⟨c, hm, rfl, hp, hx⟩
      have h1 := hc.par_gen hpar
      have h2 := htop (idC c) (mem_cids.2 ⟨c, hm, rfl⟩)
      rcases ih (idC c) (mem_cids.2 ⟨c, hm, rfl⟩) (by omega) with h | ⟨y, hy, hk⟩
      · exact .inr ⟨idC c, h, .single hpar⟩
      · exact .inr ⟨y, hy, .tail hk hpar⟩
theorem front_all {L : List Commit} (hc : Closed L) {x : ID} (hx : x ∈ cids L) : x ∈ frontF L ∨ ∃ y ∈ frontF L, knows L y x := front_over hc _ x hx (Nat.le_refl _)
theorem front_nil {L : List Commit} (hc : Closed L) : frontF L = [] ↔ L = [] := by
  constructor
  · intro h
    cases L with
    | nil => rfl
    | cons c L =>
      rcases front_all hc (x := idC c) (mem_cids.2 ⟨c, by simp, rfl⟩) with h1 | ⟨y, h1, _⟩ <;> (rw [h] at h1; cases h1)
  · rintro rfl
    rw [List.eq_nil_iff_forall_not_mem]
    intro x hx
    have := ((mem_front hc).1 hx).1
    simp [cids] at this
end Ab
end Go.Proofs.YtdgeffphifgflaaGreat
namespace Go.Proofs.YtdgeffphifgflaaGreat
namespace Ab
open Go Go.RowKit
set_option linter.unusedVariables false
set_option linter.unusedSimpArgs false
structure RowP where
  b : Nat
  n : Nat
instance : Cell RowP where
  Ix := Unit
  sz := 1
  cells r _ := [.slice (some ⟨r.b, 0, none⟩) r.n r.n]
  facts _ _ := []
  len _ _ := rfl
  one r _ := by simp [Value.oneCell']
  pos := by decide
instance {Γ : List Fact} {b n : Nat} : Typed Γ [.slice (some ⟨b, 0, none⟩) n n] (RowP.mk b n) := ⟨(), rfl, by simp [Cell.facts]⟩
instance : Cell (List Bool) where
  Ix := Option Addr × Nat
  sz := 1
  cells l y := [.slice y.1 l.length y.2]
  facts l y := [sl y.1 y.2 l]
  len _ _ := rfl
  one l y := by simp [Value.oneCell']
  pos := by decide
def rowBs (B : List RowP) : List Nat := B.map RowP.b
def rowsHold (t : TypeId) (B : List RowP) (K : List (List Bool)) (w : World) : Prop :=
  B.length = K.length ∧ ∀ i (h : i < B.length) (h' : i < K.length), B[i].n = K[i].length ∧ w.heap[B[i].b]? = some (.cells (K[i].map Value.bool).toArray t (0, 0))
theorem rowsHold.keep {t : TypeId} {B : List RowP} {K : List (List Bool)} {w w' : World} (h : rowsHold t B K w) (hk : ∀ r ∈ B, r.b < w.heap.size → w'.heap[r.b]? = w.heap[r.b]?) : rowsHold t B K w' := by
  refine ⟨h.1, fun i hi hi' => ⟨(h.2 i hi hi').1, ?_⟩⟩
  have h1 := (h.2 i hi hi').2
  rw [hk _ (List.getElem_mem hi) (Array.getElem?_eq_some_iff.1 h1).1]
  exact h1
theorem rowsHold.lt {t : TypeId} {B : List RowP} {K : List (List Bool)} {w : World} (h : rowsHold t B K w) {r : RowP} (hr : r ∈ B) : r.b < w.heap.size := by
  obtain ⟨i, hi, rfl⟩ := List.getElem_of_mem hr
  exact (Array.getElem?_eq_some_iff.1 (h.2 i hi (by have := h.1; omega)).2).1
def rowsR (t : TypeId) (B : List RowP) (K : List (List Bool)) : Res where
  owns k := ∃ r ∈ B, r.b = k
  holds F w := (rowBs B).Nodup ∧ rowsHold t B K w
  keep F G w w' h hF hk := ⟨h.1, h.2.keep fun r hr hlt => hk r.b hlt (.inr ⟨r, hr, rfl⟩)⟩
  lt F w h k hk := by obtain ⟨r, hr, rfl⟩ := hk; exact h.2.lt hr
section
variable {P : Program} {n : Nn} {w0 : World} {F : Nat → Prop} {ops : Array Oper} {i d : Nat} {t : TypeId} {pos : String} {aft : Array Edge} {g : Option (Nat × Bool)} {os : List Oper} {Q : Cont} {e : E} {Γ : List Fact} [Dr]
theorem Hold.join {w : World} {f g h : Fact} (ho : Hold w0 F (f :: g :: Γ) w) (hown : ∀ k, h.owns k ↔ f.owns k ∨ g.owns k) (hs : h.sat (fp w0 F (h :: Γ)) w) : Hold w0 F (h :: Γ) w := by
  have hfree : ∀ k, fp w0 F (f :: g :: Γ) k → fp w0 F (h :: Γ) k := by
    refine fun k hk => ⟨hk.1, fun f' hf' hown' => ?_⟩
    rcases List.mem_cons.1 hf' with rfl | hf'
    · rcases (hown k).1 hown' with h1 | h1
      · exact hk.2 f (by simp) h1
      · exact hk.2 g (by simp) h1
    · exact hk.2 f' (by simp [hf']) hown'
  have hp := List.pairwise_cons.1 ho.dis
  have hp2 := List.pairwise_cons.1 hp.2
  refine ⟨ho.below, fun f' hf' => ?_, ?_, ?_⟩
  · rcases List.mem_cons.1 hf' with rfl | hf'
    · exact hs
    · exact Fact.sat_keep (ho.sat f' (by simp [hf'])) (fun k hk _ => hfree k hk) (fun _ _ _ => rfl)
  · refine List.pairwise_cons.2 ⟨fun f' hf' k hk => ?_, hp2.2⟩
    rcases (hown k).1 hk.1 with h1 | h1
    · exact hp.1 f' (by simp [hf']) k ⟨h1, hk.2⟩
    · exact hp2.1 f' hf' k ⟨h1, hk.2⟩
  · intro f' hf' k hk
    rcases List.mem_cons.1 hf' with rfl | hf'
    · rcases (hown k).1 hk with h1 | h1
      · exact ho.new f (by simp) k h1
      · exact ho.new g (by simp) k h1
    · exact ho.new f' (by simp [hf']) k hk
class HasRows (Γ : List Fact) (bt : outParam TypeId) (B : outParam (List RowP)) (K : outParam (List (List Bool))) (Δ : outParam (List Fact)) : Prop where
  ok : Γ.Perm (.res (rowsR bt B K) :: Δ)
instance (priority := 100) HasRows.miss {g : Fact} {bt : TypeId} {B : List RowP} {K : List (List Bool)} {Δ : List Fact} [h : HasRows Γ bt B K Δ] : HasRows (g :: Γ) bt B K (g :: Δ) :=
  ⟨(h.ok.cons g).trans (List.Perm.swap _ g Δ)⟩
instance (priority := 1000) HasRows.hit {bt : TypeId} {B : List RowP} {K : List (List Bool)} : HasRows (.res (rowsR bt B K) :: Γ) bt B K Γ := ⟨List.Perm.refl _⟩
end
section
variable {P : Program} {n : Nn} {w0 : World} {F : Nat → Prop} {ops : Array Oper} {i d : Nat} {t : TypeId} {pos : String} {aft : Array Edge} {g : Option (Nat × Bool)} {os : List Oper} {Q : Cont} {e : E} {Γ : List Fact} [Dr]
end
end Ab
end Go.Proofs.YtdgeffphifgflaaGreat
namespace Go.Proofs.YtdgeffphifgflaaGreat
namespace Ab
open Go Go.RowKit
set_option linter.unusedVariables false
set_option linter.unusedSimpArgs false
set_option synthInstance.maxSize 4000
set_option synthInstance.maxHeartbeats 400000
attribute [local irreducible] JC JO JR JQ andThen inBlock OpV Gives retTo JM JS
attribute [local irreducible] hashC
def get (K : List (List Bool)) (i j : Nat) : Bool := (K.getD i []).getD j false
def Square (n : Nat) (K : List (List Bool)) : Prop := K.length = n ∧ ∀ i (h : i < K.length), K[i].length = n
theorem Square.set {n : Nat} {K : List (List Bool)} (h : Square n K) {i j : Nat} (hi : i < K.length) : Square n (K.set i (K[i].set j true)) := by
  refine ⟨by simp [h.1], fun x hx => ?_⟩
  by_cases hxi : x = i
  · subst hxi; simp [h.2 x hi]
  · rw [List.getElem_set_ne (Ne.symm hxi)]; exact h.2 x (by simpa using hx)
structure KnowsR (L : List Commit) (K : List (List Bool)) : Prop where
  square : Square L.length K
  iff : ∀ i j, get K i j = true ↔ knowsI L i j
section
variable {P : Program} {n : Nn} {w0 : World} {F : Nat → Prop} {ops : Array Oper} {i d : Nat} {t : TypeId} {pos : String} {aft : Array Edge} {g : Option (Nat × Bool)} {os : List Oper} {Q : Cont} {e : E} {Γ : List Fact} [Dr]
end
structure GoodI (L : List Commit) (i : Nat) : Prop where
  lt : i < L.length
  merge : merge L[i] = false
  one : oneI L i
  at_ : (cids L).findIdx? (fun x => decide (x = idC L[i])) = some i
  ev : ∀ j, j < i → evI L i j
instance : Cell Nat where
  Ix := Unit
  sz := 1
  cells n _ := [natV n]
  facts _ _ := []
  len _ _ := rfl
  one _ _ := One.ok
  pos := by decide
instance {Γ : List Fact} {n : Nat} : Typed Γ [natV n] n := ⟨(), rfl, by simp [Cell.facts]⟩
instance {Γ : List Fact} {n : Nat} : Typed Γ [.int .i64 (n : Int)] n := ⟨(), rfl, by simp [Cell.facts]⟩
section
variable {P : Program} {n : Nn} {w0 : World} {F : Nat → Prop} {ops : Array Oper} {i d : Nat} {t : TypeId} {pos : String} {aft : Array Edge} {g : Option (Nat × Bool)} {os : List Oper} {Q : Cont} {e : E} {Γ : List Fact} [Dr]
end
theorem leS_trans {a b c : Commit} (h1 : leS a b) (h2 : leS b c) : leS a c := by
  rcases h1 with h1 | ⟨h1, h3⟩ <;> rcases h2 with h2 | ⟨h2, h4⟩
  · exact .inl (by omega)
  · exact .inl (by omega)
  · exact .inl (by omega)
  · exact .inr ⟨by omega, idLe_trans h3 h4⟩
def atC (L : List Commit) (i : Nat) : Commit := L.getD i commit0
structure Ins (L : List Commit) (i : Nat) (O : List Nat) : Prop where
  perm : O.Perm (List.range i)
  sorted : O.Pairwise (fun x y => leS (atC L x) (atC L y))
theorem Ins.length {L : List Commit} {i : Nat} {O : List Nat} (h : Ins L i O) : O.length = i := by rw [h.perm.length_eq, List.length_range]
theorem Ins.lt {L : List Commit} {i : Nat} {O : List Nat} (h : Ins L i O) {j : Nat} (hj : j < O.length) : O[j] < i := List.mem_range.1 (h.perm.mem_iff.1 (List.getElem_mem hj))
theorem Ins.next {L : List Commit} {i : Nat} {O : List Nat} (h : Ins L i O) (at_ : Nat) (hle : at_ ≤ O.length) (hup : ∀ j (hj : j < O.length), at_ ≤ j → leS (atC L i) (atC L O[j]))
    (hdn : ∀ (h0 : 0 < at_), leS (atC L (O[at_ - 1]'(by omega))) (atC L i)) : Ins L (i + 1) (O.take at_ ++ [i] ++ O.drop at_) := by
  refine ⟨?_, ?_⟩
  · rw [List.range_succ, List.append_assoc]
    refine List.Perm.trans ((List.perm_append_comm (l₁ := [i]) (l₂ := O.drop at_)).append_left _) ?_
    rw [← List.append_assoc, List.take_append_drop]
    exact h.perm.append_right _
  · have hs2 : (O.take at_ ++ O.drop at_).Pairwise (fun x y => leS (atC L x) (atC L y)) := by rw [List.take_append_drop]; exact h.sorted
    rw [List.pairwise_append] at hs2
    rw [List.append_assoc, List.pairwise_append]
    refine ⟨hs2.1, ?_, ?_⟩
    · rw [List.singleton_append, List.pairwise_cons]
      refine ⟨fun y hy => ?_, hs2.2.1⟩
      obtain ⟨j, hj, rfl⟩ := List.getElem_of_mem hy
      rw [List.length_drop] at hj
      rw [List.getElem_drop]
      exact hup _ (by omega) (by omega)
    · intro y hy z hz
      rcases List.mem_append.1 hz with hz | hz
      · rw [List.mem_singleton.1 hz]
        obtain ⟨j, hj, rfl⟩ := List.getElem_of_mem hy
        rw [List.length_take] at hj
        have h0 : 0 < at_ := by omega
        rw [List.getElem_take]
        by_cases hja : j = at_ - 1
        · subst hja; exact hdn h0
        · exact leS_trans (List.pairwise_iff_getElem.1 h.sorted j (at_ - 1) (by omega) (by omega) (by omega)) (hdn h0)
      · exact hs2.2.2 y hy z hz
end Ab
end Go.Proofs.YtdgeffphifgflaaGreat
namespace Go.Proofs.YtdgeffphifgflaaGreat
namespace Ab
open Go Go.RowKit
set_option linter.unusedVariables false
set_option linter.unusedSimpArgs false
set_option synthInstance.maxSize 4000
set_option synthInstance.maxHeartbeats 400000
attribute [local irreducible] JC JO JR JQ andThen inBlock OpV Gives retTo JM JS
attribute [local irreducible] hashC idA l0 l1 ents
theorem isClosed_unique {L : List Commit} {b c : Bool} (h : b = true ↔ Closed L) (k : c = true ↔ Closed L) : b = c := Bool.eq_iff_iff.2 (h.trans k.symm)
theorem PartR.unique {L : List Commit} {A : List ID} {M N : List Commit} (h : PartR L A M) (k : PartR L A N) : M = N := by
  by_cases hc : Closed L
  · rw [h.part hc, k.part hc]
  · rw [h.not hc, k.not hc]
theorem SortedR.unique {L M N : List Commit} (h : SortedR L M) (k : SortedR L N) : M = N := by
  by_cases hc : Closed L
  · exact sorted_uniqueC hc.nodup (h.perm hc) (k.perm hc) (h.sorted hc) (k.sorted hc)
  · rw [h.not hc, k.not hc]
theorem closed_dagV (w : World) (F : Nat → Prop) (a : Option Addr) (k : Nat) (L : List Commit) (b : Bool) (h : (sl a k L).holds F w) (hl : L.length ≤ 1000) (hf : ∀ x ∈ L, fine x) (hb : b = true ↔ Closed L) :
    GivesV Tryz.prog 25 [.slice a L.length k] w F (.bool b) := by
  have h0 := closed_dag w F a k L h (by omega) hf
  unfold Gives at h0
  unfold GivesV Gives
  refine Calls.mono h0 ?_
  rintro e w' ⟨y, rfl, h1, hB⟩
  refine ⟨(), ?_, h1, hB⟩
  have := isClosed_unique y.2 hb
  dsimp only
  rw [this]
theorem part_dagS (w : World) (F : Nat → Prop) (a d : Option Addr) (k m : Nat) (L M : List Commit) (A : List ID) (h : (sl a k L).holds F w) (h' : (sl d m A).holds F w) (hl : L.length ≤ 1000) (hf : ∀ x ∈ L, fine x) (hM : PartR L A M) :
    GivesSl Tryz.prog 44 [.slice a L.length k, .slice d A.length m] w F M := by
  have h0 := part_dag w F a d k m L A h h' hl hf
  unfold Gives at h0
  unfold GivesSl Gives
  refine Calls.mono h0 ?_
  rintro e w' ⟨⟨⟨N, p, q⟩, hN⟩, rfl, hb, hB⟩
  have : N = M := hN.unique hM
  subst this
  exact ⟨(p, q), rfl, hb, hB⟩
theorem sorted_dagS (w : World) (F : Nat → Prop) (a : Option Addr) (k : Nat) (L M : List Commit) (h : (sl a k L).holds F w) (hl : L.length ≤ 1000) (hf : ∀ x ∈ L, fine x) (hM : SortedR L M) :
    GivesSl Tryz.prog 26 [.slice a L.length k] w F M := by
  have h0 := sorted_dag w F a k L h hl hf
  unfold Gives at h0
  unfold GivesSl Gives
  refine Calls.mono h0 ?_
  rintro e w' ⟨⟨⟨N, p, q⟩, hN⟩, rfl, hb, hB⟩
  have : N = M := hN.unique hM
  subst this
  exact ⟨(p, q), rfl, hb, hB⟩
theorem may_parents {c : Commit} (h : may c = true) : c.parents.length ≤ 8 := by
  unfold may at h
  split at h
  · cases h
  · rename_i hn
    simp only [Bool.or_eq_true, not_or, decide_eq_true_eq] at hn
    omega
theorem parents_may : ∀ {L : List Commit}, (∀ c ∈ L, may c = true) → (parentsL L).length ≤ 8 * L.length
  | [], _ => by simp [parentsL]
  | c :: L, h => by
    have h1 := parents_may (L := L) fun d hd => h d (by simp [hd])
    have h2 := may_parents (h c (by simp))
    simp only [parentsL, List.flatMap_cons, List.length_append, List.length_cons] at h1 ⊢
    omega
set_option maxHeartbeats 1000000 in
theorem front_front (w : World) (F : Nat → Prop) (a : Option Addr) (k : Nat) (L : List Commit) (h : (sl a k L).holds F w) (hl : L.length ≤ 1000) (hf : ∀ x ∈ L, fine x) :
    GivesSl Tryz.prog 46 [.slice a L.length k] w F (frontF L) := by
  refine gives_of Tryz.func46 rfl Tryz.ntmps46 rfl rfl [.st (sl a k L)] (.start1 h) ?_
  repeat (first|refine Wa ?_|refine Wb ?_|refine Wc ?_|refine Wd ?_|refine We rfl ?_|refine Wf (by first|exact Va|exact Vb) rfl ?_)
  refine JR.callV rfl (fun w1 hw => closed_dagV w1 _ a k L (closedB L) hw.get (by omega) hf closedB_iff) ?_
  cases hb : closedB L with
  | false =>
    repeat (first|refine Wa ?_|refine Wb ?_|refine Wc ?_|refine Wd ?_|refine We rfl ?_|refine Wf (by first|exact Vb|exact Vh) rfl ?_|refine Wj ?_|refine Ws ?_|refine Wt ?_)
    rw [front_not (fun hc => by rw [closedB_yes hc] at hb; cases hb)]
    exact CT.done (none, 0) rfl (fun w ho => (ho.ent : Hold _ _ [] w).add sl_nil)
  | true =>
  have hc := closedB_iff.1 hb
  have hpl := parents_may hc.may
  repeat (first|refine Wa ?_|refine Wb ?_|refine Wc ?_|refine Wd ?_|refine We rfl ?_|refine Wf (by first|exact Va|exact Vb|exact Vf|exact Vh) rfl ?_|refine Wk ?_|refine Wl ?_|refine Wn ?_)
  refine JC.buf_nil (α := ID) 81 ?_
  refine JC.loop3 (fun (i : Nat) p q => [(0, .slice a L.length k), (3, .slice p (parentsL (L.take i)).length q), (9, .slice a L.length k), (10, .int .i64 (L.length : Int)), (11, .int .i64 (i : Int))])
    (fun i p q => [.res (buf p q 81 (parentsL (L.take i))), .st (sl a k L)]) (fun i _ _ => i ≤ L.length) (fun i _ _ => L.length - i) 0 none 0 (Nat.zero_le _) (by rw [List.take_zero, show parentsL [] = [] from rfl]; infer_instance) ?_
  intro i p q hi
  repeat (first|refine Wa ?_|refine Wb ?_|refine Wc ?_|refine Wd ?_|refine We rfl ?_|refine Wf (by exact Vg) rfl ?_)
  refine JC.test (fun hlt => ?_) (fun hge => ?_)
  · have hlt' : i < L.length := by omega
    have h2 := parentsL_le L (i + 1)
    rw [parentsL_next L i hlt', List.length_append] at h2
    repeat (first|refine Wa ?_|refine Wb ?_|refine Wc ?_|refine We rfl ?_|refine Wl ?_|refine Wn ?_)
    refine JR.indexCommit rfl hlt' ?_
    intro b1 o1 p1 q1
    repeat (first|refine Wa ?_|refine Wc ?_|refine Wd ?_|refine We rfl ?_|refine Wf (by first|exact Va|exact Vc|exact Vd) rfl ?_|(refine Wg rfl ?_; intro _)|refine Wi ?_)
    refine JR.appendSl rfl (by exact ⟨rfl, rfl, by decide⟩) (by omega) ?_
    intro r s
    repeat (first|refine Wa ?_|refine Wc ?_|refine Wd ?_|refine We rfl ?_|refine Wf (by first|exact Va|exact Vb|exact Vk (by omega)) rfl ?_|refine Wr ?_)
    exact ⟨i + 1, r, s, by omega, by omega, by rw [parentsL_next L i hlt']; infer_instance⟩
  · obtain rfl : i = L.length := by omega
    rw [List.take_length]
    refine JC.more (fun w1 ho => ho.pub) ?_
    repeat (first|refine Wa ?_|refine Wb ?_|refine Wc ?_|refine We rfl ?_|refine Wf (by exact Va) rfl ?_|refine Wm ?_|refine Wo ?_|refine Wp ?_)
    refine JR.callSl (L := cids L) rfl (fun w1 hw => by have := ids_dag w1 _ a k L hw.get (by omega) hf; rwa [idsP_all hc.may] at this) ?_
    intro a1 k1
    repeat (first|refine We rfl ?_|refine Wf (by exact Va) rfl ?_)
    refine JR.callBuf rfl (fun w1 hw => without_ids w1 _ a1 p k1 q (cids L) (parentsL L) hw.get hw.get (by rw [cids_length]; omega)) ?_
    intro a2 k2
    refine JO.more (fun w1 ho => ho.pub) ?_
    repeat (first|refine Wa ?_|refine Wd ?_|refine We rfl ?_|refine Wf (by exact Vb) rfl ?_|refine Ws ?_)
    have e1 : frontF L = someIds (cids L) (parentsL L) false := by rw [frontF, hb]; rfl
    rw [e1]
    exact CT.done (a2, k2) rfl (fun w ho => ho.ent)
end Ab
end Go.Proofs.YtdgeffphifgflaaGreat
namespace Go.Proofs.YtdgeffphifgflaaGreat
namespace Ab
open Go Go.RowKit
set_option linter.unusedVariables false
set_option linter.unusedSimpArgs false
set_option synthInstance.maxSize 4000
set_option synthInstance.maxHeartbeats 400000
attribute [local irreducible] JC JO JR JQ andThen inBlock OpV Gives retTo JM JS
noncomputable section
def decL : List (List UInt8) → List Commit
  | [] => []
  | b :: l => match getC b with
    | some (c, []) => c :: decL l
    | _ => []
open Classical in
def closeF (acc : List Commit) : List Commit → List Commit
  | [] => acc
  | c :: l => if Closed (acc ++ [c]) then closeF (acc ++ [c]) l else acc
def loadL (b : List UInt8) : List Commit := closeF [] (decL (readL b))
def loadEnd (b : List UInt8) : Nat := (framesL ((readL b).take (loadL b).length)).length
end
theorem decL_cons (b : List UInt8) (l : List (List UInt8)) : (∃ c, getC b = some (c, []) ∧ decL (b :: l) = c :: decL l) ∨ ((¬ ∃ c, getC b = some (c, [])) ∧ decL (b :: l) = []) := by
  rw [decL]
  split
  · rename_i c h; exact .inl ⟨c, h, rfl⟩
  · rename_i h; exact .inr ⟨fun ⟨c, hc⟩ => h c hc, rfl⟩
theorem decL_le : ∀ l : List (List UInt8), (decL l).length ≤ l.length
  | [] => Nat.le_refl _
  | b :: l => by
    have := decL_le l
    rcases decL_cons b l with ⟨c, _, h⟩ | ⟨_, h⟩ <;> rw [h] <;> simp <;> omega
theorem decL_at : ∀ (l : List (List UInt8)) (i : Nat) (h : i < (decL l).length) (h2 : i < l.length), getC l[i] = some ((decL l)[i], [])
  | [], i, h, _ => by cases h
  | b :: l, i, h, h2 => by
    rcases decL_cons b l with ⟨c, hc, hd⟩ | ⟨_, hd⟩
    · cases i with
      | zero => simp only [hd, List.getElem_cons_zero]; exact hc
      | succ i =>
        simp only [hd, List.getElem_cons_succ]
        exact decL_at l i (by rw [hd] at h; simpa using h) (by simpa using h2)
    · rw [hd] at h; cases h
theorem decL_end : ∀ (l : List (List UInt8)) (h : (decL l).length < l.length), ¬ ∃ c, getC (l[(decL l).length]) = some (c, [])
  | [], h => by cases h
  | b :: l, h => by
    rcases decL_cons b l with ⟨c, hc, hd⟩ | ⟨hn, hd⟩
    · simp only [hd, List.length_cons, List.getElem_cons_succ]
      exact decL_end l (by rw [hd] at h; simpa using h)
    · simp only [hd, List.length_nil, List.getElem_cons_zero]; exact hn
theorem closeF_pre : ∀ (l acc : List Commit), ∃ k, k ≤ l.length ∧ closeF acc l = acc ++ l.take k
  | [], acc => ⟨0, Nat.le_refl _, by simp [closeF]⟩
  | c :: l, acc => by
    unfold closeF
    split
    · obtain ⟨k, hk, h⟩ := closeF_pre l (acc ++ [c])
      exact ⟨k + 1, by simpa using hk, by rw [h]; simp⟩
    · exact ⟨0, Nat.zero_le _, by simp⟩
theorem closeF_closed : ∀ (l acc : List Commit), Closed acc → Closed (closeF acc l)
  | [], acc, h => h
  | c :: l, acc, h => by
    unfold closeF
    split
    · rename_i h2; exact closeF_closed l _ h2
    · exact h
theorem closeF_step {l : List Commit} {i : Nat} (hi : i < l.length) (h : closeF [] l = closeF (l.take i) (l.drop i)) (hc : Closed (l.take (i + 1))) : closeF [] l = closeF (l.take (i + 1)) (l.drop (i + 1)) := by
  rw [h, List.drop_eq_getElem_cons hi, closeF, ← List.take_succ_eq_append_getElem hi, if_pos hc]
theorem closeF_stop {l : List Commit} {i : Nat} (hi : i < l.length) (h : closeF [] l = closeF (l.take i) (l.drop i)) (hc : ¬ Closed (l.take (i + 1))) : closeF [] l = l.take i := by
  rw [h, List.drop_eq_getElem_cons hi, closeF, ← List.take_succ_eq_append_getElem hi, if_neg hc]
theorem readL_small : ∀ (f : Nat) (b : List UInt8), ∀ x ∈ readF f b, x.length ≤ 4000
  | 0, _, x, h => by cases h
  | f + 1, b, x, h => by
    unfold readF at h
    cases hs : readStep b with
    | none => rw [hs] at h; cases h
    | some q =>
      rw [hs] at h
      rcases List.mem_cons.1 h with rfl | h
      · exact (readStep_some (x := q.1) (r := q.2) hs).1
      · exact readL_small f _ x h
theorem readF_pre : ∀ (f : Nat) (b : List UInt8), framesL (readF f b) <+: b
  | 0, b => List.nil_prefix
  | f + 1, b => by
    unfold readF
    cases hs : readStep b with
    | none => exact List.nil_prefix
    | some q =>
      dsimp only
      rw [framesL_cons]
      have h1 := (readStep_some (x := q.1) (r := q.2) hs).2
      obtain ⟨t, ht⟩ := readF_pre f q.2
      exact ⟨t, by rw [List.append_assoc, ht, ← h1]⟩
theorem framesL_take_le (l : List (List UInt8)) (i : Nat) : (framesL (l.take i)).length ≤ (framesL l).length := by
  conv => rhs; rw [← List.take_append_drop i l]
  rw [framesL_append, List.length_append]; omega
theorem length_framesL (l : List (List UInt8)) : 5 * l.length ≤ (framesL l).length := by
  induction l with
  | nil => simp
  | cons y l ih => rw [framesL_cons, List.length_append, frameL_length, List.length_cons]; have := numL_pos y.length; omega
theorem framesL_next {l : List (List UInt8)} {i : Nat} (hi : i < l.length) : (framesL (l.take (i + 1))).length = (framesL (l.take i)).length + (frameL l[i]).length := by
  rw [List.take_succ_eq_append_getElem hi, framesL_append, framesL_one, List.length_append]
theorem finC_may {c0 c : Commit} {b r : List UInt8} (h : finC c0 b = some (c, r)) : may c = true ∧ c = c0 := by
  unfold finC at h
  split at h
  · cases h; exact ⟨by assumption, rfl⟩
  · cases h
theorem getC_may {b r : List UInt8} {c : Commit} (h : getC b = some (c, r)) : may c = true ∧ texts c := by
  unfold getC at h
  obtain ⟨q0, h0, h⟩ := Option.bind_eq_some_iff.1 h
  obtain ⟨q1, h1, h⟩ := Option.bind_eq_some_iff.1 h
  obtain ⟨q2, h2, h⟩ := Option.bind_eq_some_iff.1 h
  obtain ⟨q3, h3, h⟩ := Option.bind_eq_some_iff.1 h
  obtain ⟨q4, h4, h⟩ := Option.bind_eq_some_iff.1 h
  unfold opC at h
  split at h
  · obtain ⟨h5, h6⟩ := finC_may h
    refine ⟨h5, ?_⟩
    rw [h6]
    unfold texts
    exact (by decide : op0.key.size < 4611686018427387904 ∧ op0.elem.size < 4611686018427387904)
  · split at h
    · obtain ⟨h5, h6⟩ := finC_may h
      refine ⟨h5, ?_⟩
      rw [h6]
      exact getOp_texts q4.2
    · cases h
end Ab
end Go.Proofs.YtdgeffphifgflaaGreat
namespace Go.Proofs.YtdgeffphifgflaaGreat
namespace Ab
open Go Go.RowKit
set_option linter.unusedVariables false
set_option linter.unusedSimpArgs false
abbrev rnd (l : Nat) : Fence := Fence.wide.inRound l
def notDefer : Oper → Bool
  | ⟨_, .defer _, _, _, _, _⟩ => false
  | _ => true
theorem notDefer_ok {o : Oper} (h : notDefer o = true) (c : Call) : o.op ≠ .defer c := by
  obtain ⟨d, op, t, p, a, g⟩ := o
  rintro rfl
  cases h
section
variable {P : Program} {ops : Array Oper} {Q : Exit → Act → World → Prop} {l m : Nat}
theorem upon_in {F : Fence} (hdp : F.depth = none) (hfn : ∀ f, F.fn f) (hcalls : ∀ {f args w R}, Calls P f args w R → CallsIn F (m - 1) P f args w R) (hrows : ∀ {row args w R}, Rows P row args w R → RowsIn F (m - 1) P row args w R)
    {o : Oper} {a : Act} {K K' : Act → World → Prop} (hK : ∀ a w, K a w → K' a w) (r : Result Next) (h : o.upon P a K Q r) : o.uponIn F m P a K' Q r := by
  have hn : F.depth.isSome = true → 1 ≤ m := by rw [hdp]; intro h; cases h
  cases r with
  | halt x w' => cases x <;> exact h
  | ok x w' =>
    cases x with
    | value v => exact hK _ _ h
    | skip => exact hK _ _ h
    | defer d => exact hK _ _ h
    | enter f args =>
      refine ⟨hn, hcalls (Calls.mono h ?_)⟩
      intro e w'' he
      cases e with
      | returned v => exact hK _ _ he
      | panicked c => exact he
      | outgrown => exact he
    | row row args => exact ⟨hn, (hrows h).mono fun v w'' h => hK _ _ h⟩
    | round l f tmps assign body => exact h.elim
    | _ => exact h
theorem wpOps_in (hd : ∀ o ∈ ops, notDefer o = true) (hQ : ¬ LetsOut Q) : ∀ (is : List Nat) (a : Act) (w : World), wpOps P ops Q is a w → wpOpsIn (rnd l) m P ops Q is a w
  | [], a, w, h => h
  | i :: is, a, w, h => by
    unfold wpOps at h
    unfold wpOpsIn
    cases ho : ops[i]? with
    | none => rw [ho] at h; exact wpOps_in hd hQ is a w h
    | some o =>
      rw [ho] at h
      dsimp only at h ⊢
      by_cases hw : Region.wanted o (yielded ops a.tmps) = true
      · rw [if_pos hw] at h ⊢
        rcases h with h | h
        · refine ⟨fun _ _ => trivial, ?_⟩
          have hm : o ∈ ops := Array.mem_of_getElem? ho
          rw [Oper.semAt_eq _ _ _ (notDefer_ok (hd o hm))]
          exact upon_in rfl (fun _ => trivial) (fun h => CallsIn.inRound l (callsIn_wide.2 h)) (fun h c cs _ => let ⟨v, w', r, s⟩ := h c cs; ⟨v, w', r, stepsIn_wide.2 s⟩) (fun a w h => wpOps_in hd hQ is a w h) _ h
        · exact (hQ h.2).elim
      · rw [if_neg hw] at h ⊢
        exact ⟨fun _ _ => trivial, wpOps_in hd hQ is _ w h⟩
end
section
variable {P : Program} {n : Nn} {w0 : World} {F : Nat → Prop} {l : Nat} {Q : Cont} {e : E} {Γ : List Fact} [Dr]
def JI (P : Program) (n : Nn) (w0 : World) (F : Nat → Prop) (l : Nat) (c : Code) (Q : Cont) (e : E) (Γ : List Fact) : Prop :=
  (∀ e Γ, ¬ Q .outgrown e Γ) → ∀ a w, Fr n e a → Hold w0 F Γ w → c.wpIn (rnd l) 1 P (up n w0 F Q) a w
theorem JI.skip (h : Q .normal e Γ) : JI P n w0 F l .skip Q e Γ := fun _ _ _ fr ho => wpIn_skip ⟨e, Γ, h, fr, ho⟩
theorem JI.ret (h : Q .ret e Γ) : JI P n w0 F l .ret Q e Γ := fun _ _ _ fr ho => wpIn_ret ⟨e, Γ, h, fr, ho⟩
theorem JI.seq {x y : Code} (h : JI P n w0 F l x (andThen (JI P n w0 F l y Q) Q) e Γ) : JI P n w0 F l (.seq x y) Q e Γ := by
  intro hq a w fr ho
  refine wpIn_seq (wpIn_mono (h hq a w fr ho) ?_)
  rintro x a w ⟨e, Γ, h, fr, ho⟩
  cases x <;> first | exact h hq a w fr ho | exact ⟨e, Γ, h, fr, ho⟩
theorem JI.cond_true {c : Operand} {x y : Code} [hc : Ev e c (.bool true)] (h : JI P n w0 F l x Q e Γ) : JI P n w0 F l (.cond c x y) Q e Γ :=
  fun hq a w fr ho => wpIn_cond_true (hc.ok n a fr) (h hq a w fr ho)
theorem JI.cond_false {c : Operand} {x y : Code} [hc : Ev e c (.bool false)] (h : JI P n w0 F l y Q e Γ) : JI P n w0 F l (.cond c x y) Q e Γ :=
  fun hq a w fr ho => wpIn_cond_false (hc.ok n a fr) (h hq a w fr ho)
theorem JI.block {id : Nat} {c : Code} (h : JI P n w0 F l c (inBlock id Q) e Γ) : JI P n w0 F l (.block id c) Q e Γ := by
  intro hq a w fr ho
  refine wpIn_block (wpIn_mono (h hq a w fr ho) ?_)
  rintro x a w ⟨e, Γ, hq, fr, ho⟩
  cases x with
  | exit id' =>
    simp only [inBlock, Exit.inBlock] at *
    split
    · rename_i he; rw [if_pos he] at hq; exact ⟨e, Γ, hq, fr, ho⟩
    · rename_i he; rw [if_neg he] at hq; exact ⟨e, Γ, hq, fr, ho⟩
  | _ => exact ⟨e, Γ, hq, fr, ho⟩
theorem JI.more {c : Code} {Γ' : List Fact} (h : ∀ w, Hold w0 F Γ w → Hold w0 F Γ' w) (k : JI P n w0 F l c Q e Γ') : JI P n w0 F l c Q e Γ := fun hq a w fr ho => k hq a w fr (h w ho)
theorem no_out (hq : ∀ e Γ, ¬ Q .outgrown e Γ) : ¬ LetsOut (up n w0 F Q) := by
  rintro ⟨a, w, e, Γ, h, _⟩
  exact hq e Γ h
theorem JI.region {id : Nat} {os : List Oper} (hd : os.all notDefer = true) (h : JO P n w0 F ⟨os⟩ 0 os Q e Γ) : JI P n w0 F l (.region id ⟨os⟩ false) Q e Γ := by
  intro hq a w fr ho
  refine wpIn_region ?_
  have e1 : List.range (Array.size ⟨os⟩ : Nat) = List.range' 0 os.length := by simp [List.range_eq_range']
  rw [e1]
  refine wpOps_in (fun o ho => ?_) (no_out hq) _ _ _ (h rfl a w fr ho)
  exact List.all_eq_true.1 hd o (by simpa using ho)
theorem JI.drawP {id : Nat} {ops : List Oper} (hm : P.follows .mixedOrders = true) (hd : ops.all notDefer = true) (h : JP P n w0 F ops [] ops.length (List.replicate ops.length false) Q e Γ) : JI P n w0 F l (.region id ⟨ops⟩ true) Q e Γ := by
  intro hq a w fr ho
  refine wpIn_region_draw fun t => ?_
  simp only [Region.schedule, hm, Bool.true_or, if_true]
  refine wpOps_in (fun o ho => List.all_eq_true.1 hd o (by simpa using ho)) (no_out hq) _ _ _ ?_
  have := pAny_wp exitP_up _ _ _ _ (h a w.drew fr ho.drew)
  have e1 : (⟨List.replicate ops.length false⟩ : Array Bool) = Array.replicate (⟨ops⟩ : Array Oper).size false := by apply Array.ext'; simp
  rw [e1] at this
  exact wpAny_sound _ t _ a _ this
def JY (P : Program) (n : Nn) (w0 : World) (F : Nat → Prop) (ops : Array Oper) (i : Nat) (os : List Oper) (Q : Cont) (e : E) (Γ : List Fact) : Prop :=
  ops.toList.drop i = os → ∀ a w, Fr n e a → Hold w0 F Γ w → wpOpsIn Fence.wide 2 P ops (up n w0 F Q) (List.range' i os.length) a w
theorem JC.regionY {id : Nat} {os : List Oper} (h : JY P n w0 F ⟨os⟩ 0 os Q e Γ) : JC P n w0 F (.region id ⟨os⟩ false) Q e Γ := by
  intro a w fr ho
  refine (wpIn_wide (n := 2)).1 (wpIn_region ?_)
  have e1 : List.range (Array.size ⟨os⟩ : Nat) = List.range' 0 os.length := by simp [List.range_eq_range']
  rw [e1]
  exact h rfl a w fr ho
theorem JY.nil {ops : Array Oper} {i : Nat} (h : Q .normal e Γ) : JY P n w0 F ops i [] Q e Γ :=
  fun _ a w fr ho => by show wpOpsIn Fence.wide 2 P ops (up n w0 F Q) [] a w; unfold wpOpsIn; exact ⟨e, Γ, h, fr, ho⟩
section
variable {ops : List Oper} {i d : Nat} {op : Op} {t : TypeId} {pos : String} {aft : Array Edge} {g : Option (Nat × Bool)} {os : List Oper}
theorem JY.val {v : Value} (hg : gtest ops e g = some true) (h : OpV P n w0 F ⟨some d, op, t, pos, aft, g⟩ e Γ v) (hd : Nat.blt d n.s = true) (k : JY P n w0 F ⟨ops⟩ (i + 1) os Q ((d, v) :: e) Γ) : JY P n w0 F ⟨ops⟩ i (⟨some d, op, t, pos, aft, g⟩ :: os) Q e Γ := by
  intro hdr a w fr ho
  obtain ⟨h1, h2⟩ := drop_at hdr
  simp only [List.length_cons, List.range'_succ, wpOpsIn]
  rw [h1]
  simp only [gtest_ok (o := ⟨some d, op, t, pos, aft, g⟩) hg fr, if_true]
  refine ⟨fun _ _ => trivial, ?_⟩
  show Oper.uponIn _ _ _ _ _ _ _ ((execOp a.eval ⟨some d, op, t, pos, aft, g⟩).run P w)
  rw [h a w fr ho]
  exact k h2 _ w (fr.put hd v) ho
theorem JY.omit (hg : gtest ops e g = some false) (hd : Nat.blt d n.s = true) (k : JY P n w0 F ⟨ops⟩ (i + 1) os Q ((d, undef) :: e) Γ) : JY P n w0 F ⟨ops⟩ i (⟨some d, op, t, pos, aft, g⟩ :: os) Q e Γ := by
  intro hdr a w fr ho
  obtain ⟨h1, h2⟩ := drop_at hdr
  simp only [List.length_cons, List.range'_succ, wpOpsIn]
  rw [h1]
  simp only [gtest_ok (o := ⟨some d, op, t, pos, aft, g⟩) hg fr, Bool.false_eq_true, if_false]
  exact ⟨fun _ _ => trivial, k h2 _ w (fr.put hd _) ho⟩
theorem JY.skip (hg : gskip ops e g = true) (hd : Nat.blt d n.s = true) (k : JY P n w0 F ⟨ops⟩ (i + 1) os Q ((d, undef) :: e) Γ) : JY P n w0 F ⟨ops⟩ i (⟨some d, op, t, pos, aft, g⟩ :: os) Q e Γ := by
  intro hdr a w fr ho
  obtain ⟨h1, h2⟩ := drop_at hdr
  simp only [List.length_cons, List.range'_succ, wpOpsIn]
  rw [h1]
  simp only [gskip_ok (o := ⟨some d, op, t, pos, aft, g⟩) hg fr, Bool.false_eq_true, if_false]
  exact ⟨fun _ _ => trivial, k h2 _ w (fr.put hd _) ho⟩
theorem JY.test (s : Nat) {b : Bool} {p : Prop} [hc : Lk e s (.bool b)] [hp : Says b p] (ht : p → JY P n w0 F ⟨ops⟩ i os Q ((s, .bool true) :: e) Γ) (hf : ¬ p → JY P n w0 F ⟨ops⟩ i os Q ((s, .bool false) :: e) Γ) : JY P n w0 F ⟨ops⟩ i os Q e Γ := by
  intro hd a w fr ho
  have key : Fr n ((s, .bool b) :: e) a := fr.again hc.ok
  cases b with
  | true => exact ht (hp.ok.1 rfl) hd a w key ho
  | false => exact hf (fun h => by have := hp.ok.2 h; cases this) hd a w key ho
theorem JY.reslot (s : Nat) {v : Value} (u : Value) [hs : Lk e s v] (h : v = u) (k : JY P n w0 F ⟨ops⟩ i os Q ((s, u) :: e) Γ) : JY P n w0 F ⟨ops⟩ i os Q e Γ :=
  fun hd a w fr ho => k hd a w (fr.again (by rw [← h]; exact hs.ok)) ho
theorem JY.more {Γ' : List Fact} (h : ∀ w, Hold w0 F Γ w → Hold w0 F Γ' w) (k : JY P n w0 F ⟨ops⟩ i os Q e Γ') : JY P n w0 F ⟨ops⟩ i os Q e Γ := fun hd a w fr ho => k hd a w fr (h w ho)
theorem JY.yield {f : Operand} {args : Array Operand} {ats : Array TypeId} {vs : List Value} {l : Nat} {κ ξ : Type} {Γt : ξ → List Fact} {Γf : κ → List Fact} (hg : gtest ops e g = some true) [hf : Ev e f (.func (.yield l) #[] #[])] [hv : ArgVs e args.toList vs] (hd : Nat.blt d n.s = true)
    (h : ∀ w, Hold w0 F Γ w → YieldAt Fence.wide 1 P l ⟨vs⟩ w fun x w' => (x = .returned (.bool true) ∧ ∃ s, Hold w0 F (Γt s) w') ∨ (x = .returned (.bool false) ∧ ∃ k, Hold w0 F (Γf k) w'))
    (kt : ∀ s, JY P n w0 F ⟨ops⟩ (i + 1) os Q ((d, .bool true) :: e) (Γt s)) (kf : ∀ k, JY P n w0 F ⟨ops⟩ (i + 1) os Q ((d, .bool false) :: e) (Γf k)) :
    JY P n w0 F ⟨ops⟩ i (⟨some d, .call ⟨.value f, args, ats⟩, t, pos, aft, g⟩ :: os) Q e Γ := by
  intro hdr a w fr ho
  obtain ⟨h1, h2⟩ := drop_at hdr
  simp only [List.length_cons, List.range'_succ, wpOpsIn]
  rw [h1]
  simp only [gtest_ok (o := ⟨some d, .call ⟨.value f, args, ats⟩, t, pos, aft, g⟩) hg fr, if_true]
  refine ⟨fun _ _ => trivial, ?_⟩
  obtain ⟨fn, tmps, assign, body, hy, hR⟩ := h w ho
  have e1 := hf.ok n a fr
  have e2 : args.map a.eval = ⟨vs⟩ := by apply Array.ext'; simp [hv.ok n a fr]
  have hrun : (execOp a.eval ⟨some d, .call ⟨.value f, args, ats⟩, t, pos, aft, g⟩).run P w = .ok (.round l fn tmps assign body) w := by
    have e3 : (resolve a.eval ⟨.value f, args, ats⟩ t).run P w = .ok ⟨.fn (.yield l) #[], ⟨vs⟩⟩ w := by
      simp [resolve, e1, Deferred.ofValue]
      apply Array.ext'; simp [hv.ok n a fr]
    have e4 : (⟨vs⟩ : Array Value) ++ (#[] : Array Value) = ⟨vs⟩ := by apply Array.ext'; simp
    simp only [execOp, Sem.run_bind, e3, Result.andThen_ok, invoke]
    simpa [e4] using hy
  show Oper.uponIn _ _ _ _ _ _ _ ((execOp a.eval ⟨some d, .call ⟨.value f, args, ats⟩, t, pos, aft, g⟩).run P w)
  rw [hrun]
  refine ⟨fun h => (by cases h), hR.mono ?_⟩
  rintro x w' (⟨rfl, s, ho'⟩ | ⟨rfl, k, ho'⟩)
  · exact kt s h2 _ w' (fr.put hd _) ho'
  · exact kf k h2 _ w' (fr.put hd _) ho'
end
end
theorem zip_two (p1 p2 : Nat) (v1 v2 : Value) (T : Array Value) : ((#[p1, p2] : Array Nat).zip (⟨[v1, v2]⟩ : Array Value)).foldl (fun t (p, v) => t.setIfInBounds p v) T = (T.setIfInBounds p1 v1).setIfInBounds p2 v2 := by
  simp
def tru (p : Prop) : Asn where
  holds _ _ := p
  mono _ _ _ _ h := h
  frame _ _ _ _ h := h
  within _ _ h := h
section
variable {P : Program} {n : Nn} {w0 : World} {F : Nat → Prop} {l : Nat} {Q : Cont} {e : E} {Γ : List Fact} [Dr]
theorem JI.know {c : Code} {p : Prop} (h : ∀ w, Hold w0 F Γ w → p) (k : p → JI P n w0 F l c Q e Γ) : JI P n w0 F l c Q e Γ := fun hq a w fr ho => k (h w ho) hq a w fr ho
end
section
variable {P : Program} {n : Nn} {w0 : World} {F : Nat → Prop} {l : Nat} {e : E} {Γ : List Fact} [Dr]
theorem Hold.turn {w : World} {r : Nat} {o o' : Obj} {Δ : List Fact} (h : Hold w0 F (.obj r o :: Δ) w) : Hold w0 F (.obj r o' :: Δ) (w.putObj r o') := setMapIter h
theorem Hold.objAt {w : World} {r : Nat} {o : Obj} {Δ : List Fact} (h : Hold w0 F (.obj r o :: Δ) w) : w.heap[r]? = some o := h.sat (.obj r o) (by simp)
def Iter (P : Program) (w0 : World) (F : Nat → Prop) (gf : FuncId) (lb : List Value) (N : Nat) {ι : Type} (v1 v2 : Nat → ι → Value) (G : Nat → ι → List Fact) (Γi : List Fact) : Prop :=
  ∀ (l : Nat) (κ ξ : Type) (M : Nat → ξ → List Fact) (X : κ → List Fact),
    (∀ i, i < N → ∀ (u : ι) (s : ξ) (Γ : List Fact) w, Hold w0 F (G i u ++ Γ ++ M i s) w → YieldAt Fence.wide 1 P l ⟨[v1 i u, v2 i u]⟩ w fun x w' => (x = .returned (.bool true) ∧ ∃ s, Hold w0 F (Γ ++ M (i + 1) s) w') ∨ (x = .returned (.bool false) ∧ ∃ k, Hold w0 F (Γ ++ X k) w')) →
    ∀ s w, Hold w0 F (Γi ++ M 0 s) w → Calls P gf ⟨.func (.yield l) #[] #[] :: lb⟩ w fun x w' => (∃ v, x = .returned v) ∧ ((∃ s, Hold w0 F (M N s) w') ∨ ∃ k, Hold w0 F (X k) w')
theorem JX.range {Q : Nn → Cont} {g : Operand} {p1 p2 : Nat} {assign body : Code} {gf : FuncId} {lb : List Value} {N : Nat} {ι ζ κ ξ : Type} {v1 v2 : Nat → ι → Value} {G : Nat → ι → List Fact} {Γi : List Fact}
    (M : Nat → ξ → List Fact) (X : κ → List Fact) (E2 : Nat → ι → ξ → ζ → E) (N2 : Nat → ι → ξ → ζ → List Fact) (s0 : ξ)
    [hg : Ev e g (.func (.func gf) #[] ⟨lb⟩)] [hb : Body P gf] (h1 : Nat.blt p1 n.s = true) (h2 : Nat.blt p2 n.s = true)
    (hi : Iter P w0 F gf lb N v1 v2 G Γi) (h0 : ∀ w, Hold w0 F Γ w → Hold w0 F (Γi ++ M 0 s0) w)
    (ha : ∀ i, i < N → ∀ (u : ι) (s : ξ) (Γ : List Fact) l, JI P ⟨n.s, []⟩ w0 F l assign (fun x e' Γ' => x = .normal ∧ ∃ z, Ent e' Γ' (E2 i u s z) (N2 i u s z ++ Γ)) ((p2, v2 i u) :: (p1, v1 i u) :: e) (G i u ++ M i s ++ Γ))
    (hbd : ∀ i, i < N → ∀ (u : ι) (s : ξ) (z : ζ) (Γ : List Fact) l, JI P ⟨n.s, []⟩ w0 F l body (fun x e' Γ' => (x = .normal ∧ ∃ s, ∀ w, Hold w0 F Γ' w → Hold w0 F (M (i + 1) s ++ Γ) w) ∨ (x = .ret ∧ ∃ k, ∀ w, Hold w0 F Γ' w → Hold w0 F (X k ++ Γ) w)) (E2 i u s z) (N2 i u s z ++ Γ))
    (kn : ∀ D s, Q ⟨n.s, ⟨.collected D, #[]⟩ :: n.ds⟩ .normal e (.obj D (.deferred (some [])) :: M N s))
    (kr : ∀ D k, Q ⟨n.s, ⟨.collected D, #[]⟩ :: n.ds⟩ .ret e (.obj D (.deferred (some [])) :: X k)) :
    JX P n w0 F (.rangeFunc g #[p1, p2] assign body) Q e Γ := by
  intro a w fr ho
  refine (wpIn_wide (n := 3)).1 (wpIn_rangeFunc ?_)
  intro fn hfn
  obtain ⟨rec, hrec⟩ : ∃ rec : LoopState → Option Code → Loop, rec = fun st pe => { state := st, pending := pe, fn, tmps := a.tmps, params := #[p1, p2], assign, body, defers := w.heap.size } := ⟨_, rfl⟩
  have ho1 : Hold w0 F (.obj (w.heap.size + 1) (.loop (rec .ready none)) :: .obj w.heap.size (.deferred (some [])) :: (Γi ++ M 0 s0)) ((w.alloc (.deferred (some []))).alloc (.loop (rec .ready none))) := by
    have a1 := (h0 w ho).push (f := .obj w.heap.size (.deferred (some []))) (fun _ => Iff.rfl) (fun _ _ h => h)
    have a2 := a1.push (f := .obj (w.alloc (.deferred (some []))).heap.size (.loop (rec .ready none))) (fun _ => Iff.rfl) (fun _ _ h => h)
    simpa only [World.size_alloc] using a2
  obtain ⟨W1, hW1⟩ : ∃ W1, (w.alloc (.deferred (some []))).alloc (.loop (rec .ready none)) = W1 := ⟨_, rfl⟩
  rw [hW1] at ho1
  obtain ⟨D, hD⟩ : ∃ D, D = w.heap.size := ⟨_, rfl⟩
  have eg := hg.ok n a fr
  have e3 : (#[.func (.yield (D + 1)) #[] #[]] : Array Value) ++ (⟨lb⟩ : Array Value) = ⟨.func (.yield (D + 1)) #[] #[] :: lb⟩ := by apply Array.ext'; simp
  have hLr : ∀ st pe, (rec st pe).state = st := fun st pe => by rw [hrec]
  have fr0 : Fr ⟨n.s, []⟩ e ⟨a.tmps, []⟩ := ⟨rfl, fr.size, fr.slot⟩
  refine ⟨D + 1, [{ target := .collected D, args := #[] }], W1, { target := .fn (.func gf) ⟨lb⟩, args := #[.func (.yield (D + 1)) #[] #[]] }, W1, gf, ⟨.func (.yield (D + 1)) #[] #[] :: lb⟩, W1, ?_, ?_, ?_, ?_, fun h => (by cases h), ?_⟩
  · rw [← hW1, hrec, hD]; exact run_enterLoop_outer _ _ _ _ _
  · simp only [resolve, eg]
    simp [go_sem, Deferred.ofValue]
  · intro f' _; trivial
  · simp only [invoke, e3, hb.ok]
  · rw [← hD] at ho1
    let M' : Nat → ξ → List Fact := fun i s => .obj (D + 1) (.loop (rec .ready none)) :: .obj D (.deferred (some [])) :: M i s
    let X' : κ → List Fact := fun k => .obj (D + 1) (.loop { rec .ready none with state := .done, pending := some .ret }) :: .obj D (.deferred (some [])) :: X k
    refine callsIn_wide.2 (Calls.mono (hi (D + 1) κ ξ M' X' ?_ s0 W1 (ho1.perm ?_)) ?_)
    · intro i hin u s Γ W hW
      have hW' : Hold w0 F (.obj (D + 1) (.loop (rec .ready none)) :: (G i u ++ M i s ++ .obj D (.deferred (some [])) :: Γ)) W := by
        refine hW.perm ?_
        show (G i u ++ Γ ++ .obj (D + 1) (.loop (rec .ready none)) :: .obj D (.deferred (some [])) :: M i s).Perm _
        refine List.perm_middle.trans (List.Perm.cons _ ?_)
        refine List.perm_middle.trans ((List.Perm.cons _ ?_).trans List.perm_middle.symm)
        rw [List.append_assoc, List.append_assoc]
        exact List.Perm.append_left _ List.perm_append_comm
      have hl := hW'.objAt
      have hy := run_yield (P := P) (args := ⟨[v1 i u, v2 i u]⟩) hl (by rw [hrec]; rfl)
      refine ⟨_, _, _, _, hy, roundIn_of_wpIn trivial ?_⟩
      have etm : ((rec .ready none).params.zip (⟨[v1 i u, v2 i u]⟩ : Array Value)).foldl (fun t (p, v) => t.setIfInBounds p v) (rec .ready none).tmps = (a.tmps.setIfInBounds p1 (v1 i u)).setIfInBounds p2 (v2 i u) := by
        rw [hrec]; exact zip_two p1 p2 _ _ _
      have ea : (rec .ready none).assign = assign := by rw [hrec]
      have eb : (rec .ready none).body = body := by rw [hrec]
      rw [etm, ea, eb]
      have fr1 := (fr0.put h1 (v1 i u)).put h2 (v2 i u)
      have hW2 : Hold w0 F (G i u ++ M i s ++ (.obj (D + 1) (.loop (rec .ready none)) :: .obj D (.deferred (some [])) :: Γ)) W := hW'.perm List.perm_middle.symm
      refine wpIn_mono (ha i hin u s _ (D + 1) (fun _ _ h => by cases h.1) _ W fr1 hW2) ?_
      rintro x a2 W2 ⟨e2, Γ2, ⟨rfl, z, hent⟩, fr2, ho2⟩
      have ho3 : Hold w0 F (.obj (D + 1) (.loop (rec .ready none)) :: (N2 i u s z ++ .obj D (.deferred (some [])) :: Γ)) W2 := (hent.facts w0 F W2 ho2).perm List.perm_middle
      have fr3 := hent.slots _ _ fr2
      refine ⟨_, run_beginRound ho3.objAt (hLr _ _), ?_⟩
      have ho4 := (ho3.turn (o' := .loop { rec .ready none with state := .busy })).perm (List.perm_middle (l₁ := N2 i u s z)).symm
      refine wpIn_mono (hbd i hin u s z _ (D + 1) (fun _ _ h => by rcases h with h | h <;> cases h.1) _ _ fr3 ho4) ?_
      rintro x a5 W5 ⟨e5, Γ5, hx, fr5, ho5⟩
      rcases hx with ⟨rfl, s2, hm⟩ | ⟨rfl, k, hm⟩
      · have ho6 := (hm _ ho5).perm (List.perm_middle (l₁ := M (i + 1) s2))
        refine ⟨_, _, run_endRound none ho6.objAt, .inl ⟨rfl, s2, ?_⟩⟩
        have ho7 := ho6.turn (o' := .loop (rec .ready none))
        have er : (Obj.loop { ({ rec .ready none with state := .busy } : Loop) with state := if (none : Option Code).isNone then .ready else .done, pending := none }) = .loop (rec .ready none) := by rw [hrec]; rfl
        rw [er]
        refine ho7.perm ?_
        show List.Perm _ (Γ ++ .obj (D + 1) (.loop (rec .ready none)) :: .obj D (.deferred (some [])) :: M (i + 1) s2)
        refine (List.Perm.cons _ ?_).trans List.perm_middle.symm
        refine List.perm_middle.trans ((List.Perm.cons _ List.perm_append_comm).trans List.perm_middle.symm)
      · have ho6 := (hm _ ho5).perm (List.perm_middle (l₁ := X k))
        refine ⟨_, _, run_endRound (some .ret) ho6.objAt, .inr ⟨rfl, k, ?_⟩⟩
        have ho7 := ho6.turn (o' := .loop { rec .ready none with state := .done, pending := some .ret })
        have er : (Obj.loop { ({ rec .ready none with state := .busy } : Loop) with state := if (some Code.ret : Option Code).isNone then .ready else .done, pending := some .ret }) = .loop { rec .ready none with state := .done, pending := some .ret } := by rfl
        rw [er]
        refine ho7.perm ?_
        show List.Perm _ (Γ ++ .obj (D + 1) (.loop { rec .ready none with state := .done, pending := some .ret }) :: .obj D (.deferred (some [])) :: X k)
        refine (List.Perm.cons _ ?_).trans List.perm_middle.symm
        refine List.perm_middle.trans ((List.Perm.cons _ List.perm_append_comm).trans List.perm_middle.symm)
    · show List.Perm _ (Γi ++ .obj (D + 1) (.loop (rec .ready none)) :: .obj D (.deferred (some [])) :: M 0 s0)
      refine (List.Perm.trans ?_ List.perm_middle.symm)
      exact List.Perm.cons _ List.perm_middle.symm
    · have frD : ∀ {W}, Hold w0 F Γ W → Fr ⟨n.s, ⟨.collected D, #[]⟩ :: n.ds⟩ e { a with defers := [⟨.collected D, #[]⟩] ++ a.defers } := fun _ => ⟨by show [_] ++ a.defers = _; rw [fr.defers]; rfl, fr.size, fr.slot⟩
      have frE := frD ho
      rintro x W3 ⟨⟨v, rfl⟩, ⟨s, hM⟩ | ⟨k, hX⟩⟩
      · refine ⟨none, W3.putObj (D + 1) (.loop { rec .ready none with state := .exhausted }), ?_, ?_⟩
        · have := run_endLoop (P := P) hM.objAt (by rw [hLr]; simp)
          have ep : (rec .ready none).pending = none := by rw [hrec]
          exact this.trans (congrArg (fun x => Result.ok x _) ep)
        · have ho9 := (hM.turn (o' := .loop { rec .ready none with state := .exhausted })).tail
          exact ⟨_, e, _, kn D s, frE, ho9⟩
      · refine ⟨some .ret, _, run_endLoop (P := P) hX.objAt (by simp), ?_⟩
        have ho9 := (hX.turn (o' := .loop { ({ rec .ready none with state := .done, pending := some .ret } : Loop) with state := .exhausted })).tail
        exact wpIn_ret ⟨_, e, _, kr D k, frE, ho9⟩
theorem JX.seqX {Q : Nn → Cont} {x y : Code} (h : JX P n w0 F x (fun n' => andThen (JC P n' w0 F y (Q n')) (Q n')) e Γ) : JX P n w0 F (.seq x y) Q e Γ := by
  intro a w fr ho
  refine wp_seq (wp_mono (h a w fr ho) ?_)
  rintro z a w ⟨n', e, Γ, hq, fr, ho⟩
  cases z <;> first | exact wp_mono (hq a w fr ho) (fun x a w ⟨e, Γ, hq⟩ => ⟨n', e, Γ, hq⟩) | exact ⟨n', e, Γ, hq, fr, ho⟩
theorem JX.block {Q : Nn → Cont} {id : Nat} {c : Code} (h : JX P n w0 F c (fun n' => inBlock id (Q n')) e Γ) : JX P n w0 F (.block id c) Q e Γ := by
  intro a w fr ho
  refine wp_block (wp_mono (h a w fr ho) ?_)
  rintro x a w ⟨n', e, Γ, hq, fr, ho⟩
  cases x with
  | exit id' =>
    simp only [inBlock, Exit.inBlock] at *
    split
    · rename_i he; rw [if_pos he] at hq; exact ⟨n', e, Γ, hq, fr, ho⟩
    · rename_i he; rw [if_neg he] at hq; exact ⟨n', e, Γ, hq, fr, ho⟩
  | _ => exact ⟨n', e, Γ, hq, fr, ho⟩
theorem gives_range {f : FuncId} {fn : Func} {c : Code} {rs : List ResultVar} {args : List Value} {w : World} {Y : Type} {v : Y → Value} {B : Y → List Fact}
    {m : Nat} (hf : P.funcs[f]? = some fn) (hb : fn.body = some c) (hn : fn.ntmps = m) (hr : fn.results = ⟨rs⟩) (hl : Nat.ble args.length m = true) (Γ : List Fact) (ho : Hold w F Γ w)
    (h : JX P ⟨m, []⟩ w F c (fun n' x e Γ => ∃ D Γ', n' = ⟨m, [⟨.collected D, #[]⟩]⟩ ∧ (x = .ret ∨ x = .normal) ∧ (∀ w1, Hold w F Γ w1 → Hold w F (.obj D (.deferred (some [])) :: Γ') w1) ∧ retTo P w F rs v B .ret e Γ') (enum 0 args) Γ) : Gives P f args w F v B := by
  refine callsIn_wide.1 (callsIn_of_wp_marks (F := Fence.wide) (n := 3) hf hb trivial ?_)
  rw [hn]
  refine wpIn_mono ((wpIn_wide (n := 3)).2 (h _ w (Fr.start hl) ho)) ?_
  rintro x a w' ⟨n', e, Γ, ⟨D, Γ', rfl, hx, hΓ, _, y, vs, hres, hpk, hB⟩, fr, ho'⟩
  have ho1 := hΓ w' ho'
  have ho2 := (ho1.turn (o' := .deferred none)).tail
  have fr' : Fr ⟨m, []⟩ e ⟨a.tmps, []⟩ := ⟨rfl, fr.size, fr.slot⟩
  have hrun := run_results (P := P) hr hres fr' ho2
  have key : LeavesInM Fence.wide 3 P fn a.tmps (fun x w' => ∃ y, x = .returned (v y) ∧ Bel w.heap.size w w' ∧ Fresh w.heap.size F (B y) w') a.defers .returning w' := by
    rw [fr.defers]
    refine ⟨by simp, .inl ⟨D, _, rfl, run_takeDeferred ho1.objAt, ?_⟩⟩
    exact ⟨_, hrun, y, by rw [hpk], ho2.below, (hB _ ho2).fresh⟩
  rcases hx with rfl | rfl <;> exact key
end
end Ab
end Go.Proofs.YtdgeffphifgflaaGreat
namespace Go.Proofs.YtdgeffphifgflaaGreat
namespace Ab
open Go Go.RowKit
set_option linter.unusedVariables false
set_option linter.unusedSimpArgs false
set_option synthInstance.maxSize 4000
set_option synthInstance.maxHeartbeats 400000
attribute [local irreducible] JC JO JR JQ andThen inBlock OpV Gives retTo JM JS
attribute [local irreducible] JY JI JX
theorem commits_store (w : World) (F : Nat → Prop) (a : Option Addr) (c : Nat) (b : List UInt8) (h : (sl a c b).holds F w) :
    Gives Tryz.prog 61 [.slice a b.length c] w F (fun y : Nat => .func (.func 121) #[] ⟨[.pointer (some ⟨y, 0, none⟩)]⟩) (fun y => [.own y 22 [.slice a b.length c]]) := by
  refine gives_of Tryz.func61 rfl Tryz.ntmps61 rfl rfl [.st (sl a c b)] (.start1 h) ?_
  repeat (first|refine Wa ?_|refine Wb ?_|refine Wc ?_|refine Wd ?_|refine We rfl ?_|refine Wf (by first|exact Vb|exact Vr) rfl ?_|(refine Wh rfl ?_; intro _)|refine Ws ?_)
  rename_i bx
  exact CT.done bx rfl (fun w ho => ho.ent)
noncomputable def comAt (b : List UInt8) (i : Nat) : Commit := (decL (readL b)).getD i com0
noncomputable def endAt (b : List UInt8) (i : Nat) : Nat := (framesL ((readL b).take (i + 1))).length
set_option maxHeartbeats 4000000 in
theorem iter_commits (w0 : World) (F : Nat → Prop) (bx : Nat) (a : Option Addr) (c : Nat) (b : List UInt8) (hb : b.length ≤ 1048576) :
    Iter Tryz.prog w0 F 121 [.pointer (some ⟨bx, 0, none⟩)] (decL (readL b)).length (ι := Option Addr × Nat) (fun i u => commitV (comAt b i) u.1 u.2) (fun i u => .int .i64 (endAt b i : Int))
      (fun i u => [.st (sl u.1 u.2 (comAt b i).parents)]) [.own bx 22 [.slice a b.length c], .st (sl a c b)] := by
  intro l κ ξ M X hY s0 w ho
  have hpre : framesL (readL b) <+: b := readF_pre _ _
  have hfl : (framesL (readL b)).length ≤ b.length := hpre.length_le
  have hrl := length_framesL (readL b)
  have hsm : ∀ x ∈ readL b, x.length ≤ 4000 := readL_small _ _
  have hdl := decL_le (readL b)
  refine Calls.mono (R := fun x w' => ∃ y : ξ ⊕ κ, x = .returned (.tuple ⟨[]⟩) ∧ Hold w0 F (match y with | .inl s => M (decL (readL b)).length s | .inr k => X k) w') ?key ?mono
  case mono =>
    rintro x w' ⟨y, rfl, hy⟩
    cases y with
    | inl s => exact ⟨⟨_, rfl⟩, .inl ⟨s, hy⟩⟩
    | inr k => exact ⟨⟨_, rfl⟩, .inr ⟨k, hy⟩⟩
  refine calls_of (Y := ξ ⊕ κ) (v := fun _ => .tuple ⟨[]⟩) (B := fun y => match y with | .inl s => M (decL (readL b)).length s | .inr k => X k) Tryz.func121 rfl Tryz.ntmps121 rfl rfl
    (.own bx 22 [.slice a b.length c] :: .st (sl a c b) :: M 0 s0) ho ?_
  repeat (first|refine Wb ?_|refine Wc ?_|refine We rfl ?_|refine Wf (by exact Vc) rfl ?_)
  refine JR.callSlT rfl (fun w1 hw => read_log w1 _ a c b (hw.get (A := sl a c b)) hb) ?_
  intro a3 c3
  generalize hrs : readL b = rs at hY hpre hfl hrl hsm hdl ⊢
  repeat (first|refine Wa ?_|refine Wb ?_|refine Wc ?_|refine Wd ?_|refine We rfl ?_|refine Wf (by first|exact Va|exact Vb|exact Vf|exact Vq) rfl ?_|refine Wn ?_)
  refine JC.reslot 5 (.int .i64 ((framesL (rs.take 0)).length : Int)) rfl ?_
  refine JC.loop2 (fun (i : Nat) (s : ξ) => [(0, .func (.yield l) #[] #[]), (5, .int .i64 ((framesL (rs.take i)).length : Int)), (18, .slice a3 rs.length c3), (19, .int .i64 (rs.length : Int)), (20, .int .i64 (i : Int))])
    (fun i s => .st (sl a3 c3 rs) :: M i s) (fun i _ => i ≤ (decL rs).length) (fun i _ => rs.length - i) 0 s0 (Nat.zero_le _) inferInstance ?_
  intro i s hi
  repeat (first|refine Wa ?_|refine Wb ?_|refine Wc ?_|refine Wd ?_|refine We rfl ?_|refine Wf (by exact Vg) rfl ?_)
  refine JC.test (fun h1 => ?_) (fun h1 => ?_)
  · have hlt : i < rs.length := by omega
    repeat (first|refine Wa ?_|refine Wb ?_|refine Wc ?_|refine We rfl ?_|refine Wl ?_|refine Wn ?_)
    have hx := hsm rs[i] (List.getElem_mem hlt)
    have hfr : frameT rs[i] = (frameL rs[i], 0) := if_neg (by omega)
    refine JR.indexBytes (k := i) rfl hlt ?_
    intro b5 o5 a5 c5
    repeat (first|refine Wa ?_|refine Wb ?_|refine Wc ?_|refine Wd ?_|refine We rfl ?_|refine Wf (by first|exact Va|exact Vb|exact Vc) rfl ?_)
    refine JR.callSlT rfl (fun w1 hw => frame_log w1 _ a5 c5 rs[i] (hw.get (A := sl a5 c5 rs[i]))) ?_
    rw [hfr]
    intro a6 c6
    dsimp only
    have hnx := framesL_next hlt
    have hle := framesL_take_le rs (i + 1)
    repeat (first|refine Wa ?_|refine Wb ?_|refine Wc ?_|refine Wd ?_|refine We rfl ?_|refine Wf (by first|exact Va|exact Vb|exact Vf|exact Vq|exact Vs (by omega)) rfl ?_)
    refine JR.call2 (B := fun y : GetY rs[i] => .st (sl y.pa y.pc (getT rs[i]).1.parents)) (C := fun y : GetY rs[i] => .st (sl y.ra y.rc (getT rs[i]).2.1)) rfl (fun w1 hw => get_com w1 _ a5 c5 rs[i] (hw.get (A := sl a5 c5 rs[i])) (by omega)) ?_
    rintro ⟨pa, pc, ra, rc⟩
    dsimp only
    by_cases hd : i < (decL rs).length
    · have hg := decL_at rs i hd hlt
      have hT : getT rs[i] = ((decL rs)[i], [], 0) := getT_some hg
      rw [hT]
      dsimp only
      have hcm : comAt b i = (decL rs)[i] := by unfold comAt; rw [hrs, List.getD_eq_getElem?_getD, List.getElem?_eq_getElem hd]; rfl
      have hend : endAt b i = (framesL (rs.take (i + 1))).length := by unfold endAt; rw [hrs]
      generalize (decL rs)[i] = cm at hg hcm ⊢
      repeat (first|refine Wd ?_|refine We rfl ?_|refine Wf (by first|exact Va|exact Vb|exact Vc|exact Vd|exact Ve|exact Vf|exact Vg|exact Vh|exact Vi|exact Vj|exact Vk (by omega)|exact Vl|exact Vm|exact Vn|exact Vo|exact Vp|exact Vq|exact Vr|exact Vs (by omega)|exact Vt (by omega)|exact Vu (by omega)|exact Vv (by omega)|exact Vw|exact Vx|exact Vy|exact Vz|exact VA|exact VB|exact VC|exact VD|exact VE|exact VF) rfl ?_|(refine Wg rfl ?_; intro _)|(refine Wh rfl ?_; intro _)|refine Wi ?_|refine Wv rfl rfl ?_)
      rename_i bc
      refine Wa ?_
      refine Wb ?_
      refine JC.regionY ?_
      repeat (first|refine JY.val rfl (by first|exact Va|exact Vb|exact Vc|exact Vd|exact Ve|exact Vf|exact Vg|exact Vh|exact Vi|exact Vj|exact Vk (by omega)|exact Vl|exact Vm|exact Vn|exact Vo|exact Vp|exact Vq|exact Vr|exact Vs (by omega)|exact Vt (by omega)|exact Vu (by omega)|exact Vv (by omega)|exact Vw|exact Vx|exact Vy|exact Vz|exact VA|exact VB|exact VC|exact VD|exact VE|exact VF) rfl ?_|refine JY.omit rfl rfl ?_|refine JY.skip rfl rfl ?_|refine JY.nil ?_)
      refine JY.reslot 49 (.int .i64 ((framesL (rs.take (i + 1))).length : Int)) (by congr 1; omega) ?_
      refine JY.reslot 5 (.int .i64 ((framesL (rs.take (i + 1))).length : Int)) (by congr 1; omega) ?_
      refine JY.yield (l := l) (κ := κ) (ξ := ξ) (Γt := fun s => .st (sl a3 c3 rs) :: M (i + 1) s) (Γf := fun k => .st (sl a3 c3 rs) :: X k) rfl rfl (fun w1 ho => ?_) (fun s2 => ?_) (fun k => ?_)
      · have hy := hY i hd (pa, pc) s [.st (sl a3 c3 rs)] w1
        dsimp only at hy
        rw [hcm, hend] at hy
        exact hy (ho.ent : Hold w0 F (.st (sl pa pc cm.parents) :: .st (sl a3 c3 rs) :: M i s) w1)
      · repeat (first|refine JY.val rfl (by first|exact Va|exact Vb|exact Vc|exact Vd|exact Ve|exact Vf|exact Vg|exact Vh|exact Vi|exact Vj|exact Vk (by omega)|exact Vl|exact Vm|exact Vn|exact Vo|exact Vp|exact Vq|exact Vr|exact Vs (by omega)|exact Vt (by omega)|exact Vu (by omega)|exact Vv (by omega)|exact Vw|exact Vx|exact Vy|exact Vz|exact VA|exact VB|exact VC|exact VD|exact VE|exact VF) rfl ?_|refine JY.omit rfl rfl ?_|refine JY.skip rfl rfl ?_|refine JY.nil ?_)
        repeat (first|refine Wa ?_|refine Wc ?_|refine Wd ?_|refine We rfl ?_|refine Wf (by first|exact Va|exact Vk (by omega)) rfl ?_|refine Wk ?_|refine Wl ?_|refine Wr ?_)
        exact ⟨i + 1, s2, by omega, by omega, inferInstance⟩
      · repeat (first|refine JY.val rfl (by first|exact Va|exact Vb|exact Vc|exact Vd|exact Ve|exact Vf|exact Vg|exact Vh|exact Vi|exact Vj|exact Vk (by omega)|exact Vl|exact Vm|exact Vn|exact Vo|exact Vp|exact Vq|exact Vr|exact Vs (by omega)|exact Vt (by omega)|exact Vu (by omega)|exact Vv (by omega)|exact Vw|exact Vx|exact Vy|exact Vz|exact VA|exact VB|exact VC|exact VD|exact VE|exact VF) rfl ?_|refine JY.omit rfl rfl ?_|refine JY.skip rfl rfl ?_|refine JY.nil ?_)
        repeat (first|refine Wa ?_|refine Wj ?_|refine Ws ?_|refine Wt ?_|refine Wu ?_)
        exact CT.done (.inr k) rfl (fun w ho => ho.ent)
    · obtain rfl : i = (decL rs).length := by omega
      have hne := decL_end rs hlt
      cases hg : getC (rs[(decL rs).length]) with
      | none =>
        rw [getT_none hg]
        dsimp only
        repeat (first|refine Wa ?_|refine Wb ?_|refine Wc ?_|refine Wd ?_|refine We rfl ?_|refine Wf (by first|exact Va|exact Vb|exact Vi|exact Vm|exact Vq) rfl ?_|(refine Wg rfl ?_; intro _)|refine Wi ?_|refine Wj ?_|refine Ws ?_|refine Wt ?_|refine Wu ?_|refine Wv rfl rfl ?_)
        exact CT.done (.inl s) rfl (fun w ho => ho.ent)
      | some q =>
        obtain ⟨cm, R⟩ := q
        rw [getT_some hg]
        dsimp only
        have hR : 0 < R.length := by
          cases R with
          | nil => exact (hne ⟨cm, hg⟩).elim
          | cons r R => simp
        repeat (first|refine Wa ?_|refine Wb ?_|refine Wc ?_|refine Wd ?_|refine We rfl ?_|refine Wf (by first|exact Va|exact Vb|exact Vf|exact Vj|exact Vm|exact Vo|exact Vq) rfl ?_|(refine Wg rfl ?_; intro _)|refine Wi ?_)
        refine JO.test 46 (fun h6 => ?_) (fun h6 => absurd h6 (by omega))
        repeat (first|refine Wa ?_|refine Wd ?_|refine We rfl ?_|refine Wf (by exact Vi) rfl ?_|refine Wj ?_|refine Ws ?_|refine Wt ?_|refine Wu ?_|refine Wv rfl rfl ?_)
        exact CT.done (.inl s) rfl (fun w ho => ho.ent)
  · obtain rfl : i = (decL rs).length := by omega
    repeat (first|refine Wm ?_|refine Wo ?_|refine Wp ?_)
    exact CT.doneN (.inl s) rfl (fun w ho => ho.ent)
end Ab
end Go.Proofs.YtdgeffphifgflaaGreat
namespace Go.Proofs.YtdgeffphifgflaaGreat
namespace Ab
open Go Go.RowKit
set_option linter.unusedVariables false
set_option linter.unusedSimpArgs false
set_option synthInstance.maxSize 4000
set_option synthInstance.maxHeartbeats 400000
attribute [local irreducible] JC JO JR JQ andThen inBlock OpV Gives retTo JM JS
attribute [local irreducible] JY JI JX hashC
theorem dec_fine {l : List (List UInt8)} {c : Commit} (h : c ∈ decL l) : fine c := by
  obtain ⟨i, hi, rfl⟩ := List.getElem_of_mem h
  obtain ⟨h1, h2⟩ := getC_may (decL_at l i hi (Nat.lt_of_lt_of_le hi (decL_le l)))
  exact ⟨h2, by have := may_parents h1; omega⟩
set_option maxHeartbeats 4000000 in
theorem load_store (w : World) (F : Nat → Prop) (a : Option Addr) (c : Nat) (b : List UInt8) (h : (sl a c b).holds F w) (hb : b.length ≤ 1048576) :
    GivesSlT Tryz.prog 17 [.slice a b.length c] w F (loadL b) [.int .i64 (loadEnd b : Int)] := by
  obtain ⟨xs, hxs⟩ : ∃ xs, xs = decL (readL b) := ⟨_, rfl⟩
  obtain ⟨rs, hrs⟩ : ∃ rs, rs = readL b := ⟨_, rfl⟩
  refine gives_range Tryz.func17 rfl Tryz.ntmps17 rfl rfl [.st (sl a c b)] (.start1 h) ?_
  refine JX.seq ?_
  repeat (first|refine Wc ?_|refine Wd ?_|refine We rfl ?_|(refine Wg rfl ?_; intro _))
  rename_i b2 b3
  refine ⟨rfl, JX.seq ?_⟩
  repeat (first|refine Wc ?_|refine Wd ?_|refine We rfl ?_|(refine Wg rfl ?_; intro _))
  rename_i b4
  refine ⟨rfl, JX.seq ?_⟩
  repeat (first|refine Wc ?_|refine Wd ?_|refine We rfl ?_|(refine Wg rfl ?_; intro _)|refine Wi ?_)
  rename_i b5
  refine ⟨rfl, JX.seqX (JX.seq ?_)⟩
  repeat (first|refine Wc ?_|refine We rfl ?_|refine Wf (by exact Va) rfl ?_)
  refine JR.call1 (B := fun y : Nat => .own y 22 [.slice a b.length c]) rfl (fun w1 hw => commits_store w1 _ a c b (hw.get (A := sl a c b))) ?_
  intro bx
  repeat (refine Wd ?_)
  refine ⟨rfl, JX.block ?_⟩
  let E0 : E := [(2, .pointer (some ⟨b2, 0, none⟩)), (3, .pointer (some ⟨b3, 0, none⟩)), (4, .pointer (some ⟨b4, 0, none⟩)), (5, .pointer (some ⟨b5, 0, none⟩))]
  have hiter := iter_commits w F bx a c b hb
  rw [← hxs] at hiter
  refine JX.range (ξ := Option Addr × Nat) (κ := Option Addr × Nat) (ζ := Nat)
    (fun i s => [.own b2 35 [.slice none 0 0], .own b3 3 [.int .i64 0], .own b4 35 [.slice s.1 (xs.take i).length s.2], .own b5 3 [.int .i64 ((framesL (rs.take i)).length : Int)], .res (buf s.1 s.2 29 (xs.take i)), .st (tru (closeF [] xs = closeF (xs.take i) (xs.drop i)))])
    (fun k => [.own b2 35 [.slice k.1 (loadL b).length k.2], .own b3 3 [.int .i64 (loadEnd b : Int)], .st (sl k.1 k.2 (loadL b))])
    (fun i u s z => (7, .int .i64 (endAt b i : Int)) :: (6, .pointer (some ⟨z, 0, none⟩)) :: E0)
    (fun i u s z => [.own z 29 [.int .i64 (comAt b i).ev.node, .int .i64 (comAt b i).ev.seq, .int .i64 (comAt b i).gen, .slice u.1 (comAt b i).parents.length u.2, .int .i64 (comAt b i).op.kind, .string (comAt b i).op.key, .string (comAt b i).op.elem, .int .i64 (comAt b i).op.n], .st (sl u.1 u.2 (comAt b i).parents),
      .own b2 35 [.slice none 0 0], .own b3 3 [.int .i64 0], .own b4 35 [.slice s.1 (xs.take i).length s.2], .own b5 3 [.int .i64 ((framesL (rs.take i)).length : Int)], .res (buf s.1 s.2 29 (xs.take i)), .st (tru (closeF [] xs = closeF (xs.take i) (xs.drop i)))])
    (none, 0) rfl rfl hiter ?h0 ?ha ?hbd ?kn ?kr
  case h0 =>
    intro w1 ho
    show Hold w F [.own bx 22 [.slice a b.length c], .st (sl a c b), .own b2 35 [.slice none 0 0], .own b3 3 [.int .i64 0], .own b4 35 [.slice none 0 0], .own b5 3 [.int .i64 0], .res (buf (α := Commit) none 0 29 []), .st (tru (closeF [] xs = closeF (xs.take 0) (xs.drop 0)))] w1
    have := ((ho.ent : Hold w F [.own bx 22 [.slice a b.length c], .st (sl a c b), .own b2 35 [.slice none 0 0], .own b3 3 [.int .i64 0], .own b4 35 [.slice none 0 0], .own b5 3 [.int .i64 0]] w1).add (A := tru (closeF [] xs = closeF (xs.take 0) (xs.drop 0))) rfl)
    exact (this.bufNil (α := Commit) (el := 29) (Γ' := .st (tru (closeF [] xs = closeF (xs.take 0) (xs.drop 0))) :: [.own bx 22 [.slice a b.length c], .st (sl a c b), .own b2 35 [.slice none 0 0], .own b3 3 [.int .i64 0], .own b4 35 [.slice none 0 0], .own b5 3 [.int .i64 0]])).ent
  case ha =>
    rintro i hi ⟨pa, pc⟩ ⟨p, q⟩ Γ l
    dsimp only [List.cons_append, List.nil_append]
    repeat (first|refine Wa ?_|refine JI.seq ?_|refine JI.region rfl ?_|refine Wd ?_|refine We rfl ?_|refine Wf (by first|exact Va|exact Vb|exact Vc|exact Vd|exact Ve|exact Vf|exact Vg|exact Vh|exact Vi|exact Vj|exact Vk (by omega)|exact Vl|exact Vm|exact Vn|exact Vo|exact Vp|exact Vq|exact Vr|exact Vs (by omega)|exact Vt (by omega)|exact Vu (by omega)|exact Vv (by omega)|exact Vw|exact Vx|exact Vy|exact Vz|exact VA|exact VB|exact VC|exact VD|exact VE|exact VF) rfl ?_|(refine Wg rfl ?_; intro _)|(refine Wh rfl ?_; intro _)|refine Wi ?_|refine JI.cond_true ?_|refine JI.cond_false ?_|refine JI.skip ?_|refine JI.ret ?_|refine Wt ?_|refine JI.block ?_|refine Wr ?_|refine Wu ?_|refine Wv rfl rfl ?_|(refine Ww rfl ⟨rfl, by decide, by decide, by decide⟩ ?_; intro _))
    rename_i z
    exact ⟨rfl, z, inferInstance⟩
  case hbd =>
    rintro i hi ⟨pa, pc⟩ ⟨p, q⟩ z Γ l
    dsimp only [List.cons_append, List.nil_append]
    have hxi : comAt b i = xs[i] := by unfold comAt; rw [← hxs, List.getD_eq_getElem?_getD, List.getElem?_eq_getElem hi]; rfl
    have hfn : ∀ x ∈ xs.take (i + 1), fine x := fun x hx => dec_fine (by rw [← hxs]; exact List.mem_of_mem_take hx)
    have hdl := decL_le (readL b)
    have hrl := length_framesL (readL b)
    have hpre : (framesL (readL b)).length ≤ b.length := (readF_pre _ _ : framesL (readL b) <+: b).length_le
    rw [← hxs] at hdl
    have hlen : (xs.take i).length = i := by rw [List.length_take]; omega
    have hnext : xs.take (i + 1) = xs.take i ++ [comAt b i] := by rw [hxi]; exact List.take_succ_eq_append_getElem hi
    refine JI.know (fun w1 ho => (ho.get (A := tru (closeF [] xs = closeF (xs.take i) (xs.drop i))))) ?_
    intro hcl
    generalize comAt b i = cm at hnext hxi ⊢
    repeat (first|refine Wa ?_|refine JI.seq ?_|refine JI.region rfl ?_|refine Wd ?_|refine We rfl ?_|refine Wf (by first|exact Va|exact Vb|exact Vc|exact Vd|exact Ve|exact Vf|exact Vg|exact Vh|exact Vi|exact Vj|exact Vk (by omega)|exact Vl|exact Vm|exact Vn|exact Vo|exact Vp|exact Vq|exact Vr|exact Vs (by omega)|exact Vt (by omega)|exact Vu (by omega)|exact Vv (by omega)|exact Vw|exact Vx|exact Vy|exact Vz|exact VA|exact VB|exact VC|exact VD|exact VE|exact VF) rfl ?_|(refine Wg rfl ?_; intro _)|(refine Wh rfl ?_; intro _)|refine Wi ?_|refine JI.cond_true ?_|refine JI.cond_false ?_|refine JI.skip ?_|refine JI.ret ?_|refine Wt ?_|refine JI.block ?_|refine Wr ?_|refine Wu ?_|refine Wv rfl rfl ?_|(refine Ww rfl ⟨rfl, by decide, by decide, by decide⟩ ?_; intro _))
    rename_i bl
    refine JR.append1 (L := xs.take i) (u := cm) rfl (by exact ⟨rfl, rfl, by decide⟩) (by omega) ?_
    intro a6 c6
    rw [← hnext]
    repeat (first|refine Wa ?_|refine JI.seq ?_|refine JI.region rfl ?_|refine Wd ?_|refine We rfl ?_|refine Wf (by first|exact Va|exact Vb|exact Vc|exact Vd|exact Ve|exact Vf|exact Vg|exact Vh|exact Vi|exact Vj|exact Vk (by omega)|exact Vl|exact Vm|exact Vn|exact Vo|exact Vp|exact Vq|exact Vr|exact Vs (by omega)|exact Vt (by omega)|exact Vu (by omega)|exact Vv (by omega)|exact Vw|exact Vx|exact Vy|exact Vz|exact VA|exact VB|exact VC|exact VD|exact VE|exact VF) rfl ?_|(refine Wg rfl ?_; intro _)|(refine Wh rfl ?_; intro _)|refine Wi ?_|refine JI.cond_true ?_|refine JI.cond_false ?_|refine JI.skip ?_|refine JI.ret ?_|refine Wt ?_|refine JI.block ?_|refine Wr ?_|refine Wu ?_|refine Wv rfl rfl ?_|(refine Ww rfl ⟨rfl, by decide, by decide, by decide⟩ ?_; intro _))
    have hend : endAt b i = (framesL (rs.take (i + 1))).length := by unfold endAt; rw [← hrs]
    rw [hend]
    have hlen1 : (xs.take (i + 1)).length = i + 1 := by rw [List.length_take]; omega
    by_cases hc : Closed (xs.take (i + 1))
    · have hst := closeF_step hi hcl hc
      refine JR.callV rfl (fun w1 hw => (closed_yes w1 (fun _ => True) a6 c6 (xs.take (i + 1)) (Hold.bufSlOf (α := Commit) (a := a6) (c := c6) (el := 29) (L := xs.take (i + 1)) hw) (by omega) hfn hc).any) ?_
      repeat (first|refine Wa ?_|refine JI.seq ?_|refine JI.region rfl ?_|refine Wd ?_|refine We rfl ?_|refine Wf (by first|exact Va|exact Vb|exact Vc|exact Vd|exact Ve|exact Vf|exact Vg|exact Vh|exact Vi|exact Vj|exact Vk (by omega)|exact Vl|exact Vm|exact Vn|exact Vo|exact Vp|exact Vq|exact Vr|exact Vs (by omega)|exact Vt (by omega)|exact Vu (by omega)|exact Vv (by omega)|exact Vw|exact Vx|exact Vy|exact Vz|exact VA|exact VB|exact VC|exact VD|exact VE|exact VF) rfl ?_|(refine Wg rfl ?_; intro _)|(refine Wh rfl ?_; intro _)|refine Wi ?_|refine JI.cond_true ?_|refine JI.cond_false ?_|refine JI.skip ?_|refine JI.ret ?_|refine Wt ?_|refine JI.block ?_|refine Wr ?_|refine Wu ?_|refine Wv rfl rfl ?_|(refine Ww rfl ⟨rfl, by decide, by decide, by decide⟩ ?_; intro _))
      refine .inl ⟨rfl, (a6, c6), fun w1 ho => ?_⟩
      exact (ho.add (A := tru (closeF [] xs = closeF (xs.take (i + 1)) (xs.drop (i + 1)))) hst).ent
    · have hst : loadL b = xs.take i := by unfold loadL; rw [← hxs]; exact closeF_stop hi hcl hc
      have hle : loadEnd b = (framesL (rs.take i)).length := by unfold loadEnd; rw [hst, hlen, ← hrs]
      rw [hst, hle]
      refine JR.callV rfl (fun w1 hw => (closed_no w1 (fun _ => True) a6 c6 (xs.take (i + 1)) (Hold.bufSlOf (α := Commit) (a := a6) (c := c6) (el := 29) (L := xs.take (i + 1)) hw) (by omega) hfn hc).any) ?_
      repeat (first|refine Wa ?_|refine JI.seq ?_|refine JI.region rfl ?_|refine Wd ?_|refine We rfl ?_|refine Wf (by first|exact Va|exact Vb|exact Vc|exact Vd|exact Ve|exact Vf|exact Vg|exact Vh|exact Vi|exact Vj|exact Vk (by omega)|exact Vl|exact Vm|exact Vn|exact Vo|exact Vp|exact Vq|exact Vr|exact Vs (by omega)|exact Vt (by omega)|exact Vu (by omega)|exact Vv (by omega)|exact Vw|exact Vx|exact Vy|exact Vz|exact VA|exact VB|exact VC|exact VD|exact VE|exact VF) rfl ?_|(refine Wg rfl ?_; intro _)|(refine Wh rfl ?_; intro _)|refine Wi ?_|refine JI.cond_true ?_|refine JI.cond_false ?_|refine JI.skip ?_|refine JI.ret ?_|refine Wt ?_|refine JI.block ?_|refine Wr ?_|refine Wu ?_|refine Wv rfl rfl ?_|(refine Ww rfl ⟨rfl, by decide, by decide, by decide⟩ ?_; intro _))
      refine JI.more (Γ' := .st (sl a6 c6 (xs.take (i + 1))) :: .own b2 35 [.slice none 0 0] :: .own b3 3 [.int .i64 0] :: .own b4 35 [.slice a6 (xs.take (i + 1)).length c6] :: .own b5 3 [.int .i64 ((framesL (rs.take i)).length : Int)] :: Γ) (fun w1 ho => (ho.ent : Hold w F (.res (buf a6 c6 29 (xs.take (i + 1))) :: .own b2 35 [.slice none 0 0] :: .own b3 3 [.int .i64 0] :: .own b4 35 [.slice a6 (xs.take (i + 1)).length c6] :: .own b5 3 [.int .i64 ((framesL (rs.take i)).length : Int)] :: Γ) w1).pub) ?_
      refine JI.drawP mixed rfl ?_
      refine JP.take 0 [.own b4 35 [.slice a6 (xs.take (i + 1)).length c6]] rfl (by kernel_rfl) rfl Vc rfl rfl ?_
      refine JP.take 1 [.own b4 35 [.slice a6 (xs.take (i + 1)).length c6]] rfl (by kernel_rfl) rfl Vc rfl rfl ?_
      refine JP.pure 2 rfl (by kernel_rfl) rfl (fun _ => Vf) rfl rfl ?_
      refine JP.pure 3 rfl (by kernel_rfl) rfl (fun _ => Vv (by omega)) rfl rfl ?_
      refine JP.reslot 22 (.int .i64 (i : Int)) (by congr 1; omega) ?_
      refine JP.take 4 [.st (sl a6 c6 (xs.take (i + 1)))] rfl (by kernel_rfl) rfl (OpV.sliceToV (k := i) (fun w1 ho => by have := (Hold.get (A := sl a6 c6 (xs.take (i + 1))) ho).1; omega)) rfl rfl ?_
      refine JP.take 5 [.own b5 3 [.int .i64 ((framesL (rs.take i)).length : Int)]] rfl (by kernel_rfl) rfl Vc rfl rfl ?_
      refine JP.op 6 (by kernel_rfl) rfl rfl (Wi (Wd ⟨rfl, (by repeat (first|exact Obs.nil|refine Obs.keep ?_|refine Obs.skip (by kernel_rfl) ?_)), ?_⟩))
      refine JP.op 7 (by kernel_rfl) rfl rfl (Wi (Wd ⟨rfl, (by repeat (first|exact Obs.nil|refine Obs.keep ?_|refine Obs.skip (by kernel_rfl) ?_)), ?_⟩))
      refine JP.nil (by kernel_rfl) ?_
      repeat (first|refine Wa ?_|refine JI.seq ?_|refine JI.region rfl ?_|refine Wd ?_|refine We rfl ?_|refine Wf (by first|exact Va|exact Vb|exact Vc|exact Vd|exact Ve|exact Vf|exact Vg|exact Vh|exact Vi|exact Vj|exact Vk (by omega)|exact Vl|exact Vm|exact Vn|exact Vo|exact Vp|exact Vq|exact Vr|exact Vs (by omega)|exact Vt (by omega)|exact Vu (by omega)|exact Vv (by omega)|exact Vw|exact Vx|exact Vy|exact Vz|exact VA|exact VB|exact VC|exact VD|exact VE|exact VF) rfl ?_|(refine Wg rfl ?_; intro _)|(refine Wh rfl ?_; intro _)|refine Wi ?_|refine JI.cond_true ?_|refine JI.cond_false ?_|refine JI.skip ?_|refine JI.ret ?_|refine Wt ?_|refine JI.block ?_|refine Wr ?_|refine Wu ?_|refine Wv rfl rfl ?_|(refine Ww rfl ⟨rfl, by decide, by decide, by decide⟩ ?_; intro _))
      refine .inr ⟨rfl, (a6, c6), fun w1 ho => ?_⟩
      have e1 := sl_take (k := i) (c' := c6) (ho.get (A := sl a6 c6 (xs.take (i + 1)))) (by omega) ⟨by have := (ho.get (A := sl a6 c6 (xs.take (i + 1)))).1; omega, Nat.le_refl _⟩
      rw [List.take_take, Nat.min_eq_left (by omega)] at e1
      have e2 := ho.add (A := sl a6 c6 (xs.take i)) e1
      dsimp only
      rw [hlen]
      exact e2.ent
  case kn =>
    rintro D ⟨p, q⟩
    refine Wr ?_
    refine Wa ?_
    dsimp only
    refine JC.know (fun w1 ho => (ho.get (A := tru (closeF [] xs = closeF (xs.take xs.length) (xs.drop xs.length))))) ?_
    intro hcl
    rw [List.take_length, List.drop_length] at hcl ⊢
    have hst : loadL b = xs := by unfold loadL; rw [← hxs]; exact hcl
    have hle : loadEnd b = (framesL (rs.take xs.length)).length := by unfold loadEnd; rw [hst, ← hrs]
    rw [hst, hle]
    refine JC.more (Γ' := .st (sl p q xs) :: .obj D (.deferred (some [])) :: .own b2 35 [.slice none 0 0] :: .own b3 3 [.int .i64 0] :: .own b4 35 [.slice p xs.length q] :: [.own b5 3 [.int .i64 ((framesL (rs.take xs.length)).length : Int)]]) (fun w1 ho => (ho.ent : Hold w F (.res (buf p q 29 xs) :: .obj D (.deferred (some [])) :: .own b2 35 [.slice none 0 0] :: .own b3 3 [.int .i64 0] :: .own b4 35 [.slice p xs.length q] :: [.own b5 3 [.int .i64 ((framesL (rs.take xs.length)).length : Int)]]) w1).pub) ?_
    refine Wb ?_
    refine JC.drawP mixed ?_
    refine JP.take 0 [.own b4 35 [.slice p xs.length q]] rfl (by kernel_rfl) rfl Vc rfl rfl ?_
    refine JP.take 1 [.own b5 3 [.int .i64 ((framesL (rs.take xs.length)).length : Int)]] rfl (by kernel_rfl) rfl Vc rfl rfl ?_
    refine JP.op 2 (by kernel_rfl) rfl rfl (Wi (Wd ⟨rfl, (by repeat (first|exact Obs.nil|refine Obs.keep ?_|refine Obs.skip (by kernel_rfl) ?_)), ?_⟩))
    refine JP.op 3 (by kernel_rfl) rfl rfl (Wi (Wd ⟨rfl, (by repeat (first|exact Obs.nil|refine Obs.keep ?_|refine Obs.skip (by kernel_rfl) ?_)), ?_⟩))
    refine JP.nil (by kernel_rfl) ?_
    repeat (first|refine Wa ?_|refine Ws ?_)
    refine ⟨D, [.own b2 35 [.slice p xs.length q], .own b3 3 [.int .i64 ((framesL (rs.take xs.length)).length : Int)], .st (sl p q xs)], rfl, .inl rfl, fun w1 ho => ho.ent, ?_⟩
    exact CT.done (p, q) rfl (fun w ho => ho.ent)
  case kr =>
    rintro D ⟨p, q⟩
    refine Wu ?_
    refine Wt ?_
    refine ⟨D, [.own b2 35 [.slice p (loadL b).length q], .own b3 3 [.int .i64 (loadEnd b : Int)], .st (sl p q (loadL b))], rfl, .inl rfl, fun w1 ho => ho.ent, ?_⟩
    exact CT.done (p, q) rfl (fun w ho => ho.ent)
end Ab
end Go.Proofs.YtdgeffphifgflaaGreat
namespace Go.Proofs.YtdgeffphifgflaaGreat
namespace Ab
open Go Go.RowKit
set_option linter.unusedVariables false
set_option linter.unusedSimpArgs false
set_option synthInstance.maxSize 4000
set_option synthInstance.maxHeartbeats 400000
attribute [local irreducible] JC JO JR JQ andThen inBlock OpV Gives retTo JM JS
attribute [local irreducible] hashC
theorem loadL_pre (b : List UInt8) : ∃ k, k ≤ (decL (readL b)).length ∧ loadL b = (decL (readL b)).take k := by
  obtain ⟨k, hk, h⟩ := closeF_pre (decL (readL b)) []
  exact ⟨k, hk, h⟩
def lastF (l : List Commit) (node : Int) : Int := l.foldl (fun n c => if c.ev.node = node then max n c.ev.seq else n) 0
theorem lastF_next (l : List Commit) (node : Int) (i : Nat) (h : i < l.length) : lastF (l.take (i + 1)) node = if l[i].ev.node = node then max (lastF (l.take i) node) l[i].ev.seq else lastF (l.take i) node := by
  unfold lastF
  rw [List.take_succ_eq_append_getElem h, List.foldl_append]
  rfl
set_option maxHeartbeats 1000000 in
theorem last_store (w : World) (F : Nat → Prop) (a : Option Addr) (c : Nat) (l : List Commit) (node : Int) (h : (sl a c l).holds F w) :
    GivesV Tryz.prog 22 [.slice a l.length c, .int .i64 node] w F (.int .i64 (lastF l node)) := by
  have hl : l.length < 9223372036854775807 := by have := h.2.2.1; simp only [lim] at this; omega
  refine gives_of Tryz.func22 rfl Tryz.ntmps22 rfl rfl [.st (sl a c l)] (.start1 h) ?_
  repeat (first|refine Wa ?_|refine Wb ?_|refine Wc ?_|refine Wd ?_|refine We rfl ?_|refine Wf (by first|exact Va|exact Vb|exact Vf) rfl ?_|refine Wn ?_)
  refine JC.reslot 5 (.int .i64 (lastF (l.take 0) node)) rfl ?_
  refine JC.loop1 (fun (i : Nat) => [(1, .int .i64 node), (5, .int .i64 (lastF (l.take i) node)), (8, .slice a l.length c), (9, .int .i64 (l.length : Int)), (10, .int .i64 (i : Int))])
    (fun i => [.st (sl a c l)]) (fun i => i ≤ l.length) (fun i => l.length - i) 0 (Nat.zero_le _) inferInstance ?_
  intro i hi
  repeat (first|refine Wa ?_|refine Wb ?_|refine Wc ?_|refine Wd ?_|refine We rfl ?_|refine Wf (by exact Vg) rfl ?_)
  refine JC.test (fun h1 => ?_) (fun h1 => ?_)
  · have hlt : i < l.length := by omega
    have hn := lastF_next l node i hlt
    repeat (first|refine Wa ?_|refine Wb ?_|refine Wc ?_|refine We rfl ?_|refine Wl ?_|refine Wn ?_)
    refine JR.indexCommit (k := i) rfl hlt ?_
    intro b5 o5 p5 q5
    repeat (first|refine Wa ?_|refine Wb ?_|refine Wc ?_|refine Wd ?_|refine We rfl ?_|refine Wf (by first|exact Va|exact Vc|exact Vd|exact Vl) rfl ?_|(refine Wg rfl ?_; intro _)|refine Wi ?_)
    refine JC.test (fun h2 => ?_) (fun h2 => ?_)
    · rw [if_pos h2] at hn
      repeat (first|refine Wc ?_|refine We rfl ?_|refine Wf (by first|exact Va|exact Vc|exact Vd) rfl ?_)
      refine Wf OpV.max rfl ?_
      rw [← hn]
      repeat (first|refine Wa ?_|refine Wc ?_|refine Wd ?_|refine We rfl ?_|refine Wf (by first|exact Va|exact Vb|exact Vk (by omega)) rfl ?_|refine Wr ?_)
      exact ⟨i + 1, by omega, by omega, inferInstance⟩
    · rw [if_neg h2] at hn
      repeat (first|refine Wa ?_|refine Wc ?_|refine Wd ?_|refine We rfl ?_|refine Wf (by first|exact Va|exact Vk (by omega)) rfl ?_|refine Wl ?_|refine Wr ?_)
      exact ⟨i + 1, by omega, by omega, by rw [hn]; infer_instance⟩
  · obtain rfl : i = l.length := by omega
    rw [List.take_length]
    repeat (first|refine Wa ?_|refine Wb ?_|refine Wc ?_|refine Wd ?_|refine We rfl ?_|refine Wf (by first|exact Va|exact Vb) rfl ?_|refine Wm ?_|refine Wo ?_|refine Wp ?_|refine Ws ?_)
    exact CT.done () rfl (fun w ho => ho.ent)
end Ab
end Go.Proofs.YtdgeffphifgflaaGreat
namespace Go.Proofs.YtdgeffphifgflaaGreat
namespace Ab
open Go Go.RowKit
set_option linter.unusedVariables false
set_option linter.unusedSimpArgs false
set_option synthInstance.maxSize 4000
set_option synthInstance.maxHeartbeats 400000
attribute [local irreducible] JC JO JR JQ andThen inBlock OpV Gives retTo JM JS
attribute [local irreducible] hashC idA l0 l1 ents
theorem clone_commits (w : World) (F : Nat → Prop) (a : Option Addr) (c : Nat) (L : List Commit) (h : (sl a c L).holds F w) (hl : L.length ≤ 34359738368) :
    GivesBuf Tryz.prog 206 [.slice a L.length c] w F 29 L := by
  refine gives_of Tryz.func206 rfl Tryz.ntmps206 rfl rfl [.st (sl a c L)] (.start1 h) ?_
  repeat (first|refine Wa ?_|refine Wb ?_|refine Wc ?_|refine Wd ?_|refine We rfl ?_|refine Wf (by first|exact Va|exact Vb|exact VD) rfl ?_)
  refine JC.test (fun ha => ?_) (fun ha => ?_)
  · cases a with
    | some a => cases ha
    | none =>
      obtain rfl := nil_of_none h
      repeat (first|refine Wa ?_|refine Wb ?_|refine Wc ?_|refine Wd ?_|refine We rfl ?_|refine Wf (by exact Vb) rfl ?_|refine Ws ?_|refine Wt ?_)
      exact CT.done (none, 0) rfl (fun w ho => ho.bufNil)
  · repeat (first|refine Wa ?_|refine Wb ?_|refine Wc ?_|refine We rfl ?_|refine Wl ?_)
    refine JR.lit0 (α := Commit) rfl ?_
    intro a2
    repeat (first|refine We rfl ?_|refine Wf (by exact Va) rfl ?_)
    refine JR.appendSl rfl (by exact ⟨rfl, rfl, by decide⟩) (by simpa using hl) ?_
    intro a3 c3
    rw [List.nil_append]
    repeat (first|refine Wa ?_|refine Wd ?_|refine We rfl ?_|refine Wf (by exact Vb) rfl ?_|refine Ws ?_)
    exact CT.done (a3, c3) rfl (fun w ho => ho.ent)
end Ab
end Go.Proofs.YtdgeffphifgflaaGreat
namespace Go.Proofs.YtdgeffphifgflaaGreat
namespace Ab
open Go Go.RowKit
set_option linter.unusedVariables false
set_option linter.unusedSimpArgs false
set_option synthInstance.maxSize 4000
set_option synthInstance.maxHeartbeats 400000
attribute [local irreducible] JC JO JR JQ andThen inBlock OpV Gives retTo JM JS
attribute [local irreducible] hashC
structure Nd where
  no : Int
  disk : List UInt8
  room : Int
  l : List Commit
  wait : List Commit
  seq : Int
  up : Bool
  peers : List Int
  next : Int
  miss : Int
structure Na where
  d : Option Addr
  dk : Nat
  l : Option Addr
  lk : Nat
  w : Option Addr
  wk : Nat
  p : Option Addr
  pk : Nat
abbrev ndC (n : Nd) (y : Na) : List Value := [.int .i64 n.no, .slice y.d n.disk.length y.dk, .int .i64 n.room, .slice y.l n.l.length y.lk, .slice y.w n.wait.length y.wk, .int .i64 n.seq, .bool n.up, .slice y.p n.peers.length y.pk, .int .i64 n.next, .int .i64 n.miss]
abbrev ndV (n : Nd) (y : Na) : Value := .agg ⟨ndC n y⟩
abbrev ndB (n : Nd) (y : Na) : List Fact := [.st (sl y.d y.dk n.disk), .st (sl y.l y.lk n.l), .st (sl y.w y.wk n.wait), .st (sl y.p y.pk n.peers)]
def nd0 : Nd := ⟨0, [], 0, [], [], 0, false, [], 0, 0⟩
def na0 : Na := ⟨none, 0, none, 0, none, 0, none, 0⟩
structure Mg where
  kind : Int
  ids : List ID
  commits : List Commit
structure Ma where
  i : Option Addr
  ik : Nat
  c : Option Addr
  ck : Nat
abbrev mgC (m : Mg) (y : Ma) : List Value := [.int .i64 m.kind, .slice y.i m.ids.length y.ik, .slice y.c m.commits.length y.ck]
abbrev mgV (m : Mg) (y : Ma) : Value := .agg ⟨mgC m y⟩
abbrev mgB (m : Mg) (y : Ma) : List Fact := [.st (sl y.i y.ik m.ids), .st (sl y.c y.ck m.commits)]
def mg0 : Mg := ⟨0, [], []⟩
def ma0 : Ma := ⟨none, 0, none, 0⟩
def fitsB (no room : Int) : Bool := decide (0 ≤ no) && decide (no < 8) && decide (0 ≤ room) && decide (room ≤ 1048576)
def strangeB (no seq : Int) (c : Commit) : Bool := decide (c.ev.node ≠ no) || decide (c.ev.seq ≤ seq)
def freshB (no seq : Int) (I : List ID) (c : Commit) : Bool := may c && !merge c && !decide (idC c ∈ I) && strangeB no seq c
noncomputable section
def ndMay (n : Nd) : Bool :=
  if !fitsB n.no n.room || decide (n.room < (n.disk.length : Int)) then false
  else if !n.up then decide (n.l = []) && decide (n.wait = []) && decide (n.seq = 0)
  else decide (loadL n.disk = n.l) && decide (loadEnd n.disk = n.disk.length) && decide (n.seq = lastF n.l n.no) && decide (n.wait.length ≤ 8) && n.wait.all (freshB n.no n.seq (idsP n.l))
def ndPut (n : Nd) (c : Commit) : Nd := if (storeT n.disk n.room c).2 = 0 then { n with disk := (storeT n.disk n.room c).1, l := n.l ++ [c] } else n
def settle1 (n : Nd) (c : Commit) (rest : List Commit) : Nd :=
  if closedB (n.l ++ [c]) then ndPut { n with wait := rest } c else { n with wait := rest }
def settleF : Nat → Nd → Nd
  | 0, n => n
  | f + 1, n =>
    if (waitReady n.wait (idsP n.l)).2.2 then settleF f (settle1 n (waitReady n.wait (idsP n.l)).1 (waitReady n.wait (idsP n.l)).2.1) else n
def settleN (n : Nd) : Nd := settleF n.wait.length n
def takeN (n : Nd) (c : Commit) : Nd := if freshB n.no n.seq (idsP n.l) c then settleN { n with wait := waitPut n.wait c } else n
def takeL (n : Nd) (l : List Commit) : Nd := if ndMay n && n.up then l.foldl takeN n else n
def newN (no room : Int) : Nd × Bool := if fitsB no room then ({ nd0 with no := no, room := room, up := true }, true) else (nd0, false)
def mgMay (m : Mg) : Bool :=
  if m.kind = 0 ∨ m.kind = 1 then decide (m.ids.length ≤ 16) && rises m.ids && decide (m.commits = [])
  else if m.kind = 2 then decide (m.ids = []) && decide (m.commits.length ≤ 6) && m.commits.all (fun c => may c && !merge c)
  else false
theorem sort_ex (L : List Commit) : ∃ M, SortedR L M := by
  by_cases hc : Closed L
  · refine ⟨L.mergeSort (fun a b => decide (a.gen < b.gen) || (decide (a.gen = b.gen) && !idLt (idC b) (idC a))), ⟨fun _ => List.mergeSort_perm _ _, fun _ => ?_, fun h => (h hc).elim⟩⟩
    have := List.pairwise_mergeSort (le := fun a b : Commit => decide (a.gen < b.gen) || (decide (a.gen = b.gen) && !idLt (idC b) (idC a))) (fun a b c h1 h2 => ?_) (fun a b => ?_) L
    · refine this.imp ?_
      intro a b h
      simp only [Bool.or_eq_true, decide_eq_true_eq, Bool.and_eq_true, Bool.not_eq_true'] at h
      exact h
    · simp only [Bool.or_eq_true, decide_eq_true_eq, Bool.and_eq_true, Bool.not_eq_true'] at *
      rcases h1 with h1 | ⟨h1, h3⟩ <;> rcases h2 with h2 | ⟨h2, h4⟩
      · exact .inl (by omega)
      · exact .inl (by omega)
      · exact .inl (by omega)
      · exact .inr ⟨by omega, idLe_trans h3 h4⟩
    · simp only [Bool.or_eq_true, decide_eq_true_eq, Bool.and_eq_true, Bool.not_eq_true']
      by_cases h : a.gen < b.gen
      · exact .inl (.inl h)
      · by_cases h' : b.gen < a.gen
        · exact .inr (.inl h')
        · cases h2 : idLt (idC b) (idC a) with
          | false => exact .inl (.inr ⟨by omega, rfl⟩)
          | true => exact .inr (.inr ⟨by omega, idLt_asymm h2⟩)
  · exact ⟨[], ⟨fun h => (hc h).elim, fun h => (hc h).elim, fun _ => rfl⟩⟩
def sortF (L : List Commit) : List Commit := Classical.choose (sort_ex L)
theorem sortF_ok (L : List Commit) : SortedR L (sortF L) := Classical.choose_spec (sort_ex L)
theorem sortF_perm {L : List Commit} (h : Closed L) : (sortF L).Perm L := (sortF_ok L).perm h
theorem sortF_closed {L : List Commit} (h : Closed L) : Closed (sortF L) := h.perm (sortF_perm h).symm
def wantM (l : List ID) : Mg × Bool := if l = [] then (mg0, false) else (⟨1, l.take 16, []⟩, true)
def giveM (l : List Commit) : Mg × Bool := if l = [] then (mg0, false) else (⟨2, [], l.take 6⟩, true)
def digestM (L : List Commit) (ids : List ID) : Mg × Bool :=
  if someIds ids (idsP L) false = [] then giveM (partF (sortF L) (someIds (idsP L) (ancF L ids) false)) else wantM (someIds ids (idsP L) false)
def hearN (n : Nd) (m : Mg) : Nd × Mg × Bool :=
  if ndMay n && n.up && mgMay m then
    if m.kind = 0 then ({ n with miss := 0 }, digestM n.l m.ids)
    else if m.kind = 1 then ({ n with miss := 0 }, giveM (partF (sortF n.l) m.ids))
    else (takeL { n with miss := 0 } m.commits, wantM (missL (takeL { n with miss := 0 } m.commits).wait (idsP (takeL { n with miss := 0 } m.commits).l)))
  else (n, mg0, false)
def tellN (n : Nd) : Mg × Int := if ndMay n then (if n.up then (⟨0, frontF n.l, []⟩, 0) else (mg0, 6)) else (mg0, 1)
def nextX (x : UInt32) : UInt32 :=
  let x := if x = 0 then 1 else x
  let y := x ^^^ shlN32 x 13
  let z := y ^^^ shrN32 y 17
  z ^^^ shlN32 z 5
def waitX (miss : Int) : Int := (2 ^ (min (max miss 0) 6).toNat : Nat)
end
end Ab
end Go.Proofs.YtdgeffphifgflaaGreat
namespace Go.Proofs.YtdgeffphifgflaaGreat
namespace Ab
open Go Go.RowKit
set_option linter.unusedVariables false
section
variable [Dr]
theorem GivesBuf.plain {P : Program} {f : FuncId} {args : List Value} {w : World} {F G : Nat → Prop} {α : Type} [Cell α] {el : TypeId} {L : List α} (hn : ∀ (u : α) y, Cell.facts u y = []) (h : GivesBuf P f args w F el L) : GivesBuf P f args w G el L :=
  Calls.mono h fun x w' ⟨y, hx, hb, hf⟩ => ⟨y, hx, hb, ⟨fun g hg => by
    rw [List.mem_singleton] at hg
    subst hg
    obtain ⟨h0, r, h1, h2, h3⟩ := hf.sat (.res (buf y.1 y.2 el L)) (by simp)
    exact ⟨h0, r, h1, h2, fun p hp A hA => by rw [hn] at hA; cases hA⟩, hf.dis, hf.new⟩⟩
class Lend (f : Fact) (A : outParam Asn) : Prop where
  ok : ∀ (w0 : World) (F : Nat → Prop) (Γ : List Fact) (w : World), Hold w0 F Γ w → f ∈ Γ → A.holds (fun _ => True) w
instance {A : Asn} : Lend (.st A) A := ⟨fun w0 F Γ w h hf => A.mono _ _ _ (fun _ _ => trivial) (h.sat (.st A) hf)⟩
instance {b : Nat} {t : TypeId} {vs : List Value} : Lend (.own b t vs) (ro b 0 vs) := ⟨fun w0 F Γ w h hf =>
  ⟨trivial, Fact.owned_lt (f := .own b t vs) (h.sat (.own b t vs) hf) rfl, own_range (h.sat (.own b t vs) hf)⟩⟩
instance {α : Type} [Cell α] {a : Option Addr} {c : Nat} {el : TypeId} {L : List α} : Lend (.res (buf a c el L)) (sl a c L) := ⟨fun w0 F Γ w h hf => by
  obtain ⟨s, t, rfl⟩ := List.append_of_mem hf
  exact Hold.bufSl (h.perm List.perm_middle)⟩
theorem Hold.pubAt {α : Type} [ic : Cell α] {w0 w : World} {F : Nat → Prop} {Γ Δ : List Fact} (a : Option Addr) (c : Nat) {el : TypeId} {L : List α} [h : HasBuf Γ (.slice a L.length c) α ic el L Δ] (ho : Hold w0 F Γ w) : Hold w0 F (.st (sl a c L) :: Δ) w := by
  obtain ⟨a', q, hv, hp⟩ := h.ok
  injection hv with e1 e2 e3
  subst e1 e3
  exact (ho.perm hp).pub
class Lends (Γ : List Fact) (Δ : outParam (List Fact)) : Prop where
  ok : ∀ (w0 : World) (F : Nat → Prop) (Γ' : List Fact) (w : World), Hold w0 F Γ' w → (∀ f ∈ Γ, f ∈ Γ') → Hold w (fun _ => True) Δ w
instance (priority := 10) Lends.none {Γ : List Fact} : Lends Γ [] := ⟨fun w0 F Γ' w h _ => .start w _⟩
instance {f : Fact} {A : Asn} {Γ Δ : List Fact} [h1 : Lend f A] [h2 : Lends Γ Δ] : Lends (f :: Γ) (.st A :: Δ) := ⟨fun w0 F Γ' w h hs => by
  have ho := h2.ok w0 F Γ' w h (fun f hf => hs f (List.mem_cons_of_mem _ hf))
  have hA := h1.ok w0 F Γ' w h (hs f (List.mem_cons_self ..))
  refine ho.add ((A.mono _ _ _ (fun k hk => ?_) (A.within _ _ hA)))
  refine ⟨.inl trivial, fun g hg hk2 => ?_⟩
  have h3 := ho.new g hg k hk2
  have h4 := hk.2
  omega⟩
theorem Hold.lend {w0 w : World} {F : Nat → Prop} {Γ Δ : List Fact} [h : Lends Γ Δ] (ho : Hold w0 F Γ w) : Hold w (fun _ => True) Δ w := h.ok w0 F Γ w ho (fun _ h => h)
end
section
variable {P : Program} {n : Nn} {w0 : World} {F : Nat → Prop} {Q : Cont} {e : E} {Γ : List Fact} [Dr]
theorem JC.lent {c : Code} {Δ : List Fact} [hl : Lends Γ Δ] (h : ∀ w, JC P n w (fun _ => True) c (fun x e' _ => Q x e' Γ) e Δ) : JC P n w0 F c Q e Γ := by
  intro a w fr ho
  refine wp_mono (h w a w fr ho.lend) ?_
  rintro x a' w' ⟨e', Δ', hq, fr', ho'⟩
  exact ⟨e', Γ, hq, fr', ho.of_below ho'.below⟩
end
end Ab
end Go.Proofs.YtdgeffphifgflaaGreat
namespace Go.Proofs.YtdgeffphifgflaaGreat
namespace Ab
open Go Go.RowKit
set_option linter.unusedVariables false
set_option linter.unusedSimpArgs false
set_option synthInstance.maxSize 4000
set_option synthInstance.maxHeartbeats 400000
attribute [local irreducible] JC JO JR JQ andThen inBlock OpV Gives retTo JM JS
attribute [local irreducible] hashC
theorem clone_byt (w : World) (F : Nat → Prop) (a : Option Addr) (c : Nat) (L : List UInt8) (h : (sl a c L).holds F w) (hl : L.length ≤ 34359738368) :
    GivesBuf Tryz.prog 142 [.slice a L.length c] w F 5 L := by
  refine gives_of Tryz.func142 rfl Tryz.ntmps142 rfl rfl [.st (sl a c L)] (.start1 h) ?_
  repeat (first|refine Wa ?_|refine Wb ?_|refine Wc ?_|refine Wd ?_|refine We rfl ?_|refine Wf (by first|exact Va|exact Vb|exact VD) rfl ?_)
  refine JC.test (fun ha => ?_) (fun ha => ?_)
  · cases a with
    | some a => cases ha
    | none =>
      obtain rfl := nil_of_none h
      repeat (first|refine Wa ?_|refine Wb ?_|refine Wc ?_|refine Wd ?_|refine We rfl ?_|refine Wf (by exact Vb) rfl ?_|refine Ws ?_|refine Wt ?_)
      exact CT.done (none, 0) rfl (fun w ho => ho.bufNil)
  · repeat (first|refine Wa ?_|refine Wb ?_|refine Wc ?_|refine We rfl ?_|refine Wl ?_)
    refine JR.lit0 (α := UInt8) rfl ?_
    intro a2
    repeat (first|refine We rfl ?_|refine Wf (by exact Va) rfl ?_)
    refine JR.appendSl rfl (by exact ⟨rfl, rfl, by decide⟩) (by simpa using hl) ?_
    intro a3 c3
    rw [List.nil_append]
    repeat (first|refine Wa ?_|refine Wd ?_|refine We rfl ?_|refine Wf (by exact Vb) rfl ?_|refine Ws ?_)
    exact CT.done (a3, c3) rfl (fun w ho => ho.ent)
theorem clone_ints (w : World) (F : Nat → Prop) (a : Option Addr) (c : Nat) (L : List Int) (h : (sl a c L).holds F w) (hl : L.length ≤ 34359738368) :
    GivesBuf Tryz.prog 143 [.slice a L.length c] w F 3 L := by
  refine gives_of Tryz.func143 rfl Tryz.ntmps143 rfl rfl [.st (sl a c L)] (.start1 h) ?_
  repeat (first|refine Wa ?_|refine Wb ?_|refine Wc ?_|refine Wd ?_|refine We rfl ?_|refine Wf (by first|exact Va|exact Vb|exact VD) rfl ?_)
  refine JC.test (fun ha => ?_) (fun ha => ?_)
  · cases a with
    | some a => cases ha
    | none =>
      obtain rfl := nil_of_none h
      repeat (first|refine Wa ?_|refine Wb ?_|refine Wc ?_|refine Wd ?_|refine We rfl ?_|refine Wf (by exact Vb) rfl ?_|refine Ws ?_|refine Wt ?_)
      exact CT.done (none, 0) rfl (fun w ho => ho.bufNil)
  · repeat (first|refine Wa ?_|refine Wb ?_|refine Wc ?_|refine We rfl ?_|refine Wl ?_)
    refine JR.lit0 (α := Int) rfl ?_
    intro a2
    repeat (first|refine We rfl ?_|refine Wf (by exact Va) rfl ?_)
    refine JR.appendSl rfl (by exact ⟨rfl, rfl, by decide⟩) (by simpa using hl) ?_
    intro a3 c3
    rw [List.nil_append]
    repeat (first|refine Wa ?_|refine Wd ?_|refine We rfl ?_|refine Wf (by exact Vb) rfl ?_|refine Ws ?_)
    exact CT.done (a3, c3) rfl (fun w ho => ho.ent)
theorem ids_buf (w : World) (F : Nat → Prop) (a : Option Addr) (k : Nat) (L : List Commit) (h : (sl a k L).holds F w) (hl : L.length < 34359738368) (hf : ∀ x ∈ L, fine x) :
    GivesBuf Tryz.prog 43 [.slice a L.length k] w F 81 (idsP L) := by
  refine gives_of Tryz.func43 rfl Tryz.ntmps43 rfl rfl [.st (sl a k L)] (.start1 h) ?_
  repeat (first|refine Wa ?_|refine Wb ?_|refine Wc ?_|refine Wd ?_|refine We rfl ?_|refine Wf (by first|exact Va|exact Vb|exact Vf) rfl ?_|refine Wn ?_)
  refine JC.buf_nil (α := ID) 81 ?_
  refine JC.loop3 (fun (i : Nat) p q => [(3, .slice p (cids (L.take i)).length q), (8, .slice a L.length k), (9, .int .i64 (L.length : Int)), (10, .int .i64 (i : Int))])
    (fun i p q => [.res (buf p q 81 (cids (L.take i))), .st (sl a k L)])
    (fun i _ _ => i ≤ L.length ∧ ∀ c ∈ L.take i, may c = true) (fun i _ _ => L.length - i) 0 none 0 ⟨Nat.zero_le _, by simp⟩ (by rw [List.take_zero, show cids [] = [] from rfl]; infer_instance) ?_
  intro i p q ⟨hi, hm⟩
  repeat (first|refine Wa ?_|refine Wb ?_|refine Wc ?_|refine Wd ?_|refine We rfl ?_|refine Wf (by exact Vg) rfl ?_)
  refine JC.test (fun hlt => ?_) (fun hge => ?_)
  · have hlt' : i < L.length := by omega
    have hfx := hf _ (List.getElem_mem hlt')
    repeat (first|refine Wa ?_|refine Wb ?_|refine Wc ?_|refine We rfl ?_|refine Wl ?_|refine Wn ?_)
    refine JR.indexCommit rfl hlt' ?_
    intro b1 o1 p1 q1
    repeat (first|refine Wa ?_|refine Wb ?_|refine Wc ?_|refine Wd ?_|refine We rfl ?_|refine Wf (by exact Vc) rfl ?_|(refine Wg rfl ?_; intro _)|refine Wi ?_)
    refine JR.callV rfl (fun w1 hw => hash_commit w1 _ (L[i]) p1 q1 hw.get hfx.1) ?_
    repeat (first|refine Wa ?_|refine Wb ?_|refine Wc ?_|refine Wd ?_|refine We rfl ?_|refine Wf (by first|exact Va|exact Vb|exact Vm|exact Vq) rfl ?_|(refine Wg rfl ?_; intro _)|refine Wi ?_)
    refine JC.test (fun h0 => ?_) (fun h0 => ?_)
    · have hmay : may L[i] = false := by
        rw [← Bool.not_eq_true, ← hash_err]; exact h0
      refine JC.buf_nil (α := ID) 81 ?_
      repeat (first|refine Wa ?_|refine Wb ?_|refine Wc ?_|refine Wd ?_|refine We rfl ?_|refine Wf (by exact Vb) rfl ?_|refine Ws ?_|refine Wt ?_|refine Wu ?_)
      rw [idsP_not (List.getElem_mem hlt') hmay]
      exact CT.done (none, 0) rfl (fun w ho => ho.ent)
    · have hmay : may L[i] = true := (hash_err _).1 (by simpa using h0)
      have h1 : (cids (L.take i)).length ≤ i := by simp [cids]; omega
      repeat (first|refine Wa ?_|refine Wc ?_|refine We rfl ?_|refine Wf (by first|exact Va|exact Vc) rfl ?_|refine Wl ?_|(refine Ww rfl ⟨rfl, by decide, by decide, by decide⟩ ?_; intro _))
      refine JR.append1 (u := idC L[i]) rfl (by exact ⟨rfl, rfl, by decide⟩) (by omega) ?_
      intro r s
      repeat (first|refine Wa ?_|refine Wc ?_|refine Wd ?_|refine We rfl ?_|refine Wf (by first|exact Va|exact Vb|exact Vk (by omega)) rfl ?_|refine Wr ?_)
      refine ⟨i + 1, r, s, ⟨by omega, fun c hc => ?_⟩, by omega, by rw [cids_take_next hlt']; infer_instance⟩
      rw [List.take_succ_eq_append_getElem hlt', List.mem_append, List.mem_singleton] at hc
      rcases hc with hc | rfl
      · exact hm c hc
      · exact hmay
  · obtain rfl : i = L.length := by omega
    rw [List.take_length] at hm ⊢
    repeat (first|refine Wa ?_|refine Wb ?_|refine Wc ?_|refine Wd ?_|refine We rfl ?_|refine Wf (by first|exact Va|exact Vb) rfl ?_|refine Wm ?_|refine Wo ?_|refine Wp ?_|refine Ws ?_)
    rw [idsP_all hm]
    exact CT.done (p, q) rfl (fun w ho => ho.ent)
theorem fits_branch (w : World) (F : Nat → Prop) (no room : Int) : GivesV Tryz.prog 95 [.int .i64 no, .int .i64 room] w F (.bool (fitsB no room)) := by
  refine gives_of Tryz.func95 rfl Tryz.ntmps95 rfl rfl [] (.start w F) ?_
  repeat (first|refine Wa ?_|refine Wb ?_|refine Wc ?_|refine Wd ?_|refine We rfl ?_|refine Wf (by first|exact Va|exact Vb|exact Vp) rfl ?_)
  refine JO.test 7 (fun h1 => ?_) (fun h1 => ?_)
  · repeat (first|refine We rfl ?_|refine Wf (by first|exact Va|exact Vg|exact Vi) rfl ?_)
    refine JO.test 11 (fun h2 => ?_) (fun h2 => ?_)
    · repeat (first|refine We rfl ?_|refine Wf (by first|exact Va|exact Vi|exact Vp) rfl ?_)
      refine JO.test 15 (fun h3 => ?_) (fun h3 => ?_)
      · repeat (first|refine Wa ?_|refine Wd ?_|refine We rfl ?_|refine Wf (by first|exact Va|exact Vb|exact Vi|exact Vn) rfl ?_|refine Ws ?_)
        refine CT.done () ?_ (fun w ho => ho.ent)
        simp only [packed, fitsB, decide_eq_true h1, decide_eq_true h2, decide_eq_true h3, Bool.true_and]
      · repeat (first|refine Wa ?_|refine Wd ?_|refine We rfl ?_|refine Wf (by first|exact Vb|exact Vj) rfl ?_|refine Ws ?_|refine Wv rfl rfl ?_)
        refine CT.done () ?_ (fun w ho => ho.ent)
        simp only [packed, fitsB, decide_eq_false h3, Bool.and_false, Bool.false_and]
    · repeat (first|refine Wa ?_|refine Wd ?_|refine We rfl ?_|refine Wf (by first|exact Va|exact Vb|exact Vj) rfl ?_|refine Ws ?_|refine Wv rfl rfl ?_)
      refine CT.done () ?_ (fun w ho => ho.ent)
      simp only [packed, fitsB, decide_eq_false h2, Bool.and_false, Bool.false_and]
  · repeat (first|refine Wa ?_|refine Wd ?_|refine We rfl ?_|refine Wf (by first|exact Va|exact Vb|exact Vj) rfl ?_|refine Ws ?_|refine Wv rfl rfl ?_)
    refine CT.done () ?_ (fun w ho => ho.ent)
    simp only [packed, fitsB, decide_eq_false h1, Bool.and_false, Bool.false_and]
theorem own_branch (w : World) (F : Nat → Prop) (a : Option Addr) (c : Nat) (L : List Commit) (h : (sl a c L).holds F w) (hl : L.length ≤ 34359738368) (hf : ∀ x ∈ L, fine x) :
    GivesBuf Tryz.prog 105 [.slice a L.length c] w F 29 L := by
  refine gives_of Tryz.func105 rfl Tryz.ntmps105 rfl rfl [.st (sl a c L)] (.start1 h) ?_
  refine JC.buf_nil (α := Commit) 29 ?_
  repeat (first|refine Wa ?_|refine Wb ?_|refine Wc ?_|refine Wd ?_|refine We rfl ?_|refine Wf (by first|exact Va|exact Vb|exact Vf) rfl ?_|refine Wn ?_)
  refine JC.loop4 (fun (k : Nat) (out : List Commit) p q => [(3, .slice p out.length q), (6, .slice a L.length c), (7, .int .i64 (L.length : Int)), (8, .int .i64 (k : Int))]) (fun (k : Nat) (out : List Commit) p q => [.st (sl a c L), .res (buf p q 29 out)])
    (fun k out p q => k ≤ L.length ∧ out = L.take k) (fun k _ _ _ => L.length - k) 0 [] none 0 ⟨Nat.zero_le _, rfl⟩ inferInstance ?_
  intro k out p q ⟨hk, hout⟩
  repeat (first|refine Wa ?_|refine Wb ?_|refine Wc ?_|refine Wd ?_|refine We rfl ?_|refine Wf (by exact Vg) rfl ?_)
  refine JC.test (fun hlt => ?_) (fun hge => ?_)
  · have hlt' : k < L.length := by omega
    repeat (first|refine Wa ?_|refine Wb ?_|refine Wc ?_|refine We rfl ?_|refine Wl ?_|refine Wn ?_)
    refine JR.indexCommit rfl (by omega) ?_
    intro b o p' q'
    repeat (first|refine Wa ?_|refine Wb ?_|refine Wc ?_|refine Wd ?_|refine We rfl ?_|refine Wf (by first|exact Vc|exact Vd) rfl ?_|(refine Wg rfl ?_; intro _)|refine Wi ?_)
    refine JR.callSl rfl (fun w hw => clone_ids w _ p' q' _ (hw.sat (.st (sl p' q' _)) (by simp)) (hf _ (List.getElem_mem hlt')).2) ?_
    intro a' c'
    repeat (first|refine Wa ?_|refine Wc ?_|refine Wd ?_|refine We rfl ?_|refine Wf (by first|exact Va|exact Vc|exact Vd) rfl ?_|refine Wi ?_|(refine Ww rfl ⟨rfl, by decide, by decide, by decide⟩ ?_; intro _))
    refine JR.append1 rfl (by exact ⟨rfl, rfl, by decide⟩) (by subst hout; simp; omega) ?_
    intro a2 c2
    repeat (first|refine Wa ?_|refine Wc ?_|refine Wd ?_|refine We rfl ?_|refine Wf (by first|exact Va|exact Vb|exact Vk (by omega)) rfl ?_|refine Wr ?_)
    exact ⟨k + 1, out ++ [L[k]], a2, c2, ⟨by omega, by rw [hout, List.take_succ_eq_append_getElem (by omega)]⟩, by omega, inferInstance⟩
  · repeat (first|refine Wa ?_|refine Wb ?_|refine Wc ?_|refine Wd ?_|refine We rfl ?_|refine Wf (by first|exact Va|exact Vb) rfl ?_|refine Wm ?_|refine Wo ?_|refine Wp ?_|refine Ws ?_)
    obtain rfl : out = L := by rw [hout, List.take_of_length_le (by omega)]
    exact CT.done (p, q) rfl (fun w ho => ho.ent)
theorem take_ext {L M : List Commit} (hl : L.length = M.length) {k : Nat} (hk : k < L.length) (h : L.take k = M.take k) : L.take (k + 1) = M.take (k + 1) ↔ L[k] = M[k]'(hl ▸ hk) := by
  rw [List.take_succ_eq_append_getElem hk, List.take_succ_eq_append_getElem (hl ▸ hk), h, List.append_cancel_left_eq]
  simp
theorem equalFunc_commits (w : World) (F : Nat → Prop) (a b : Option Addr) (c m : Nat) (L M : List Commit) (h : (sl a c L).holds F w) (h' : (sl b m M).holds F w) :
    GivesV Tryz.prog 157 [.slice a L.length c, .slice b M.length m, .func (.func 158) #[] #[]] w F (.bool (decide (L = M))) := by
  have hL : L.length < 9223372036854775807 := by have := h.2.2.1; simp only [lim] at this; omega
  refine gives_of Tryz.func157 rfl Tryz.ntmps157 rfl rfl [.st (sl a c L), .st (sl b m M)] (.start2 h h') ?_
  repeat (first|refine Wa ?_|refine Wb ?_|refine Wc ?_|refine Wd ?_|refine We rfl ?_|refine Wf (by first|exact Va|exact Vb|exact Vf|exact Vm) rfl ?_)
  refine JC.test (fun h1 => ?_) (fun h1 => ?_)
  · have hne : L ≠ M := by rintro rfl; exact h1 rfl
    repeat (first|refine Wa ?_|refine Wb ?_|refine Wc ?_|refine Wd ?_|refine We rfl ?_|refine Wf (by exact Vb) rfl ?_|refine Ws ?_|refine Wt ?_)
    refine CT.done () ?_ (fun w ho => ho.ent)
    rw [decide_eq_false hne]; rfl
  have hlm : L.length = M.length := by omega
  repeat (first|refine Wa ?_|refine Wb ?_|refine Wc ?_|refine Wd ?_|refine We rfl ?_|refine Wf (by first|exact Va|exact Vf) rfl ?_|refine Wl ?_|refine Wn ?_)
  refine JC.loop1 (fun k : Nat => [(0, .slice a L.length c), (1, .slice b M.length m), (2, .func (.func 158) #[] #[]), (15, .slice a L.length c), (16, .int .i64 (L.length : Int)), (17, .int .i64 (k : Int))]) (fun _ => [.st (sl a c L), .st (sl b m M)])
    (fun k => k ≤ L.length ∧ L.take k = M.take k) (fun k => L.length - k) 0 ⟨Nat.zero_le _, by simp⟩ inferInstance ?_
  intro k ⟨hk, hno⟩
  repeat (first|refine Wa ?_|refine Wb ?_|refine Wc ?_|refine Wd ?_|refine We rfl ?_|refine Wf (by exact Vg) rfl ?_)
  refine JC.test (fun hlt => ?_) (fun hge => ?_)
  · have hlt' : k < L.length := by omega
    have hft := take_ext hlm hlt' hno
    repeat (first|refine Wa ?_|refine Wb ?_|refine Wc ?_|refine We rfl ?_|refine Wf (by exact Va) rfl ?_|refine Wl ?_|refine Wn ?_)
    refine JR.indexCommit rfl hlt' ?_
    intro b1 o1 p1 q1
    repeat (first|refine Wa ?_|refine Wb ?_|refine Wc ?_|refine Wd ?_|refine We rfl ?_|refine Wf (by first|exact Va|exact Vb|exact Vc) rfl ?_|(refine Wg rfl ?_; intro _)|refine Wi ?_)
    refine JR.indexCommit (k := k) rfl (by omega) ?_
    intro b2 o2 p2 q2
    repeat (first|refine Wa ?_|refine Wb ?_|refine Wc ?_|refine Wd ?_|refine We rfl ?_|refine Wf (by first|exact Va|exact Vc) rfl ?_|(refine Wg rfl ?_; intro _)|refine Wi ?_)
    refine JR.callV rfl (fun w1 hw => same_commit w1 _ L[k] (M[k]'(by omega)) p1 p2 q1 q2 hw.get hw.get) ?_
    repeat (first|refine Wa ?_|refine Wd ?_|refine We rfl ?_|refine Wf (by exact Vh) rfl ?_)
    refine JC.test (fun hy => ?_) (fun hn => ?_)
    · have hne : L ≠ M := by rintro rfl; exact hy rfl
      repeat (first|refine Wa ?_|refine Wb ?_|refine Wc ?_|refine Wd ?_|refine We rfl ?_|refine Wf (by exact Vb) rfl ?_|refine Ws ?_|refine Wt ?_|refine Wu ?_)
      refine CT.done () ?_ (fun w ho => ho.ent)
      rw [decide_eq_false hne]; rfl
    · repeat (first|refine Wa ?_|refine Wc ?_|refine Wd ?_|refine We rfl ?_|refine Wf (by first|exact Va|exact Vk (by omega)) rfl ?_|refine Wl ?_|refine Wr ?_)
      exact ⟨k + 1, ⟨by omega, hft.2 (Classical.not_not.1 hn)⟩, by omega, inferInstance⟩
  · obtain rfl : k = L.length := by omega
    have heq : L = M := by
      rw [List.take_length] at hno
      rw [hno, List.take_of_length_le (by omega)]
    repeat (first|refine Wa ?_|refine Wb ?_|refine Wc ?_|refine Wd ?_|refine We rfl ?_|refine Wf (by exact Vb) rfl ?_|refine Wm ?_|refine Wo ?_|refine Wp ?_|refine Ws ?_)
    refine CT.done () ?_ (fun w ho => ho.ent)
    rw [decide_eq_true heq]; rfl
theorem same_branch (w : World) (F : Nat → Prop) (a b : Option Addr) (c m : Nat) (L M : List Commit) (h : (sl a c L).holds F w) (h' : (sl b m M).holds F w) :
    GivesV Tryz.prog 96 [.slice a L.length c, .slice b M.length m] w F (.bool (decide (L = M))) := by
  refine gives_of Tryz.func96 rfl Tryz.ntmps96 rfl rfl [.st (sl a c L), .st (sl b m M)] (.start2 h h') ?_
  repeat (first|refine Wa ?_|refine Wb ?_|refine Wc ?_|refine Wd ?_|refine We rfl ?_|refine Wf (by first|exact Va|exact Vb) rfl ?_)
  refine JR.callV rfl (fun w1 hw => equalFunc_commits w1 _ a b c m L M hw.get hw.get) ?_
  repeat (first|refine Wa ?_|refine Wd ?_|refine We rfl ?_|refine Wf (by exact Vb) rfl ?_|refine Ws ?_)
  refine CT.done () ?_ (fun w ho => ho.ent)
  rfl
theorem strange_branch (w : World) (F : Nat → Prop) (n : Nd) (y : Na) (c : Commit) (a : Option Addr) (k : Nat) :
    GivesV Tryz.prog 98 [ndV n y, commitV c a k] w F (.bool (strangeB n.no n.seq c)) := by
  refine gives_of Tryz.func98 rfl Tryz.ntmps98 rfl rfl [] (.start w F) ?_
  repeat (first|refine Wa ?_|refine Wb ?_|refine Wc ?_|refine Wd ?_|refine We rfl ?_|refine Wf (by first|exact Va|exact Vb|exact Vc|exact Vd|exact Vm) rfl ?_|(refine Wh rfl ?_; intro _))
  refine JO.test 11 (fun h1 => ?_) (fun h1 => ?_)
  · repeat (first|refine Wa ?_|refine Wd ?_|refine We rfl ?_|refine Wf (by first|exact Vb|exact Vi) rfl ?_|refine Ws ?_|refine Wv rfl rfl ?_)
    refine CT.done () ?_ (fun w ho => ho.ent)
    simp only [packed, strangeB, decide_eq_true h1, Bool.true_or]
  · repeat (first|refine Wa ?_|refine Wd ?_|refine We rfl ?_|refine Wf (by first|exact Vb|exact Vc|exact Vd|exact Vj|exact Vn) rfl ?_|refine Ws ?_)
    refine CT.done () ?_ (fun w ho => ho.ent)
    simp only [packed, strangeB, decide_eq_false h1, Bool.false_or]
theorem may1_msg (w : World) (F : Nat → Prop) (c : Commit) (a : Option Addr) (k : Nat) (h : (sl a k c.parents).holds F w) (ht : texts c) :
    GivesV Tryz.prog 99 [commitV c a k] w F (.bool (!may c || merge c)) := by
  refine gives_of Tryz.func99 rfl Tryz.ntmps99 rfl rfl [.st (sl a k c.parents)] (.start1 h) ?_
  repeat (first|refine Wa ?_|refine Wb ?_|refine Wc ?_|refine Wd ?_|refine We rfl ?_|refine Wf (by first|exact Vb|exact Vc) rfl ?_|(refine Wh rfl ?_; intro _))
  refine JR.callV rfl (fun w1 hw => may_commit w1 _ c a k hw.get ht) ?_
  repeat (first|refine We rfl ?_|refine Wf (by first|exact Va|exact Vh) rfl ?_)
  refine JO.test 6 (fun h1 => ?_) (fun h1 => ?_)
  · repeat (first|refine Wa ?_|refine Wd ?_|refine We rfl ?_|refine Wf (by first|exact Vb|exact Vi) rfl ?_|refine Ws ?_|refine Wv rfl rfl ?_)
    refine CT.done () ?_ (fun w ho => ho.ent)
    simp only [packed, h1, Bool.not_false, Bool.true_or]
  · repeat (first|refine We rfl ?_|refine Wf (by exact Vc) rfl ?_)
    refine JR.callV rfl (fun w1 hw => merge_commit w1 _ c a k hw.get ht) ?_
    repeat (first|refine Wa ?_|refine Wd ?_|refine We rfl ?_|refine Wf (by first|exact Vb|exact Vj) rfl ?_|refine Ws ?_)
    refine CT.done () ?_ (fun w ho => ho.ent)
    have h2 : may c = true := Classical.not_not.1 h1
    simp only [packed, h2, Bool.not_true, Bool.false_or]
theorem ndMay_up {n : Nd} (h1 : fitsB n.no n.room = true) (h2 : ¬ n.room < (n.disk.length : Int)) (h3 : n.up = true) :
    ndMay n = (decide (loadL n.disk = n.l) && decide (loadEnd n.disk = n.disk.length) && decide (n.seq = lastF n.l n.no) && decide (n.wait.length ≤ 8) && n.wait.all (freshB n.no n.seq (idsP n.l))) := by
  unfold ndMay
  rw [h1, decide_eq_false h2, h3]
  rfl
theorem ndMay_down {n : Nd} (h1 : fitsB n.no n.room = true) (h2 : ¬ n.room < (n.disk.length : Int)) (h3 : n.up = false) :
    ndMay n = (decide (n.l = []) && decide (n.wait = []) && decide (n.seq = 0)) := by
  unfold ndMay
  rw [h1, decide_eq_false h2, h3]
  rfl
theorem fits_room {no room : Int} (h : fitsB no room = true) : 0 ≤ no ∧ no < 8 ∧ 0 ≤ room ∧ room ≤ 1048576 := by
  unfold fitsB at h
  simp only [Bool.and_eq_true, decide_eq_true_eq] at h
  omega
theorem loaded_fine {b : List UInt8} : ∀ x ∈ loadL b, fine x := by
  intro x hx
  obtain ⟨k, hk, h⟩ := loadL_pre b
  rw [h] at hx
  have hx := List.mem_of_mem_take hx
  obtain ⟨i, hi, hxi⟩ := List.getElem_of_mem hx
  have h2 := decL_at (readL b) i hi (Nat.lt_of_lt_of_le hi (decL_le _))
  rw [hxi] at h2
  obtain ⟨h3, h4⟩ := getC_may h2
  refine ⟨h4, ?_⟩
  unfold may at h3
  split at h3
  · cases h3
  · rename_i h5
    simp only [Bool.or_eq_true, not_or, decide_eq_true_eq] at h5
    omega
theorem loaded_len (b : List UInt8) : (loadL b).length ≤ b.length := by
  obtain ⟨k, hk, h⟩ := loadL_pre b
  have h1 := length_framesL (readL b)
  have h2 : (framesL (readL b)).length ≤ b.length := (readF_pre _ _ : framesL (readL b) <+: b).length_le
  have h3 := decL_le (readL b)
  rw [h, List.length_take]
  omega
theorem all_take {p : Commit → Bool} {L : List Commit} {k : Nat} (hk : k < L.length) (h : (L.take k).all p = true) : (L.take (k + 1)).all p = p L[k] := by
  rw [List.take_succ_eq_append_getElem hk, List.all_append, h]
  simp
theorem all_cut {p : Commit → Bool} {L : List Commit} {k : Nat} (hk : k < L.length) (h : p L[k] = false) : L.all p = false := by
  rw [List.all_eq_false]
  exact ⟨L[k], List.getElem_mem hk, by rw [h]; exact Bool.false_ne_true⟩
set_option maxHeartbeats 4000000 in
theorem may_branch (w : World) (F : Nat → Prop) (n : Nd) (y : Na) (hd : (sl y.d y.dk n.disk).holds F w) (hl : (sl y.l y.lk n.l).holds F w) (hw : (sl y.w y.wk n.wait).holds F w) (hwf : ∀ x ∈ n.wait, fine x) :
    GivesV Tryz.prog 39 [ndV n y] w F (.bool (ndMay n)) := by
  have hwl : n.wait.length < 9223372036854775807 := by have := hw.2.2.1; simp only [lim] at this; omega
  have hll : n.l.length < 9223372036854775807 := by have := hl.2.2.1; simp only [lim] at this; omega
  rcases n with ⟨no, disk, room, l, wait, seq, up, peers, next, miss⟩
  rcases y with ⟨ad, kd, al, kl, aw, kw, ap, kp⟩
  dsimp only [ndV, ndC] at *
  refine gives_of Tryz.func39 rfl Tryz.ntmps39 rfl rfl [.st (sl ad kd disk), .st (sl al kl l), .st (sl aw kw wait)] (.start3 hd hl hw) ?_
  repeat (first|refine Wa ?_|refine Wb ?_|refine Wc ?_|refine Wd ?_|refine We rfl ?_|refine Wf (by first|exact Vb|exact Vc|exact Vd) rfl ?_|(refine Wh rfl ?_; intro _))
  rename_i bn
  refine JR.callV rfl (fun w1 hw => fits_branch w1 _ no room) ?_
  cases hfit : fitsB no room with
  | false =>
    repeat (first|refine Wa ?_|refine Wb ?_|refine Wc ?_|refine Wd ?_|refine We rfl ?_|refine Wf (by first|exact Va|exact Vb|exact Vh|exact Vi) rfl ?_|refine Wj ?_|refine Ws ?_|refine Wt ?_|refine Wv rfl rfl ?_)
    refine CT.done () ?_ (fun w ho => ho.ent)
    simp only [packed]
    unfold ndMay; rw [hfit]; rfl
  | true =>
  obtain ⟨f1, f2, f3, f4⟩ := fits_room hfit
  repeat (first|refine Wa ?_|refine Wd ?_|refine We rfl ?_|refine Wf (by first|exact Va|exact Vc|exact Vd|exact Vf|exact Vh|exact Vj|exact Vo) rfl ?_)
  refine JC.test (fun h2 => ?_) (fun h2 => ?_)
  · have h2' : room < (disk.length : Int) := by omega
    repeat (first|refine Wa ?_|refine Wb ?_|refine Wc ?_|refine Wd ?_|refine We rfl ?_|refine Wf (by exact Vb) rfl ?_|refine Ws ?_|refine Wt ?_)
    refine CT.done () ?_ (fun w ho => ho.ent)
    simp only [packed]
    unfold ndMay; rw [hfit, decide_eq_true h2']; rfl
  have h2' : ¬ room < (disk.length : Int) := by omega
  repeat (first|refine Wa ?_|refine Wb ?_|refine Wc ?_|refine Wd ?_|refine We rfl ?_|refine Wf (by first|exact Vc|exact Vd|exact Vh) rfl ?_|refine Wl ?_)
  cases up with
  | false =>
    rw [ndMay_down hfit h2' rfl]
    dsimp only
    repeat (first|refine Wb ?_|refine Wc ?_|refine We rfl ?_|refine Wf (by first|exact Va|exact Vc|exact Vd|exact Vf|exact Vl) rfl ?_|refine Wj ?_)
    refine JO.test 31 (fun h3 => ?_) (fun h3 => ?_)
    · obtain rfl : l = [] := List.eq_nil_of_length_eq_zero (by omega)
      repeat (first|refine We rfl ?_|refine Wf (by first|exact Va|exact Vc|exact Vd|exact Vf|exact Vi|exact Vl) rfl ?_)
      refine JO.test 37 (fun h4 => ?_) (fun h4 => ?_)
      · obtain rfl : wait = [] := List.eq_nil_of_length_eq_zero (by omega)
        repeat (first|refine Wa ?_|refine Wd ?_|refine We rfl ?_|refine Wf (by first|exact Vb|exact Vc|exact Vd|exact Vi|exact Vl) rfl ?_|refine Ws ?_|refine Wt ?_)
        refine CT.done () ?_ (fun w ho => ho.ent)
        simp only [packed]
        simp
      · have : wait ≠ [] := by rintro rfl; exact h4 rfl
        repeat (first|refine Wa ?_|refine Wd ?_|refine We rfl ?_|refine Wf (by first|exact Vb|exact Vj) rfl ?_|refine Ws ?_|refine Wt ?_|refine Wv rfl rfl ?_)
        refine CT.done () ?_ (fun w ho => ho.ent)
        simp only [packed]
        simp [this]
    · have : l ≠ [] := by rintro rfl; exact h3 rfl
      repeat (first|refine Wa ?_|refine Wd ?_|refine We rfl ?_|refine Wf (by first|exact Va|exact Vb|exact Vj) rfl ?_|refine Ws ?_|refine Wt ?_|refine Wv rfl rfl ?_)
      refine CT.done () ?_ (fun w ho => ho.ent)
      simp only [packed]
      simp [this]
  | true =>
  rw [ndMay_up hfit h2' rfl]
  dsimp only
  repeat (first|refine Wa ?_|refine Wb ?_|refine Wc ?_|refine We rfl ?_|refine Wf (by first|exact Vc|exact Vd) rfl ?_|refine Wk ?_|refine Wl ?_)
  refine JR.callSlT rfl (fun w1 hw => load_store w1 _ ad kd disk hw.get (by omega)) ?_
  intro a1 k1
  repeat (first|refine Wa ?_|refine Wb ?_|refine Wd ?_|refine We rfl ?_|refine Wf (by first|exact Va|exact Vb|exact Vq) rfl ?_)
  refine JC.quiet mixed (by kernel_rfl) ?_
  repeat (refine Wy rfl (by first|exact Va|exact Vc|exact Vd) rfl ?_)
  refine JQ.call rfl rfl (fun w1 hw => same_branch w1 _ a1 al k1 kl (loadL disk) l hw.get hw.get) ?_
  by_cases hA : loadL disk = l
  case neg =>
    refine JQ.reslot 51 (.bool false) (by rw [decide_eq_false hA]) ?_
    repeat (first|refine Wy rfl (by first|exact Va|exact Vd|exact Vh|exact Vi) rfl ?_|refine Wz rfl rfl ?_|refine WB ?_)
    repeat (first|refine Wa ?_|refine Wb ?_|refine Wc ?_|refine Wd ?_|refine We rfl ?_|refine Wf (by exact Vb) rfl ?_|refine Wj ?_|refine Ws ?_|refine Wt ?_)
    refine CT.done () ?_ (fun w ho => ho.ent)
    simp only [packed]
    simp [hA]
  refine JQ.reslot 51 (.bool true) (by rw [decide_eq_true hA]) ?_
  repeat (refine Wy rfl (by first|exact Va|exact Vc|exact Vd|exact Vf|exact Vh|exact Vj|exact Vm) rfl ?_)
  by_cases hB : loadEnd disk = disk.length
  case neg =>
    refine JQ.reslot 60 (.bool true) (by congr 1; exact decide_eq_true (by omega)) ?_
    repeat (first|refine Wy rfl (by first|exact Va|exact Vd|exact Vi) rfl ?_|refine Wz rfl rfl ?_|refine WB ?_)
    repeat (first|refine Wa ?_|refine Wb ?_|refine Wc ?_|refine Wd ?_|refine We rfl ?_|refine Wf (by exact Vb) rfl ?_|refine Wj ?_|refine Ws ?_|refine Wt ?_)
    refine CT.done () ?_ (fun w ho => ho.ent)
    simp only [packed]
    simp [hB]
  refine JQ.reslot 60 (.bool false) (by congr 1; exact decide_eq_false (by omega)) ?_
  repeat (refine Wy rfl (by first|exact Va|exact Vc|exact Vd) rfl ?_)
  refine JQ.call rfl rfl (fun w1 hw => last_store w1 _ a1 k1 (loadL disk) no hw.get) ?_
  repeat (refine Wy rfl (by first|exact Va|exact Vd|exact Vj|exact Vm) rfl ?_)
  subst hA
  by_cases hC : seq = lastF (loadL disk) no
  case neg =>
    refine JQ.reslot 69 (.bool true) (by congr 1; exact decide_eq_true hC) ?_
    repeat (first|refine Wy rfl (by first|exact Vd|exact Vi) rfl ?_|refine Wz rfl rfl ?_|refine WB ?_)
    repeat (first|refine Wa ?_|refine Wb ?_|refine Wc ?_|refine Wd ?_|refine We rfl ?_|refine Wf (by exact Vb) rfl ?_|refine Wj ?_|refine Ws ?_|refine Wt ?_)
    refine CT.done () ?_ (fun w ho => ho.ent)
    simp only [packed]
    simp [hC]
  refine JQ.reslot 69 (.bool false) (by congr 1; exact decide_eq_false (fun h => h hC)) ?_
  repeat (first|refine Wy rfl (by first|exact Vc|exact Vd|exact Vf|exact Vj|exact Vo) rfl ?_|refine WB ?_)
  repeat (refine Wa ?_)
  refine JC.test (fun h7 => ?_) (fun h7 => ?_)
  · have : ¬ wait.length ≤ 8 := by omega
    repeat (first|refine Wa ?_|refine Wb ?_|refine Wc ?_|refine Wd ?_|refine We rfl ?_|refine Wf (by exact Vb) rfl ?_|refine Ws ?_|refine Wt ?_)
    refine CT.done () ?_ (fun w ho => ho.ent)
    simp only [packed]
    simp [this]
  have h8 : wait.length ≤ 8 := by omega
  rw [decide_eq_true rfl, decide_eq_true hB, decide_eq_true hC, decide_eq_true h8]
  simp only [Bool.true_and]
  repeat (first|refine Wa ?_|refine Wb ?_|refine Wc ?_|refine We rfl ?_|refine Wf (by exact Va) rfl ?_|refine Wl ?_)
  refine JR.callBuf rfl (fun w1 hw => ids_buf w1 _ a1 k1 (loadL disk) hw.get (by have := loaded_len disk; omega) loaded_fine) ?_
  intro a2 k2
  repeat (first|refine Wa ?_|refine Wb ?_|refine Wc ?_|refine Wd ?_|refine We rfl ?_|refine Wf (by first|exact Va|exact Vb|exact Vc|exact Vd|exact Vf) rfl ?_|refine Wn ?_)
  generalize hI : idsP (loadL disk) = I
  refine JC.more (fun w ho => ho.pub) ?_
  refine JC.loop1 (fun (k : Nat) => [(1, .pointer (some ⟨bn, 0, none⟩)), (5, .slice a2 I.length k2), (78, .slice aw wait.length kw), (79, .int .i64 (wait.length : Int)), (80, .int .i64 (k : Int))])
    (fun _ => [.st (sl a2 k2 I), .own bn 50 [.int .i64 no, .slice ad disk.length kd, .int .i64 room, .slice al (loadL disk).length kl, .slice aw wait.length kw, .int .i64 seq, .bool true, .slice ap peers.length kp, .int .i64 next, .int .i64 miss], .st (sl aw kw wait)])
    (fun k => k ≤ wait.length ∧ (wait.take k).all (freshB no seq I) = true) (fun k => wait.length - k) 0 ⟨Nat.zero_le _, by simp⟩ inferInstance ?_
  rintro k ⟨hk, hall⟩
  repeat (first|refine Wa ?_|refine Wb ?_|refine Wc ?_|refine Wd ?_|refine We rfl ?_|refine Wf (by exact Vg) rfl ?_)
  refine JC.test (fun hlt => ?_) (fun hge => ?_)
  · have hlt' : k < wait.length := by omega
    have hx := hwf _ (List.getElem_mem hlt')
    have hcut := all_cut (p := freshB no seq I) hlt'
    have htk := all_take hlt' hall
    repeat (first|refine Wa ?_|refine Wb ?_|refine Wc ?_|refine We rfl ?_|refine Wl ?_|refine Wn ?_)
    refine JR.indexCommit rfl hlt' ?_
    intro b3 o3 p3 q3
    repeat (first|refine Wa ?_|refine Wb ?_|refine Wc ?_|refine Wd ?_|refine We rfl ?_|refine Wf (by exact Vc) rfl ?_|(refine Wg rfl ?_; intro _)|refine Wi ?_)
    refine JR.callV rfl (fun w1 hw => hash_commit w1 _ wait[k] p3 q3 hw.get hx.1) ?_
    repeat (first|refine Wa ?_|refine Wb ?_|refine Wc ?_|refine Wd ?_|refine We rfl ?_|refine Wf (by first|exact Va|exact Vb|exact Vm|exact Vq) rfl ?_|(refine Wg rfl ?_; intro _)|refine Wi ?_)
    refine JO.test 91 (fun h1 => ?_) (fun h1 => ?_)
    · have hm : may wait[k] = false := by rw [← Bool.not_eq_true, ← hash_err]; exact h1
      repeat (first|refine Wa ?_|refine Wb ?_|refine Wc ?_|refine Wd ?_|refine We rfl ?_|refine Wf (by first|exact Va|exact Vb|exact Vi) rfl ?_|refine Wj ?_|refine Ws ?_|refine Wt ?_|refine Wu ?_|refine Wv rfl rfl ?_)
      refine CT.done () ?_ (fun w ho => ho.ent)
      simp only [packed]
      rw [hcut (by unfold freshB; rw [hm]; rfl)]
    have hm : may wait[k] = true := (hash_err _).1 (by simpa using h1)
    repeat (first|refine We rfl ?_|refine Wf (by exact Vc) rfl ?_)
    refine JR.callV rfl (fun w1 hw => merge_commit w1 _ wait[k] p3 q3 hw.get hx.1) ?_
    cases hg : merge wait[k] with
    | true =>
      repeat (first|refine Wa ?_|refine Wb ?_|refine Wc ?_|refine Wd ?_|refine We rfl ?_|refine Wf (by first|exact Va|exact Vb|exact Vi|exact Vj) rfl ?_|refine Wj ?_|refine Ws ?_|refine Wt ?_|refine Wu ?_|refine Wv rfl rfl ?_)
      refine CT.done () ?_ (fun w ho => ho.ent)
      simp only [packed]
      rw [hcut (by unfold freshB; rw [hm, hg]; rfl)]
    | false =>
    repeat (first|refine We rfl ?_|refine Wf (by first|exact Va|exact Vc|exact Vj) rfl ?_)
    refine JR.callV rfl (fun w1 hw => has_ids w1 _ a2 k2 I (hashC wait[k]).1 hw.get) ?_
    by_cases hin : (hashC wait[k]).1 ∈ I
    · refine JO.reslot 98 (.bool true) (by rw [decide_eq_true hin]) ?_
      repeat (first|refine Wa ?_|refine Wb ?_|refine Wc ?_|refine Wd ?_|refine We rfl ?_|refine Wf (by first|exact Va|exact Vb|exact Vi|exact Vj) rfl ?_|refine Wj ?_|refine Ws ?_|refine Wt ?_|refine Wu ?_|refine Wv rfl rfl ?_)
      refine CT.done () ?_ (fun w ho => ho.ent)
      simp only [packed]
      rw [hcut (by unfold freshB idC; rw [hm, hg, decide_eq_true hin]; rfl)]
    refine JO.reslot 98 (.bool false) (by rw [decide_eq_false hin]) ?_
    repeat (first|refine We rfl ?_|refine Wf (by first|exact Va|exact Vc|exact Vj) rfl ?_)
    refine JR.callV rfl (fun w1 hw => strange_branch w1 _ ⟨no, disk, room, loadL disk, wait, seq, true, peers, next, miss⟩ ⟨ad, kd, al, kl, aw, kw, ap, kp⟩ wait[k] p3 q3) ?_
    dsimp only
    cases hst : strangeB no seq wait[k] with
    | false =>
      repeat (first|refine Wa ?_|refine Wb ?_|refine Wc ?_|refine Wd ?_|refine We rfl ?_|refine Wf (by first|exact Vb|exact Vh|exact Vj) rfl ?_|refine Wj ?_|refine Ws ?_|refine Wt ?_|refine Wu ?_)
      refine CT.done () ?_ (fun w ho => ho.ent)
      simp only [packed]
      rw [hcut (by unfold freshB idC; rw [hm, hg, decide_eq_false hin, hst]; rfl)]
    | true =>
    repeat (first|refine Wa ?_|refine Wc ?_|refine Wd ?_|refine We rfl ?_|refine Wf (by first|exact Va|exact Vh|exact Vj|exact Vk (by omega)) rfl ?_|refine Wk ?_|refine Wl ?_|refine Wr ?_)
    exact ⟨k + 1, ⟨by omega, by rw [htk]; unfold freshB idC; rw [hm, hg, decide_eq_false hin, hst]; rfl⟩, by omega, inferInstance⟩
  · obtain rfl : k = wait.length := by omega
    rw [List.take_length] at hall
    repeat (first|refine Wa ?_|refine Wb ?_|refine Wc ?_|refine Wd ?_|refine We rfl ?_|refine Wf (by exact Vb) rfl ?_|refine Wm ?_|refine Wo ?_|refine Wp ?_|refine Ws ?_)
    refine CT.done () ?_ (fun w ho => ho.ent)
    simp only [packed]
    rw [hall]
abbrev repF (br : Nat) (n : Nd) (y : Na) : List Fact := [.own br 136 (ndC n y), .res (buf y.l y.lk 29 n.l), .st (sl y.d y.dk n.disk), .st (sl y.w y.wk n.wait), .st (sl y.p y.pk n.peers)]
section
variable {w0 w : World} {F : Nat → Prop} {Γ : List Fact} {br : Nat}
set_option maxHeartbeats 4000000 in
theorem put_disk (n : Nd) (y : Na) (c : Commit) (a : Option Addr) (k : Nat) (ht : texts c) (hb : n.disk.length ≤ 1048576) (hl : n.l.length < 34359738368) (ho : Hold w0 F (repF br n y ++ .st (sl a k c.parents) :: Γ) w) :
    Calls Tryz.prog 207 ⟨[.pointer (some ⟨br, 0, none⟩), commitV c a k]⟩ w fun x w' => ∃ y' : Na, x = .returned (.int .i64 (storeT n.disk n.room c).2) ∧ Hold w0 F (repF br (ndPut n c) y' ++ Γ) w' := by
  refine calls_of (v := fun y : Na => .int .i64 (storeT n.disk n.room c).2) (B := fun y' => repF br (ndPut n c) y' ++ Γ) Tryz.func207 rfl Tryz.ntmps207 rfl rfl _ ho ?_
  rcases n with ⟨no, disk, room, l, wait, seq, up, peers, next, miss⟩
  rcases y with ⟨ad, kd, al, kl, aw, kw, ap, kp⟩
  dsimp only [repF, ndC, List.cons_append, List.nil_append] at *
  repeat (first|refine Wa ?_|refine Wb ?_|refine Wc ?_|refine Wd ?_|refine We rfl ?_|refine Wf (by exact Vb) rfl ?_|(refine Wh rfl ?_; intro _))
  rename_i bc
  refine JC.drawP mixed ?_
  refine JP.pure 0 rfl (by kernel_rfl) rfl (fun _ => Va) rfl rfl ?_
  refine JP.pure 1 rfl (by kernel_rfl) rfl (fun _ => OpV.nilCheck) rfl rfl ?_
  refine JP.pure 2 rfl (by kernel_rfl) rfl (fun _ => Vd) rfl rfl ?_
  refine JP.pure 3 rfl (by kernel_rfl) rfl (fun _ => Vd) rfl rfl ?_
  refine JP.take 4 [.own br 136 [.int .i64 no, .slice ad disk.length kd, .int .i64 room, .slice al l.length kl, .slice aw wait.length kw, .int .i64 seq, .bool up, .slice ap peers.length kp, .int .i64 next, .int .i64 miss]] rfl (by kernel_rfl) rfl Vc rfl rfl ?_
  refine JP.pure 5 rfl (by kernel_rfl) rfl (fun _ => Va) rfl rfl ?_
  refine JP.pure 6 rfl (by kernel_rfl) rfl (fun _ => OpV.nilCheck) rfl rfl ?_
  refine JP.pure 7 rfl (by kernel_rfl) rfl (fun _ => Vd) rfl rfl ?_
  refine JP.pure 8 rfl (by kernel_rfl) rfl (fun _ => Vd) rfl rfl ?_
  refine JP.take 9 [.own br 136 [.int .i64 no, .slice ad disk.length kd, .int .i64 room, .slice al l.length kl, .slice aw wait.length kw, .int .i64 seq, .bool up, .slice ap peers.length kp, .int .i64 next, .int .i64 miss]] rfl (by kernel_rfl) rfl Vc rfl rfl ?_
  refine JP.take 10 [.own bc 29 [.int .i64 c.ev.node, .int .i64 c.ev.seq, .int .i64 c.gen, .slice a c.parents.length k, .int .i64 c.op.kind, .string c.op.key, .string c.op.elem, .int .i64 c.op.n]] rfl (by kernel_rfl) rfl Vc rfl rfl ?_
  refine JP.op 11 (by kernel_rfl) rfl rfl (JR.call1 (v := fun y : Option Addr × Nat => .tuple ⟨[.slice y.1 (storeT disk room c).1.length y.2, .int .i64 (storeT disk room c).2]⟩) (B := fun y => .res (buf y.1 y.2 5 (storeT disk room c).1)) rfl (fun w1 hw => put_store w1 _ ad a kd k disk room c (hw.get (A := sl ad kd disk)) (hw.get (A := sl a k c.parents)) ht hb) (fun z => Wd ⟨rfl, (by repeat (first|exact Obs.nil|refine Obs.keep ?_|refine Obs.skip (by kernel_rfl) ?_)), ?_⟩))
  rcases z with ⟨ad2, kd2⟩
  dsimp only
  refine JP.pure 12 rfl (by kernel_rfl) rfl (fun _ => Va) rfl rfl ?_
  refine JP.pure 13 rfl (by kernel_rfl) rfl (fun _ => Vq) rfl rfl ?_
  refine JP.pure 14 rfl (by kernel_rfl) rfl (fun _ => Vq) rfl rfl ?_
  refine JP.pure 15 rfl (by kernel_rfl) rfl (fun _ => Vb) rfl rfl ?_
  refine JP.pure 16 rfl (by kernel_rfl) rfl (fun _ => Vb) rfl rfl ?_
  refine JP.nil (by kernel_rfl) ?_
  repeat (first|refine Wa ?_|refine Wb ?_|refine Wc ?_|refine Wd ?_|refine We rfl ?_|refine Wf (by first|exact Va|exact Vl) rfl ?_)
  refine JC.test (fun h1 => ?_) (fun h1 => ?_)
  · have e1 : ndPut ⟨no, disk, room, l, wait, seq, up, peers, next, miss⟩ c = ⟨no, (storeT disk room c).1, room, l ++ [c], wait, seq, up, peers, next, miss⟩ := if_pos h1
    rw [e1]
    dsimp only
    skip
    refine JC.more (fun w ho => ho.pub) ?_
    refine JC.drawP mixed ?_
    refine JP.pure 0 rfl (by kernel_rfl) rfl (fun _ => Va) rfl rfl ?_
    refine JP.pure 1 rfl (by kernel_rfl) rfl (fun _ => Va) rfl rfl ?_
    refine JP.pure 2 rfl (by kernel_rfl) rfl (fun _ => Va) rfl rfl ?_
    refine JP.pure 3 rfl (by kernel_rfl) rfl (fun _ => Va) rfl rfl ?_
    refine JP.pure 4 rfl (by kernel_rfl) rfl (fun _ => OpV.nilCheck) rfl rfl ?_
    refine JP.pure 5 rfl (by kernel_rfl) rfl (fun _ => Vd) rfl rfl ?_
    refine JP.pure 6 rfl (by kernel_rfl) rfl (fun _ => Vd) rfl rfl ?_
    refine JP.take 7 [.own br 136 [.int .i64 no, .slice ad disk.length kd, .int .i64 room, .slice al l.length kl, .slice aw wait.length kw, .int .i64 seq, .bool up, .slice ap peers.length kp, .int .i64 next, .int .i64 miss]] rfl (by kernel_rfl) rfl Vc rfl rfl ?_
    refine JP.take 8 [.own bc 29 [.int .i64 c.ev.node, .int .i64 c.ev.seq, .int .i64 c.gen, .slice a c.parents.length k, .int .i64 c.op.kind, .string c.op.key, .string c.op.elem, .int .i64 c.op.n]] rfl (by kernel_rfl) rfl Vc rfl rfl ?_
    refine JP.op 9 (by kernel_rfl) rfl rfl (Ww rfl ⟨rfl, by decide, by decide, by decide⟩ (fun bl => Wd ⟨rfl, (by repeat (first|exact Obs.nil|refine Obs.keep ?_|refine Obs.skip (by kernel_rfl) ?_)), ?_⟩))
    refine JP.op 10 (by kernel_rfl) rfl rfl (JR.append1 (u := c) rfl (by exact ⟨rfl, rfl, by decide⟩) hl (fun al2 kl2 => Wd ⟨rfl, (by repeat (first|exact Obs.nil|refine Obs.keep ?_|refine Obs.skip (by kernel_rfl) ?_)), ?_⟩))
    refine JP.pure 11 rfl (by kernel_rfl) rfl (fun _ => OpV.nilCheck) rfl rfl ?_
    refine JP.pure 12 rfl (by kernel_rfl) rfl (fun _ => Vd) rfl rfl ?_
    refine JP.pure 13 rfl (by kernel_rfl) rfl (fun _ => Vd) rfl rfl ?_
    refine JP.reslot 37 (.pointer (some ⟨br, 1, none⟩)) rfl ?_
    refine JP.op 14 (by kernel_rfl) rfl rfl (Wi (Wd ⟨rfl, (by repeat (first|exact Obs.nil|refine Obs.keep ?_|refine Obs.skip (by kernel_rfl) ?_)), ?_⟩))
    refine JP.pure 15 rfl (by kernel_rfl) rfl (fun _ => OpV.nilCheck) rfl rfl ?_
    refine JP.pure 16 rfl (by kernel_rfl) rfl (fun _ => Vd) rfl rfl ?_
    refine JP.pure 17 rfl (by kernel_rfl) rfl (fun _ => Vd) rfl rfl ?_
    refine JP.reslot 40 (.pointer (some ⟨br, 3, none⟩)) rfl ?_
    refine JP.op 18 (by kernel_rfl) rfl rfl (Wi (Wd ⟨rfl, (by repeat (first|exact Obs.nil|refine Obs.keep ?_|refine Obs.skip (by kernel_rfl) ?_)), ?_⟩))
    refine JP.nil (by kernel_rfl) ?_
    repeat (first|refine Wa ?_|refine Wb ?_|refine Wc ?_|refine Wd ?_|refine We rfl ?_|refine Wf (by first|exact Va|exact Vb) rfl ?_|refine Ws ?_)
    exact CT.done ⟨ad2, kd2, al2, kl2, aw, kw, ap, kp⟩ rfl (fun w ho => ho.ent)
  · have e1 : ndPut ⟨no, disk, room, l, wait, seq, up, peers, next, miss⟩ c = ⟨no, disk, room, l, wait, seq, up, peers, next, miss⟩ := if_neg h1
    rw [e1]
    dsimp only
    repeat (first|refine Wa ?_|refine Wb ?_|refine Wc ?_|refine Wd ?_|refine We rfl ?_|refine Wf (by first|exact Va|exact Vb) rfl ?_|refine Wl ?_|refine Ws ?_)
    exact CT.done ⟨ad, kd, al, kl, aw, kw, ap, kp⟩ rfl (fun w ho => ho.ent)
end
theorem putC_may {c : Commit} (h : may c = true) : putCommit c = (commitPut c, 0) := by simp [putCommit, h]
theorem storeT_room {b : List UInt8} {room : Int} {c : Commit} (h : (storeT b room c).2 = 0) : ((storeT b room c).1.length : Int) ≤ room ∧ (storeT b room c).1 = b ++ frameL (commitPut c) ∧ may c = true := by
  unfold storeT at h ⊢
  split at h
  · rename_i h1
    rw [if_pos h1]
    have hm : may c = true := by
      unfold putCommit at h1
      split at h1
      · assumption
      · cases h1
    rw [putC_may hm] at h ⊢
    unfold writeT at h ⊢
    split at h
    · cases h
    · split at h
      · cases h
      · rename_i h2 h3
        rw [if_neg h2, if_neg h3]
        refine ⟨?_, rfl, hm⟩
        rw [List.length_append]
        omega
  · rename_i h1; exact absurd h h1
structure NdOk (N : Nat) (n : Nd) : Prop where
  fl : ∀ x ∈ n.l, fine x
  fw : ∀ x ∈ n.wait, fine x
  disk : n.disk.length ≤ 1048576
  room : n.room ≤ 1048576
  len : n.l.length + n.wait.length ≤ N
theorem ready_is {L rl : List Commit} {H : List ID} {rc : Commit} (h : waitReady L H = (rc, rl, true)) : rc ∈ L ∧ rl.length + 1 = L.length ∧ (∀ x ∈ rl, x ∈ L) ∧ ∃ i, ∃ hi : i < L.length, rc = L[i] ∧ rl = L.eraseIdx i ∧ isReady H L[i] = true := by
  unfold waitReady at h
  split at h
  · rename_i i hi
    obtain ⟨h1, h2, _⟩ := List.findIdx?_eq_some_iff_getElem.1 hi
    injection h with h3 h4
    injection h4 with h4 _
    have h5 : L.getD i commit0 = L[i] := by simp [h1]
    rw [h5] at h3
    subst h3 h4
    exact ⟨List.getElem_mem h1, by rw [List.length_eraseIdx, if_pos h1]; omega, fun x hx => List.mem_of_mem_eraseIdx hx, i, h1, rfl, rfl, h2⟩
  · injection h with h3 h4
    injection h4 with h4 h5
    cases h5
theorem put_wait_same (n : Nd) (c : Commit) : (ndPut n c).wait = n.wait := by unfold ndPut; split <;> rfl
theorem settle1_wait (n : Nd) (c : Commit) (rest : List Commit) : (settle1 n c rest).wait = rest := by
  unfold settle1; split
  · rw [put_wait_same]
  · rfl
theorem settleN_step {n : Nd} {rc : Commit} {rl : List Commit} (h : waitReady n.wait (idsP n.l) = (rc, rl, true)) : settleN n = settleN (settle1 n rc rl) := by
  have h1 := (ready_is h).2.1
  unfold settleN
  rw [settle1_wait, ← h1, settleF, h]
  rfl
theorem settleN_end {n : Nd} {rc : Commit} {rl : List Commit} (h : waitReady n.wait (idsP n.l) = (rc, rl, false)) : settleN n = n := by
  unfold settleN
  cases hw : n.wait.length with
  | zero => rfl
  | succ f => rw [settleF, h]; rfl
theorem ndPut_ok {N : Nat} {n : Nd} {c : Commit} (h : NdOk N n) (hc : fine c) : NdOk (N + 1) (ndPut n c) := by
  unfold ndPut
  split
  · rename_i h1
    have h2 := (storeT_room h1).1
    have h3 := h.room
    have h4 := h.len
    refine ⟨fun x hx => ?_, h.fw, ?_, h.room, ?_⟩
    · rcases List.mem_append.1 hx with hx | hx
      · exact h.fl x hx
      · rw [List.mem_singleton] at hx; subst hx; exact hc
    · show (storeT n.disk n.room c).1.length ≤ 1048576; omega
    · show (n.l ++ [c]).length + n.wait.length ≤ N + 1
      rw [List.length_append, List.length_singleton]; omega
  · exact ⟨h.fl, h.fw, h.disk, h.room, by have := h.len; omega⟩
theorem rest_ok {N : Nat} {n : Nd} {rc : Commit} {rl : List Commit} (h : NdOk (N + 1) n) (hr : waitReady n.wait (idsP n.l) = (rc, rl, true)) : NdOk N { n with wait := rl } := by
  obtain ⟨h1, h2, h3, _⟩ := ready_is hr
  exact ⟨h.fl, fun x hx => h.fw x (h3 x hx), h.disk, h.room, by have := h.len; show n.l.length + rl.length ≤ N; omega⟩
theorem settle1_ok {N : Nat} {n : Nd} {rc : Commit} {rl : List Commit} (h : NdOk N n) (hr : waitReady n.wait (idsP n.l) = (rc, rl, true)) : NdOk N (settle1 n rc rl) := by
  obtain ⟨h1, h2, h3, _⟩ := ready_is hr
  have hN : 1 ≤ N := by have := h.len; omega
  obtain ⟨M, rfl⟩ : ∃ M, N = M + 1 := ⟨N - 1, by omega⟩
  have hr' := rest_ok h hr
  unfold settle1
  split
  · exact ndPut_ok hr' (h.fw rc h1)
  · exact ⟨hr'.fl, hr'.fw, hr'.disk, hr'.room, by have := hr'.len; omega⟩
section
variable {w0 w : World} {F : Nat → Prop} {Γ : List Fact} {br : Nat}
set_option maxHeartbeats 8000000 in
theorem settle_repo (n : Nd) (y : Na) (hok : NdOk 900 n) (ho : Hold w0 F (repF br n y ++ Γ) w) :
    Calls Tryz.prog 164 ⟨[.pointer (some ⟨br, 0, none⟩)]⟩ w fun x w' => ∃ y' : Na, x = .returned (.tuple ⟨[]⟩) ∧ Hold w0 F (repF br (settleN n) y' ++ Γ) w' := by
  refine calls_of (v := fun y : Na => .tuple ⟨[]⟩) (B := fun y' => repF br (settleN n) y' ++ Γ) Tryz.func164 rfl Tryz.ntmps164 rfl rfl _ ho ?_
  dsimp only [repF, List.cons_append, List.nil_append]
  repeat (refine Wn ?_)
  refine JC.loop2 (fun (m : Nd) (z : Na) => [(0, .pointer (some ⟨br, 0, none⟩))])
    (fun m z => .own br 136 (ndC m z) :: .res (buf z.l z.lk 29 m.l) :: .st (sl z.d z.dk m.disk) :: .st (sl z.w z.wk m.wait) :: .st (sl z.p z.pk m.peers) :: Γ)
    (fun m z => NdOk 900 m ∧ settleN m = settleN n) (fun m _ => m.wait.length) n y ⟨hok, rfl⟩ inferInstance ?_
  rintro ⟨no, disk, room, l, wait, seq, up, peers, next, miss⟩ ⟨ad, kd, al, kl, aw, kw, ap, kp⟩ ⟨hm, hS⟩
  obtain ⟨hfl, hfw, hdk, hrm, hln⟩ := id hm
  dsimp only [ndC] at *
  obtain ⟨⟨rc, rl, rb⟩, hR⟩ : ∃ R, waitReady wait (idsP l) = R := ⟨_, rfl⟩
  repeat (first|refine Wb ?_|refine Wn ?_)
  refine JC.cut (fun y : (Option Addr × Nat) × (Option Addr × Nat) × Nat => [(0, .pointer (some ⟨br, 0, none⟩)), (2, .pointer (some ⟨y.2.2, 0, none⟩)), (3, .slice y.2.1.1 rl.length y.2.1.2), (4, .bool rb)])
    (fun y => .own y.2.2 29 [.int .i64 rc.ev.node, .int .i64 rc.ev.seq, .int .i64 rc.gen, .slice y.1.1 rc.parents.length y.1.2, .int .i64 rc.op.kind, .string rc.op.key, .string rc.op.elem, .int .i64 rc.op.n] :: .st (sl y.1.1 y.1.2 rc.parents) :: .st (sl y.2.1.1 y.2.1.2 rl) :: .own br 136 [.int .i64 no, .slice ad disk.length kd, .int .i64 room, .slice al l.length kl, .slice aw wait.length kw, .int .i64 seq, .bool up, .slice ap peers.length kp, .int .i64 next, .int .i64 miss] :: .res (buf al kl 29 l) :: .st (sl ad kd disk) :: .st (sl aw kw wait) :: .st (sl ap kp peers) :: Γ) ?_ ?_
  · refine JC.drawP mixed ?_
    refine JP.pure 0 rfl (by kernel_rfl) rfl (fun _ => Va) rfl rfl ?_
    refine JP.pure 1 rfl (by kernel_rfl) rfl (fun _ => OpV.nilCheck) rfl rfl ?_
    refine JP.pure 2 rfl (by kernel_rfl) rfl (fun _ => Vd) rfl rfl ?_
    refine JP.pure 3 rfl (by kernel_rfl) rfl (fun _ => Vd) rfl rfl ?_
    refine JP.pure 4 rfl (by kernel_rfl) rfl (fun _ => Vd) rfl rfl ?_
    refine JP.take 5 [.own br 136 [.int .i64 no, .slice ad disk.length kd, .int .i64 room, .slice al l.length kl, .slice aw wait.length kw, .int .i64 seq, .bool up, .slice ap peers.length kp, .int .i64 next, .int .i64 miss]] rfl (by kernel_rfl) rfl Vc rfl rfl ?_
    refine JP.pure 6 rfl (by kernel_rfl) rfl (fun _ => Va) rfl rfl ?_
    refine JP.pure 7 rfl (by kernel_rfl) rfl (fun _ => OpV.nilCheck) rfl rfl ?_
    refine JP.pure 8 rfl (by kernel_rfl) rfl (fun _ => Vd) rfl rfl ?_
    refine JP.pure 9 rfl (by kernel_rfl) rfl (fun _ => Vd) rfl rfl ?_
    refine JP.pure 10 rfl (by kernel_rfl) rfl (fun _ => Vd) rfl rfl ?_
    refine JP.take 11 [.own br 136 [.int .i64 no, .slice ad disk.length kd, .int .i64 room, .slice al l.length kl, .slice aw wait.length kw, .int .i64 seq, .bool up, .slice ap peers.length kp, .int .i64 next, .int .i64 miss]] rfl (by kernel_rfl) rfl Vc rfl rfl ?_
    refine JP.both 12 18 (by kernel_rfl) rfl rfl rfl rfl (JR.callBuf rfl (fun w1 hw => (ids_buf w1 (fun _ => True) al kl l hw.bufSlOf (by omega) hfl).plain (fun _ _ => rfl)) (fun ai ki => Wd ⟨rfl, (by repeat (first|exact Obs.nil|refine Obs.keep ?_|refine Obs.skip (by kernel_rfl) ?_)), ?_⟩)) (Wg rfl (fun bc => Wd ⟨rfl, (by repeat (first|exact Obs.nil|refine Obs.keep ?_|refine Obs.skip (by kernel_rfl) ?_)), ?_⟩))
    · refine JP.more (fun w1 ho => ho.pub) ?_
      refine JP.both 13 18 (by kernel_rfl) rfl rfl rfl rfl (JR.call2 (v := fun y : (Option Addr × Nat) × (Option Addr × Nat) => .tuple ⟨[commitV rc y.1.1 y.1.2, .slice y.2.1 rl.length y.2.2, .bool rb]⟩) (B := fun y => .st (sl y.1.1 y.1.2 rc.parents)) (C := fun y => .st (sl y.2.1 y.2.2 rl)) rfl (fun w1 hw => ready_to w1 _ aw ai kw ki wait (idsP l) rc rl rb hR (hw.get (A := sl aw kw wait)) (hw.get (A := sl ai ki (idsP l))) (by omega) hfw) (fun z => Wd ⟨rfl, (by repeat (first|exact Obs.nil|refine Obs.keep ?_|refine Obs.skip (by kernel_rfl) ?_)), ?_⟩)) (Wg rfl (fun bc => Wd ⟨rfl, (by repeat (first|exact Obs.nil|refine Obs.keep ?_|refine Obs.skip (by kernel_rfl) ?_)), ?_⟩))
      · rcases z with ⟨⟨a2, k2⟩, ⟨a3, k3⟩⟩
        dsimp only
        refine JP.pure 14 rfl (by kernel_rfl) rfl (fun _ => Va) rfl rfl ?_
        refine JP.pure 15 rfl (by kernel_rfl) rfl (fun _ => Vq) rfl rfl ?_
        refine JP.pure 16 rfl (by kernel_rfl) rfl (fun _ => Vq) rfl rfl ?_
        refine JP.pure 17 rfl (by kernel_rfl) rfl (fun _ => Vq) rfl rfl ?_
        refine JP.op 18 (by kernel_rfl) rfl rfl (Wg rfl (fun bc => Wd ⟨rfl, (by repeat (first|exact Obs.nil|refine Obs.keep ?_|refine Obs.skip (by kernel_rfl) ?_)), ?_⟩))
        refine JP.op 19 (by kernel_rfl) rfl rfl (Wi (Wd ⟨rfl, (by repeat (first|exact Obs.nil|refine Obs.keep ?_|refine Obs.skip (by kernel_rfl) ?_)), ?_⟩))
        refine JP.pure 20 rfl (by kernel_rfl) rfl (fun _ => Vb) rfl rfl ?_
        refine JP.pure 21 rfl (by kernel_rfl) rfl (fun _ => Vb) rfl rfl ?_
        exact JP.nil (by kernel_rfl) ⟨rfl, ((a2, k2), (a3, k3), bc), inferInstance⟩
      · refine JP.op 13 (by kernel_rfl) rfl rfl (JR.call2 (v := fun y : (Option Addr × Nat) × (Option Addr × Nat) => .tuple ⟨[commitV rc y.1.1 y.1.2, .slice y.2.1 rl.length y.2.2, .bool rb]⟩) (B := fun y => .st (sl y.1.1 y.1.2 rc.parents)) (C := fun y => .st (sl y.2.1 y.2.2 rl)) rfl (fun w1 hw => ready_to w1 _ aw ai kw ki wait (idsP l) rc rl rb hR (hw.get (A := sl aw kw wait)) (hw.get (A := sl ai ki (idsP l))) (by omega) hfw) (fun z => Wd ⟨rfl, (by repeat (first|exact Obs.nil|refine Obs.keep ?_|refine Obs.skip (by kernel_rfl) ?_)), ?_⟩))
        rcases z with ⟨⟨a2, k2⟩, ⟨a3, k3⟩⟩
        dsimp only
        refine JP.pure 14 rfl (by kernel_rfl) rfl (fun _ => Va) rfl rfl ?_
        refine JP.pure 15 rfl (by kernel_rfl) rfl (fun _ => Vq) rfl rfl ?_
        refine JP.pure 16 rfl (by kernel_rfl) rfl (fun _ => Vq) rfl rfl ?_
        refine JP.pure 17 rfl (by kernel_rfl) rfl (fun _ => Vq) rfl rfl ?_
        refine JP.op 19 (by kernel_rfl) rfl rfl (Wi (Wd ⟨rfl, (by repeat (first|exact Obs.nil|refine Obs.keep ?_|refine Obs.skip (by kernel_rfl) ?_)), ?_⟩))
        refine JP.pure 20 rfl (by kernel_rfl) rfl (fun _ => Vb) rfl rfl ?_
        refine JP.pure 21 rfl (by kernel_rfl) rfl (fun _ => Vb) rfl rfl ?_
        exact JP.nil (by kernel_rfl) ⟨rfl, ((a2, k2), (a3, k3), bc), inferInstance⟩
    · refine JP.op 12 (by kernel_rfl) rfl rfl (JR.callBuf rfl (fun w1 hw => (ids_buf w1 (fun _ => True) al kl l hw.bufSlOf (by omega) hfl).plain (fun _ _ => rfl)) (fun ai ki => Wd ⟨rfl, (by repeat (first|exact Obs.nil|refine Obs.keep ?_|refine Obs.skip (by kernel_rfl) ?_)), ?_⟩))
      refine JP.more (fun w1 ho => ho.pub) ?_
      refine JP.op 13 (by kernel_rfl) rfl rfl (JR.call2 (v := fun y : (Option Addr × Nat) × (Option Addr × Nat) => .tuple ⟨[commitV rc y.1.1 y.1.2, .slice y.2.1 rl.length y.2.2, .bool rb]⟩) (B := fun y => .st (sl y.1.1 y.1.2 rc.parents)) (C := fun y => .st (sl y.2.1 y.2.2 rl)) rfl (fun w1 hw => ready_to w1 _ aw ai kw ki wait (idsP l) rc rl rb hR (hw.get (A := sl aw kw wait)) (hw.get (A := sl ai ki (idsP l))) (by omega) hfw) (fun z => Wd ⟨rfl, (by repeat (first|exact Obs.nil|refine Obs.keep ?_|refine Obs.skip (by kernel_rfl) ?_)), ?_⟩))
      rcases z with ⟨⟨a2, k2⟩, ⟨a3, k3⟩⟩
      dsimp only
      refine JP.pure 14 rfl (by kernel_rfl) rfl (fun _ => Va) rfl rfl ?_
      refine JP.pure 15 rfl (by kernel_rfl) rfl (fun _ => Vq) rfl rfl ?_
      refine JP.pure 16 rfl (by kernel_rfl) rfl (fun _ => Vq) rfl rfl ?_
      refine JP.pure 17 rfl (by kernel_rfl) rfl (fun _ => Vq) rfl rfl ?_
      refine JP.op 19 (by kernel_rfl) rfl rfl (Wi (Wd ⟨rfl, (by repeat (first|exact Obs.nil|refine Obs.keep ?_|refine Obs.skip (by kernel_rfl) ?_)), ?_⟩))
      refine JP.pure 20 rfl (by kernel_rfl) rfl (fun _ => Vb) rfl rfl ?_
      refine JP.pure 21 rfl (by kernel_rfl) rfl (fun _ => Vb) rfl rfl ?_
      exact JP.nil (by kernel_rfl) ⟨rfl, ((a2, k2), (a3, k3), bc), inferInstance⟩
  rintro ⟨⟨a2, k2⟩, ⟨a3, k3⟩, bc⟩
  dsimp only
  cases rb with
  | false =>
    have h1 := settleN_end (n := ⟨no, disk, room, l, wait, seq, up, peers, next, miss⟩) hR
    rw [h1] at hS
    rw [← hS]
    dsimp only
    repeat (first|refine Wa ?_|refine Wb ?_|refine Wc ?_|refine Wd ?_|refine We rfl ?_|refine Wf (by first|exact Va|exact Vh) rfl ?_|refine Wj ?_|refine Ws ?_|refine Wt ?_|refine Wu ?_)
    exact CT.done (Y := Na) ⟨ad, kd, al, kl, aw, kw, ap, kp⟩ rfl (fun w ho => ho.ent)
  | true =>
    obtain ⟨hrcm, hrll, hrlm, _⟩ := ready_is hR
    have hrc := hfw rc hrcm
    have hstep := settleN_step (n := ⟨no, disk, room, l, wait, seq, up, peers, next, miss⟩) hR
    have hok1 := settle1_ok hm hR
    have hw1 := settle1_wait ⟨no, disk, room, l, wait, seq, up, peers, next, miss⟩ rc rl
    repeat (first|refine Wa ?_|refine Wb ?_|refine Wc ?_|refine Wd ?_|refine We rfl ?_|refine Wf (by first|exact Va|exact Vh) rfl ?_|refine Wk ?_|refine Wl ?_)
    refine Wf OpV.nilCheck rfl ?_
    repeat (first|refine Wa ?_|refine Wb ?_|refine Wd ?_|refine We rfl ?_|refine Wf (by exact Vd) rfl ?_|refine Wi ?_)
    have hfa : ∀ x ∈ l ++ [rc], fine x := fun x hx => by
      rcases List.mem_append.1 hx with hx | hx
      · exact hfl x hx
      · rw [List.mem_singleton] at hx; subst hx; exact hrc
    refine JC.cut (fun _ : Unit => [(0, .pointer (some ⟨br, 0, none⟩)), (2, .pointer (some ⟨bc, 0, none⟩)), (3, .slice a3 rl.length k3), (4, .bool true), (41, .bool (closedB (l ++ [rc])))])
      (fun _ => .own bc 29 [.int .i64 rc.ev.node, .int .i64 rc.ev.seq, .int .i64 rc.gen, .slice a2 rc.parents.length k2, .int .i64 rc.op.kind, .string rc.op.key, .string rc.op.elem, .int .i64 rc.op.n] :: .st (sl a2 k2 rc.parents) :: .st (sl a3 k3 rl) :: .own br 136 [.int .i64 no, .slice ad disk.length kd, .int .i64 room, .slice al l.length kl, .slice a3 rl.length k3, .int .i64 seq, .bool up, .slice ap peers.length kp, .int .i64 next, .int .i64 miss] :: .res (buf al kl 29 l) :: .st (sl ad kd disk) :: .st (sl aw kw wait) :: .st (sl ap kp peers) :: Γ) ?_ ?_
    · refine JC.lent fun w2 => ?_
      refine JC.drawP mixed ?_
      refine JP.pure 0 rfl (by kernel_rfl) rfl (fun _ => Va) rfl rfl ?_
      refine JP.pure 1 rfl (by kernel_rfl) rfl (fun _ => OpV.nilCheck) rfl rfl ?_
      refine JP.pure 2 rfl (by kernel_rfl) rfl (fun _ => Vd) rfl rfl ?_
      refine JP.pure 3 rfl (by kernel_rfl) rfl (fun _ => Vd) rfl rfl ?_
      refine JP.pure 4 rfl (by kernel_rfl) rfl (fun _ => Vd) rfl rfl ?_
      refine JP.take 5 [.st (ro br 0 [.int .i64 no, .slice ad disk.length kd, .int .i64 room, .slice al l.length kl, .slice a3 rl.length k3, .int .i64 seq, .bool up, .slice ap peers.length kp, .int .i64 next, .int .i64 miss])] rfl (by kernel_rfl) rfl Vc rfl rfl ?_
      refine JP.take 7 [.st (ro bc 0 [.int .i64 rc.ev.node, .int .i64 rc.ev.seq, .int .i64 rc.gen, .slice a2 rc.parents.length k2, .int .i64 rc.op.kind, .string rc.op.key, .string rc.op.elem, .int .i64 rc.op.n])] rfl (by kernel_rfl) rfl Vc rfl rfl ?_
      refine JP.both 6 8 (by kernel_rfl) rfl rfl rfl rfl (JR.callBuf rfl (fun w1 hw => clone_commits w1 _ al kl l (hw.get (A := sl al kl l)) (by omega)) (fun a4 k4 => Wd ⟨rfl, (by repeat (first|exact Obs.nil|refine Obs.keep ?_|refine Obs.skip (by kernel_rfl) ?_)), ?_⟩)) (Ww rfl ⟨rfl, by decide, by decide, by decide⟩ (fun bl => Wd ⟨rfl, (by repeat (first|exact Obs.nil|refine Obs.keep ?_|refine Obs.skip (by kernel_rfl) ?_)), ?_⟩))
      · refine JP.op 8 (by kernel_rfl) rfl rfl (Ww rfl ⟨rfl, by decide, by decide, by decide⟩ (fun bl => Wd ⟨rfl, (by repeat (first|exact Obs.nil|refine Obs.keep ?_|refine Obs.skip (by kernel_rfl) ?_)), ?_⟩))
        refine JP.op 9 (by kernel_rfl) rfl rfl (JR.append1 (u := rc) rfl (by exact ⟨rfl, rfl, by decide⟩) (by omega) (fun a5 k5 => Wd ⟨rfl, (by repeat (first|exact Obs.nil|refine Obs.keep ?_|refine Obs.skip (by kernel_rfl) ?_)), ?_⟩))
        refine JP.op 10 (by kernel_rfl) rfl rfl (JR.callV rfl (fun w1 hw => (closed_dagV w1 (fun _ => True) a5 k5 (l ++ [rc]) (closedB (l ++ [rc])) hw.bufSlOf (by simp; omega) hfa closedB_iff).any) (Wd ⟨rfl, (by repeat (first|exact Obs.nil|refine Obs.keep ?_|refine Obs.skip (by kernel_rfl) ?_)), ?_⟩))
        exact JP.nil (by kernel_rfl) ⟨rfl, (), inferInstance⟩
      · refine JP.op 6 (by kernel_rfl) rfl rfl (JR.callBuf rfl (fun w1 hw => clone_commits w1 _ al kl l (hw.get (A := sl al kl l)) (by omega)) (fun a4 k4 => Wd ⟨rfl, (by repeat (first|exact Obs.nil|refine Obs.keep ?_|refine Obs.skip (by kernel_rfl) ?_)), ?_⟩))
        refine JP.op 9 (by kernel_rfl) rfl rfl (JR.append1 (u := rc) rfl (by exact ⟨rfl, rfl, by decide⟩) (by omega) (fun a5 k5 => Wd ⟨rfl, (by repeat (first|exact Obs.nil|refine Obs.keep ?_|refine Obs.skip (by kernel_rfl) ?_)), ?_⟩))
        refine JP.op 10 (by kernel_rfl) rfl rfl (JR.callV rfl (fun w1 hw => (closed_dagV w1 (fun _ => True) a5 k5 (l ++ [rc]) (closedB (l ++ [rc])) hw.bufSlOf (by simp; omega) hfa closedB_iff).any) (Wd ⟨rfl, (by repeat (first|exact Obs.nil|refine Obs.keep ?_|refine Obs.skip (by kernel_rfl) ?_)), ?_⟩))
        exact JP.nil (by kernel_rfl) ⟨rfl, (), inferInstance⟩
    rintro ⟨⟩
    cases hcl : closedB (l ++ [rc]) with
    | false =>
      have e1 : settle1 ⟨no, disk, room, l, wait, seq, up, peers, next, miss⟩ rc rl = ⟨no, disk, room, l, rl, seq, up, peers, next, miss⟩ := if_neg (by rw [hcl]; exact Bool.false_ne_true)
      rw [e1] at hok1 hw1 hstep
      repeat (first|refine Wa ?_|refine Wk ?_|refine Wl ?_|refine Wr ?_)
      exact ⟨⟨no, disk, room, l, rl, seq, up, peers, next, miss⟩, ⟨ad, kd, al, kl, a3, k3, ap, kp⟩, ⟨hok1, by rw [← hstep]; exact hS⟩, by show rl.length < wait.length; omega, inferInstance⟩
    | true =>
      have e1 : settle1 ⟨no, disk, room, l, wait, seq, up, peers, next, miss⟩ rc rl = ndPut ⟨no, disk, room, l, rl, seq, up, peers, next, miss⟩ rc := if_pos hcl
      rw [e1] at hok1 hw1 hstep
      repeat (refine Wj ?_)
      refine JC.drawP mixed ?_
      refine JP.pure 0 rfl (by kernel_rfl) rfl (fun _ => Va) rfl rfl ?_
      refine JP.pure 1 rfl (by kernel_rfl) rfl (fun _ => OpV.nilCheck) rfl rfl ?_
      refine JP.pure 2 rfl (by kernel_rfl) rfl (fun _ => Vd) rfl rfl ?_
      refine JP.take 3 [.own bc 29 [.int .i64 rc.ev.node, .int .i64 rc.ev.seq, .int .i64 rc.gen, .slice a2 rc.parents.length k2, .int .i64 rc.op.kind, .string rc.op.key, .string rc.op.elem, .int .i64 rc.op.n]] rfl (by kernel_rfl) rfl Vc rfl rfl ?_
      refine JP.more (Γ' := repF br ⟨no, disk, room, l, rl, seq, up, peers, next, miss⟩ ⟨ad, kd, al, kl, a3, k3, ap, kp⟩ ++ .st (sl a2 k2 rc.parents) :: Γ) (fun w1 ho => (ho.ent : Hold _ _ (.own br 136 [.int .i64 no, .slice ad disk.length kd, .int .i64 room, .slice al l.length kl, .slice a3 rl.length k3, .int .i64 seq, .bool up, .slice ap peers.length kp, .int .i64 next, .int .i64 miss] :: .res (buf al kl 29 l) :: .st (sl ad kd disk) :: .st (sl a3 k3 rl) :: .st (sl ap kp peers) :: .st (sl a2 k2 rc.parents) :: Γ) w1)) ?_
      refine JP.op 4 (by kernel_rfl) rfl rfl (JR.callW (v := fun y : Na => .int .i64 (storeT disk room rc).2) (B := fun y' => repF br (ndPut ⟨no, disk, room, l, rl, seq, up, peers, next, miss⟩ rc) y' ++ Γ) rfl (fun w1 hw => put_disk ⟨no, disk, room, l, rl, seq, up, peers, next, miss⟩ ⟨ad, kd, al, kl, a3, k3, ap, kp⟩ rc a2 k2 hrc.1 hdk (by show l.length < _; omega) hw) (fun y2 => Wd ⟨rfl, (by repeat (first|exact Obs.nil|refine Obs.keep ?_|refine Obs.skip (by kernel_rfl) ?_)), ?_⟩))
      generalize ndPut ⟨no, disk, room, l, rl, seq, up, peers, next, miss⟩ rc = n2 at hok1 hw1 hstep
      dsimp only [repF, List.cons_append, List.nil_append]
      refine JP.nil (by kernel_rfl) ?_
      repeat (first|refine Wa ?_|refine Wr ?_)
      exact ⟨n2, y2, ⟨hok1, by rw [← hstep]; exact hS⟩, by rw [hw1]; show rl.length < wait.length; omega, inferInstance⟩
end
theorem waitPut_sub {L : List Commit} {c x : Commit} (h : x ∈ waitPut L c) : x ∈ L ∨ x = c := by
  unfold waitPut at h
  split at h
  · exact .inl h
  · have := List.mem_of_mem_drop h
    rcases List.mem_append.1 this with h | h
    · exact .inl h
    · exact .inr (List.mem_singleton.1 h)
theorem waitPut_le (L : List Commit) (c : Commit) : (waitPut L c).length ≤ L.length + 1 := by
  unfold waitPut
  split
  · omega
  · rw [List.length_drop, List.length_append, List.length_singleton]; omega
theorem put_ok {N : Nat} {n : Nd} {c : Commit} (h : NdOk N n) (hc : fine c) : NdOk (N + 1) { n with wait := waitPut n.wait c } := by
  refine ⟨h.fl, fun x hx => ?_, h.disk, h.room, ?_⟩
  · rcases waitPut_sub hx with hx | rfl
    · exact h.fw x hx
    · exact hc
  · have := h.len
    have := waitPut_le n.wait c
    show n.l.length + (waitPut n.wait c).length ≤ N + 1
    omega
section
variable {w0 w : World} {F : Nat → Prop} {Γ : List Fact} {br : Nat}
set_option maxHeartbeats 8000000 in
theorem take_repo (n : Nd) (y : Na) (c : Commit) (a : Option Addr) (k : Nat) (hc : fine c) (hok : NdOk 899 n) (ho : Hold w0 F (repF br n y ++ .st (sl a k c.parents) :: Γ) w) :
    Calls Tryz.prog 106 ⟨[.pointer (some ⟨br, 0, none⟩), commitV c a k]⟩ w fun x w' => ∃ y' : Na, x = .returned (.tuple ⟨[]⟩) ∧ Hold w0 F (repF br (takeN n c) y' ++ Γ) w' := by
  refine calls_of (v := fun y : Na => .tuple ⟨[]⟩) (B := fun y' => repF br (takeN n c) y' ++ Γ) Tryz.func106 rfl Tryz.ntmps106 rfl rfl _ ho ?_
  rcases n with ⟨no, disk, room, l, wait, seq, up, peers, next, miss⟩
  rcases y with ⟨ad, kd, al, kl, aw, kw, ap, kp⟩
  obtain ⟨hfl, hfw, hdk, hrm, hln⟩ := id hok
  dsimp only [repF, ndC, List.cons_append, List.nil_append] at *
  repeat (first|refine Wa ?_|refine Wb ?_|refine Wc ?_|refine Wd ?_|refine We rfl ?_|refine Wf (by exact Vc) rfl ?_|(refine Wh rfl ?_; intro _))
  rename_i bc
  refine JR.callV rfl (fun w1 hw => hash_commit w1 _ c a k hw.get hc.1) ?_
  repeat (first|refine Wa ?_|refine Wb ?_|refine Wd ?_|refine We rfl ?_|refine Wf (by first|exact Va|exact Vb|exact Vq) rfl ?_|(refine Wg rfl ?_; intro _)|refine Wi ?_)
  rename_i bi
  refine JC.cut (fun _ : Unit => [(0, .pointer (some ⟨br, 0, none⟩)), (3, .pointer (some ⟨bc, 0, none⟩)), (37, .bool (!freshB no seq (idsP l) c))])
    (fun _ => .own bc 29 [.int .i64 c.ev.node, .int .i64 c.ev.seq, .int .i64 c.gen, .slice a c.parents.length k, .int .i64 c.op.kind, .string c.op.key, .string c.op.elem, .int .i64 c.op.n] :: .st (sl a k c.parents) :: .own br 136 [.int .i64 no, .slice ad disk.length kd, .int .i64 room, .slice al l.length kl, .slice aw wait.length kw, .int .i64 seq, .bool up, .slice ap peers.length kp, .int .i64 next, .int .i64 miss] :: .res (buf al kl 29 l) :: .st (sl ad kd disk) :: .st (sl aw kw wait) :: .st (sl ap kp peers) :: Γ) ?_ ?_
  · refine JC.lent fun w2 => ?_
    refine JC.drawP mixed ?_
    refine JP.pure 0 rfl (by kernel_rfl) rfl (fun _ => Va) rfl rfl ?_
    refine JP.pure 1 rfl (by kernel_rfl) rfl (fun _ => Vm) rfl rfl ?_
    refine JP.pure 2 rfl (by kernel_rfl) rfl (fun _ => Va) rfl rfl ?_
    by_cases h1 : may c = true
    case neg =>
      have h1' : may c = false := by rw [← Bool.not_eq_true]; exact h1
      have hfr : freshB no seq (idsP l) c = false := by unfold freshB; rw [h1']; rfl
      rw [hfr, Bool.not_false]
      refine JP.reslot 13 (.bool true) (by congr 1; exact decide_eq_true (fun h => h1 ((hash_err c).1 h))) ?_
      refine JP.omit 3 rfl (by kernel_rfl) rfl rfl rfl ?_
      refine JP.omit 4 rfl (by kernel_rfl) rfl rfl rfl ?_
      refine JP.pure 5 rfl (by kernel_rfl) rfl (fun _ => (by first | exact Vi | exact Vj)) rfl rfl ?_
      refine JP.pure 6 rfl (by kernel_rfl) rfl (fun _ => Va) rfl rfl ?_
      refine JP.omit 7 rfl (by kernel_rfl) rfl rfl rfl ?_
      refine JP.omit 8 rfl (by kernel_rfl) rfl rfl rfl ?_
      refine JP.omit 9 rfl (by kernel_rfl) rfl rfl rfl ?_
      refine JP.omit 10 rfl (by kernel_rfl) rfl rfl rfl ?_
      refine JP.omit 11 rfl (by kernel_rfl) rfl rfl rfl ?_
      refine JP.omit 12 rfl (by kernel_rfl) rfl rfl rfl ?_
      refine JP.omit 13 rfl (by kernel_rfl) rfl rfl rfl ?_
      refine JP.omit 14 rfl (by kernel_rfl) rfl rfl rfl ?_
      refine JP.omit 15 rfl (by kernel_rfl) rfl rfl rfl ?_
      refine JP.pure 16 rfl (by kernel_rfl) rfl (fun _ => (by first | exact Vi | exact Vj)) rfl rfl ?_
      refine JP.pure 17 rfl (by kernel_rfl) rfl (fun _ => Va) rfl rfl ?_
      refine JP.omit 18 rfl (by kernel_rfl) rfl rfl rfl ?_
      refine JP.omit 19 rfl (by kernel_rfl) rfl rfl rfl ?_
      refine JP.omit 20 rfl (by kernel_rfl) rfl rfl rfl ?_
      refine JP.omit 21 rfl (by kernel_rfl) rfl rfl rfl ?_
      refine JP.omit 22 rfl (by kernel_rfl) rfl rfl rfl ?_
      refine JP.omit 23 rfl (by kernel_rfl) rfl rfl rfl ?_
      refine JP.omit 24 rfl (by kernel_rfl) rfl rfl rfl ?_
      refine JP.omit 25 rfl (by kernel_rfl) rfl rfl rfl ?_
      refine JP.pure 26 rfl (by kernel_rfl) rfl (fun _ => (by first | exact Vi | exact Vj)) rfl rfl ?_
      exact JP.nil (by kernel_rfl) ⟨rfl, (), inferInstance⟩
    refine JP.reslot 13 (.bool false) (by congr 1; exact decide_eq_false (fun h => h ((hash_err c).2 h1))) ?_
    refine JP.take 3 [.st (ro bc 0 [.int .i64 c.ev.node, .int .i64 c.ev.seq, .int .i64 c.gen, .slice a c.parents.length k, .int .i64 c.op.kind, .string c.op.key, .string c.op.elem, .int .i64 c.op.n])] rfl (by kernel_rfl) rfl Vc rfl rfl ?_
    refine JP.op 4 (by kernel_rfl) rfl rfl (JR.callV rfl (fun w1 hw => merge_commit w1 _ c a k (hw.get (A := sl a k c.parents)) hc.1) (Wd ⟨rfl, (by repeat (first|exact Obs.nil|refine Obs.keep ?_|refine Obs.skip (by kernel_rfl) ?_)), ?_⟩))
    cases h2 : merge c with
    | true =>
      have hfr : freshB no seq (idsP l) c = false := by unfold freshB; rw [h1, h2]; rfl
      rw [hfr, Bool.not_false]
      refine JP.pure 5 rfl (by kernel_rfl) rfl (fun _ => (by first | exact Vi | exact Vj)) rfl rfl ?_
      refine JP.pure 6 rfl (by kernel_rfl) rfl (fun _ => Va) rfl rfl ?_
      refine JP.omit 7 rfl (by kernel_rfl) rfl rfl rfl ?_
      refine JP.omit 8 rfl (by kernel_rfl) rfl rfl rfl ?_
      refine JP.omit 9 rfl (by kernel_rfl) rfl rfl rfl ?_
      refine JP.omit 10 rfl (by kernel_rfl) rfl rfl rfl ?_
      refine JP.omit 11 rfl (by kernel_rfl) rfl rfl rfl ?_
      refine JP.omit 12 rfl (by kernel_rfl) rfl rfl rfl ?_
      refine JP.omit 13 rfl (by kernel_rfl) rfl rfl rfl ?_
      refine JP.omit 14 rfl (by kernel_rfl) rfl rfl rfl ?_
      refine JP.omit 15 rfl (by kernel_rfl) rfl rfl rfl ?_
      refine JP.pure 16 rfl (by kernel_rfl) rfl (fun _ => (by first | exact Vi | exact Vj)) rfl rfl ?_
      refine JP.pure 17 rfl (by kernel_rfl) rfl (fun _ => Va) rfl rfl ?_
      refine JP.omit 18 rfl (by kernel_rfl) rfl rfl rfl ?_
      refine JP.omit 19 rfl (by kernel_rfl) rfl rfl rfl ?_
      refine JP.omit 20 rfl (by kernel_rfl) rfl rfl rfl ?_
      refine JP.omit 21 rfl (by kernel_rfl) rfl rfl rfl ?_
      refine JP.omit 22 rfl (by kernel_rfl) rfl rfl rfl ?_
      refine JP.omit 23 rfl (by kernel_rfl) rfl rfl rfl ?_
      refine JP.omit 24 rfl (by kernel_rfl) rfl rfl rfl ?_
      refine JP.omit 25 rfl (by kernel_rfl) rfl rfl rfl ?_
      refine JP.pure 26 rfl (by kernel_rfl) rfl (fun _ => (by first | exact Vi | exact Vj)) rfl rfl ?_
      exact JP.nil (by kernel_rfl) ⟨rfl, (), inferInstance⟩
    | false =>
    refine JP.pure 5 rfl (by kernel_rfl) rfl (fun _ => (by first | exact Vi | exact Vj)) rfl rfl ?_
    refine JP.pure 6 rfl (by kernel_rfl) rfl (fun _ => Va) rfl rfl ?_
    refine JP.pure 7 rfl (by kernel_rfl) rfl (fun _ => Va) rfl rfl ?_
    refine JP.pure 8 rfl (by kernel_rfl) rfl (fun _ => OpV.nilCheck) rfl rfl ?_
    refine JP.pure 9 rfl (by kernel_rfl) rfl (fun _ => Vd) rfl rfl ?_
    refine JP.pure 10 rfl (by kernel_rfl) rfl (fun _ => Vd) rfl rfl ?_
    refine JP.pure 11 rfl (by kernel_rfl) rfl (fun _ => Vd) rfl rfl ?_
    refine JP.take 12 [.st (ro br 0 [.int .i64 no, .slice ad disk.length kd, .int .i64 room, .slice al l.length kl, .slice aw wait.length kw, .int .i64 seq, .bool up, .slice ap peers.length kp, .int .i64 next, .int .i64 miss])] rfl (by kernel_rfl) rfl Vc rfl rfl ?_
    refine JP.take 14 [.st (ro bi 0 (idc (hashC c).1))] rfl (by kernel_rfl) rfl Vc rfl rfl ?_
    refine JP.op 13 (by kernel_rfl) rfl rfl (JR.callBuf rfl (fun w1 hw => ids_buf w1 _ al kl l (hw.get (A := sl al kl l)) (by omega) hfl) (fun ai ki => Wd ⟨rfl, (by repeat (first|exact Obs.nil|refine Obs.keep ?_|refine Obs.skip (by kernel_rfl) ?_)), ?_⟩))
    refine JP.op 15 (by kernel_rfl) rfl rfl (JR.callV rfl (fun w1 hw => (has_ids w1 (fun _ => True) ai ki (idsP l) (hashC c).1 hw.bufSlOf).any) (Wd ⟨rfl, (by repeat (first|exact Obs.nil|refine Obs.keep ?_|refine Obs.skip (by kernel_rfl) ?_)), ?_⟩))
    by_cases h3 : (hashC c).1 ∈ idsP l
    case pos =>
      have hfr : freshB no seq (idsP l) c = false := by unfold freshB idC; rw [h1, h2, decide_eq_true h3]; rfl
      rw [hfr, Bool.not_false]
      refine JP.reslot 26 (.bool true) (by rw [decide_eq_true h3]) ?_
      refine JP.pure 16 rfl (by kernel_rfl) rfl (fun _ => (by first | exact Vi | exact Vj)) rfl rfl ?_
      refine JP.pure 17 rfl (by kernel_rfl) rfl (fun _ => Va) rfl rfl ?_
      refine JP.omit 18 rfl (by kernel_rfl) rfl rfl rfl ?_
      refine JP.omit 19 rfl (by kernel_rfl) rfl rfl rfl ?_
      refine JP.omit 20 rfl (by kernel_rfl) rfl rfl rfl ?_
      refine JP.omit 21 rfl (by kernel_rfl) rfl rfl rfl ?_
      refine JP.omit 22 rfl (by kernel_rfl) rfl rfl rfl ?_
      refine JP.omit 23 rfl (by kernel_rfl) rfl rfl rfl ?_
      refine JP.omit 24 rfl (by kernel_rfl) rfl rfl rfl ?_
      refine JP.omit 25 rfl (by kernel_rfl) rfl rfl rfl ?_
      refine JP.pure 26 rfl (by kernel_rfl) rfl (fun _ => (by first | exact Vi | exact Vj)) rfl rfl ?_
      exact JP.nil (by kernel_rfl) ⟨rfl, (), inferInstance⟩
    refine JP.reslot 26 (.bool false) (by rw [decide_eq_false h3]) ?_
    refine JP.pure 16 rfl (by kernel_rfl) rfl (fun _ => (by first | exact Vi | exact Vj)) rfl rfl ?_
    refine JP.pure 17 rfl (by kernel_rfl) rfl (fun _ => Va) rfl rfl ?_
    refine JP.pure 18 rfl (by kernel_rfl) rfl (fun _ => Va) rfl rfl ?_
    refine JP.pure 19 rfl (by kernel_rfl) rfl (fun _ => OpV.nilCheck) rfl rfl ?_
    refine JP.pure 20 rfl (by kernel_rfl) rfl (fun _ => Vd) rfl rfl ?_
    refine JP.pure 21 rfl (by kernel_rfl) rfl (fun _ => Vd) rfl rfl ?_
    refine JP.take 22 [.st (ro br 0 [.int .i64 no, .slice ad disk.length kd, .int .i64 room, .slice al l.length kl, .slice aw wait.length kw, .int .i64 seq, .bool up, .slice ap peers.length kp, .int .i64 next, .int .i64 miss])] rfl (by kernel_rfl) rfl Vc rfl rfl ?_
    refine JP.take 23 [.st (ro bc 0 [.int .i64 c.ev.node, .int .i64 c.ev.seq, .int .i64 c.gen, .slice a c.parents.length k, .int .i64 c.op.kind, .string c.op.key, .string c.op.elem, .int .i64 c.op.n])] rfl (by kernel_rfl) rfl Vc rfl rfl ?_
    refine JP.op 24 (by kernel_rfl) rfl rfl (JR.callV rfl (fun w1 hw => strange_branch w1 _ ⟨no, disk, room, l, wait, seq, up, peers, next, miss⟩ ⟨ad, kd, al, kl, aw, kw, ap, kp⟩ c a k) (Wd ⟨rfl, (by repeat (first|exact Obs.nil|refine Obs.keep ?_|refine Obs.skip (by kernel_rfl) ?_)), ?_⟩))
    have hfr : freshB no seq (idsP l) c = strangeB no seq c := by unfold freshB idC; rw [h1, h2, decide_eq_false h3]; rfl
    rw [hfr]
    dsimp only
    refine JP.pure 25 rfl (by kernel_rfl) rfl (fun _ => Vh) rfl rfl ?_
    refine JP.pure 26 rfl (by kernel_rfl) rfl (fun _ => (by first | exact Vi | exact Vj)) rfl rfl ?_
    exact JP.nil (by kernel_rfl) ⟨rfl, (), inferInstance⟩
  rintro ⟨⟩
  cases hfr : freshB no seq (idsP l) c with
  | false =>
    have e1 : takeN ⟨no, disk, room, l, wait, seq, up, peers, next, miss⟩ c = ⟨no, disk, room, l, wait, seq, up, peers, next, miss⟩ := if_neg (by show ¬ freshB no seq (idsP l) c = true; rw [hfr]; exact Bool.false_ne_true)
    rw [e1]
    dsimp only
    repeat (first|refine Wj ?_|refine Ws ?_|refine Wt ?_)
    exact CT.done (Y := Na) ⟨ad, kd, al, kl, aw, kw, ap, kp⟩ rfl (fun w ho => ho.ent)
  | true =>
    have e1 : takeN ⟨no, disk, room, l, wait, seq, up, peers, next, miss⟩ c = settleN ⟨no, disk, room, l, waitPut wait c, seq, up, peers, next, miss⟩ := if_pos hfr
    rw [e1]
    have hok2 := put_ok hok hc
    repeat (first|refine Wa ?_|refine Wb ?_|refine Wk ?_|refine Wl ?_)
    refine JC.drawP mixed ?_
    refine JP.pure 0 rfl (by kernel_rfl) rfl (fun _ => Va) rfl rfl ?_
    refine JP.pure 1 rfl (by kernel_rfl) rfl (fun _ => Va) rfl rfl ?_
    refine JP.pure 2 rfl (by kernel_rfl) rfl (fun _ => OpV.nilCheck) rfl rfl ?_
    refine JP.pure 3 rfl (by kernel_rfl) rfl (fun _ => Vd) rfl rfl ?_
    refine JP.pure 4 rfl (by kernel_rfl) rfl (fun _ => Vd) rfl rfl ?_
    refine JP.pure 5 rfl (by kernel_rfl) rfl (fun _ => Vd) rfl rfl ?_
    refine JP.take 6 [.own br 136 [.int .i64 no, .slice ad disk.length kd, .int .i64 room, .slice al l.length kl, .slice aw wait.length kw, .int .i64 seq, .bool up, .slice ap peers.length kp, .int .i64 next, .int .i64 miss]] rfl (by kernel_rfl) rfl Vc rfl rfl ?_
    refine JP.take 7 [.own bc 29 [.int .i64 c.ev.node, .int .i64 c.ev.seq, .int .i64 c.gen, .slice a c.parents.length k, .int .i64 c.op.kind, .string c.op.key, .string c.op.elem, .int .i64 c.op.n]] rfl (by kernel_rfl) rfl Vc rfl rfl ?_
    refine JP.op 8 (by kernel_rfl) rfl rfl (JR.callSl rfl (fun w1 hw => put_wait w1 _ aw a kw k wait c (hw.get (A := sl aw kw wait)) (hw.get (A := sl a k c.parents)) (by omega) hfw hc) (fun a3 k3 => Wd ⟨rfl, (by repeat (first|exact Obs.nil|refine Obs.keep ?_|refine Obs.skip (by kernel_rfl) ?_)), ?_⟩))
    refine JP.pure 9 rfl (by kernel_rfl) rfl (fun _ => OpV.nilCheck) rfl rfl ?_
    refine JP.pure 10 rfl (by kernel_rfl) rfl (fun _ => Vd) rfl rfl ?_
    refine JP.pure 11 rfl (by kernel_rfl) rfl (fun _ => Vd) rfl rfl ?_
    refine JP.pure 12 rfl (by kernel_rfl) rfl (fun _ => Vd) rfl rfl ?_
    refine JP.reslot 50 (.pointer (some ⟨br, 4, none⟩)) rfl ?_
    refine JP.op 13 (by kernel_rfl) rfl rfl (Wi (Wd ⟨rfl, (by repeat (first|exact Obs.nil|refine Obs.keep ?_|refine Obs.skip (by kernel_rfl) ?_)), ?_⟩))
    refine JP.nil (by kernel_rfl) ?_
    repeat (first|refine Wa ?_|refine Wc ?_|refine We rfl ?_|refine Wf (by exact Va) rfl ?_)
    refine JR.more (Γ' := repF br ⟨no, disk, room, l, waitPut wait c, seq, up, peers, next, miss⟩ ⟨ad, kd, al, kl, a3, k3, ap, kp⟩ ++ Γ) (fun w1 ho => (ho.ent : Hold _ _ (.own br 136 [.int .i64 no, .slice ad disk.length kd, .int .i64 room, .slice al l.length kl, .slice a3 (waitPut wait c).length k3, .int .i64 seq, .bool up, .slice ap peers.length kp, .int .i64 next, .int .i64 miss] :: .res (buf al kl 29 l) :: .st (sl ad kd disk) :: .st (sl a3 k3 (waitPut wait c)) :: .st (sl ap kp peers) :: Γ) w1)) ?_
    refine JR.callW (v := fun y : Na => .tuple ⟨[]⟩) (B := fun y' => repF br (settleN ⟨no, disk, room, l, waitPut wait c, seq, up, peers, next, miss⟩) y' ++ Γ) rfl (fun w1 hw => settle_repo _ _ hok2 hw) ?_
    intro y2
    repeat (refine Wd ?_)
    exact CT.doneN y2 rfl (fun w ho => ho)
end
structure NdFew (n : Nd) : Prop where
  fl : ∀ x ∈ n.l, fine x
  fw : ∀ x ∈ n.wait, fine x
  disk : n.disk.length ≤ 1048576
  len : n.l.length + n.wait.length ≤ 800
  peers : n.peers.length ≤ 1000
set_option maxHeartbeats 4000000 in
theorem of_branch (w : World) (F : Nat → Prop) (n : Nd) (y : Na) (h1 : (sl y.d y.dk n.disk).holds F w) (h2 : (sl y.l y.lk n.l).holds F w) (h3 : (sl y.w y.wk n.wait).holds F w) (h4 : (sl y.p y.pk n.peers).holds F w) (hn : NdFew n) :
    Gives Tryz.prog 104 [ndV n y] w F (fun z : Nat × Na => .pointer (some ⟨z.1, 0, none⟩)) (fun z => repF z.1 n z.2) := by
  rcases n with ⟨no, disk, room, l, wait, seq, up, peers, next, miss⟩
  rcases y with ⟨ad, kd, al, kl, aw, kw, ap, kp⟩
  obtain ⟨hfl, hfw, hdk, hln, hpl⟩ := hn
  dsimp only [ndV, ndC] at *
  refine gives_of Tryz.func104 rfl Tryz.ntmps104 rfl rfl [.st (sl ad kd disk), .st (sl al kl l), .st (sl aw kw wait), .st (sl ap kp peers)] (.start4 h1 h2 h3 h4) ?_
  repeat (first|refine Wa ?_|refine Wb ?_|refine Wc ?_|refine Wd ?_|refine We rfl ?_|refine Wf (by exact Vb) rfl ?_|(refine Wh rfl ?_; intro _))
  rename_i bn
  refine JC.drawP mixed ?_
  refine JP.pure 0 rfl (by kernel_rfl) rfl (fun _ => Vd) rfl rfl ?_
  refine JP.take 1 [.own bn 50 [.int .i64 no, .slice ad disk.length kd, .int .i64 room, .slice al l.length kl, .slice aw wait.length kw, .int .i64 seq, .bool up, .slice ap peers.length kp, .int .i64 next, .int .i64 miss]] rfl (by kernel_rfl) rfl Vc rfl rfl ?_
  refine JP.pure 3 rfl (by kernel_rfl) rfl (fun _ => Vd) rfl rfl ?_
  refine JP.take 4 [.own bn 50 [.int .i64 no, .slice ad disk.length kd, .int .i64 room, .slice al l.length kl, .slice aw wait.length kw, .int .i64 seq, .bool up, .slice ap peers.length kp, .int .i64 next, .int .i64 miss]] rfl (by kernel_rfl) rfl Vc rfl rfl ?_
  refine JP.op 2 (by kernel_rfl) rfl rfl (JR.callBuf rfl (fun w1 hw => clone_byt w1 _ ad kd disk (hw.get (A := sl ad kd disk)) (by omega)) (fun a1 k1 => Wd ⟨rfl, (by repeat (first|exact Obs.nil|refine Obs.keep ?_|refine Obs.skip (by kernel_rfl) ?_)), ?_⟩))
  refine JP.more (fun w1 ho => ho.pub) ?_
  refine JP.pure 6 rfl (by kernel_rfl) rfl (fun _ => Vd) rfl rfl ?_
  refine JP.op 5 (by kernel_rfl) rfl rfl (JR.callBuf rfl (fun w1 hw => clone_ints w1 _ ap kp peers (hw.get (A := sl ap kp peers)) (by omega)) (fun a2 k2 => Wd ⟨rfl, (by repeat (first|exact Obs.nil|refine Obs.keep ?_|refine Obs.skip (by kernel_rfl) ?_)), ?_⟩))
  refine JP.more (fun w1 ho => ho.pub) ?_
  refine JP.reslot 9 (.pointer (some ⟨bn, 1, none⟩)) rfl ?_
  refine JP.op 7 (by kernel_rfl) rfl rfl (Wi (Wd ⟨rfl, (by repeat (first|exact Obs.nil|refine Obs.keep ?_|refine Obs.skip (by kernel_rfl) ?_)), ?_⟩))
  refine JP.pure 8 rfl (by kernel_rfl) rfl (fun _ => Vd) rfl rfl ?_
  refine JP.reslot 10 (.pointer (some ⟨bn, 7, none⟩)) rfl ?_
  refine JP.op 9 (by kernel_rfl) rfl rfl (Wi (Wd ⟨rfl, (by repeat (first|exact Obs.nil|refine Obs.keep ?_|refine Obs.skip (by kernel_rfl) ?_)), ?_⟩))
  refine JP.nil (by kernel_rfl) ?_
  repeat (first|refine Wa ?_|refine Wb ?_)
  refine JC.drawP mixed ?_
  refine JP.pure 0 rfl (by kernel_rfl) rfl (fun _ => Vd) rfl rfl ?_
  refine JP.take 1 [.own bn 50 [.int .i64 no, .slice a1 disk.length k1, .int .i64 room, .slice al l.length kl, .slice aw wait.length kw, .int .i64 seq, .bool up, .slice a2 peers.length k2, .int .i64 next, .int .i64 miss]] rfl (by kernel_rfl) rfl Vc rfl rfl ?_
  refine JP.pure 3 rfl (by kernel_rfl) rfl (fun _ => Vd) rfl rfl ?_
  refine JP.take 4 [.own bn 50 [.int .i64 no, .slice a1 disk.length k1, .int .i64 room, .slice al l.length kl, .slice aw wait.length kw, .int .i64 seq, .bool up, .slice a2 peers.length k2, .int .i64 next, .int .i64 miss]] rfl (by kernel_rfl) rfl Vc rfl rfl ?_
  refine JP.op 2 (by kernel_rfl) rfl rfl (JR.callBuf rfl (fun w1 hw => own_branch w1 _ al kl l (hw.get (A := sl al kl l)) (by omega) hfl) (fun a3 k3 => Wd ⟨rfl, (by repeat (first|exact Obs.nil|refine Obs.keep ?_|refine Obs.skip (by kernel_rfl) ?_)), ?_⟩))
  refine JP.pure 6 rfl (by kernel_rfl) rfl (fun _ => Vd) rfl rfl ?_
  refine JP.op 5 (by kernel_rfl) rfl rfl (JR.callBuf rfl (fun w1 hw => own_branch w1 _ aw kw wait (hw.get (A := sl aw kw wait)) (by omega) hfw) (fun a4 k4 => Wd ⟨rfl, (by repeat (first|exact Obs.nil|refine Obs.keep ?_|refine Obs.skip (by kernel_rfl) ?_)), ?_⟩))
  refine JP.more (fun w1 ho => ho.pub) ?_
  refine JP.reslot 17 (.pointer (some ⟨bn, 3, none⟩)) rfl ?_
  refine JP.op 7 (by kernel_rfl) rfl rfl (Wi (Wd ⟨rfl, (by repeat (first|exact Obs.nil|refine Obs.keep ?_|refine Obs.skip (by kernel_rfl) ?_)), ?_⟩))
  refine JP.pure 8 rfl (by kernel_rfl) rfl (fun _ => Vd) rfl rfl ?_
  refine JP.reslot 18 (.pointer (some ⟨bn, 4, none⟩)) rfl ?_
  refine JP.op 9 (by kernel_rfl) rfl rfl (Wi (Wd ⟨rfl, (by repeat (first|exact Obs.nil|refine Obs.keep ?_|refine Obs.skip (by kernel_rfl) ?_)), ?_⟩))
  refine JP.nil (by kernel_rfl) ?_
  repeat (first|refine Wa ?_|refine Wb ?_|refine Wc ?_|refine We rfl ?_|refine Wf (by exact Vc) rfl ?_)
  refine Wf (OpV.build [.int .i64 no, .slice a1 disk.length k1, .int .i64 room, .slice a3 l.length k3, .slice a4 wait.length k4, .int .i64 seq, .bool up, .slice a2 peers.length k2, .int .i64 next, .int .i64 miss] (by kernel_rfl)) rfl ?_
  repeat (refine We rfl ?_)
  refine Wf (OpV.build [.int .i64 no, .slice a1 disk.length k1, .int .i64 room, .slice a3 l.length k3, .slice a4 wait.length k4, .int .i64 seq, .bool up, .slice a2 peers.length k2, .int .i64 next, .int .i64 miss] (by kernel_rfl)) rfl ?_
  repeat (first|refine Wa ?_|refine Wd ?_|refine We rfl ?_|refine Wf (by exact Vb) rfl ?_|(refine Wh rfl ?_; intro _)|refine Ws ?_)
  rename_i br
  exact CT.done (br, ⟨a1, k1, a3, k3, a4, k4, a2, k2⟩) rfl (fun w ho => ho.ent)
theorem new_branch (w : World) (F : Nat → Prop) (no room : Int) : Gives Tryz.prog 47 [.int .i64 no, .int .i64 room] w F (fun _ : Unit => .tuple ⟨[ndV (newN no room).1 na0, .bool (newN no room).2]⟩) (fun _ => []) := by
  refine gives_of Tryz.func47 rfl Tryz.ntmps47 rfl rfl [] (.start w F) ?_
  repeat (first|refine Wa ?_|refine Wb ?_|refine Wc ?_|refine Wd ?_|refine We rfl ?_|refine Wf (by first|exact Va|exact Vb) rfl ?_|(refine Wg rfl ?_; intro _))
  refine JR.callV rfl (fun w1 hw => fits_branch w1 _ no room) ?_
  cases hfit : fitsB no room with
  | false =>
    have e1 : newN no room = (nd0, false) := if_neg (by rw [hfit]; exact Bool.false_ne_true)
    rw [e1]
    repeat (first|refine Wa ?_|refine Wb ?_|refine Wc ?_|refine Wd ?_|refine We rfl ?_|refine Wf (by exact Vh) rfl ?_|refine Wj ?_)
    refine Wf (OpV.build [.int .i64 0, .slice none 0 0, .int .i64 0, .slice none 0 0, .slice none 0 0, .int .i64 0, .bool false, .slice none 0 0, .int .i64 0, .int .i64 0] (by kernel_rfl)) rfl ?_
    repeat (first|refine Wa ?_|refine Wd ?_|refine We rfl ?_|refine Wf (by exact Vb) rfl ?_|refine Wi ?_|refine Ws ?_|refine Wt ?_)
    exact CT.done () rfl (fun w ho => ho.ent)
  | true =>
    have e1 : newN no room = ({ nd0 with no := no, room := room, up := true }, true) := if_pos hfit
    rw [e1]
    repeat (first|refine Wa ?_|refine Wb ?_|refine Wc ?_|refine Wd ?_|refine We rfl ?_|refine Wf (by first|exact Va|exact Vh) rfl ?_|refine Wk ?_|refine Wl ?_)
    refine Wf (OpV.build [.int .i64 no, .slice none 0 0, .int .i64 room, .slice none 0 0, .slice none 0 0, .int .i64 0, .bool true, .slice none 0 0, .int .i64 0, .int .i64 0] (by kernel_rfl)) rfl ?_
    repeat (first|refine Wa ?_|refine Wd ?_|refine We rfl ?_|refine Wf (by exact Vb) rfl ?_|refine Wi ?_|refine Ws ?_)
    exact CT.done () rfl (fun w ho => ho.ent)
end Ab
end Go.Proofs.YtdgeffphifgflaaGreat
namespace Go.Proofs.YtdgeffphifgflaaGreat
namespace Ab
open Go Go.RowKit
set_option linter.unusedVariables false
set_option linter.unusedSimpArgs false
section
variable {P : Program} {n : Nn} {w0 : World} {F : Nat → Prop} {Q : Cont} {e : E} {Γ : List Fact} [Dr]
end
section
variable {P : Program} {n : Nn} {w0 : World} {F : Nat → Prop} {ops : Array Oper} {i d : Nat} {t : TypeId} {pos : String} {aft : Array Edge} {g : Option (Nat × Bool)} {os : List Oper} {Q : Cont} {e : E} {Γ : List Fact} [Dr]
theorem OpV.indexV {d : Option Nat} {x ix : Operand} {kk : IntKind} {j : Int} {k m c : Nat} {ty el : TypeId} {ed : TypeDesc} {sz by_ eb b : Nat} {z ez : Value} [hx : Ev e x (.slice (some ⟨b, 0, none⟩) m c)] [hi : Ev e ix (.int kk j)] [hk : NatI j k] [hT : Ty P ty (.slice el) sz by_ z] [hE : Ty P el ed 1 eb ez] (h : k < m) :
    OpV P n w0 F ⟨d, .indexAddr ty x ix, t, pos, aft, g⟩ e Γ (.pointer (some ⟨b, k, none⟩)) :=
  fun a w fr ho => by
    have e1 := run_und (P := P) (t := ty) w
    have e2 := run_size (P := P) (t := el) w
    have hj := hk.ok
    subst hj
    simp [execOp, hx.ok n a fr, hi.ok n a fr, Instr.indexAt, e1, e2, asIntOf, Addr.add_mid, h]
end
section
variable {w0 : World} {F : Nat → Prop} {Γ : List Fact} [Dr]
end
end Ab
end Go.Proofs.YtdgeffphifgflaaGreat
namespace Go.Proofs.YtdgeffphifgflaaGreat
namespace Ab
open Go Go.RowKit
set_option linter.unusedVariables false
set_option linter.unusedSimpArgs false
set_option synthInstance.maxSize 4000
set_option synthInstance.maxHeartbeats 400000
attribute [local irreducible] JC JO JR JQ andThen inBlock OpV Gives retTo JM JS
attribute [local irreducible] hashC
set_option maxHeartbeats 8000000 in
theorem own_gossip (w : World) (F : Nat → Prop) (n : Nd) (y : Na) (h1 : (sl y.d y.dk n.disk).holds F w) (h2 : (sl y.l y.lk n.l).holds F w) (h3 : (sl y.w y.wk n.wait).holds F w) (h4 : (sl y.p y.pk n.peers).holds F w) (hn : NdFew n) :
    Gives Tryz.prog 75 [ndV n y] w F (fun z : Na => ndV n z) (fun z => ndB n z) := by
  rcases n with ⟨no, disk, room, l, wait, seq, up, peers, next, miss⟩
  rcases y with ⟨ad, kd, al, kl, aw, kw, ap, kp⟩
  obtain ⟨hfl, hfw, hdk, hln, hpl⟩ := hn
  dsimp only [ndV, ndC, ndB] at *
  refine gives_of Tryz.func75 rfl Tryz.ntmps75 rfl rfl [.st (sl ad kd disk), .st (sl al kl l), .st (sl aw kw wait), .st (sl ap kp peers)] (.start4 h1 h2 h3 h4) ?_
  repeat (first|refine Wa ?_|refine Wb ?_|refine Wc ?_|refine Wd ?_|refine We rfl ?_|(refine Wg rfl ?_; intro _)|(refine Wh rfl ?_; intro _))
  rename_i bn b2
  refine JC.drawP mixed ?_
  refine JP.pure 0 rfl (by kernel_rfl) rfl (fun _ => Vd) rfl rfl ?_
  refine JP.take 1 [.own bn 50 [.int .i64 no, .slice ad disk.length kd, .int .i64 room, .slice al l.length kl, .slice aw wait.length kw, .int .i64 seq, .bool up, .slice ap peers.length kp, .int .i64 next, .int .i64 miss]] rfl (by kernel_rfl) rfl Vc rfl rfl ?_
  refine JP.pure 3 rfl (by kernel_rfl) rfl (fun _ => Vd) rfl rfl ?_
  refine JP.take 4 [.own bn 50 [.int .i64 no, .slice ad disk.length kd, .int .i64 room, .slice al l.length kl, .slice aw wait.length kw, .int .i64 seq, .bool up, .slice ap peers.length kp, .int .i64 next, .int .i64 miss]] rfl (by kernel_rfl) rfl Vc rfl rfl ?_
  refine JP.op 2 (by kernel_rfl) rfl rfl (JR.callBuf rfl (fun w1 hw => clone_byt w1 _ ad kd disk (hw.get (A := sl ad kd disk)) (by omega)) (fun a1 k1 => Wd ⟨rfl, (by repeat (first|exact Obs.nil|refine Obs.keep ?_|refine Obs.skip (by kernel_rfl) ?_)), ?_⟩))
  refine JP.more (fun w1 ho => ho.pub) ?_
  refine JP.op 5 (by kernel_rfl) rfl rfl (JR.callBuf rfl (fun w1 hw => clone_ints w1 _ ap kp peers (hw.get (A := sl ap kp peers)) (by omega)) (fun a2 k2 => Wd ⟨rfl, (by repeat (first|exact Obs.nil|refine Obs.keep ?_|refine Obs.skip (by kernel_rfl) ?_)), ?_⟩))
  refine JP.more (fun w1 ho => ho.pub) ?_
  refine JP.pure 6 rfl (by kernel_rfl) rfl (fun _ => Vd) rfl rfl ?_
  refine JP.reslot 14 (.pointer (some ⟨bn, 1, none⟩)) rfl ?_
  refine JP.op 7 (by kernel_rfl) rfl rfl (Wi (Wd ⟨rfl, (by repeat (first|exact Obs.nil|refine Obs.keep ?_|refine Obs.skip (by kernel_rfl) ?_)), ?_⟩))
  refine JP.pure 8 rfl (by kernel_rfl) rfl (fun _ => Vd) rfl rfl ?_
  refine JP.reslot 15 (.pointer (some ⟨bn, 7, none⟩)) rfl ?_
  refine JP.op 9 (by kernel_rfl) rfl rfl (Wi (Wd ⟨rfl, (by repeat (first|exact Obs.nil|refine Obs.keep ?_|refine Obs.skip (by kernel_rfl) ?_)), ?_⟩))
  refine JP.nil (by kernel_rfl) ?_
  repeat (first|refine Wa ?_|refine Wb ?_|refine Wc ?_|refine Wd ?_|refine We rfl ?_|refine Wf (by first|exact Va|exact Vd|exact Vf) rfl ?_|refine Wn ?_|(refine Ww rfl ⟨rfl, by decide, by decide, by decide⟩ ?_; intro _))
  rename_i bl
  refine JC.loop5 (fun (i : Nat) pl ql pw qw => [(1, .pointer (some ⟨bn, 0, none⟩)), (2, .pointer (some ⟨b2, 0, none⟩)), (18, .slice (some ⟨bl, 0, none⟩) 2 2), (19, .int .i64 2), (20, .int .i64 (i : Int))])
    (fun i pl ql pw qw => [.own bn 50 [.int .i64 no, .slice a1 disk.length k1, .int .i64 room, .slice pl l.length ql, .slice pw wait.length qw, .int .i64 seq, .bool up, .slice a2 peers.length k2, .int .i64 next, .int .i64 miss], .own bl 169 [.pointer (some ⟨bn, 3, none⟩), .pointer (some ⟨bn, 4, none⟩)], .own b2 50 [.int .i64 0, .slice none 0 0, .int .i64 0, .slice none 0 0, .slice none 0 0, .int .i64 0, .bool false, .slice none 0 0, .int .i64 0, .int .i64 0], .st (sl a1 k1 disk), .st (sl a2 k2 peers), .st (sl pl ql l), .st (sl pw qw wait)])
    (fun i _ _ _ _ => i ≤ 2) (fun i _ _ _ _ => 2 - i) 0 al kl aw kw (Nat.zero_le _) inferInstance ?_
  intro i pl ql pw qw hi
  repeat (first|refine Wa ?_|refine Wb ?_|refine Wc ?_|refine Wd ?_|refine We rfl ?_|refine Wf (by exact Vg) rfl ?_)
  refine JC.test (fun hlt2 => ?_) (fun hge2 => ?_)
  · obtain rfl | rfl : i = 0 ∨ i = 1 := by omega
    · refine JC.buf_nil (α := Commit) 29 ?_
      repeat (first|refine Wa ?_|refine Wb ?_|refine Wc ?_|refine We rfl ?_|refine Wl ?_|refine Wn ?_)
      refine Wf (OpV.indexV (k := 0) (by omega)) rfl ?_
      repeat (first|refine Wa ?_|refine Wb ?_|refine Wc ?_|refine Wd ?_|refine We rfl ?_|refine Wf (by first|exact Va|exact Vb|exact Vc) rfl ?_)
      refine Wf OpV.nilCheck rfl ?_
      repeat (first|refine Wa ?_|refine Wd ?_|refine We rfl ?_|refine Wf (by first|exact Va|exact Vc|exact Vf) rfl ?_|refine Wn ?_)
      refine JC.loop4 (fun (j : Nat) (out : List Commit) r s => [(1, .pointer (some ⟨bn, 0, none⟩)), (2, .pointer (some ⟨b2, 0, none⟩)), (4, .pointer (some ⟨bn, 3, none⟩)), (18, .slice (some ⟨bl, 0, none⟩) 2 2), (19, .int .i64 2), (20, .int .i64 0), (5, .slice r out.length s), (26, .slice pl l.length ql), (27, .int .i64 (l.length : Int)), (28, .int .i64 (j : Int))])
        (fun (j : Nat) (out : List Commit) r s => [.res (buf r s 29 out), .own bn 50 [.int .i64 no, .slice a1 disk.length k1, .int .i64 room, .slice pl l.length ql, .slice pw wait.length qw, .int .i64 seq, .bool up, .slice a2 peers.length k2, .int .i64 next, .int .i64 miss], .own bl 169 [.pointer (some ⟨bn, 3, none⟩), .pointer (some ⟨bn, 4, none⟩)], .own b2 50 [.int .i64 0, .slice none 0 0, .int .i64 0, .slice none 0 0, .slice none 0 0, .int .i64 0, .bool false, .slice none 0 0, .int .i64 0, .int .i64 0], .st (sl a1 k1 disk), .st (sl a2 k2 peers), .st (sl pl ql l), .st (sl pw qw wait)])
        (fun j out r s => j ≤ l.length ∧ out = l.take j) (fun j _ _ _ => l.length - j) 0 [] none 0 ⟨Nat.zero_le _, rfl⟩ inferInstance ?_
      intro j out r s ⟨hj, hout⟩
      repeat (first|refine Wa ?_|refine Wb ?_|refine Wc ?_|refine Wd ?_|refine We rfl ?_|refine Wf (by exact Vg) rfl ?_)
      refine JC.test (fun hlt => ?_) (fun hge => ?_)
      · have hlt' : j < l.length := by omega
        repeat (first|refine Wa ?_|refine Wb ?_|refine Wc ?_|refine We rfl ?_|refine Wl ?_|refine Wn ?_)
        refine JR.indexCommit rfl hlt' ?_
        intro b5 o5 p5 q5
        repeat (first|refine Wa ?_|refine Wb ?_|refine Wc ?_|refine Wd ?_|refine We rfl ?_|refine Wf (by first|exact Vc|exact Vd) rfl ?_|(refine Wg rfl ?_; intro _)|refine Wi ?_)
        refine JR.callSl rfl (fun w hw => clone_ids w _ p5 q5 _ (hw.get (A := sl p5 q5 (l[j]).parents)) (hfl _ (List.getElem_mem hlt')).2) ?_
        intro p6 q6
        repeat (first|refine Wa ?_|refine Wc ?_|refine Wd ?_|refine We rfl ?_|refine Wf (by first|exact Va|exact Vc|exact Vd) rfl ?_|refine Wi ?_|(refine Ww rfl ⟨rfl, by decide, by decide, by decide⟩ ?_; intro _))
        refine JR.append1 (u := l[j]) rfl (by exact ⟨rfl, rfl, by decide⟩) (by subst hout; simp; omega) ?_
        intro r2 s2
        repeat (first|refine Wa ?_|refine Wc ?_|refine Wd ?_|refine We rfl ?_|refine Wf (by first|exact Va|exact Vb|exact Vk (by omega)) rfl ?_|refine Wr ?_)
        exact ⟨j + 1, out ++ [l[j]], r2, s2, ⟨by omega, by rw [hout, List.take_succ_eq_append_getElem (by omega)]⟩, by omega, inferInstance⟩
      · obtain rfl : out = l := by rw [hout, List.take_of_length_le (by omega)]
        refine JC.more (fun w1 ho => ho.pub) ?_
        repeat (first|refine Wa ?_|refine Wc ?_|refine We rfl ?_|refine Wf (by exact Va) rfl ?_|refine Wm ?_|refine Wo ?_|refine Wp ?_)
        refine Wf OpV.nilCheck rfl ?_
        repeat (first|refine Wa ?_|refine Wc ?_|refine Wd ?_|refine We rfl ?_|refine Wf (by first|exact Va|exact Vs (by omega)) rfl ?_|refine Wi ?_|refine Wr ?_)
        exact ⟨1, r, s, pw, qw, by omega, by omega, inferInstance⟩
    · refine JC.buf_nil (α := Commit) 29 ?_
      repeat (first|refine Wa ?_|refine Wb ?_|refine Wc ?_|refine We rfl ?_|refine Wl ?_|refine Wn ?_)
      refine Wf (OpV.indexV (k := 1) (by omega)) rfl ?_
      repeat (first|refine Wa ?_|refine Wb ?_|refine Wc ?_|refine Wd ?_|refine We rfl ?_|refine Wf (by first|exact Va|exact Vb|exact Vc) rfl ?_)
      refine Wf OpV.nilCheck rfl ?_
      repeat (first|refine Wa ?_|refine Wd ?_|refine We rfl ?_|refine Wf (by first|exact Va|exact Vc|exact Vf) rfl ?_|refine Wn ?_)
      refine JC.loop4 (fun (j : Nat) (out : List Commit) r s => [(1, .pointer (some ⟨bn, 0, none⟩)), (2, .pointer (some ⟨b2, 0, none⟩)), (4, .pointer (some ⟨bn, 4, none⟩)), (18, .slice (some ⟨bl, 0, none⟩) 2 2), (19, .int .i64 2), (20, .int .i64 1), (5, .slice r out.length s), (26, .slice pw wait.length qw), (27, .int .i64 (wait.length : Int)), (28, .int .i64 (j : Int))])
        (fun (j : Nat) (out : List Commit) r s => [.res (buf r s 29 out), .own bn 50 [.int .i64 no, .slice a1 disk.length k1, .int .i64 room, .slice pl l.length ql, .slice pw wait.length qw, .int .i64 seq, .bool up, .slice a2 peers.length k2, .int .i64 next, .int .i64 miss], .own bl 169 [.pointer (some ⟨bn, 3, none⟩), .pointer (some ⟨bn, 4, none⟩)], .own b2 50 [.int .i64 0, .slice none 0 0, .int .i64 0, .slice none 0 0, .slice none 0 0, .int .i64 0, .bool false, .slice none 0 0, .int .i64 0, .int .i64 0], .st (sl a1 k1 disk), .st (sl a2 k2 peers), .st (sl pl ql l), .st (sl pw qw wait)])
        (fun j out r s => j ≤ wait.length ∧ out = wait.take j) (fun j _ _ _ => wait.length - j) 0 [] none 0 ⟨Nat.zero_le _, rfl⟩ inferInstance ?_
      intro j out r s ⟨hj, hout⟩
      repeat (first|refine Wa ?_|refine Wb ?_|refine Wc ?_|refine Wd ?_|refine We rfl ?_|refine Wf (by exact Vg) rfl ?_)
      refine JC.test (fun hlt => ?_) (fun hge => ?_)
      · have hlt' : j < wait.length := by omega
        repeat (first|refine Wa ?_|refine Wb ?_|refine Wc ?_|refine We rfl ?_|refine Wl ?_|refine Wn ?_)
        refine JR.indexCommit rfl hlt' ?_
        intro b5 o5 p5 q5
        repeat (first|refine Wa ?_|refine Wb ?_|refine Wc ?_|refine Wd ?_|refine We rfl ?_|refine Wf (by first|exact Vc|exact Vd) rfl ?_|(refine Wg rfl ?_; intro _)|refine Wi ?_)
        refine JR.callSl rfl (fun w hw => clone_ids w _ p5 q5 _ (hw.get (A := sl p5 q5 (wait[j]).parents)) (hfw _ (List.getElem_mem hlt')).2) ?_
        intro p6 q6
        repeat (first|refine Wa ?_|refine Wc ?_|refine Wd ?_|refine We rfl ?_|refine Wf (by first|exact Va|exact Vc|exact Vd) rfl ?_|refine Wi ?_|(refine Ww rfl ⟨rfl, by decide, by decide, by decide⟩ ?_; intro _))
        refine JR.append1 (u := wait[j]) rfl (by exact ⟨rfl, rfl, by decide⟩) (by subst hout; simp; omega) ?_
        intro r2 s2
        repeat (first|refine Wa ?_|refine Wc ?_|refine Wd ?_|refine We rfl ?_|refine Wf (by first|exact Va|exact Vb|exact Vk (by omega)) rfl ?_|refine Wr ?_)
        exact ⟨j + 1, out ++ [wait[j]], r2, s2, ⟨by omega, by rw [hout, List.take_succ_eq_append_getElem (by omega)]⟩, by omega, inferInstance⟩
      · obtain rfl : out = wait := by rw [hout, List.take_of_length_le (by omega)]
        refine JC.more (fun w1 ho => ho.pub) ?_
        repeat (first|refine Wa ?_|refine Wc ?_|refine We rfl ?_|refine Wf (by exact Va) rfl ?_|refine Wm ?_|refine Wo ?_|refine Wp ?_)
        refine Wf OpV.nilCheck rfl ?_
        repeat (first|refine Wa ?_|refine Wc ?_|refine Wd ?_|refine We rfl ?_|refine Wf (by first|exact Va|exact Vs (by omega)) rfl ?_|refine Wi ?_|refine Wr ?_)
        exact ⟨2, pl, ql, r, s, by omega, by omega, inferInstance⟩
  · obtain rfl : i = 2 := by omega
    repeat (first|refine Wa ?_|refine Wb ?_|refine Wc ?_|refine Wd ?_|refine We rfl ?_|refine Wf (by exact Vc) rfl ?_|refine Wi ?_|refine Wm ?_|refine Wo ?_|refine Wp ?_|refine Ws ?_)
    exact CT.done (Y := Na) ⟨a1, k1, pl, ql, pw, qw, a2, k2⟩ rfl (fun w ho => ho.ent)
theorem idsP_of {L : List Commit} (hc : Closed L) : idsP L = cids L := by
  unfold idsP
  rw [if_pos (List.all_eq_true.2 fun c h => hc.may c h)]
theorem part_sort {L : List Commit} (hc : Closed L) (A : List ID) : partF (sortF L) A = (sortF L).filter (fun c => decide (idC c ∈ A)) := by
  rw [partF, closedB_yes (sortF_closed hc), if_pos rfl]
theorem mem_part_sort {L : List Commit} (hc : Closed L) {A : List ID} {c : Commit} : c ∈ partF (sortF L) A ↔ c ∈ L ∧ idC c ∈ A := by
  rw [part_sort hc, List.mem_filter, (sortF_perm hc).mem_iff, decide_eq_true_eq]
instance : NatI (13 : Int) 13 := ⟨rfl⟩
instance nat17 : NatI (17 : Int) 17 := ⟨rfl⟩
theorem next_peer (w : World) (F : Nat → Prop) (x : UInt32) : GivesV Tryz.prog 89 [w32 x] w F (w32 (nextX x)) := by
  refine gives_of Tryz.func89 rfl Tryz.ntmps89 rfl rfl [] (.start w F) ?_
  repeat (first|refine Wa ?_|refine Wb ?_|refine Wc ?_|refine Wd ?_|refine We rfl ?_|refine Wf (by first|exact Va|exact Vb|exact Vl) rfl ?_)
  refine JC.test (fun h => ?_) (fun h => ?_)
  · have hx : x = 0 := by apply UInt32.toNat_inj.1; simpa using h
    repeat (first|refine Wa ?_|refine Wb ?_|refine Wc ?_|refine Wd ?_|refine We rfl ?_|refine Wf (by first|exact Va|exact Vb) rfl ?_)
    refine JR.reslot 5 (w32 1) rfl ?_
    refine JR.reslot 6 (w32 1) rfl ?_
    refine Wf (OpV.shl32 (k := 13) (by omega)) rfl ?_
    repeat (refine We rfl ?_)
    refine Wf OpV.xor32 rfl ?_
    repeat (first|refine Wa ?_|refine Wb ?_|refine Wc ?_|refine Wd ?_|refine We rfl ?_|refine Wf (by first|exact Va|exact Vb) rfl ?_)
    refine Wf (OpV.shr32 (k := 17) (by omega)) rfl ?_
    repeat (refine We rfl ?_)
    refine Wf OpV.xor32 rfl ?_
    repeat (first|refine Wa ?_|refine Wb ?_|refine Wc ?_|refine Wd ?_|refine We rfl ?_|refine Wf (by first|exact Va|exact Vb) rfl ?_)
    refine Wf (OpV.shl32 (k := 5) (by omega)) rfl ?_
    repeat (refine We rfl ?_)
    refine Wf OpV.xor32 rfl ?_
    repeat (first|refine Wa ?_|refine Wd ?_|refine We rfl ?_|refine Wf (by exact Vb) rfl ?_|refine Ws ?_)
    refine CT.done () ?_ (fun w ho => ho.ent)
    simp only [packed, nextX, if_pos hx]
  · have hx : x ≠ 0 := by rintro rfl; exact h rfl
    repeat (first|refine Wa ?_|refine Wb ?_|refine Wc ?_|refine We rfl ?_|refine Wf (by exact Va) rfl ?_|refine Wl ?_)
    refine Wf (OpV.shl32 (k := 13) (by omega)) rfl ?_
    repeat (refine We rfl ?_)
    refine Wf OpV.xor32 rfl ?_
    repeat (first|refine Wa ?_|refine Wb ?_|refine Wc ?_|refine Wd ?_|refine We rfl ?_|refine Wf (by first|exact Va|exact Vb) rfl ?_)
    refine Wf (OpV.shr32 (k := 17) (by omega)) rfl ?_
    repeat (refine We rfl ?_)
    refine Wf OpV.xor32 rfl ?_
    repeat (first|refine Wa ?_|refine Wb ?_|refine Wc ?_|refine Wd ?_|refine We rfl ?_|refine Wf (by first|exact Va|exact Vb) rfl ?_)
    refine Wf (OpV.shl32 (k := 5) (by omega)) rfl ?_
    repeat (refine We rfl ?_)
    refine Wf OpV.xor32 rfl ?_
    repeat (first|refine Wa ?_|refine Wd ?_|refine We rfl ?_|refine Wf (by exact Vb) rfl ?_|refine Ws ?_)
    refine CT.done () ?_ (fun w ho => ho.ent)
    simp only [packed, nextX, if_neg hx]
theorem pick_peer (w : World) (F : Nat → Prop) (a : Option Addr) (c : Nat) (L : List Int) (x : UInt32) (h : (sl a c L).holds F w) (hl : L.length ≤ 1000) (hn : L ≠ []) :
    GivesV Tryz.prog 90 [.slice a L.length c, w32 x] w F (.tuple ⟨[.int .i64 (L.getD (x.toNat % L.length) 0), .bool true]⟩) := by
  have h0 := List.length_pos_iff.2 hn
  have hlt : x.toNat % L.length < L.length := Nat.mod_lt _ h0
  have hx := x.toNat_lt
  refine gives_of Tryz.func90 rfl Tryz.ntmps90 rfl rfl [.st (sl a c L)] (.start1 h) ?_
  repeat (first|refine Wa ?_|refine Wb ?_|refine Wc ?_|refine Wd ?_|refine We rfl ?_|refine Wf (by first|exact Va|exact Vb|exact Vf|exact Vl) rfl ?_)
  refine JC.test (fun h1 => ?_) (fun h1 => ?_)
  · exfalso; omega
  repeat (first|refine Wa ?_|refine Wb ?_|refine Wc ?_|refine We rfl ?_|refine Wf (by first|exact Va|exact Vf) rfl ?_|refine Wl ?_)
  refine Wf OpV.conv rfl ?_
  refine JO.reslot 13 (.int .u32 (L.length : Int)) (by rw [wrap32, Nat.mod_eq_of_lt (by omega)]) ?_
  repeat (refine We rfl ?_)
  refine Wf (OpV.rem (by omega)) rfl ?_
  refine JO.reslot 14 (.int .u32 ((x.toNat % L.length : Nat) : Int)) (by congr 1) ?_
  repeat (refine We rfl ?_)
  refine Wf OpV.conv rfl ?_
  refine JO.reslot 15 (.int .i64 ((x.toNat % L.length : Nat) : Int)) (by rw [wrap_in (by omega)]) ?_
  repeat (refine We rfl ?_)
  refine JR.indexInt (k := x.toNat % L.length) rfl hlt ?_
  intro b o
  repeat (first|refine Wa ?_|refine Wd ?_|refine We rfl ?_|refine Wf (by first|exact Vb|exact Vc) rfl ?_|refine Ws ?_)
  refine CT.done () ?_ (fun w ho => ho.ent)
  simp [packed, List.getD, hlt]
theorem wait_peer (w : World) (F : Nat → Prop) (m : Int) : GivesV Tryz.prog 91 [.int .i64 m] w F (.int .i64 (waitX m)) := by
  refine gives_of Tryz.func91 rfl Tryz.ntmps91 rfl rfl [] (.start w F) ?_
  repeat (first|refine Wa ?_|refine Wb ?_|refine Wc ?_|refine Wd ?_|refine We rfl ?_|refine Wf (by first|exact Va|exact Vb) rfl ?_)
  refine Wf OpV.max rfl ?_
  repeat (refine We rfl ?_)
  refine Wf OpV.min rfl ?_
  repeat (refine We rfl ?_)
  refine Wf (OpV.shl (by omega)) rfl ?_
  refine JO.reslot 6 (.int .i64 (waitX m)) ?_ ?_
  · congr 1
    have h1 : (min (max m 0) 6).toNat ≤ 6 := by omega
    have h2 : min (min (max m 0) 6).toNat (IntKind.bits .i64) = (min (max m 0) 6).toNat := Nat.min_eq_left (by show _ ≤ 64; omega)
    rw [h2, waitX]
    generalize (min (max m 0) 6).toNat = k at h1
    have h3 : k = 0 ∨ k = 1 ∨ k = 2 ∨ k = 3 ∨ k = 4 ∨ k = 5 ∨ k = 6 := by omega
    rcases h3 with rfl | rfl | rfl | rfl | rfl | rfl | rfl <;> decide
  repeat (first|refine Wa ?_|refine Wd ?_|refine We rfl ?_|refine Wf (by exact Vb) rfl ?_|refine Ws ?_)
  exact CT.done () rfl (fun w ho => ho.ent)
set_option maxHeartbeats 4000000 in
theorem may_msg (w : World) (F : Nat → Prop) (m : Mg) (z : Ma) (h1 : (sl z.i z.ik m.ids).holds F w) (h2 : (sl z.c z.ck m.commits).holds F w) (hf : ∀ c ∈ m.commits, fine c) :
    GivesV Tryz.prog 40 [mgV m z] w F (.bool (mgMay m)) := by
  have hil : m.ids.length < 9223372036854775807 := by have := h1.2.2.1; simp only [lim] at this; omega
  have hcl : m.commits.length < 9223372036854775807 := by have := h2.2.2.1; simp only [lim] at this; omega
  rcases m with ⟨kind, ids, cs⟩
  rcases z with ⟨ai, ki, ac, kc⟩
  dsimp only [mgV, mgC] at *
  refine gives_of Tryz.func40 rfl Tryz.ntmps40 rfl rfl [.st (sl ai ki ids), .st (sl ac kc cs)] (.start2 h1 h2) ?_
  repeat (first|refine Wa ?_|refine Wb ?_|refine Wc ?_|refine Wd ?_|refine We rfl ?_|refine Wf (by first|exact Vb|exact Vc|exact Vd|exact Vl) rfl ?_|(refine Wh rfl ?_; intro _)|refine Wn ?_)
  have hdig : kind = 0 ∨ kind = 1 → mgMay ⟨kind, ids, cs⟩ = (decide (ids.length ≤ 16) && rises ids && decide (cs = [])) := fun h => if_pos h
  have hhav : kind = 2 → mgMay ⟨kind, ids, cs⟩ = (decide (ids = []) && decide (cs.length ≤ 6) && cs.all (fun c => may c && !merge c)) := by
    rintro rfl; rfl
  have hnil : decide (((cs.length : Nat) : Int) = 0) = decide (cs = []) := decide_eq_decide.2 ⟨fun h => List.eq_nil_of_length_eq_zero (by omega), fun h => by rw [h]; rfl⟩
  by_cases h0 : kind = 0
  · rw [hdig (.inl h0)]
    refine JC.reslot 6 (.bool true) (by rw [decide_eq_true h0]) ?_
    repeat (first|refine Wa ?_|refine Wb ?_|refine Wc ?_|refine We rfl ?_|refine Wf (by first|exact Va|exact Vc|exact Vd|exact Vf|exact Vn) rfl ?_|refine Wj ?_|refine Wl ?_)
    refine JO.test 13 (fun h3 => ?_) (fun h3 => ?_)
    · have h3' : ids.length ≤ 16 := by omega
      repeat (first|refine We rfl ?_|refine Wf (by first|exact Vc|exact Vd) rfl ?_)
      refine JR.callV rfl (fun w1 hw => rises_ids w1 _ ai ki ids (hw.get (A := sl ai ki ids))) ?_
      cases hr : rises ids with
      | true =>
        repeat (first|refine Wa ?_|refine Wd ?_|refine We rfl ?_|refine Wf (by first|exact Va|exact Vb|exact Vc|exact Vd|exact Vf|exact Vi|exact Vl) rfl ?_|refine Ws ?_|refine Wt ?_|refine Wu ?_)
        refine CT.done () ?_ (fun w ho => ho.ent)
        simp only [packed]
        rw [decide_eq_true h3', hnil]; rfl
      | false =>
        repeat (first|refine Wa ?_|refine Wd ?_|refine We rfl ?_|refine Wf (by first|exact Va|exact Vb|exact Vi|exact Vj) rfl ?_|refine Ws ?_|refine Wt ?_|refine Wu ?_|refine Wv rfl rfl ?_)
        refine CT.done () ?_ (fun w ho => ho.ent)
        simp only [packed]
        simp
    · have h3' : ¬ ids.length ≤ 16 := by omega
      repeat (first|refine Wa ?_|refine Wd ?_|refine We rfl ?_|refine Wf (by first|exact Va|exact Vb|exact Vj) rfl ?_|refine Ws ?_|refine Wt ?_|refine Wu ?_|refine Wv rfl rfl ?_)
      refine CT.done () ?_ (fun w ho => ho.ent)
      simp only [packed]
      simp [h3']
  refine JC.reslot 6 (.bool false) (by rw [decide_eq_false h0]) ?_
  repeat (first|refine Wa ?_|refine Wc ?_|refine Wd ?_|refine We rfl ?_|refine Wf (by first|exact Vb|exact Vl) rfl ?_|refine Wk ?_)
  refine JC.test (fun h0' => ?_) (fun h0' => ?_)
  · rw [hdig (.inr h0')]
    repeat (first|refine Wb ?_|refine Wc ?_|refine We rfl ?_|refine Wf (by first|exact Va|exact Vc|exact Vd|exact Vf|exact Vn) rfl ?_)
    refine JO.test 13 (fun h3 => ?_) (fun h3 => ?_)
    · have h3' : ids.length ≤ 16 := by omega
      repeat (first|refine We rfl ?_|refine Wf (by first|exact Vc|exact Vd) rfl ?_)
      refine JR.callV rfl (fun w1 hw => rises_ids w1 _ ai ki ids (hw.get (A := sl ai ki ids))) ?_
      cases hr : rises ids with
      | true =>
        repeat (first|refine Wa ?_|refine Wd ?_|refine We rfl ?_|refine Wf (by first|exact Va|exact Vb|exact Vc|exact Vd|exact Vf|exact Vi|exact Vl) rfl ?_|refine Ws ?_|refine Wt ?_|refine Wu ?_)
        refine CT.done () ?_ (fun w ho => ho.ent)
        simp only [packed]
        rw [decide_eq_true h3', hnil]; rfl
      | false =>
        repeat (first|refine Wa ?_|refine Wd ?_|refine We rfl ?_|refine Wf (by first|exact Va|exact Vb|exact Vi|exact Vj) rfl ?_|refine Ws ?_|refine Wt ?_|refine Wu ?_|refine Wv rfl rfl ?_)
        refine CT.done () ?_ (fun w ho => ho.ent)
        simp only [packed]
        simp
    · have h3' : ¬ ids.length ≤ 16 := by omega
      repeat (first|refine Wa ?_|refine Wd ?_|refine We rfl ?_|refine Wf (by first|exact Va|exact Vb|exact Vj) rfl ?_|refine Ws ?_|refine Wt ?_|refine Wu ?_|refine Wv rfl rfl ?_)
      refine CT.done () ?_ (fun w ho => ho.ent)
      simp only [packed]
      simp [h3']
  repeat (first|refine Wa ?_|refine Wb ?_|refine Wc ?_|refine Wd ?_|refine We rfl ?_|refine Wf (by first|exact Vb|exact Vl) rfl ?_)
  refine JC.test (fun h2' => ?_) (fun h2' => ?_)
  · rw [hhav h2']
    repeat (first|refine Wa ?_|refine Wb ?_|refine Wc ?_|refine Wd ?_|refine We rfl ?_|refine Wf (by first|exact Va|exact Vb|exact Vc|exact Vd|exact Vf|exact Vl) rfl ?_)
    refine JO.test 30 (fun h3 => ?_) (fun h3 => ?_)
    · obtain rfl : ids = [] := List.eq_nil_of_length_eq_zero (by omega)
      repeat (first|refine We rfl ?_|refine Wf (by first|exact Va|exact Vc|exact Vd|exact Vf|exact Vi|exact Vn) rfl ?_)
      refine JO.test 36 (fun h4 => ?_) (fun h4 => ?_)
      · have h4' : cs.length ≤ 6 := by omega
        repeat (first|refine We rfl ?_|refine Wf (by first|exact Va|exact Vc|exact Vd) rfl ?_)
        refine JR.callV rfl (fun w1 hw => containsFunc_commits w1 _ ac kc cs (hw.get (A := sl ac kc cs)) 99 [] (fun c => !may c || merge c) (fun w' G x a' q' hx _ hs => may1_msg w' G x a' q' hs (hf x hx).1)) ?_
        repeat (first|refine Wa ?_|refine Wd ?_|refine We rfl ?_|refine Wf (by first|exact Vb|exact Vh|exact Vi) rfl ?_|refine Ws ?_|refine Wt ?_|refine Wu ?_)
        refine CT.done () ?_ (fun w ho => ho.ent)
        simp only [packed]
        have e9 : (fun c => !(!may c || merge c)) = (fun c => may c && !merge c) := by
          funext c
          cases may c <;> cases merge c <;> rfl
        simp only [h4', decide_true, Bool.true_and, List.not_any_eq_all_not, e9]
      · have h4' : ¬ cs.length ≤ 6 := by omega
        repeat (first|refine Wa ?_|refine Wd ?_|refine We rfl ?_|refine Wf (by first|exact Vb|exact Vj) rfl ?_|refine Ws ?_|refine Wt ?_|refine Wu ?_|refine Wv rfl rfl ?_)
        refine CT.done () ?_ (fun w ho => ho.ent)
        simp only [packed]
        simp [h4']
    · have h3' : ids ≠ [] := by rintro rfl; exact h3 rfl
      repeat (first|refine Wa ?_|refine Wd ?_|refine We rfl ?_|refine Wf (by first|exact Va|exact Vb|exact Vj) rfl ?_|refine Ws ?_|refine Wt ?_|refine Wu ?_|refine Wv rfl rfl ?_)
      refine CT.done () ?_ (fun w ho => ho.ent)
      simp only [packed]
      simp [h3']
  · repeat (first|refine Wa ?_|refine Wb ?_|refine Wc ?_|refine Wd ?_|refine We rfl ?_|refine Wf (by exact Vb) rfl ?_|refine Wl ?_|refine Wr ?_|refine Ws ?_)
    refine CT.done () ?_ (fun w ho => ho.ent)
    simp only [packed]
    have : mgMay ⟨kind, ids, cs⟩ = false := by
      unfold mgMay
      rw [if_neg (by rintro (h | h); exact h0 h; exact h0' h), if_neg h2']
    rw [this]
set_option maxHeartbeats 4000000 in
theorem tell_gossip (w : World) (F : Nat → Prop) (n : Nd) (y : Na) (h1 : (sl y.d y.dk n.disk).holds F w) (h2 : (sl y.l y.lk n.l).holds F w) (h3 : (sl y.w y.wk n.wait).holds F w) (hn : NdFew n) :
    Gives Tryz.prog 35 [ndV n y] w F (fun z : Ma => .tuple ⟨[mgV (tellN n).1 z, .int .i64 (tellN n).2]⟩) (fun z => mgB (tellN n).1 z) := by
  have hn' := hn
  obtain ⟨no, disk, room, l, wait, seq, up, peers, next, miss⟩ := n
  obtain ⟨ad, kd, al, kl, aw, kw, ap, kp⟩ := y
  dsimp only [ndV, ndC] at *
  have hln : l.length + wait.length ≤ 800 := hn.len
  refine gives_of Tryz.func35 rfl Tryz.ntmps35 rfl rfl [.st (sl ad kd disk), .st (sl al kl l), .st (sl aw kw wait)] (.start3 h1 h2 h3) ?_
  repeat (first|refine Wa ?_|refine Wb ?_|refine Wc ?_|refine Wd ?_|refine We rfl ?_|refine Wf (by first|exact Vb|exact Vc) rfl ?_|(refine Wg rfl ?_; intro _)|(refine Wh rfl ?_; intro _)|refine Wn ?_)
  rename_i bn b2
  refine JR.callV rfl (fun w1 hw => may_branch w1 _ ⟨no, disk, room, l, wait, seq, up, peers, next, miss⟩ ⟨ad, kd, al, kl, aw, kw, ap, kp⟩ (hw.get (A := sl ad kd disk)) (hw.get (A := sl al kl l)) (hw.get (A := sl aw kw wait)) hn.fw) ?_
  cases hm : ndMay ⟨no, disk, room, l, wait, seq, up, peers, next, miss⟩ with
  | false =>
    have e1 : tellN ⟨no, disk, room, l, wait, seq, up, peers, next, miss⟩ = (mg0, 1) := if_neg (by rw [hm]; exact Bool.false_ne_true)
    rw [e1]
    dsimp only [mg0, List.length_nil]
    repeat (first|refine Wa ?_|refine Wb ?_|refine Wc ?_|refine Wd ?_|refine We rfl ?_|refine Wf (by first|exact Vb|exact Vh) rfl ?_|refine Wj ?_)
    refine Wf (OpV.build [.int .i64 0, .slice none 0 0, .slice none 0 0] (by kernel_rfl)) rfl ?_
    repeat (first|refine Wa ?_|refine Wd ?_|refine We rfl ?_|refine Wf (by exact Vb) rfl ?_|refine Wi ?_|refine Ws ?_|refine Wt ?_|refine Wu ?_)
    exact CT.done (Y := Ma) ⟨none, 0, none, 0⟩ rfl (fun w ho => ((ho.add (A := sl (α := Commit) none 0 []) sl_nil).add (A := sl (α := ID) none 0 []) sl_nil).ent)
  | true =>
  cases up with
  | false =>
    have e1 : tellN ⟨no, disk, room, l, wait, seq, false, peers, next, miss⟩ = (mg0, 6) := by unfold tellN; rw [hm]; rfl
    rw [e1]
    dsimp only [mg0, List.length_nil]
    repeat (first|refine Wa ?_|refine Wb ?_|refine Wc ?_|refine Wd ?_|refine We rfl ?_|refine Wf (by first|exact Vb|exact Vc|exact Vd|exact Vh) rfl ?_|refine Wj ?_|refine Wk ?_)
    refine Wf (OpV.build [.int .i64 0, .slice none 0 0, .slice none 0 0] (by kernel_rfl)) rfl ?_
    repeat (first|refine Wa ?_|refine Wd ?_|refine We rfl ?_|refine Wf (by exact Vb) rfl ?_|refine Wi ?_|refine Ws ?_|refine Wt ?_|refine Wu ?_)
    exact CT.done (Y := Ma) ⟨none, 0, none, 0⟩ rfl (fun w ho => ((ho.add (A := sl (α := Commit) none 0 []) sl_nil).add (A := sl (α := ID) none 0 []) sl_nil).ent)
  | true =>
  have e1 : tellN ⟨no, disk, room, l, wait, seq, true, peers, next, miss⟩ = (⟨0, frontF l, []⟩, 0) := by unfold tellN; rw [hm]; rfl
  rw [e1]
  repeat (first|refine Wa ?_|refine Wb ?_|refine Wc ?_|refine Wd ?_|refine We rfl ?_|refine Wf (by first|exact Vb|exact Vc|exact Vd|exact Vh) rfl ?_|refine Wk ?_|refine Wl ?_|refine Wr ?_)
  refine JR.callSl rfl (fun w1 hw => front_front w1 _ al kl l (hw.get (A := sl al kl l)) (by omega) hn.fl) ?_
  intro a3 k3
  repeat (refine We rfl ?_)
  refine Wf (OpV.build [.int .i64 0, .slice a3 (frontF l).length k3, .slice none 0 0] (by kernel_rfl)) rfl ?_
  repeat (first|refine Wa ?_|refine Wd ?_|refine We rfl ?_|refine Wf (by exact Vb) rfl ?_|refine Wi ?_|refine Ws ?_)
  exact CT.done (Y := Ma) ⟨a3, k3, none, 0⟩ rfl (fun w ho => (ho.add (A := sl (α := Commit) none 0 []) sl_nil).ent)
abbrev heC (n : Nd) (y : Na) (m : Mg) (z : Ma) (t : Bool) : List Value := [.int .i64 n.no, .slice y.d n.disk.length y.dk, .int .i64 n.room, .slice y.l n.l.length y.lk, .slice y.w n.wait.length y.wk, .int .i64 n.seq, .bool n.up, .slice y.p n.peers.length y.pk, .int .i64 n.next, .int .i64 n.miss, .int .i64 m.kind, .slice z.i m.ids.length z.ik, .slice z.c m.commits.length z.ck, .bool t]
section
variable {w0 w : World} {F : Nat → Prop} {Γ : List Fact} {bh : Nat}
set_option maxHeartbeats 4000000 in
theorem want_hearer (n : Nd) (y : Na) (l : List ID) (a : Option Addr) (k : Nat) (hl : l.length < 9223372036854775807) (ho : Hold w0 F (.own bh 112 (heC n y mg0 ma0 false) :: .st (sl a k l) :: Γ) w) :
    Calls Tryz.prog 144 ⟨[.pointer (some ⟨bh, 0, none⟩), .slice a l.length k]⟩ w fun x w' => ∃ z : Ma, x = .returned (.tuple ⟨[]⟩) ∧ Hold w0 F (.own bh 112 (heC n y (wantM l).1 z (wantM l).2) :: .st (sl z.i z.ik (wantM l).1.ids) :: .st (sl z.c z.ck (wantM l).1.commits) :: Γ) w' := by
  refine calls_of (v := fun z : Ma => .tuple ⟨[]⟩) (B := fun z => .own bh 112 (heC n y (wantM l).1 z (wantM l).2) :: .st (sl z.i z.ik (wantM l).1.ids) :: .st (sl z.c z.ck (wantM l).1.commits) :: Γ) Tryz.func144 rfl Tryz.ntmps144 rfl rfl _ ho ?_
  rcases n with ⟨no, disk, room, l0, wait, seq, up, peers, next, miss⟩
  rcases y with ⟨ad, kd, al, kl, aw, kw, ap, kp⟩
  dsimp only [heC, mg0, ma0, List.length_nil]
  repeat (first|refine Wb ?_|refine Wc ?_|refine We rfl ?_|refine Wf (by first|exact Va|exact Vf|exact Vo) rfl ?_)
  by_cases h0 : l = []
  · subst h0
    have e1 : wantM [] = (mg0, false) := rfl
    rw [e1]
    dsimp only [mg0, List.length_nil]
    refine JR.reslot 7 (.bool false) rfl ?_
    refine Wf OpV.nilCheck rfl ?_
    repeat (first|refine Wa ?_|refine Wb ?_|refine Wc ?_|refine Wd ?_|refine We rfl ?_|refine Wf (by first|exact Va|exact Vd) rfl ?_|refine Wi ?_)
    refine Wf OpV.nilCheck rfl ?_
    repeat (first|refine Wa ?_|refine Wd ?_|refine We rfl ?_|refine Wf (by first|exact Vc|exact Vd) rfl ?_|refine Wk ?_|refine Wl ?_)
    exact CT.doneN (Y := Ma) ⟨none, 0, none, 0⟩ rfl (fun w ho => ((ho.add (A := sl (α := Commit) none 0 []) sl_nil).add (A := sl (α := ID) none 0 []) sl_nil).ent)
  · have hpos := List.length_pos_iff.2 h0
    have e1 : wantM l = (⟨1, l.take 16, []⟩, true) := if_neg h0
    rw [e1]
    refine JR.reslot 7 (.bool true) (by congr 1; exact decide_eq_true (by omega)) ?_
    refine Wf OpV.nilCheck rfl ?_
    repeat (first|refine Wa ?_|refine Wb ?_|refine Wc ?_|refine Wd ?_|refine We rfl ?_|refine Wf (by first|exact Va|exact Vd) rfl ?_|refine Wi ?_)
    refine Wf OpV.nilCheck rfl ?_
    repeat (first|refine Wa ?_|refine Wc ?_|refine Wd ?_|refine We rfl ?_|refine Wf (by first|exact Va|exact Vc|exact Vd|exact Vf) rfl ?_|refine Wj ?_)
    refine Wf OpV.min rfl ?_
    refine JO.reslot 18 (.int .i64 ((min l.length 16 : Nat) : Int)) (by congr 1; omega) ?_
    repeat (refine We rfl ?_)
    refine JR.sliceTo (L := l) (k := min l.length 16) rfl rfl (by omega) ?_
    intro a2 k2
    rw [show l.take (min l.length 16) = l.take 16 by rw [Nat.min_comm, ← List.take_take, List.take_length]]
    repeat (refine We rfl ?_)
    refine Wf (OpV.build [.int .i64 1, .slice a2 (l.take 16).length k2, .slice none 0 0] (by kernel_rfl)) rfl ?_
    repeat (refine We rfl ?_)
    refine Wf OpV.nilCheck rfl ?_
    repeat (first|refine Wd ?_|refine We rfl ?_|refine Wf (by exact Vd) rfl ?_|refine Wi ?_)
    exact CT.doneN (Y := Ma) ⟨a2, k2, none, 0⟩ rfl (fun w ho => (ho.add (A := sl (α := Commit) none 0 []) sl_nil).ent)
set_option maxHeartbeats 4000000 in
theorem give_hearer (n : Nd) (y : Na) (l : List Commit) (a : Option Addr) (k : Nat) (hl : l.length < 9223372036854775807) (ho : Hold w0 F (.own bh 112 (heC n y mg0 ma0 false) :: .st (sl a k l) :: Γ) w) :
    Calls Tryz.prog 145 ⟨[.pointer (some ⟨bh, 0, none⟩), .slice a l.length k]⟩ w fun x w' => ∃ z : Ma, x = .returned (.tuple ⟨[]⟩) ∧ Hold w0 F (.own bh 112 (heC n y (giveM l).1 z (giveM l).2) :: .st (sl z.i z.ik (giveM l).1.ids) :: .st (sl z.c z.ck (giveM l).1.commits) :: Γ) w' := by
  refine calls_of (v := fun z : Ma => .tuple ⟨[]⟩) (B := fun z => .own bh 112 (heC n y (giveM l).1 z (giveM l).2) :: .st (sl z.i z.ik (giveM l).1.ids) :: .st (sl z.c z.ck (giveM l).1.commits) :: Γ) Tryz.func145 rfl Tryz.ntmps145 rfl rfl _ ho ?_
  rcases n with ⟨no, disk, room, l0, wait, seq, up, peers, next, miss⟩
  rcases y with ⟨ad, kd, al, kl, aw, kw, ap, kp⟩
  dsimp only [heC, mg0, ma0, List.length_nil]
  repeat (first|refine Wb ?_|refine Wc ?_|refine We rfl ?_|refine Wf (by first|exact Va|exact Vf|exact Vo) rfl ?_)
  by_cases h0 : l = []
  · subst h0
    have e1 : giveM [] = (mg0, false) := rfl
    rw [e1]
    dsimp only [mg0, List.length_nil]
    refine JR.reslot 7 (.bool false) rfl ?_
    refine Wf OpV.nilCheck rfl ?_
    repeat (first|refine Wa ?_|refine Wb ?_|refine Wc ?_|refine Wd ?_|refine We rfl ?_|refine Wf (by first|exact Va|exact Vd) rfl ?_|refine Wi ?_)
    refine Wf OpV.nilCheck rfl ?_
    repeat (first|refine Wa ?_|refine Wd ?_|refine We rfl ?_|refine Wf (by first|exact Vc|exact Vd) rfl ?_|refine Wk ?_|refine Wl ?_)
    exact CT.doneN (Y := Ma) ⟨none, 0, none, 0⟩ rfl (fun w ho => ((ho.add (A := sl (α := Commit) none 0 []) sl_nil).add (A := sl (α := ID) none 0 []) sl_nil).ent)
  · have hpos := List.length_pos_iff.2 h0
    have e1 : giveM l = (⟨2, [], l.take 6⟩, true) := if_neg h0
    rw [e1]
    refine JR.reslot 7 (.bool true) (by congr 1; exact decide_eq_true (by omega)) ?_
    refine Wf OpV.nilCheck rfl ?_
    repeat (first|refine Wa ?_|refine Wb ?_|refine Wc ?_|refine Wd ?_|refine We rfl ?_|refine Wf (by first|exact Va|exact Vd) rfl ?_|refine Wi ?_)
    refine Wf OpV.nilCheck rfl ?_
    repeat (first|refine Wa ?_|refine Wc ?_|refine Wd ?_|refine We rfl ?_|refine Wf (by first|exact Va|exact Vc|exact Vd|exact Vf) rfl ?_|refine Wj ?_)
    refine Wf OpV.min rfl ?_
    refine JO.reslot 18 (.int .i64 ((min l.length 6 : Nat) : Int)) (by congr 1; omega) ?_
    repeat (refine We rfl ?_)
    refine JR.sliceTo (L := l) (k := min l.length 6) rfl rfl (by omega) ?_
    intro a2 k2
    rw [show l.take (min l.length 6) = l.take 6 by rw [Nat.min_comm, ← List.take_take, List.take_length]]
    repeat (refine We rfl ?_)
    refine Wf (OpV.build [.int .i64 2, .slice none 0 0, .slice a2 (l.take 6).length k2] (by kernel_rfl)) rfl ?_
    repeat (refine We rfl ?_)
    refine Wf OpV.nilCheck rfl ?_
    repeat (first|refine Wd ?_|refine We rfl ?_|refine Wf (by exact Vd) rfl ?_|refine Wi ?_)
    exact CT.doneN (Y := Ma) ⟨none, 0, a2, k2⟩ rfl (fun w ho => (ho.add (A := sl (α := ID) none 0 []) sl_nil).ent)
end
theorem idsP_le (L : List Commit) : (idsP L).length ≤ L.length := by
  unfold idsP; split
  · rw [cids_length]; exact Nat.le_refl _
  · exact Nat.zero_le _
theorem sortF_le (L : List Commit) : (sortF L).length ≤ L.length := by
  by_cases h : Closed L
  · rw [(sortF_perm h).length_eq]; exact Nat.le_refl _
  · rw [(sortF_ok L).not h]; exact Nat.zero_le _
theorem sortF_fine {L : List Commit} (hf : ∀ x ∈ L, fine x) : ∀ x ∈ sortF L, fine x := by
  intro x hx
  by_cases h : Closed L
  · exact hf x ((sortF_perm h).mem_iff.1 hx)
  · rw [(sortF_ok L).not h] at hx; cases hx
theorem partF_le (L : List Commit) (A : List ID) : (partF L A).length ≤ L.length := by
  unfold partF; split
  · exact List.length_filter_le _ _
  · exact Nat.zero_le _
theorem someF_le (A B : List ID) (w : Bool) : (someIds A B w).length ≤ A.length := by
  unfold someIds
  rw [sortL_length]
  exact Nat.le_trans (setOf_length _) (by unfold pickIds; exact List.length_filter_le _ _)
section
variable {w0 w : World} {F : Nat → Prop} {Γ : List Fact} {bh : Nat}
set_option maxHeartbeats 8000000 in
theorem wanted_hearer (n : Nd) (y : Na) (m : Mg) (z : Ma) (hn : NdFew n) (hi : m.ids.length ≤ 1000) (ho : Hold w0 F (.own bh 112 (heC n y mg0 ma0 false) :: .st (sl y.d y.dk n.disk) :: .st (sl y.l y.lk n.l) :: .st (sl y.w y.wk n.wait) :: .st (sl y.p y.pk n.peers) :: .st (sl z.i z.ik m.ids) :: .st (sl z.c z.ck m.commits) :: Γ) w) :
    Calls Tryz.prog 77 ⟨[.pointer (some ⟨bh, 0, none⟩), mgV m z]⟩ w fun x w' => ∃ q : Ma, x = .returned (.tuple ⟨[]⟩) ∧ Hold w0 F (.own bh 112 (heC n y (giveM (partF (sortF n.l) m.ids)).1 q (giveM (partF (sortF n.l) m.ids)).2) :: .st (sl q.i q.ik (giveM (partF (sortF n.l) m.ids)).1.ids) :: .st (sl q.c q.ck (giveM (partF (sortF n.l) m.ids)).1.commits) :: .st (sl y.d y.dk n.disk) :: .st (sl y.l y.lk n.l) :: .st (sl y.w y.wk n.wait) :: .st (sl y.p y.pk n.peers) :: Γ) w' := by
  refine calls_of (v := fun q : Ma => .tuple ⟨[]⟩) (B := fun q => .own bh 112 (heC n y (giveM (partF (sortF n.l) m.ids)).1 q (giveM (partF (sortF n.l) m.ids)).2) :: .st (sl q.i q.ik (giveM (partF (sortF n.l) m.ids)).1.ids) :: .st (sl q.c q.ck (giveM (partF (sortF n.l) m.ids)).1.commits) :: .st (sl y.d y.dk n.disk) :: .st (sl y.l y.lk n.l) :: .st (sl y.w y.wk n.wait) :: .st (sl y.p y.pk n.peers) :: Γ) Tryz.func77 rfl Tryz.ntmps77 rfl rfl _ ho ?_
  rcases n with ⟨no, disk, room, l, wait, seq, up, peers, next, miss⟩
  rcases y with ⟨ad, kd, al, kl, aw, kw, ap, kp⟩
  rcases m with ⟨kind, ids, cs⟩
  rcases z with ⟨ai, ki, ac, kc⟩
  obtain ⟨hfl, hfw, hdk, hln, hpl⟩ := hn
  dsimp only [mgV, mgC, heC, mg0, ma0, List.length_nil] at *
  repeat (first|refine Wa ?_|refine Wb ?_|refine Wc ?_|refine Wd ?_|refine We rfl ?_|(refine Wh rfl ?_; intro _))
  rename_i bm
  refine JC.drawP mixed ?_
  refine JP.pure 0 rfl (by kernel_rfl) rfl (fun _ => Va) rfl rfl ?_
  refine JP.pure 1 rfl (by kernel_rfl) rfl (fun _ => Va) rfl rfl ?_
  refine JP.pure 2 rfl (by kernel_rfl) rfl (fun _ => OpV.nilCheck) rfl rfl ?_
  refine JP.pure 3 rfl (by kernel_rfl) rfl (fun _ => Vd) rfl rfl ?_
  refine JP.pure 4 rfl (by kernel_rfl) rfl (fun _ => Vd) rfl rfl ?_
  refine JP.take 5 [.own bh 112 [.int .i64 no, .slice ad disk.length kd, .int .i64 room, .slice al l.length kl, .slice aw wait.length kw, .int .i64 seq, .bool up, .slice ap peers.length kp, .int .i64 next, .int .i64 miss, .int .i64 0, .slice none 0 0, .slice none 0 0, .bool false]] rfl (by kernel_rfl) rfl Vc rfl rfl ?_
  refine JP.pure 7 rfl (by kernel_rfl) rfl (fun _ => Vd) rfl rfl ?_
  refine JP.take 8 [.own bm 52 [.int .i64 kind, .slice ai ids.length ki, .slice ac cs.length kc]] rfl (by kernel_rfl) rfl Vc rfl rfl ?_
  refine JP.op 6 (by kernel_rfl) rfl rfl (JR.callSl rfl (fun w1 hw => sorted_dagS w1 _ al kl l (sortF l) (hw.get (A := sl al kl l)) (by omega) hfl (sortF_ok l)) (fun a8 k8 => Wd ⟨rfl, (by repeat (first|exact Obs.nil|refine Obs.keep ?_|refine Obs.skip (by kernel_rfl) ?_)), ?_⟩))
  refine JP.op 9 (by kernel_rfl) rfl rfl (JR.callSl rfl (fun w1 hw => part_dagS w1 _ a8 ai k8 ki (sortF l) (partF (sortF l) ids) ids (hw.get (A := sl a8 k8 (sortF l))) (hw.get (A := sl ai ki ids)) (by have := sortF_le l; omega) (sortF_fine hfl) (partF_ok _ _)) (fun a9 k9 => Wd ⟨rfl, (by repeat (first|exact Obs.nil|refine Obs.keep ?_|refine Obs.skip (by kernel_rfl) ?_)), ?_⟩))
  generalize hpart : partF (sortF l) ids = part
  refine JP.more (Γ' := .own bh 112 [.int .i64 no, .slice ad disk.length kd, .int .i64 room, .slice al l.length kl, .slice aw wait.length kw, .int .i64 seq, .bool up, .slice ap peers.length kp, .int .i64 next, .int .i64 miss, .int .i64 0, .slice none 0 0, .slice none 0 0, .bool false] :: .st (sl a9 k9 part) :: .st (sl ad kd disk) :: .st (sl al kl l) :: .st (sl aw kw wait) :: .st (sl ap kp peers) :: Γ) (fun w1 ho => ho.ent) ?_
  refine JP.op 10 (by kernel_rfl) rfl rfl (JR.callW (v := fun q : Ma => .tuple ⟨[]⟩) (B := fun q => .own bh 112 (heC ⟨no, disk, room, l, wait, seq, up, peers, next, miss⟩ ⟨ad, kd, al, kl, aw, kw, ap, kp⟩ (giveM part).1 q (giveM part).2) :: .st (sl q.i q.ik (giveM part).1.ids) :: .st (sl q.c q.ck (giveM part).1.commits) :: .st (sl ad kd disk) :: .st (sl al kl l) :: .st (sl aw kw wait) :: .st (sl ap kp peers) :: Γ) rfl (fun w1 hw => give_hearer ⟨no, disk, room, l, wait, seq, up, peers, next, miss⟩ ⟨ad, kd, al, kl, aw, kw, ap, kp⟩ part a9 k9 (by have := partF_le (sortF l) ids; have := sortF_le l; rw [hpart] at *; omega) hw) (fun q => Wd ⟨rfl, (by repeat (first|exact Obs.nil|refine Obs.keep ?_|refine Obs.skip (by kernel_rfl) ?_)), ?_⟩))
  refine JP.nil (by kernel_rfl) ?_
  skip
  exact CT.doneN q rfl (fun w ho => ho)
set_option maxHeartbeats 8000000 in
theorem digest_hearer (n : Nd) (y : Na) (m : Mg) (z : Ma) (hn : NdFew n) (hi : m.ids.length ≤ 1000) (ho : Hold w0 F (.own bh 112 (heC n y mg0 ma0 false) :: .st (sl y.d y.dk n.disk) :: .st (sl y.l y.lk n.l) :: .st (sl y.w y.wk n.wait) :: .st (sl y.p y.pk n.peers) :: .st (sl z.i z.ik m.ids) :: .st (sl z.c z.ck m.commits) :: Γ) w) :
    Calls Tryz.prog 76 ⟨[.pointer (some ⟨bh, 0, none⟩), mgV m z]⟩ w fun x w' => ∃ q : Ma, x = .returned (.tuple ⟨[]⟩) ∧ Hold w0 F (.own bh 112 (heC n y (digestM n.l m.ids).1 q (digestM n.l m.ids).2) :: .st (sl q.i q.ik (digestM n.l m.ids).1.ids) :: .st (sl q.c q.ck (digestM n.l m.ids).1.commits) :: .st (sl y.d y.dk n.disk) :: .st (sl y.l y.lk n.l) :: .st (sl y.w y.wk n.wait) :: .st (sl y.p y.pk n.peers) :: Γ) w' := by
  refine calls_of (v := fun q : Ma => .tuple ⟨[]⟩) (B := fun q => .own bh 112 (heC n y (digestM n.l m.ids).1 q (digestM n.l m.ids).2) :: .st (sl q.i q.ik (digestM n.l m.ids).1.ids) :: .st (sl q.c q.ck (digestM n.l m.ids).1.commits) :: .st (sl y.d y.dk n.disk) :: .st (sl y.l y.lk n.l) :: .st (sl y.w y.wk n.wait) :: .st (sl y.p y.pk n.peers) :: Γ) Tryz.func76 rfl Tryz.ntmps76 rfl rfl _ ho ?_
  rcases n with ⟨no, disk, room, l, wait, seq, up, peers, next, miss⟩
  rcases y with ⟨ad, kd, al, kl, aw, kw, ap, kp⟩
  rcases m with ⟨kind, ids, cs⟩
  rcases z with ⟨ai, ki, ac, kc⟩
  obtain ⟨hfl, hfw, hdk, hln, hpl⟩ := hn
  dsimp only [mgV, mgC, heC, mg0, ma0, List.length_nil] at *
  repeat (first|refine Wa ?_|refine Wb ?_|refine Wc ?_|refine Wd ?_|refine We rfl ?_|refine Wf (by exact Va) rfl ?_|(refine Wh rfl ?_; intro _))
  rename_i bm
  refine Wf OpV.nilCheck rfl ?_
  repeat (first|refine We rfl ?_|refine Wf (by first|exact Vc|exact Vd) rfl ?_)
  refine JR.callBuf rfl (fun w1 hw => ids_buf w1 _ al kl l (hw.get (A := sl al kl l)) (by omega) hfl) ?_
  intro a4 k4
  refine JO.more (fun w1 ho => ho.pub) ?_
  repeat (first|refine Wa ?_|refine Wb ?_|refine Wc ?_|refine Wd ?_|refine We rfl ?_|refine Wf (by first|exact Va|exact Vb|exact Vc|exact Vd) rfl ?_)
  refine JR.callBuf rfl (fun w1 hw => without_ids w1 _ ai a4 ki k4 ids (idsP l) (hw.get (A := sl ai ki ids)) (hw.get (A := sl a4 k4 (idsP l))) (by omega)) ?_
  intro a5 k5
  refine JO.more (fun w1 ho => ho.pub) ?_
  have hll := someF_le ids (idsP l) false
  have hdm : digestM l ids = if someIds ids (idsP l) false = [] then giveM (partF (sortF l) (someIds (idsP l) (ancF l ids) false)) else wantM (someIds ids (idsP l) false) := rfl
  generalize hleft : someIds ids (idsP l) false = left at hll hdm
  repeat (first|refine Wa ?_|refine Wb ?_|refine Wc ?_|refine Wd ?_|refine We rfl ?_|refine Wf (by first|exact Va|exact Vb|exact Vf|exact Vo) rfl ?_)
  refine JC.test (fun h1 => ?_) (fun h1 => ?_)
  · have hne : left ≠ [] := by rintro rfl; exact absurd h1 (by decide)
    rw [if_neg hne] at hdm
    rw [hdm]
    repeat (first|refine Wb ?_|refine Wc ?_|refine We rfl ?_|refine Wf (by exact Va) rfl ?_)
    refine JR.more (Γ' := .own bh 112 [.int .i64 no, .slice ad disk.length kd, .int .i64 room, .slice al l.length kl, .slice aw wait.length kw, .int .i64 seq, .bool up, .slice ap peers.length kp, .int .i64 next, .int .i64 miss, .int .i64 0, .slice none 0 0, .slice none 0 0, .bool false] :: .st (sl a5 k5 left) :: .st (sl ad kd disk) :: .st (sl al kl l) :: .st (sl aw kw wait) :: .st (sl ap kp peers) :: Γ) (fun w1 ho => ho.ent) ?_
    refine JR.callW (v := fun q : Ma => .tuple ⟨[]⟩) (B := fun q => .own bh 112 (heC ⟨no, disk, room, l, wait, seq, up, peers, next, miss⟩ ⟨ad, kd, al, kl, aw, kw, ap, kp⟩ (wantM left).1 q (wantM left).2) :: .st (sl q.i q.ik (wantM left).1.ids) :: .st (sl q.c q.ck (wantM left).1.commits) :: .st (sl ad kd disk) :: .st (sl al kl l) :: .st (sl aw kw wait) :: .st (sl ap kp peers) :: Γ) rfl (fun w1 hw => want_hearer ⟨no, disk, room, l, wait, seq, up, peers, next, miss⟩ ⟨ad, kd, al, kl, aw, kw, ap, kp⟩ left a5 k5 (by omega) hw) ?_
    intro q
    repeat (first|refine Wa ?_|refine Wd ?_|refine Ws ?_|refine Wt ?_)
    exact CT.done (Y := Ma) q rfl (fun w ho => ho)
  · obtain rfl : left = [] := List.eq_nil_of_length_eq_zero (by omega)
    rw [if_pos rfl] at hdm
    rw [hdm]
    repeat (first|refine Wa ?_|refine Wb ?_|refine Wl ?_)
    refine JC.drawP mixed ?_
    refine JP.pure 0 rfl (by kernel_rfl) rfl (fun _ => Va) rfl rfl ?_
    refine JP.pure 1 rfl (by kernel_rfl) rfl (fun _ => Va) rfl rfl ?_
    refine JP.pure 2 rfl (by kernel_rfl) rfl (fun _ => OpV.nilCheck) rfl rfl ?_
    refine JP.pure 3 rfl (by kernel_rfl) rfl (fun _ => Vd) rfl rfl ?_
    refine JP.pure 4 rfl (by kernel_rfl) rfl (fun _ => Vd) rfl rfl ?_
    refine JP.take 5 [.own bh 112 [.int .i64 no, .slice ad disk.length kd, .int .i64 room, .slice al l.length kl, .slice aw wait.length kw, .int .i64 seq, .bool up, .slice ap peers.length kp, .int .i64 next, .int .i64 miss, .int .i64 0, .slice none 0 0, .slice none 0 0, .bool false]] rfl (by kernel_rfl) rfl Vc rfl rfl ?_
    refine JP.pure 6 rfl (by kernel_rfl) rfl (fun _ => Vd) rfl rfl ?_
    refine JP.take 7 [.own bm 52 [.int .i64 kind, .slice ai ids.length ki, .slice ac cs.length kc]] rfl (by kernel_rfl) rfl Vc rfl rfl ?_
    refine JP.op 8 (by kernel_rfl) rfl rfl (JR.callSl rfl (fun w1 hw => anc_sl w1 _ al ai kl ki l ids (ancF l ids) (hw.get (A := sl al kl l)) (hw.get (A := sl ai ki ids)) (by omega) (by omega) hfl (ancF_ok l ids)) (fun a6 k6 => Wd ⟨rfl, (by repeat (first|exact Obs.nil|refine Obs.keep ?_|refine Obs.skip (by kernel_rfl) ?_)), ?_⟩))
    refine JP.op 9 (by kernel_rfl) rfl rfl (JR.callBuf rfl (fun w1 hw => without_ids w1 _ a4 a6 k4 k6 (idsP l) (ancF l ids) (hw.get (A := sl a4 k4 (idsP l))) (hw.get (A := sl a6 k6 (ancF l ids))) (by have := idsP_le l; omega)) (fun a7 k7 => Wd ⟨rfl, (by repeat (first|exact Obs.nil|refine Obs.keep ?_|refine Obs.skip (by kernel_rfl) ?_)), ?_⟩))
    refine JP.more (fun w1 ho => ho.pub) ?_
    refine JP.pure 10 rfl (by kernel_rfl) rfl (fun _ => Vb) rfl rfl ?_
    refine JP.nil (by kernel_rfl) ?_
    generalize hmore : someIds (idsP l) (ancF l ids) false = more
    repeat (first|refine Wa ?_|refine Wc ?_|refine We rfl ?_|refine Wf (by exact Va) rfl ?_)
    refine Wf OpV.nilCheck rfl ?_
    repeat (first|refine We rfl ?_|refine Wf (by first|exact Vc|exact Vd) rfl ?_)
    refine JR.callSl rfl (fun w1 hw => sorted_dagS w1 _ al kl l (sortF l) (hw.get (A := sl al kl l)) (by omega) hfl (sortF_ok l)) ?_
    intro a8 k8
    repeat (first|refine We rfl ?_|refine Wf (by exact Va) rfl ?_)
    refine JR.callSl rfl (fun w1 hw => part_dagS w1 _ a8 a7 k8 k7 (sortF l) (partF (sortF l) more) more (hw.get (A := sl a8 k8 (sortF l))) (hw.get (A := sl a7 k7 more)) (by have := sortF_le l; omega) (sortF_fine hfl) (partF_ok _ _)) ?_
    intro a9 k9
    generalize hpart : partF (sortF l) more = part
    repeat (refine We rfl ?_)
    refine JR.more (Γ' := .own bh 112 [.int .i64 no, .slice ad disk.length kd, .int .i64 room, .slice al l.length kl, .slice aw wait.length kw, .int .i64 seq, .bool up, .slice ap peers.length kp, .int .i64 next, .int .i64 miss, .int .i64 0, .slice none 0 0, .slice none 0 0, .bool false] :: .st (sl a9 k9 part) :: .st (sl ad kd disk) :: .st (sl al kl l) :: .st (sl aw kw wait) :: .st (sl ap kp peers) :: Γ) (fun w1 ho => ho.ent) ?_
    refine JR.callW (v := fun q : Ma => .tuple ⟨[]⟩) (B := fun q => .own bh 112 (heC ⟨no, disk, room, l, wait, seq, up, peers, next, miss⟩ ⟨ad, kd, al, kl, aw, kw, ap, kp⟩ (giveM part).1 q (giveM part).2) :: .st (sl q.i q.ik (giveM part).1.ids) :: .st (sl q.c q.ck (giveM part).1.commits) :: .st (sl ad kd disk) :: .st (sl al kl l) :: .st (sl aw kw wait) :: .st (sl ap kp peers) :: Γ) rfl (fun w1 hw => give_hearer ⟨no, disk, room, l, wait, seq, up, peers, next, miss⟩ ⟨ad, kd, al, kl, aw, kw, ap, kp⟩ part a9 k9 (by have := partF_le (sortF l) more; have := sortF_le l; rw [hpart] at *; omega) hw) ?_
    intro q
    repeat (refine Wd ?_)
    exact CT.doneN q rfl (fun w ho => ho)
end
theorem settleF_ok {N : Nat} : ∀ (f : Nat) {n : Nd}, NdOk N n → NdOk N (settleF f n)
  | 0, n, h => h
  | f + 1, n, h => by
    unfold settleF
    split
    · rename_i hr
      exact settleF_ok f (settle1_ok h (by rw [← hr]))
    · exact h
theorem takeN_ok {N : Nat} {n : Nd} {c : Commit} (h : NdOk N n) (hc : fine c) : NdOk (N + 1) (takeN n c) := by
  unfold takeN
  split
  · exact settleF_ok _ (put_ok h hc)
  · exact ⟨h.fl, h.fw, h.disk, h.room, by have := h.len; omega⟩
theorem takes_ok {N : Nat} {n : Nd} (h : NdOk N n) : ∀ (l : List Commit), (∀ c ∈ l, fine c) → NdOk (N + l.length) (l.foldl takeN n) := by
  intro l
  induction l generalizing n N with
  | nil => intro _; exact h
  | cons c l ih =>
    intro hl
    have := ih (takeN_ok h (hl c (by simp))) (fun x hx => hl x (by simp [hx]))
    rw [List.foldl_cons, List.length_cons]
    exact (by rw [show N + (l.length + 1) = N + 1 + l.length by omega]; exact this)
theorem ndMay_room {n : Nd} (h : ndMay n = true) : n.room ≤ 1048576 ∧ (n.disk.length : Int) ≤ n.room ∧ fitsB n.no n.room = true := by
  have h1 : fitsB n.no n.room = true := by
    cases hf : fitsB n.no n.room with
    | true => rfl
    | false => unfold ndMay at h; rw [hf] at h; cases h
  have h2 : ¬ n.room < (n.disk.length : Int) := by
    intro h2
    unfold ndMay at h
    rw [decide_eq_true h2, h1] at h
    cases h
  exact ⟨(fits_room h1).2.2.2, by omega, h1⟩
theorem take_repoC {w0 w : World} {F : Nat → Prop} {Γ : List Fact} {br : Nat} (n : Nd) (y : Na) (c : Commit) (a : Option Addr) (k : Nat) (hc : fine c) (hok : NdOk 899 n) (ho : Hold w0 F (.own br 136 (ndC n y) :: .res (buf y.l y.lk 29 n.l) :: .st (sl y.d y.dk n.disk) :: .st (sl y.w y.wk n.wait) :: .st (sl y.p y.pk n.peers) :: .st (sl a k c.parents) :: Γ) w) :
    Calls Tryz.prog 106 ⟨[.pointer (some ⟨br, 0, none⟩), commitV c a k]⟩ w fun x w' => ∃ y' : Na, x = .returned (.tuple ⟨[]⟩) ∧ Hold w0 F (.own br 136 (ndC (takeN n c) y') :: .res (buf y'.l y'.lk 29 (takeN n c).l) :: .st (sl y'.d y'.dk (takeN n c).disk) :: .st (sl y'.w y'.wk (takeN n c).wait) :: .st (sl y'.p y'.pk (takeN n c).peers) :: Γ) w' := by
  have h := take_repo n y c a k hc hok ho
  simp only [repF, List.cons_append, List.nil_append] at h
  exact h
set_option maxHeartbeats 8000000 in
theorem take_branch (w : World) (F : Nat → Prop) (n : Nd) (y : Na) (L : List Commit) (a : Option Addr) (k : Nat) (h1 : (sl y.d y.dk n.disk).holds F w) (h2 : (sl y.l y.lk n.l).holds F w) (h3 : (sl y.w y.wk n.wait).holds F w) (h4 : (sl y.p y.pk n.peers).holds F w) (h5 : (sl a k L).holds F w) (hn : NdFew n)
    (hL : L.length ≤ 90) (hf : ∀ c ∈ L, fine c) :
    Gives Tryz.prog 48 [ndV n y, .slice a L.length k] w F (fun z : Na => ndV (takeL n L) z) (fun z => ndB (takeL n L) z) := by
  refine gives_of Tryz.func48 rfl Tryz.ntmps48 rfl rfl (.st (sl a k L) :: ndB n y) ((Hold.start4 h1 h2 h3 h4).add (Asn.mono _ _ _ _ (fun k hk => ⟨.inl hk, by simp [free, Fact.owns]⟩) h5)) ?_
  have hn' := hn
  obtain ⟨no, disk, room, l, wait, seq, up, peers, next, miss⟩ := n
  obtain ⟨ad, kd, al, kl, aw, kw, ap, kp⟩ := y
  dsimp only [ndV, ndC, ndB] at *
  repeat (first|refine Wa ?_|refine Wb ?_|refine Wc ?_|refine Wd ?_|refine We rfl ?_|refine Wf (by exact Vc) rfl ?_|(refine Wg rfl ?_; intro _)|(refine Wh rfl ?_; intro _))
  rename_i bn b4
  refine JR.call (v := fun z : Nat × Na => .pointer (some ⟨z.1, 0, none⟩)) (B := fun z => repF z.1 ⟨no, disk, room, l, wait, seq, up, peers, next, miss⟩ z.2) rfl (fun w1 hw => of_branch w1 _ ⟨no, disk, room, l, wait, seq, up, peers, next, miss⟩ ⟨ad, kd, al, kl, aw, kw, ap, kp⟩ (hw.get (A := sl ad kd disk)) (hw.get (A := sl al kl l)) (hw.get (A := sl aw kw wait)) (hw.get (A := sl ap kp peers)) hn) ?_
  rintro ⟨br, ⟨ad2, kd2, al2, kl2, aw2, kw2, ap2, kp2⟩⟩
  dsimp only [repF, ndC, List.cons_append, List.nil_append]
  repeat (first|refine Wa ?_|refine Wb ?_|refine Wc ?_|refine Wd ?_|refine We rfl ?_|refine Wf (by first|exact Vb|exact Vc) rfl ?_)
  refine JR.callV rfl (fun w1 hw => may_branch w1 _ ⟨no, disk, room, l, wait, seq, up, peers, next, miss⟩ ⟨ad, kd, al, kl, aw, kw, ap, kp⟩ (hw.get (A := sl ad kd disk)) (hw.get (A := sl al kl l)) (hw.get (A := sl aw kw wait)) hn.fw) ?_
  cases hm : ndMay ⟨no, disk, room, l, wait, seq, up, peers, next, miss⟩ with
  | false =>
    have e1 : takeL ⟨no, disk, room, l, wait, seq, up, peers, next, miss⟩ L = ⟨no, disk, room, l, wait, seq, up, peers, next, miss⟩ := if_neg (by rw [hm]; exact Bool.false_ne_true)
    rw [e1]
    dsimp only
    repeat (first|refine Wa ?_|refine Wb ?_|refine Wc ?_|refine Wd ?_|refine We rfl ?_|refine Wf (by first|exact Va|exact Vj) rfl ?_|refine Wk ?_|refine Wl ?_|refine Wv rfl rfl ?_)
    refine Wf OpV.nilCheck rfl ?_
    repeat (first|refine Wa ?_|refine Wd ?_|refine We rfl ?_|refine Wf (by first|exact Vc|exact Vd) rfl ?_|refine Wi ?_|refine Ws ?_)
    exact CT.done (Y := Na) ⟨ad2, kd2, al2, kl2, aw2, kw2, ap2, kp2⟩ rfl (fun w ho => (ho.pubAt (L := l) al2 kl2).ent)
  | true =>
  cases up with
  | false =>
    have e1 : takeL ⟨no, disk, room, l, wait, seq, false, peers, next, miss⟩ L = ⟨no, disk, room, l, wait, seq, false, peers, next, miss⟩ := if_neg (by rw [hm]; exact Bool.false_ne_true)
    rw [e1]
    dsimp only
    repeat (first|refine Wa ?_|refine Wb ?_|refine Wc ?_|refine Wd ?_|refine We rfl ?_|refine Wf (by first|exact Va|exact Vc|exact Vd|exact Vi) rfl ?_|refine Wk ?_|refine Wl ?_)
    refine Wf OpV.nilCheck rfl ?_
    repeat (first|refine Wa ?_|refine Wd ?_|refine We rfl ?_|refine Wf (by first|exact Vc|exact Vd) rfl ?_|refine Wi ?_|refine Ws ?_)
    exact CT.done (Y := Na) ⟨ad2, kd2, al2, kl2, aw2, kw2, ap2, kp2⟩ rfl (fun w ho => (ho.pubAt (L := l) al2 kl2).ent)
  | true =>
  have e1 : takeL ⟨no, disk, room, l, wait, seq, true, peers, next, miss⟩ L = L.foldl takeN ⟨no, disk, room, l, wait, seq, true, peers, next, miss⟩ := if_pos (by rw [hm]; rfl)
  rw [e1]
  have hrm := (ndMay_room hm).1
  have hok0 : NdOk 800 ⟨no, disk, room, l, wait, seq, true, peers, next, miss⟩ := ⟨hn.fl, hn.fw, hn.disk, hrm, hn.len⟩
  generalize hn0 : (⟨no, disk, room, l, wait, seq, true, peers, next, miss⟩ : Nd) = n0 at hok0
  repeat (first|refine Wa ?_|refine Wb ?_|refine Wc ?_|refine Wd ?_|refine We rfl ?_|refine Wf (by first|exact Va|exact Vc|exact Vd|exact Vi) rfl ?_|refine Wj ?_)
  refine JR.callBuf rfl (fun w1 hw => own_branch w1 _ a k L (hw.get (A := sl a k L)) (by omega) hf) ?_
  intro a3 k3
  refine JO.more (fun w1 ho => ho.pub) ?_
  repeat (first|refine Wa ?_|refine Wd ?_|refine We rfl ?_|refine Wf (by first|exact Va|exact Vf) rfl ?_|refine Wn ?_)
  refine JC.loop3 (fun (j : Nat) (m : Nd) (z : Na) => [(4, .pointer (some ⟨b4, 0, none⟩)), (5, .pointer (some ⟨br, 0, none⟩)), (17, .slice a3 L.length k3), (18, .int .i64 (L.length : Int)), (19, .int .i64 (j : Int))])
    (fun j m z => .own br 136 (ndC m z) :: .res (buf z.l z.lk 29 m.l) :: .st (sl z.d z.dk m.disk) :: .st (sl z.w z.wk m.wait) :: .st (sl z.p z.pk m.peers) :: [.own b4 50 [.int .i64 0, .slice none 0 0, .int .i64 0, .slice none 0 0, .slice none 0 0, .int .i64 0, .bool false, .slice none 0 0, .int .i64 0, .int .i64 0], .st (sl a3 k3 L)])
    (fun j m z => j ≤ L.length ∧ m = (L.take j).foldl takeN n0) (fun j _ _ => L.length - j) 0 n0 ⟨ad2, kd2, al2, kl2, aw2, kw2, ap2, kp2⟩ ⟨Nat.zero_le _, rfl⟩ (by subst hn0; infer_instance) ?_
  rintro j m z ⟨hj, hmj⟩
  have hokm : NdOk (800 + (L.take j).length) m := by rw [hmj]; exact takes_ok hok0 _ (fun c hc => hf c (List.mem_of_mem_take hc))
  have htl : (L.take j).length ≤ 90 := by rw [List.length_take]; omega
  have hok9 : NdOk 899 m := ⟨hokm.fl, hokm.fw, hokm.disk, hokm.room, by have := hokm.len; omega⟩
  repeat (first|refine Wa ?_|refine Wb ?_|refine Wc ?_|refine Wd ?_|refine We rfl ?_|refine Wf (by exact Vg) rfl ?_)
  refine JC.test (fun hlt => ?_) (fun hge => ?_)
  · have hlt' : j < L.length := by omega
    repeat (first|refine Wa ?_|refine Wb ?_|refine Wc ?_|refine We rfl ?_|refine Wl ?_|refine Wn ?_)
    refine JR.indexCommit rfl hlt' ?_
    intro b5 o5 p5 q5
    repeat (first|refine Wa ?_|refine Wc ?_|refine Wd ?_|refine We rfl ?_|refine Wf (by first|exact Va|exact Vc) rfl ?_|(refine Wg rfl ?_; intro _)|refine Wi ?_)
    refine JR.more (Γ' := .own br 136 (ndC m z) :: .res (buf z.l z.lk 29 m.l) :: .st (sl z.d z.dk m.disk) :: .st (sl z.w z.wk m.wait) :: .st (sl z.p z.pk m.peers) :: .st (sl p5 q5 L[j].parents) :: [.own b4 50 [.int .i64 0, .slice none 0 0, .int .i64 0, .slice none 0 0, .slice none 0 0, .int .i64 0, .bool false, .slice none 0 0, .int .i64 0, .int .i64 0], .st (sl a3 k3 L)]) (fun w1 ho => ho.ent) ?_
    have hfj := hf _ (List.getElem_mem hlt')
    generalize hcj : L[j] = cj at hfj
    have hcall := fun (w1 : World) hw => take_repoC (w0 := w) (F := F) (w := w1) (br := br) (Γ := [.own b4 50 [.int .i64 0, .slice none 0 0, .int .i64 0, .slice none 0 0, .slice none 0 0, .int .i64 0, .bool false, .slice none 0 0, .int .i64 0, .int .i64 0], .st (sl a3 k3 L)]) m z cj p5 q5 hfj hok9 hw
    refine JR.callW rfl hcall ?_
    subst hcj
    intro z2
    have hnext : takeN m L[j] = (L.take (j + 1)).foldl takeN n0 := by rw [List.take_succ_eq_append_getElem hlt', List.foldl_append, ← hmj]; rfl
    generalize takeN m L[j] = m2 at hnext
    repeat (first|refine Wa ?_|refine Wc ?_|refine Wd ?_|refine We rfl ?_|refine Wf (by first|exact Va|exact Vk (by omega)) rfl ?_|refine Wr ?_)
    exact ⟨j + 1, m2, z2, ⟨by omega, hnext⟩, by omega, inferInstance⟩
  · obtain rfl : j = L.length := by omega
    rw [List.take_length] at hmj
    rw [← hmj]
    repeat (first|refine Wa ?_|refine Wb ?_|refine Wc ?_|refine We rfl ?_|refine Wf (by exact Va) rfl ?_|refine Wm ?_|refine Wo ?_|refine Wp ?_)
    refine Wf OpV.nilCheck rfl ?_
    repeat (first|refine Wa ?_|refine Wd ?_|refine We rfl ?_|refine Wf (by first|exact Vc|exact Vd) rfl ?_|refine Wi ?_|refine Ws ?_)
    exact CT.done (Y := Na) z rfl (fun w ho => (ho.pubAt (L := m.l) z.l z.lk).ent)
end Ab
end Go.Proofs.YtdgeffphifgflaaGreat
