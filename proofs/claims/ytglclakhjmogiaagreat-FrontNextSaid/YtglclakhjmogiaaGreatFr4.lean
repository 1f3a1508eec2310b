/- Lemmas for the walks, part 4 of 5: WalkY, WalkZ, DagI, DagJ, Few, LawS, LawW, DagK, LawK, LawN, FrP, FrQ, RefA, RefB, RefC, RefD, RefE, RefF, RefG, RefH, RefI, RefJ, RefK, RefL, RefM, RfA, Mat, RfB, RfC, RfD. -/
import Derived.Test.YtglclakhjmogiaaGreatFr3
import Derived.Test.YtglclakhjmogiaaGreatFr2
/- Contracts: the laws' two commits. -/
namespace Go.Proofs.YtglclakhjmogiaaGreat
namespace Ab
open Go Go.RowKit
set_option linter.unusedVariables false
set_option linter.unusedSimpArgs false
set_option synthInstance.maxSize 4000
set_option synthInstance.maxHeartbeats 400000
attribute [local irreducible] JC JO JR JQ andThen inBlock OpV Gives retTo JM JS

attribute [local irreducible] hashC
theorem Hold.pubRow {α : Type} [ic : Cell α] {w0 w : World} {F : Nat → Prop} {Γ : List Fact} {b : Nat} {t : TypeId} {vs : List Value} (r : List (α × Cell.Ix α)) (h : Hold w0 F (.own b t vs :: Γ) w) (hvs : vs = flat r)
    (hf : ∀ p ∈ r, ∀ A ∈ Cell.facts p.1 p.2, .st A ∈ Γ) (hl : r.length ≤ 1048576) : Hold w0 F (.st (sl (some ⟨b, 0, none⟩) r.length (r.map (·.1))) :: Γ) w := by
  have hw : w.heap[b]? = some (.cells vs.toArray t (0, 0)) := h.sat (.own b t _) (by simp)
  refine h.publish fun hk => ?_
  have hb := hk b (.inr rfl)
  refine ⟨by simp, by simp only [maxLen]; omega, by simp only [List.length_map, lim]; omega, fun hne => ⟨b, 0, rfl, hb, (Array.getElem?_eq_some_iff.1 hw).1, fun i hi => ?_⟩⟩
  have hi' : i < r.length := by simpa using hi
  refine ⟨(r[i]).2, ?_, fun A hA => ?_⟩
  · intro j v hv
    simp only [List.getElem_map] at hv
    have := flat_at r i hi' j v hv
    rw [cell_of_row w b _ _ _ _ hw, hvs]
    simpa using this
  · simp only [List.getElem_map] at hA
    exact h.tail.sat (.st A) (hf _ (List.getElem_mem hi') A hA)

def keyA : ByteArray := ⟨#[97]⟩
def l0 : Commit := ⟨⟨0, 1⟩, 1, [], ⟨0, keyA, .empty, 1⟩⟩
def idA : ID := (hashC l0).1
def l1 : Commit := ⟨⟨0, 2⟩, 2, [idA], ⟨0, keyA, .empty, 2⟩⟩

theorem some_law (w : World) (F : Nat → Prop) : GivesV Tryz.prog 80 [] w F (commitV l0 none 0) := by
  refine gives_of Tryz.func80 rfl Tryz.ntmps80 rfl rfl [] (.start w F) ?_
  repeat (first|refine Wa ?_|refine Wb ?_|refine Wc ?_|refine Wd ?_|refine We rfl ?_|(refine Wg rfl ?_; intro _))
  refine Wf (OpV.build [.int .i64 0, .int .i64 1] (by kernel_rfl)) rfl ?_
  repeat (refine We rfl ?_)
  refine Wf (OpV.build [.int .i64 0, .string keyA, .string .empty, .int .i64 1] (by kernel_rfl)) rfl ?_
  repeat (refine We rfl ?_)
  refine Wf (OpV.build [.int .i64 0, .int .i64 1, .int .i64 1, .slice none 0 0, .int .i64 0, .string keyA, .string .empty, .int .i64 1] (by kernel_rfl)) rfl ?_
  repeat (first|refine Wa ?_|refine Wd ?_|refine We rfl ?_|refine Wi ?_|refine Ws ?_)
  exact CT.done () rfl (fun w ho => ho.ent)

end Ab
end Go.Proofs.YtglclakhjmogiaaGreat

/- The laws' example: its two commits have two ids (evaluated by the kernel); awake returns true. -/
namespace Go.Proofs.YtglclakhjmogiaaGreat
namespace Ab
open Go Go.RowKit
set_option linter.unusedVariables false
set_option linter.unusedSimpArgs false
set_option synthInstance.maxSize 4000
set_option synthInstance.maxHeartbeats 400000
attribute [local irreducible] JC JO JR JQ andThen inBlock OpV Gives retTo JM JS

theorem may_l0 : may l0 = true := by decide +kernel
theorem idA_eq : idA = sumI (commitPut l0) := by simp only [idA, hashC, may_l0, if_true]
theorem texts_l0 : texts l0 := ⟨by decide, by decide⟩
theorem fine_l0 : fine l0 := ⟨texts_l0, by decide⟩
attribute [local irreducible] hashC idA l0 l1

theorem sl_of_ro {F : Nat → Prop} {w : World} {b : Nat} {x : ID} (h : (ro b 0 (idc x)).holds F w) : (sl (some ⟨b, 0, none⟩) 1 [x]).holds F w := by
  refine ⟨by simp, by simp [maxLen], by simp [lim], fun _ => ⟨b, 0, rfl, h.1, h.2.1, fun i hi => ⟨(), ?_, by simp [Cell.facts]⟩⟩⟩
  have h0 : i = 0 := by simpa using hi
  subst h0
  rw [Nat.zero_mul, Nat.add_zero]
  exact h.2.2

end Ab
end Go.Proofs.YtglclakhjmogiaaGreat

/- dag's functions with their results named; the laws' example of layer 11. -/
namespace Go.Proofs.YtglclakhjmogiaaGreat
namespace Ab
open Go Go.RowKit
set_option linter.unusedVariables false
set_option linter.unusedSimpArgs false
set_option synthInstance.maxSize 4000
set_option synthInstance.maxHeartbeats 400000
attribute [local irreducible] JC JO JR JQ andThen inBlock OpV Gives retTo JM JS

attribute [local irreducible] hashC
theorem closed_yes (w : World) (F : Nat → Prop) (a : Option Addr) (k : Nat) (L : List Commit) (h : (sl a k L).holds F w) (hl : L.length ≤ 1000000) (hf : ∀ x ∈ L, fine x) (hc : Closed L) :
    GivesV Tryz.prog 29 [.slice a L.length k] w F (.bool true) := by
  have h0 := closed_dag w F a k L h hl hf
  unfold Gives at h0
  unfold GivesV Gives
  refine Calls.mono h0 ?_
  rintro e w' ⟨y, rfl, hb, hB⟩
  exact ⟨(), by dsimp only; rw [y.2.2 hc], hb, hB⟩
theorem closed_no (w : World) (F : Nat → Prop) (a : Option Addr) (k : Nat) (L : List Commit) (h : (sl a k L).holds F w) (hl : L.length ≤ 1000000) (hf : ∀ x ∈ L, fine x) (hc : ¬ Closed L) :
    GivesV Tryz.prog 29 [.slice a L.length k] w F (.bool false) := by
  have h0 := closed_dag w F a k L h hl hf
  unfold Gives at h0
  unfold GivesV Gives
  refine Calls.mono h0 ?_
  rintro e w' ⟨y, rfl, hb, hB⟩
  refine ⟨(), ?_, hb, hB⟩
  have : y.1 = false := by rw [← Bool.not_eq_true]; exact fun h => hc (y.2.1 h)
  dsimp only
  rw [this]
theorem anc_sl (w : World) (F : Nat → Prop) (a d : Option Addr) (k m : Nat) (L : List Commit) (A M : List ID) (h : (sl a k L).holds F w) (h' : (sl d m A).holds F w) (hl : L.length ≤ 1000) (hA : A.length ≤ 1000) (hf : ∀ x ∈ L, fine x) (hM : AncR L A M) :
    GivesSl Tryz.prog 30 [.slice a L.length k, .slice d A.length m] w F M := by
  have h0 := anc_dag w F a d k m L A h h' hl hA hf
  unfold Gives at h0
  unfold GivesSl Gives
  refine Calls.mono h0 ?_
  rintro e w' ⟨⟨⟨N, p, q⟩, hN⟩, rfl, hb, hB⟩
  have : N = M := hN.unique hM
  subst this
  exact ⟨(p, q), rfl, hb, hB⟩
theorem anc_ex (L : List Commit) (A : List ID) : ∃ M, AncR L A M := by
  by_cases hc : Closed L
  · refine ⟨sortL ((cids L).filter fun x => @decide (inAnc L A x) (Classical.propDecidable _)), sortL_pairwise _, (sortL_perm' _).nodup_iff.2 (hc.nodup.sublist List.filter_sublist), fun _ x => ?_, fun h => (h hc).elim⟩
    rw [mem_sortL, List.mem_filter]
    constructor
    · rintro ⟨_, h⟩; exact @of_decide_eq_true _ (Classical.propDecidable _) h
    · intro h; exact ⟨h.1, @decide_eq_true _ (Classical.propDecidable _) h⟩
  · exact ⟨[], List.Pairwise.nil, List.nodup_nil, fun h => (hc h).elim, fun _ => rfl⟩
theorem anc_len {L : List Commit} {A M : List ID} (h : AncR L A M) : M.length ≤ L.length := by
  by_cases hc : Closed L
  · have := nodup_len M (cids L) h.nodup (fun x hx => ((h.mem hc x).1 hx).1)
    rwa [cids_length] at this
  · rw [h.not hc]; simp
/- the example -/
theorem idC_l0 : idC l0 = idA := rfl
end Ab
end Go.Proofs.YtglclakhjmogiaaGreat

/- The laws' example of layer 11: awake returns true. -/
namespace Go.Proofs.YtglclakhjmogiaaGreat
namespace Ab
open Go Go.RowKit
set_option linter.unusedVariables false
set_option linter.unusedSimpArgs false
set_option synthInstance.maxSize 4000
set_option synthInstance.maxHeartbeats 400000
attribute [local irreducible] JC JO JR JQ andThen inBlock OpV Gives retTo JM JS

attribute [local irreducible] hashC idA l0 l1 ents
end Ab
end Go.Proofs.YtglclakhjmogiaaGreat

/- Few commits are fine; wait.Ready with its result named. -/
namespace Go.Proofs.YtglclakhjmogiaaGreat
namespace Ab
open Go Go.RowKit
set_option linter.unusedVariables false
set_option linter.unusedSimpArgs false
set_option synthInstance.maxSize 4000
set_option synthInstance.maxHeartbeats 400000
attribute [local irreducible] JC JO JR JQ andThen inBlock OpV Gives retTo JM JS

attribute [local irreducible] hashC
theorem fine_few {c : Commit} (h : fewC c = true) : fine c := by
  simp only [fewC, Bool.and_eq_true, decide_eq_true_eq] at h
  exact ⟨⟨by omega, by omega⟩, by omega⟩
theorem few_fine {L : List Commit} {m : Nat} (h : fewL L m = true) : L.length ≤ m ∧ ∀ x ∈ L, fine x := by
  simp only [fewL, Bool.and_eq_true, decide_eq_true_eq, List.all_eq_true] at h
  exact ⟨h.1, fun x hx => fine_few (h.2 x hx)⟩

theorem few_parents {L : List Commit} {m : Nat} (h : fewL L m = true) : ∀ c ∈ L, c.parents.length ≤ 20 := by
  simp only [fewL, Bool.and_eq_true, decide_eq_true_eq, List.all_eq_true] at h
  intro c hc
  have := h.2 c hc
  simp only [fewC, Bool.and_eq_true, decide_eq_true_eq] at this
  omega
end Ab
end Go.Proofs.YtglclakhjmogiaaGreat

/- The law DagSorted returns true. -/
namespace Go.Proofs.YtglclakhjmogiaaGreat
namespace Ab
open Go Go.RowKit
set_option linter.unusedVariables false
set_option linter.unusedSimpArgs false
set_option synthInstance.maxSize 4000
set_option synthInstance.maxHeartbeats 400000
attribute [local irreducible] JC JO JR JQ andThen inBlock OpV Gives retTo JM JS

attribute [local irreducible] hashC idA l0 l1 ents
end Ab
end Go.Proofs.YtglclakhjmogiaaGreat

/- The law DagWhole returns true. -/
namespace Go.Proofs.YtglclakhjmogiaaGreat
namespace Ab
open Go Go.RowKit
set_option linter.unusedVariables false
set_option linter.unusedSimpArgs false
set_option synthInstance.maxSize 4000
set_option synthInstance.maxHeartbeats 400000
attribute [local irreducible] JC JO JR JQ andThen inBlock OpV Gives retTo JM JS

attribute [local irreducible] hashC idA l0 l1 ents
theorem find_at {L : List Commit} (hc : Closed L) (i : Nat) (hi : i < L.length) : findR L (idC L[i]) = (L[i], true) := by
  have h1 : ∀ c ∈ L, hashO c = some (idC c) := fun c hm => by
    have := (hash_err c).2 (hc.may c hm)
    simp [hashO, this, idC]
  have hfd : findC L (idC L[i]) = some L[i] := by
    rw [findC, List.find?_eq_some_iff_getElem]
    refine ⟨by simp [h1 _ (List.getElem_mem hi)], i, hi, rfl, fun j hj => ?_⟩
    rw [h1 _ (List.getElem_mem (by omega))]
    have := List.pairwise_iff_getElem.1 (show (cids L).Pairwise _ from hc.nodup) j i (by rw [cids_length]; omega) (by rw [cids_length]; exact hi) hj
    rw [cids_get, cids_get] at this
    simpa using this
  simp [findR, hfd]
theorem anc_all {L : List Commit} (hc : Closed L) : AncR L (cids L) (sortL (setOf (cids L))) :=
  ⟨sortL_pairwise _, (sortL_perm' _).nodup_iff.2 (setOf_nodup _), fun _ x => by rw [mem_sortL, mem_setOf, inAnc]; exact ⟨fun h => ⟨h, .inl h⟩, fun h => h.1⟩, fun h => (h hc).elim⟩
end Ab
end Go.Proofs.YtglclakhjmogiaaGreat

/- Contracts: slices.Grow, slices.Concat of ids; ids.Both, Common. -/
namespace Go.Proofs.YtglclakhjmogiaaGreat
namespace Ab
open Go Go.RowKit
set_option linter.unusedVariables false
set_option linter.unusedSimpArgs false
set_option synthInstance.maxSize 4000
set_option synthInstance.maxHeartbeats 400000
attribute [local irreducible] JC JO JR JQ andThen inBlock OpV Gives retTo JM JS

attribute [local irreducible] hashC
instance : Cell (List ID) where
  Ix := Option Addr × Nat
  sz := 1
  cells l y := [.slice y.1 l.length y.2]
  facts l y := [sl y.1 y.2 l]
  len _ _ := rfl
  one l y := by simp [Value.oneCell']
  pos := by decide
section
variable {P : Program} {n : Nat} {w0 : World} {F : Nat → Prop} {ops : Array Oper} {i d : Nat} {t : TypeId} {pos : String} {aft : Array Edge} {g : Option (Nat × Bool)} {os : List Oper} {Q : Cont} {e : E} {Γ : List Fact} [Dr]
end

theorem common_ids (w : World) (F : Nat → Prop) (a b : Option Addr) (c k : Nat) (A B : List ID) (h : (sl a c A).holds F w) (h' : (sl b k B).holds F w) (hA : A.length ≤ 10000) :
    GivesBuf Tryz.prog 58 [.slice a A.length c, .slice b B.length k] w F 47 (someIds A B true) := by
  refine gives_of Tryz.func58 rfl Tryz.ntmps58 rfl rfl [.st (sl a c A), .st (sl b k B)] (.start2 h h') ?_
  repeat (first|refine Wa ?_|refine Wb ?_|refine Wc ?_|refine Wd ?_|refine We rfl ?_|refine Wf (by first|exact Va|exact Vb) rfl ?_)
  refine JR.callBuf rfl (fun w1 hw => some_ids w1 _ a b c k A B true hw.get hw.get (by omega)) ?_
  intro p q
  repeat (first|refine Wa ?_|refine Wd ?_|refine We rfl ?_|refine Wf (by exact Vb) rfl ?_|refine Ws ?_)
  exact CT.done (p, q) rfl (fun w ho => ho.ent)
end Ab
end Go.Proofs.YtglclakhjmogiaaGreat

/- The law DagKnows returns true. -/
namespace Go.Proofs.YtglclakhjmogiaaGreat
namespace Ab
open Go Go.RowKit
set_option linter.unusedVariables false
set_option linter.unusedSimpArgs false
set_option synthInstance.maxSize 4000
set_option synthInstance.maxHeartbeats 400000
attribute [local irreducible] JC JO JR JQ andThen inBlock OpV Gives retTo JM JS

attribute [local irreducible] hashC idA l0 l1 ents
theorem sl_one {F : Nat → Prop} {w : World} {p : Option Addr} {q : Nat} {I : List ID} (h : (sl p q I).holds F w) (i : Nat) (hi : i < I.length) : (sl (fromA p q i 32) (q - i) [I[i]]).holds F w := by
  have h1 : (sl (fromA p q i 32) (q - i) (I.drop i)).holds F w := sl_from h (by omega)
  have h2 := sl_take (k := 1) (c' := q - i) h1 (by rw [List.length_drop]; omega) ⟨by have := h1.1; rw [List.length_drop] at this; omega, Nat.le_refl _⟩
  have e : (I.drop i).take 1 = [I[i]] := by rw [List.drop_eq_getElem_cons hi]; rfl
  rwa [e] at h2
end Ab
end Go.Proofs.YtglclakhjmogiaaGreat

/- The law DagAnc returns true. -/
namespace Go.Proofs.YtglclakhjmogiaaGreat
namespace Ab
open Go Go.RowKit
set_option linter.unusedVariables false
set_option linter.unusedSimpArgs false
set_option synthInstance.maxSize 4000
set_option synthInstance.maxHeartbeats 400000
attribute [local irreducible] JC JO JR JQ andThen inBlock OpV Gives retTo JM JS

attribute [local irreducible] hashC idA l0 l1 ents
theorem find_out {L : List Commit} (hc : Closed L) {y : ID} (hy : y ∉ cids L) : findR L y = (commit0, false) := by
  have hfd : findC L y = none := by
    rw [findC, List.find?_eq_none]
    intro c hm
    have := (hash_err c).2 (hc.may c hm)
    have h1 : hashO c = some (idC c) := by simp [hashO, this, idC]
    rw [h1]
    simp only [decide_eq_true_eq, Option.some.injEq]
    exact fun e => hy (mem_cids.2 ⟨c, hm, e⟩)
  simp [findR, hfd]
/-- What some know is closed downwards. -/
theorem AncR.down {L : List Commit} (hc : Closed L) {A X : List ID} (h : AncR L A X) {y x : ID} (hy : y ∈ X) (hk : knows L y x) : x ∈ X := by
  rw [h.mem hc] at hy ⊢
  refine ⟨(knows_ids hk).2, .inr ?_⟩
  rcases hy.2 with h1 | ⟨z, hz, h1⟩
  · exact ⟨y, h1, hk⟩
  · exact ⟨z, hz, knows_trans h1 hk⟩
theorem anc_of_down {L : List Commit} (hc : Closed L) {X : List ID} (h1 : X.Pairwise (fun x y => idLt y x = false)) (h2 : X.Nodup) (h3 : ∀ x ∈ X, x ∈ cids L) (h4 : ∀ y ∈ X, ∀ x, knows L y x → x ∈ X) : AncR L X X :=
  ⟨h1, h2, fun _ x => ⟨fun h => ⟨h3 x h, .inl h⟩, fun h => h.2.elim id fun ⟨y, hy, hk⟩ => h4 y hy x hk⟩, fun h => (h hc).elim⟩
theorem AncR.ids {L : List Commit} (hc : Closed L) {A X : List ID} (h : AncR L A X) {x : ID} (hx : x ∈ X) : x ∈ cids L := ((h.mem hc x).1 hx).1
theorem mem_someT {A B : List ID} {x : ID} : x ∈ someIds A B true ↔ x ∈ A ∧ x ∈ B := by
  rw [someIds, mem_sortL, mem_setOf, pickIds, List.mem_filter]
  simp
theorem anc_common {L : List Commit} (hc : Closed L) {A B X Y : List ID} (hX : AncR L A X) (hY : AncR L B Y) : AncR L (someIds X Y true) (someIds X Y true) :=
  anc_of_down hc (by unfold someIds; exact sortL_pairwise _) (by unfold someIds; exact (sortL_perm' _).nodup_iff.2 (setOf_nodup _)) (fun x hx => hX.ids hc (mem_someT.1 hx).1)
    (fun y hy x hk => mem_someT.2 ⟨hX.down hc (mem_someT.1 hy).1 hk, hY.down hc (mem_someT.1 hy).2 hk⟩)
theorem part_ids {L : List Commit} (hc : Closed L) {A X : List ID} (hX : AncR L A X) (x : ID) : x ∈ cids (L.filter fun c => decide (idC c ∈ X)) ↔ x ∈ X := by
  rw [mem_cids]
  constructor
  · rintro ⟨c, hcm, rfl⟩; simpa using (List.mem_filter.1 hcm).2
  · intro hx
    obtain ⟨c, hcm, rfl⟩ := mem_cids.1 (hX.ids hc hx)
    exact ⟨c, List.mem_filter.2 ⟨hcm, by simpa using hx⟩, rfl⟩
theorem part_closed {L : List Commit} (hc : Closed L) {A X : List ID} (hX : AncR L A X) : Closed (L.filter fun c => decide (idC c ∈ X)) := by
  refine hc.sub (fun c hcm => (List.mem_filter.1 hcm).1) (nodup_sub hc.nodup List.filter_sublist) (fun c hcm p hp => ?_)
  obtain ⟨h1, h2⟩ := List.mem_filter.1 hcm
  rw [part_ids hc hX]
  exact hX.down hc (by simpa using h2) (.single ⟨c, h1, rfl, hp, (hc.fine c h1).here p hp⟩)
end Ab
end Go.Proofs.YtglclakhjmogiaaGreat

/- Heads, in plain words: the last ones, what ids join to, the head, what comes next. -/
namespace Go.Proofs.YtglclakhjmogiaaGreat
namespace Ab
open Go Go.RowKit
set_option linter.unusedVariables false
set_option linter.unusedSimpArgs false
set_option synthInstance.maxSize 4000
set_option synthInstance.maxHeartbeats 400000
attribute [local irreducible] JC JO JR JQ andThen inBlock OpV Gives retTo JM JS

attribute [local irreducible] hashC idA l0 l1 ents
open Classical in
noncomputable def closedB (L : List Commit) : Bool := decide (Closed L)
theorem closedB_iff {L : List Commit} : closedB L = true ↔ Closed L := by simp [closedB]
theorem closedB_yes {L : List Commit} (h : Closed L) : closedB L = true := closedB_iff.2 h
theorem closedB_no {L : List Commit} (h : ¬ Closed L) : closedB L = false := by rw [← Bool.not_eq_true, closedB_iff]; exact h
noncomputable def ancF (L : List Commit) (A : List ID) : List ID := Classical.choose (anc_ex L A)
theorem ancF_ok (L : List Commit) (A : List ID) : AncR L A (ancF L A) := Classical.choose_spec (anc_ex L A)
theorem ancF_eq {L : List Commit} {A M : List ID} (h : AncR L A M) : ancF L A = M := (ancF_ok L A).unique h
noncomputable def partF (L : List Commit) (A : List ID) : List Commit := if closedB L then L.filter (fun c => decide (idC c ∈ A)) else []
theorem partF_ok (L : List Commit) (A : List ID) : PartR L A (partF L A) :=
  ⟨fun h => by rw [partF, closedB_yes h, if_pos rfl], fun h => by rw [partF, closedB_no h]; rfl⟩
noncomputable def frontF (L : List Commit) : List ID := if closedB L then someIds (cids L) (parentsL L) false else []
def topL (L : List Commit) : Int := L.foldl (fun g c => max g c.gen) 0
def headC (g : Int) (f : List ID) : Commit := ⟨⟨-1, 0⟩, g, f, op0⟩
def mergeR (g : Int) (f : List ID) : Commit × Bool := if merge (headC g f) then (headC g f, true) else (commit0, false)
noncomputable def joinF (L : List Commit) (A : List ID) : Commit × Bool :=
  match frontF (partF L (ancF L A)) with
  | [] => (commit0, false)
  | [x] => findR L x
  | f => mergeR (topL (partF L f) + 1) f
noncomputable def headF (L : List Commit) : Commit × Bool := joinF L (idsP L)
noncomputable def baseF (L : List Commit) (A B : List ID) : List ID := someIds (ancF L A) (ancF L B) true
noncomputable def nextC (L : List Commit) (ev : Ev_) (o : Op_) : Commit := ⟨ev, topL L + 1, frontF L, o⟩
noncomputable def nextF (L : List Commit) (ev : Ev_) (o : Op_) : Commit × Bool :=
  if closedB L && may (nextC L ev o) && closedB (L ++ [nextC L ev o]) then (nextC L ev o, true) else (commit0, false)

theorem mem_someF {A B : List ID} {x : ID} : x ∈ someIds A B false ↔ x ∈ A ∧ x ∉ B := by
  rw [someIds, mem_sortL, mem_setOf, pickIds, List.mem_filter]
  simp
theorem some_nodup (A B : List ID) (w : Bool) : (someIds A B w).Nodup := by unfold someIds; exact (sortL_perm' _).nodup_iff.2 (setOf_nodup _)
theorem some_sorted (A B : List ID) (w : Bool) : (someIds A B w).Pairwise (fun x y => idLt y x = false) := by unfold someIds; exact sortL_pairwise _
theorem some_eq {A B C D : List ID} {w v : Bool} (h : ∀ x, x ∈ someIds A B w ↔ x ∈ someIds C D v) : someIds A B w = someIds C D v :=
  sorted_unique ((List.perm_ext_iff_of_nodup (some_nodup _ _ _) (some_nodup _ _ _)).2 h) (some_sorted _ _ _) (some_sorted _ _ _)
theorem mem_parentsL {L : List Commit} {x : ID} : x ∈ parentsL L ↔ ∃ c ∈ L, x ∈ c.parents := by simp [parentsL]
theorem mem_front {L : List Commit} (hc : Closed L) {x : ID} : x ∈ frontF L ↔ x ∈ cids L ∧ ∀ c ∈ L, x ∉ c.parents := by
  rw [frontF, closedB_yes hc, if_pos rfl, mem_someF, mem_parentsL]
  simp
theorem front_not {L : List Commit} (hc : ¬ Closed L) : frontF L = [] := by rw [frontF, closedB_no hc]; rfl
theorem front_nodup (L : List Commit) : (frontF L).Nodup := by
  unfold frontF; split
  · exact some_nodup _ _ _
  · exact List.nodup_nil
theorem front_sorted (L : List Commit) : (frontF L).Pairwise (fun x y => idLt y x = false) := by
  unfold frontF; split
  · exact some_sorted _ _ _
  · exact List.Pairwise.nil
theorem rises_of : ∀ (L : List ID), L.Pairwise (fun x y => idLt y x = false) → L.Nodup → rises L = true
  | [], _, _ => rfl
  | [_], _, _ => rfl
  | a :: b :: l, h1, h2 => by
    rw [List.pairwise_cons] at h1
    rw [List.nodup_cons] at h2
    have h3 : idLt a b = true := by
      rw [← Bool.not_eq_false]
      intro hn
      have := idLt_total hn (h1.1 b (by simp))
      exact h2.1 (by simp [this])
    simp only [rises, h3, rises_of (b :: l) h1.2 h2.2, Bool.and_self]
theorem front_rises (L : List Commit) : rises (frontF L) = true := rises_of _ (front_sorted L) (front_nodup L)
/-- Each commit is a last one, or some last one knows it. -/
theorem front_over {L : List Commit} (hc : Closed L) : ∀ (n : Nat) (x : ID), x ∈ cids L → (topL L - genAt L x).toNat ≤ n → x ∈ frontF L ∨ ∃ y ∈ frontF L, knows L y x := by
  have htop : ∀ x ∈ cids L, genAt L x ≤ topL L := fun x hx => by
    obtain ⟨c, hm, rfl⟩ := mem_cids.1 hx
    rw [genAt_of hc.nodup hm]
    have key : ∀ (M : List Commit) (g : Int), g ≤ M.foldl (fun g c => max g c.gen) g ∧ ∀ d ∈ M, d.gen ≤ M.foldl (fun g c => max g c.gen) g := by
      intro M
      induction M with
      | nil => intro g; exact ⟨Int.le_refl _, by simp⟩
      | cons e M ih =>
        intro g
        obtain ⟨h1, h2⟩ := ih (max g e.gen)
        refine ⟨by simp only [List.foldl_cons]; omega, fun d hd => ?_⟩
        rcases List.mem_cons.1 hd with rfl | hd
        · simp only [List.foldl_cons]; omega
        · exact h2 d hd
    exact (key L 0).2 c hm
  intro n
  induction n with
  | zero =>
    intro x hx hn
    refine .inl ((mem_front hc).2 ⟨hx, fun c hm hp => ?_⟩)
    have h1 := hc.par_gen (x := idC c) (y := x) ⟨c, hm, rfl, hp, hx⟩
    have h2 := htop (idC c) (mem_cids.2 ⟨c, hm, rfl⟩)
    omega
  | succ n ih =>
    intro x hx hn
    by_cases hf : ∀ c ∈ L, x ∉ c.parents
    · exact .inl ((mem_front hc).2 ⟨hx, hf⟩)
    · obtain ⟨c, hm, hp⟩ : ∃ c, c ∈ L ∧ x ∈ c.parents := by
        apply Classical.byContradiction
        intro hn'
        exact hf fun c hm hp => hn' ⟨c, hm, hp⟩
      have hpar : par L (idC c) x := ⟨c, hm, rfl, hp, hx⟩
      have h1 := hc.par_gen hpar
      have h2 := htop (idC c) (mem_cids.2 ⟨c, hm, rfl⟩)
      rcases ih (idC c) (mem_cids.2 ⟨c, hm, rfl⟩) (by omega) with h | ⟨y, hy, hk⟩
      · exact .inr ⟨idC c, h, .single hpar⟩
      · exact .inr ⟨y, hy, .tail hk hpar⟩
theorem front_all {L : List Commit} (hc : Closed L) {x : ID} (hx : x ∈ cids L) : x ∈ frontF L ∨ ∃ y ∈ frontF L, knows L y x := front_over hc _ x hx (Nat.le_refl _)
theorem front_free {L : List Commit} (hc : Closed L) {x y : ID} (hx : x ∈ frontF L) : ¬ knows L y x := by
  intro h
  have key : ∃ z, par L z x := by
    cases h with
    | single h1 => exact ⟨_, h1⟩
    | tail _ h1 => exact ⟨_, h1⟩
  obtain ⟨z, c, hm, _, hp, _⟩ := key
  exact ((mem_front hc).1 hx).2 c hm hp
theorem front_anc {L : List Commit} (hc : Closed L) : AncR L (frontF L) (sortL (setOf (cids L))) :=
  ⟨sortL_pairwise _, (sortL_perm' _).nodup_iff.2 (setOf_nodup _), fun _ x => by
    rw [mem_sortL, mem_setOf, inAnc]
    exact ⟨fun h => ⟨h, (front_all hc h).imp id fun ⟨y, hy, hk⟩ => ⟨y, hy, hk⟩⟩, fun h => h.1⟩, fun h => (h hc).elim⟩
theorem front_nil {L : List Commit} (hc : Closed L) : frontF L = [] ↔ L = [] := by
  constructor
  · intro h
    cases L with
    | nil => rfl
    | cons c L =>
      rcases front_all hc (x := idC c) (mem_cids.2 ⟨c, by simp, rfl⟩) with h1 | ⟨y, h1, _⟩ <;> (rw [h] at h1; cases h1)
  · rintro rfl
    rw [List.eq_nil_iff_forall_not_mem]
    intro x hx
    have := ((mem_front hc).1 hx).1
    simp [cids] at this
theorem front_perm {L M : List Commit} (h : L.Perm M) : frontF L = frontF M := by
  by_cases hc : Closed L
  · have hc' := Closed.perm h hc
    refine sorted_unique ((List.perm_ext_iff_of_nodup (front_nodup L) (front_nodup M)).2 fun x => ?_) (front_sorted L) (front_sorted M)
    rw [mem_front hc, mem_front hc', (cids_perm h).mem_iff]
    exact and_congr_right fun _ => ⟨fun h1 c hm => h1 c (h.mem_iff.2 hm), fun h1 c hm => h1 c (h.mem_iff.1 hm)⟩
  · rw [front_not hc, front_not (fun hm => hc (Closed.perm h.symm hm))]
/-- Two last ones have two nodes. -/
theorem front_node {L : List Commit} (hc : Closed L) {c d : Commit} (hcm : c ∈ L) (hdm : d ∈ L) (h1 : idC c ∈ frontF L) (h2 : idC d ∈ frontF L) (h : c.ev.node = d.ev.node) : idC c = idC d := by
  apply Classical.byContradiction
  intro hne
  obtain ⟨h3, h4⟩ := hc.ev c hcm d hdm hne h
  obtain ⟨h5, h6⟩ := hc.ev d hdm c hcm (fun e => hne e.symm) h.symm
  rcases Int.lt_trichotomy c.ev.seq d.ev.seq with h7 | h7 | h7
  · exact front_free hc h1 (h6 h7)
  · exact h3 h7
  · exact front_free hc h2 (h4 h7)
theorem node_in {L : List Commit} (hc : Closed L) {c : Commit} (hm : c ∈ L) : 0 ≤ c.ev.node ∧ c.ev.node ≤ 7 := by
  have h1 := hc.may c hm
  have h2 := (hc.fine c hm).merge
  simp only [merge, h1, Bool.and_true, decide_eq_false_iff_not] at h2
  unfold may at h1
  split at h1
  · cases h1
  · simp only [h2, if_false, inB, Bool.and_eq_true, decide_eq_true_eq] at h1
    exact ⟨h1.1.1.1, h1.1.1.2⟩
theorem front_few {L : List Commit} (hc : Closed L) : (frontF L).length ≤ 8 := by
  have hpick : ∀ x ∈ frontF L, ∃ c ∈ L, idC c = x := fun x hx => mem_cids.1 ((mem_front hc).1 hx).1
  let g : ID → Int := fun x => match L.find? (fun c => decide (idC c = x)) with | some c => c.ev.node | none => 0
  have hg : ∀ c ∈ L, g (idC c) = c.ev.node := fun c hm => by
    show (match L.find? (fun d => decide (idC d = idC c)) with | some c => c.ev.node | none => 0) = _
    cases hf : L.find? (fun d => decide (idC d = idC c)) with
    | none => exact absurd (List.find?_eq_none.1 hf c hm) (by simp)
    | some d =>
      have := id_inj hc.nodup (List.mem_of_find?_eq_some hf) hm (by simpa using List.find?_some hf)
      rw [this]
  have hnd : ((frontF L).map g).Nodup := by
    rw [List.nodup_iff_pairwise_ne, List.pairwise_map]
    have h0 := List.nodup_iff_pairwise_ne.1 (front_nodup L)
    refine List.Pairwise.imp_of_mem ?_ h0
    intro x y hx hy hne e
    obtain ⟨c, hcm, rfl⟩ := hpick x hx
    obtain ⟨d, hdm, rfl⟩ := hpick y hy
    rw [hg c hcm, hg d hdm] at e
    exact hne (front_node hc hcm hdm hx hy e)
  have := nodup_len ((frontF L).map g) [0, 1, 2, 3, 4, 5, 6, 7] hnd (fun n hn => by
    obtain ⟨x, hx, rfl⟩ := List.mem_map.1 hn
    obtain ⟨c, hcm, rfl⟩ := hpick x hx
    have := node_in hc hcm
    rw [hg c hcm]
    simp only [List.mem_cons, List.not_mem_nil, or_false]
    omega)
  simpa using this
/- generations -/
theorem topL_key (M : List Commit) : ∀ g : Int, g ≤ M.foldl (fun g c => max g c.gen) g ∧ (∀ d ∈ M, d.gen ≤ M.foldl (fun g c => max g c.gen) g) ∧ (M.foldl (fun g c => max g c.gen) g = g ∨ ∃ d ∈ M, d.gen = M.foldl (fun g c => max g c.gen) g) := by
  induction M with
  | nil => intro g; exact ⟨Int.le_refl _, by simp, .inl rfl⟩
  | cons e M ih =>
    intro g
    obtain ⟨h1, h2, h3⟩ := ih (max g e.gen)
    simp only [List.foldl_cons]
    refine ⟨by omega, fun d hd => ?_, ?_⟩
    · rcases List.mem_cons.1 hd with rfl | hd
      · omega
      · exact h2 d hd
    · rcases h3 with h3 | ⟨d, hd, h3⟩
      · by_cases hge : e.gen ≤ g
        · left; omega
        · exact .inr ⟨e, by simp, by omega⟩
      · exact .inr ⟨d, by simp [hd], h3⟩
theorem topL_ge (M : List Commit) {d : Commit} (h : d ∈ M) : d.gen ≤ topL M := (topL_key M 0).2.1 d h
theorem topL_pos (M : List Commit) : 0 ≤ topL M := (topL_key M 0).1
theorem topL_eq {M : List Commit} {c : Commit} (hm : c ∈ M) (h0 : 0 ≤ c.gen) (h : ∀ d ∈ M, d.gen ≤ c.gen) : topL M = c.gen := by
  have h1 := topL_ge M hm
  rcases (topL_key M 0).2.2 with h3 | ⟨d, hd, h3⟩
  · have : topL M = 0 := h3
    omega
  · have : d.gen = topL M := h3
    have := h d hd
    omega
theorem topL_mem {M N : List Commit} (h : ∀ c, c ∈ M ↔ c ∈ N) : topL M = topL N := by
  have h1 := topL_pos M
  have h2 := topL_pos N
  have key : ∀ {A B : List Commit}, (∀ c ∈ A, c ∈ B) → topL A ≤ topL B := fun {A B} hs => by
    rcases (topL_key A 0).2.2 with h3 | ⟨d, hd, h3⟩
    · have : topL A = 0 := h3
      have := topL_pos B
      omega
    · have : d.gen = topL A := h3
      have := topL_ge B (hs d hd)
      omega
  have h3 := key (A := M) (B := N) fun c hc => (h c).1 hc
  have h4 := key (A := N) (B := M) fun c hc => (h c).2 hc
  omega
theorem maxGen_key (L : List Commit) (ps : List ID) : ∀ g : Int, g ≤ ps.foldl (fun g p => max g (genAt L p)) g ∧ (ps.foldl (fun g p => max g (genAt L p)) g = g ∨ ∃ p ∈ ps, genAt L p = ps.foldl (fun g p => max g (genAt L p)) g) := by
  induction ps with
  | nil => intro g; exact ⟨Int.le_refl _, .inl rfl⟩
  | cons e M ih =>
    intro g
    obtain ⟨h1, h3⟩ := ih (max g (genAt L e))
    simp only [List.foldl_cons]
    refine ⟨by omega, ?_⟩
    rcases h3 with h3 | ⟨d, hd, h3⟩
    · by_cases hge : genAt L e ≤ g
      · left; omega
      · exact .inr ⟨e, by simp, by omega⟩
    · exact .inr ⟨d, by simp [hd], h3⟩
theorem maxGen_ge (L : List Commit) (ps : List ID) : 0 ≤ maxGen L ps := (maxGen_key L ps 0).1
theorem maxGen_at (L : List Commit) (ps : List ID) (h : 1 ≤ maxGen L ps) : ∃ p ∈ ps, genAt L p = maxGen L ps := by
  rcases (maxGen_key L ps 0).2 with h1 | h1
  · have : maxGen L ps = 0 := h1
    omega
  · exact h1
theorem gen_pos {L : List Commit} (hc : Closed L) {c : Commit} (hm : c ∈ L) : 1 ≤ c.gen := by
  have := maxGen_ge L c.parents
  rw [(hc.fine c hm).gen]; omega
/-- Each smaller generation is there. -/
theorem gens_below {L : List Commit} (hc : Closed L) : ∀ (n : Nat) (c : Commit), c ∈ L → c.gen = n → ∀ m : Nat, 1 ≤ m → m ≤ n → ∃ d ∈ L, d.gen = m := by
  intro n
  induction n with
  | zero => intro c _ _ m h1 h2; omega
  | succ n ih =>
    intro c hm hg m h1 h2
    by_cases he : m = n + 1
    · exact ⟨c, hm, by rw [he, hg]⟩
    · have h3 : maxGen L c.parents = n := by have := (hc.fine c hm).gen; omega
      obtain ⟨p, hp, hpg⟩ := maxGen_at L c.parents (by omega)
      obtain ⟨d, hd, rfl⟩ := mem_cids.1 ((hc.fine c hm).here p hp)
      rw [genAt_of hc.nodup hd] at hpg
      exact ih d hd (by omega) m h1 (by omega)
theorem topL_few {L : List Commit} (hc : Closed L) : topL L ≤ L.length := by
  rcases (topL_key L 0).2.2 with h3 | ⟨c, hm, h3⟩
  · have : topL L = 0 := h3
    omega
  · have h3 : c.gen = topL L := h3
    obtain ⟨n, hn⟩ : ∃ n : Nat, c.gen = n := ⟨c.gen.toNat, by have := gen_pos hc hm; omega⟩
    have := nodup_len ((List.range' 1 n).map (fun m : Nat => (m : Int))) (L.map (·.gen)) (by
      rw [List.nodup_iff_pairwise_ne, List.pairwise_map]
      exact (List.nodup_iff_pairwise_ne.1 (List.nodup_range' (s := 1) (n := n))).imp fun h e => h (by omega)) (fun g hg => by
      obtain ⟨m, hm', rfl⟩ := List.mem_map.1 hg
      rw [List.mem_range'] at hm'
      obtain ⟨i, hi, rfl⟩ := hm'
      obtain ⟨d, hd, hdg⟩ := gens_below hc n c hm hn (1 + 1 * i) (by omega) (by omega)
      exact List.mem_map.2 ⟨d, hd, hdg⟩)
    simp only [List.length_map, List.length_range'] at this
    omega
/-- The greatest generation is one of the last ones'. -/
theorem topL_front {L : List Commit} (hc : Closed L) : topL (partF L (frontF L)) = topL L := by
  rw [(partF_ok L (frontF L)).part hc]
  rcases (topL_key L 0).2.2 with h3 | ⟨c, hm, h3⟩
  · have h3 : topL L = 0 := h3
    have : L = [] := by
      cases L with
      | nil => rfl
      | cons d L =>
        have h4 := gen_pos hc (c := d) (by simp)
        have h5 := topL_ge (d :: L) (d := d) (by simp)
        omega
    subst this; rfl
  · have h3 : c.gen = topL L := h3
    have hcf : idC c ∈ frontF L := by
      rcases front_all hc (x := idC c) (mem_cids.2 ⟨c, hm, rfl⟩) with h | ⟨y, hy, hk⟩
      · exact h
      · have h4 := hc.knows_gen hk
        obtain ⟨d, hd, rfl⟩ := mem_cids.1 (knows_ids hk).1
        rw [genAt_of hc.nodup hm, genAt_of hc.nodup hd] at h4
        have := topL_ge L hd
        omega
    rw [← h3]
    refine topL_eq (List.mem_filter.2 ⟨hm, by simpa using hcf⟩) (by have := gen_pos hc hm; omega) (fun d hd => ?_)
    have := topL_ge L (List.mem_filter.1 hd).1
    omega
end Ab
end Go.Proofs.YtglclakhjmogiaaGreat

/- Heads, in plain words: what ids join to, in any order; the head; what comes next. -/
namespace Go.Proofs.YtglclakhjmogiaaGreat
namespace Ab
open Go Go.RowKit
set_option linter.unusedVariables false
set_option linter.unusedSimpArgs false
set_option synthInstance.maxSize 4000
set_option synthInstance.maxHeartbeats 400000
attribute [local irreducible] JC JO JR JQ andThen inBlock OpV Gives retTo JM JS

attribute [local irreducible] hashC idA l0 l1 ents
theorem find_mem {L : List Commit} (hc : Closed L) {c : Commit} (hm : c ∈ L) : findR L (idC c) = (c, true) := by
  obtain ⟨i, hi, rfl⟩ := List.getElem_of_mem hm
  exact find_at hc i hi
theorem find_perm {L M : List Commit} (h : L.Perm M) (hc : Closed L) (x : ID) : findR L x = findR M x := by
  have hc' := Closed.perm h hc
  by_cases hx : x ∈ cids L
  · obtain ⟨c, hm, rfl⟩ := mem_cids.1 hx
    rw [find_mem hc hm, find_mem hc' (h.mem_iff.1 hm)]
  · rw [find_out hc hx, find_out hc' (fun h' => hx ((cids_perm h).mem_iff.2 h'))]
theorem ancR_perm {L M : List Commit} {A B X : List ID} (h : L.Perm M) (hAB : ∀ x, x ∈ A ↔ x ∈ B) (hX : AncR L A X) : AncR M B X := by
  refine ⟨hX.sorted, hX.nodup, fun hc x => ?_, fun hn => hX.not fun hc => hn (Closed.perm h hc)⟩
  rw [hX.mem (Closed.perm h.symm hc)]
  unfold inAnc
  rw [knows_perm h, (cids_perm h).mem_iff, hAB]
  simp only [hAB]
theorem anc_perm {L M : List Commit} {A B : List ID} (h : L.Perm M) (hAB : ∀ x, x ∈ A ↔ x ∈ B) : ancF L A = ancF M B :=
  (ancF_eq (ancR_perm h hAB (ancF_ok L A))).symm
theorem part_perm {L M : List Commit} (h : L.Perm M) (A : List ID) : (partF L A).Perm (partF M A) := by
  by_cases hc : Closed L
  · rw [(partF_ok L A).part hc, (partF_ok M A).part (Closed.perm h hc)]
    exact h.filter _
  · rw [(partF_ok L A).not hc, (partF_ok M A).not fun hm => hc (Closed.perm h.symm hm)]
theorem join_not {L : List Commit} (hc : ¬ Closed L) (A : List ID) : joinF L A = (commit0, false) := by
  have h1 : partF L (ancF L A) = [] := (partF_ok L _).not hc
  unfold joinF
  rw [h1, (front_nil closed_nil).2 rfl]
theorem join_perm {L M : List Commit} {A B : List ID} (h : L.Perm M) (hAB : ∀ x, x ∈ A ↔ x ∈ B) : joinF L A = joinF M B := by
  by_cases hc : Closed L
  · unfold joinF
    rw [anc_perm h hAB, front_perm (part_perm h (ancF M B))]
    split
    · rfl
    · rw [find_perm h hc]
    · rename_i f _ _
      rw [topL_mem fun c => (part_perm h _).mem_iff]
  · rw [join_not hc, join_not fun hm => hc (Closed.perm h.symm hm)]
theorem anc_twice {L : List Commit} (hc : Closed L) (A : List ID) : ancF L (ancF L A) = ancF L A :=
  ancF_eq (anc_of_down hc (ancF_ok L A).sorted (ancF_ok L A).nodup (fun x hx => (ancF_ok L A).ids hc hx) (fun y hy x hk => (ancF_ok L A).down hc hy hk))
theorem join_anc {L : List Commit} (hc : Closed L) (A : List ID) : joinF L (ancF L A) = joinF L A := by
  unfold joinF; rw [anc_twice hc]
theorem part_closedF {L : List Commit} (hc : Closed L) (A : List ID) : Closed (partF L (ancF L A)) := by
  rw [(partF_ok L _).part hc]; exact part_closed hc (ancF_ok L A)
theorem part_sub {L : List Commit} {A : List ID} {c : Commit} (h : c ∈ partF L A) : c ∈ L := by
  unfold partF at h
  split at h
  · exact (List.mem_filter.1 h).1
  · cases h
theorem merge_may {c : Commit} (h : merge c = true) : may c = true := by
  simp only [merge, Bool.and_eq_true] at h; exact h.2
theorem mergeR_may {g : Int} {f : List ID} {c : Commit} (h : mergeR g f = (c, true)) : may c = true := by
  unfold mergeR at h
  split at h
  · rename_i hm
    injection h with h1 h2
    rw [← h1]; exact merge_may hm
  · injection h with h1 h2; cases h2
theorem join_may {L : List Commit} {A : List ID} {c : Commit} (h : joinF L A = (c, true)) : may c = true := by
  by_cases hc : Closed L
  · unfold joinF at h
    split at h
    · injection h with h1 h2; cases h2
    · rename_i x hx
      have h1 : x ∈ frontF (partF L (ancF L A)) := by rw [hx]; simp
      obtain ⟨d, hd, rfl⟩ := mem_cids.1 ((mem_front (part_closedF hc A)).1 h1).1
      rw [find_mem hc (part_sub hd)] at h
      injection h with h2 h3
      rw [← h2]; exact hc.may _ (part_sub hd)
    · exact mergeR_may h
  · rw [join_not hc] at h; injection h with h1 h2; cases h2
theorem head_eq {L : List Commit} (hc : Closed L) : headF L = match frontF L with | [] => (commit0, false) | [x] => findR L x | f => mergeR (topL L + 1) f := by
  have h1 : ancF L (cids L) = sortL (setOf (cids L)) := ancF_eq (anc_all hc)
  have h2 : partF L (sortL (setOf (cids L))) = L := by
    rw [(partF_ok L _).part hc, List.filter_eq_self]
    intro c hm
    exact decide_eq_true (by rw [mem_sortL, mem_setOf]; exact mem_cids.2 ⟨c, hm, rfl⟩)
  unfold headF joinF
  rw [idsP_all hc.may, h1, h2]
  cases hf : frontF L with
  | nil => rfl
  | cons x l =>
    cases l with
    | nil => rfl
    | cons y l =>
      dsimp only
      rw [← hf, topL_front hc]
theorem head_perm {L M : List Commit} (h : L.Perm M) : headF L = headF M := by
  by_cases hc : Closed L
  · have hc' := Closed.perm h hc
    unfold headF
    rw [idsP_all hc.may, idsP_all hc'.may]
    exact join_perm h fun x => (cids_perm h).mem_iff
  · rw [headF, headF, join_not hc, join_not fun hm => hc (Closed.perm h.symm hm)]
theorem merge_head {g : Int} {f : List ID} (hg : 2 ≤ g) (hg2 : g ≤ 1048576) (hf : 2 ≤ f.length) (hf2 : f.length ≤ 8) (hr : rises f = true) : merge (headC g f) = true := by
  have h1 : inB g 1 1048576 = true := by simp [inB]; omega
  have h2 : ¬ 8 < f.length := by omega
  have h3 : ¬ g = 1 := by omega
  have h4 : f ≠ [] := by rintro rfl; simp at hf
  have h5 : may (headC g f) = true := by
    unfold may
    simp only [headC]
    rw [h1, hr]
    simp [h2, h3, h4, hf]
  simp only [merge, h5, Bool.and_true]
  simp [headC]
theorem head_merge {L : List Commit} (hc : Closed L) (hl : L.length ≤ 1000) (h : 2 ≤ (frontF L).length) : headF L = (headC (topL L + 1) (frontF L), true) ∧ merge (headC (topL L + 1) (frontF L)) = true := by
  have h1 := topL_few hc
  have h2 : 1 ≤ topL L := by
    cases L with
    | nil => rw [(front_nil closed_nil).2 rfl] at h; simp at h
    | cons c L =>
      have := gen_pos hc (c := c) (by simp)
      have := topL_ge (c :: L) (d := c) (by simp)
      omega
  have h3 := merge_head (g := topL L + 1) (by omega) (by omega) h (front_few hc) (front_rises L)
  refine ⟨?_, h3⟩
  rw [head_eq hc]
  split
  · rename_i hf; rw [hf] at h; simp at h
  · rename_i x hf; rw [hf] at h; simp at h
  · rw [mergeR, if_pos h3]
theorem head_one {L : List Commit} (hc : Closed L) (hn : L ≠ []) (h : (frontF L).length < 2) : ∃ c ∈ L, headF L = (c, true) ∧ c.gen = topL L := by
  cases hf : frontF L with
  | nil => exact (hn ((front_nil hc).1 hf)).elim
  | cons x l =>
    cases l with
    | cons y l => rw [hf] at h; simp at h; omega
    | nil =>
      obtain ⟨c, hm, rfl⟩ := mem_cids.1 ((mem_front hc).1 (show x ∈ frontF L by rw [hf]; simp)).1
      refine ⟨c, hm, by rw [head_eq hc, hf]; exact find_mem hc hm, ?_⟩
      refine (topL_eq hm (by have := gen_pos hc hm; omega) fun d hd => ?_).symm
      rcases front_all hc (x := idC d) (mem_cids.2 ⟨d, hd, rfl⟩) with h1 | ⟨y, hy, hk⟩
      · rw [hf, List.mem_singleton] at h1
        rw [id_inj hc.nodup hd hm h1]
        exact Int.le_refl _
      · rw [hf, List.mem_singleton] at hy
        subst hy
        have := hc.knows_gen hk
        rw [genAt_of hc.nodup hm, genAt_of hc.nodup hd] at this
        omega
theorem head_nil : headF [] = (commit0, false) := by rw [head_eq closed_nil, (front_nil closed_nil).2 rfl]
/- what comes next -/
theorem next_is {L : List Commit} {ev : Ev_} {o : Op_} {c : Commit} (h : nextF L ev o = (c, true)) : c = nextC L ev o ∧ Closed L ∧ may c = true ∧ Closed (L ++ [c]) := by
  unfold nextF at h
  split at h
  · rename_i hb
    injection h with h1 h2
    subst h1
    simp only [Bool.and_eq_true, closedB_iff] at hb
    exact ⟨rfl, hb.1.1, hb.1.2, hb.2⟩
  · injection h with h1 h2; cases h2
theorem next_not {L : List Commit} {ev : Ev_} {o : Op_} {c : Commit} (h : nextF L ev o = (c, false)) : c = commit0 := by
  unfold nextF at h
  split at h
  · injection h with h1 h2; cases h2
  · injection h with h1 h2; exact h1.symm
theorem next_front {L : List Commit} {ev : Ev_} {o : Op_} {c : Commit} (h : nextF L ev o = (c, true)) : frontF (L ++ [c]) = [idC c] := by
  obtain ⟨h1, hc, hm, hc2⟩ := next_is h
  have hpar : c.parents = frontF L := by rw [h1]; rfl
  have hnd := hc2.nodup
  rw [cids_snoc, List.nodup_append] at hnd
  have hout : idC c ∉ cids L := fun hx => hnd.2.2 _ hx _ (by simp) rfl
  have hmem : ∀ x, x ∈ frontF (L ++ [c]) ↔ x ∈ [idC c] := fun x => by
    rw [mem_front hc2, cids_snoc, List.mem_append, List.mem_singleton]
    constructor
    · rintro ⟨hx | hx, hp⟩
      · exfalso
        rcases front_all hc hx with h2 | ⟨y, hy, hk⟩
        · exact hp c (by simp) (by rw [hpar]; exact h2)
        · have key : ∃ z, par L z x := by
            cases hk with
            | single h1 => exact ⟨_, h1⟩
            | tail _ h1 => exact ⟨_, h1⟩
          obtain ⟨z, d, hd, _, hpd, _⟩ := key
          exact hp d (by simp [hd]) hpd
      · exact hx
    · rintro rfl
      refine ⟨.inr rfl, fun d hd hp => ?_⟩
      rcases List.mem_append.1 hd with hd | hd
      · exact hout ((hc.fine d hd).here _ hp)
      · rw [List.mem_singleton] at hd
        subst hd
        rw [hpar] at hp
        exact hout ((mem_front hc).1 hp).1
  exact sorted_unique ((List.perm_ext_iff_of_nodup (front_nodup _) (by simp)).2 hmem) (front_sorted _) (by simp)
theorem next_head {L : List Commit} {ev : Ev_} {o : Op_} {c : Commit} (h : nextF L ev o = (c, true)) : headF (L ++ [c]) = (c, true) := by
  obtain ⟨h1, hc, hm, hc2⟩ := next_is h
  rw [head_eq hc2, next_front h]
  exact find_mem hc2 (by simp)
theorem next_anc {L : List Commit} {ev : Ev_} {o : Op_} {c : Commit} (h : nextF L ev o = (c, true)) : ∃ M, AncR (L ++ [c]) [idC c] M ∧ M.length = (L ++ [c]).length := by
  obtain ⟨h1, hc, hm, hc2⟩ := next_is h
  have h2 := front_anc hc2
  rw [next_front h] at h2
  refine ⟨_, h2, ?_⟩
  rw [sortL_length, ((List.perm_ext_iff_of_nodup (setOf_nodup _) hc2.nodup).2 fun x => mem_setOf _ x).length_eq, cids_length]
/- what two know -/
theorem base_ok {L : List Commit} (hc : Closed L) (A B : List ID) : AncR L (baseF L A B) (baseF L A B) := anc_common hc (ancF_ok L A) (ancF_ok L B)
theorem base_turn (L : List Commit) (A B : List ID) : baseF L B A = baseF L A B := some_eq fun x => by rw [mem_someT, mem_someT]; exact and_comm
theorem mem_base {L : List Commit} {A B : List ID} {x : ID} : x ∈ baseF L A B ↔ x ∈ ancF L A ∧ x ∈ ancF L B := mem_someT
end Ab
end Go.Proofs.YtglclakhjmogiaaGreat

/- Contracts of the document's layer 1: Right, Word, Four, Long, Pick, Most say what the program's own do. -/
namespace Go.Proofs.YtglclakhjmogiaaGreat
namespace Ab
open Go Go.RowKit
set_option linter.unusedVariables false
set_option linter.unusedSimpArgs false
set_option synthInstance.maxSize 4000
set_option synthInstance.maxHeartbeats 400000
attribute [local irreducible] JC JO JR JQ andThen inBlock OpV Gives retTo JM JS

theorem sub_and (b c : UInt32) : b - (c &&& b) = b &&& ~~~c := by
  have h : (c &&& b) + (b &&& ~~~c) = b := by
    apply UInt32.toBitVec_inj.1
    simp only [UInt32.toBitVec_add, UInt32.toBitVec_and, UInt32.toBitVec_not]
    rw [BitVec.add_eq_or_of_and_eq_zero]
    · ext i hi
      simp
      cases c.toBitVec[i] <;> simp
    · ext i hi
      simp
      cases c.toBitVec[i] <;> simp
  have h2 : b - (c &&& b) = (c &&& b) + (b &&& ~~~c) - (c &&& b) := by rw [h]
  rw [h2, UInt32.add_comm, UInt32.add_sub_cancel]
theorem pick_ref (w : World) (F : Nat → Prop) (c a b : UInt32) : GivesV Tryz.prog 202 [w32 c, w32 a, w32 b] w F (w32 (pick32 c a b)) := by
  refine gives_of Tryz.func202 rfl Tryz.ntmps202 rfl rfl [] (.start w F) ?_
  repeat (first | refine Wa ?_ | refine Wb ?_ | refine Wc ?_ | refine Wd ?_ | refine We rfl ?_ | refine Wf (by first | exact Va | exact Vb | exact OpV.and32 | exact OpV.or32 | exact OpV.xor32 | exact OpV.andNot32 | exact OpV.add32 | exact OpV.sub32 | exact OpV.mul32) rfl ?_ | refine Ws ?_ | refine Wt ?_)
  exact CT.done () (by simp only [packed, pick32, sub_and]) (fun w ho => ho.ent)
theorem most_or (a b c : UInt32) : ((a &&& b) ||| (a &&& c)) ||| (b &&& c) = most32 a b c := by
  apply UInt32.toBitVec_inj.1
  simp only [most32, UInt32.toBitVec_or, UInt32.toBitVec_and, UInt32.toBitVec_xor]
  ext i hi
  simp
  cases a.toBitVec[i] <;> cases b.toBitVec[i] <;> cases c.toBitVec[i] <;> rfl
theorem most_ref (w : World) (F : Nat → Prop) (a b c : UInt32) : GivesV Tryz.prog 203 [w32 a, w32 b, w32 c] w F (w32 (most32 a b c)) := by
  refine gives_of Tryz.func203 rfl Tryz.ntmps203 rfl rfl [] (.start w F) ?_
  repeat (first | refine Wa ?_ | refine Wb ?_ | refine Wc ?_ | refine Wd ?_ | refine We rfl ?_ | refine Wf (by first | exact Va | exact Vb | exact OpV.and32 | exact OpV.or32 | exact OpV.xor32 | exact OpV.andNot32 | exact OpV.add32 | exact OpV.sub32 | exact OpV.mul32) rfl ?_ | refine Ws ?_ | refine Wt ?_)
  exact CT.done () (by simp only [packed, most_or]) (fun w ho => ho.ent)
theorem right_ref (w : World) (F : Nat → Prop) (x : UInt32) (k : Nat) (hk : 1 ≤ k ∧ k ≤ 31) : GivesV Tryz.prog 201 [w32 x, .int .i64 (k : Int)] w F (w32 (rotR x k)) := by
  refine gives_of Tryz.func201 rfl Tryz.ntmps201 rfl rfl [] (.start w F) ?_
  repeat (first | refine Wa ?_ | refine Wb ?_ | refine Wc ?_ | refine Wd ?_ | refine We rfl ?_ | refine Wf (by first | exact Va | exact Vb | exact OpV.and32 | exact OpV.or32 | exact OpV.xor32 | exact OpV.andNot32 | exact OpV.add32 | exact OpV.sub32 | exact OpV.mul32) rfl ?_ | refine Ws ?_ | refine Wt ?_)
  refine Wf (OpV.rem (by decide)) rfl ?_
  refine JO.reslot 6 (.int .i64 (k : Int)) (by congr 1; rw [Int.tmod_eq_emod_of_nonneg (by omega)]; omega) ?_
  repeat (first | refine Wa ?_ | refine Wb ?_ | refine Wc ?_ | refine Wd ?_ | refine We rfl ?_ | refine Wf (by first | exact Va | exact Vb | exact OpV.and32 | exact OpV.or32 | exact OpV.xor32 | exact OpV.andNot32 | exact OpV.add32 | exact OpV.sub32 | exact OpV.mul32) rfl ?_ | refine Ws ?_ | refine Wt ?_)
  repeat (first|refine Wa ?_|refine Wb ?_|refine Wc ?_|refine Wd ?_|refine We rfl ?_|refine Wf (by first|exact Va|exact Vg) rfl ?_|refine Wk ?_|refine Wl ?_)
  refine Wf (OpV.convIn (by rw [wrap64]; omega)) rfl ?_
  refine We rfl ?_
  refine Wf (OpV.shr32 (k := k) (by omega)) rfl ?_
  repeat (first|refine We rfl ?_|refine Wf (by first|exact Va|exact Vu (by omega)) rfl ?_)
  refine Wf (OpV.convIn (by rw [wrap64]; omega)) rfl ?_
  refine We rfl ?_
  refine Wf (OpV.shl32 (k := 32 - k) (by omega)) rfl ?_
  repeat (first | refine Wa ?_ | refine Wb ?_ | refine Wc ?_ | refine Wd ?_ | refine We rfl ?_ | refine Wf (by first | exact Va | exact Vb | exact OpV.and32 | exact OpV.or32 | exact OpV.xor32 | exact OpV.andNot32 | exact OpV.add32 | exact OpV.sub32 | exact OpV.mul32) rfl ?_ | refine Ws ?_ | refine Wt ?_)
  exact CT.done () rfl (fun w ho => ho.ent)
set_option maxRecDepth 20000 in
theorem word4_nat (a b c d : UInt8) : word4 a b c d = 16777216 * a.toUInt32 + 65536 * b.toUInt32 + 256 * c.toUInt32 + d.toUInt32 := by
  have ha := a.toNat_lt
  have hb := b.toNat_lt
  have hc := c.toNat_lt
  have hd := d.toNat_lt
  have e1 := Nat.shiftLeft_add_eq_or_of_lt (i := 8) (by omega : d.toNat < 2 ^ 8) c.toNat
  have e2 := Nat.shiftLeft_add_eq_or_of_lt (i := 16) (by omega : c.toNat * 256 + d.toNat < 2 ^ 16) b.toNat
  have e3 := Nat.shiftLeft_add_eq_or_of_lt (i := 24) (by omega : b.toNat * 65536 + (c.toNat * 256 + d.toNat) < 2 ^ 24) a.toNat
  simp only [Nat.shiftLeft_eq] at e1 e2 e3
  apply UInt32.toNat_inj.1
  simp only [word4, shlN32, UInt32.toNat_or, UInt32.toNat_ofNat', UInt8.toNat_toUInt32, UInt32.toNat_add, UInt32.toNat_mul]
  rw [Nat.mod_eq_of_lt (by omega : a.toNat * 2 ^ 24 < 2 ^ 32), Nat.mod_eq_of_lt (by omega : b.toNat * 2 ^ 16 < 2 ^ 32), Nat.mod_eq_of_lt (by omega : c.toNat * 2 ^ 8 < 2 ^ 32)]
  rw [Nat.or_assoc, Nat.or_assoc, ← e1, ← e2, ← e3]
  have l1 : (16777216 : UInt32).toNat = 16777216 := by decide
  have l2 : (65536 : UInt32).toNat = 65536 := by decide
  have l3 : (256 : UInt32).toNat = 256 := by decide
  rw [l1, l2, l3, Nat.mod_eq_of_lt (a := 16777216 * a.toNat) (by omega), Nat.mod_eq_of_lt (a := 65536 * b.toNat) (by omega), Nat.mod_eq_of_lt (a := 256 * c.toNat) (by omega), Nat.mod_eq_of_lt (a := 16777216 * a.toNat + 65536 * b.toNat) (by omega), Nat.mod_eq_of_lt (a := 16777216 * a.toNat + 65536 * b.toNat + 256 * c.toNat) (by omega), Nat.mod_eq_of_lt (by omega)]
  clear e1 e2 e3 l1 l2 l3
  omega
theorem convAt {L : List UInt8} {j : Nat} (h : j < L.length) : Value.int .u32 (IntKind.u32.wrap ((L[j]).toNat : Int)) = w32 (L.getD j 0).toUInt32 := by
  rw [conv832]; simp [List.getD_eq_getElem?_getD, h]
theorem word_ref (w : World) (F : Nat → Prop) (a : Option Addr) (c : Nat) (L : List UInt8) (k : Nat) (h : (sl a c L).holds F w) (hk : k + 4 ≤ L.length) :
    GivesV Tryz.prog 213 [.slice a L.length c, .int .i64 (k : Int)] w F (.tuple ⟨[w32 (wordAt L k), .bool true]⟩) := by
  have hL : L.length < 9223372036854775800 := by have := h.2.2.1; simp only [lim] at this; omega
  refine gives_of Tryz.func213 rfl Tryz.ntmps213 rfl rfl [.st (sl a c L)] (.start1 h) ?_
  repeat (first|refine Wa ?_|refine Wb ?_|refine Wc ?_|refine Wd ?_|refine We rfl ?_|refine Wf (by first|exact Va|exact Vb|exact Vf|exact Vg|exact Vj|exact Vo|exact Vu (by omega)) rfl ?_)
  refine JC.reslot 14 (.bool false) (by congr 1; simp only [decide_eq_false_iff_not]; omega) ?_
  repeat (first|refine Wa ?_|refine Wb ?_|refine Wk ?_|refine Wl ?_)
  refine JC.openByte (.slice a L.length c) k (by omega) ?_
  intro b0 o0
  refine JC.openByte (.slice a L.length c) (k + 1) (by omega) ?_
  intro b1 o1
  refine JC.openByte (.slice a L.length c) (k + 2) (by omega) ?_
  intro b2 o2
  refine JC.openByte (.slice a L.length c) (k + 3) (by omega) ?_
  intro b3 o3
  refine JC.quiet mixed (by kernel_rfl) ?_
  refine Wy rfl Va rfl ?_
  refine Wy rfl Va rfl ?_
  refine Wy rfl Ve rfl ?_
  refine Wy rfl Vc rfl ?_
  refine Wy rfl OpV.conv rfl ?_
  refine JQ.reslot 19 (w32 (L.getD k 0).toUInt32) (convAt _) ?_
  refine Wy rfl OpV.mul32 rfl ?_
  refine Wy rfl Va rfl ?_
  refine Wy rfl Va rfl ?_
  refine Wy rfl (Vs (by omega)) rfl ?_
  refine Wy rfl Ve rfl ?_
  refine Wy rfl Vc rfl ?_
  refine Wy rfl OpV.conv rfl ?_
  refine JQ.reslot 26 (w32 (L.getD (k + 1) 0).toUInt32) (convAt _) ?_
  refine Wy rfl OpV.mul32 rfl ?_
  refine Wy rfl OpV.add32 rfl ?_
  refine Wy rfl Va rfl ?_
  refine Wy rfl Va rfl ?_
  refine Wy rfl (Vs (by omega)) rfl ?_
  refine Wy rfl Ve rfl ?_
  refine Wy rfl Vc rfl ?_
  refine Wy rfl OpV.conv rfl ?_
  refine JQ.reslot 34 (w32 (L.getD (k + 2) 0).toUInt32) (convAt _) ?_
  refine Wy rfl OpV.mul32 rfl ?_
  refine Wy rfl OpV.add32 rfl ?_
  refine Wy rfl Va rfl ?_
  refine Wy rfl Va rfl ?_
  refine Wy rfl (Vs (by omega)) rfl ?_
  refine Wy rfl Ve rfl ?_
  refine Wy rfl Vc rfl ?_
  refine Wy rfl OpV.conv rfl ?_
  refine JQ.reslot 42 (w32 (L.getD (k + 3) 0).toUInt32) (convAt _) ?_
  refine Wy rfl OpV.add32 rfl ?_
  refine Wy rfl Vb rfl ?_
  refine Wy rfl Vb rfl ?_
  refine WB ?_
  repeat (first|refine Wa ?_|refine Ws ?_)
  exact CT.done () (by simp only [packed, wordAt, word4_nat]) (fun w ho => ho.ent)
end Ab
end Go.Proofs.YtglclakhjmogiaaGreat

/- Contracts of the document's layers 1 and 2: Four, Long, twist, Start, Constants, Pad. -/
namespace Go.Proofs.YtglclakhjmogiaaGreat
namespace Ab
open Go Go.RowKit
set_option linter.unusedVariables false
set_option linter.unusedSimpArgs false
set_option synthInstance.maxSize 4000
set_option synthInstance.maxHeartbeats 400000
attribute [local irreducible] JC JO JR JQ andThen inBlock OpV Gives retTo JM JS

theorem conv8 (n : Nat) : Value.int .u8 (IntKind.u8.wrap (n : Int)) = byteV (UInt8.ofNat n) :=
  congrArg (Value.int .u8) (by rw [wrap8, UInt8.toNat_ofNat'])
theorem twist_ref (w : World) (F : Nat → Prop) (a b c : UInt32) : GivesV Tryz.prog 200 [w32 a, w32 b, w32 c] w F (w32 ((a ^^^ b) ^^^ c)) := by
  refine gives_of Tryz.func200 rfl Tryz.ntmps200 rfl rfl [] (.start w F) ?_
  repeat (first | refine Wa ?_ | refine Wb ?_ | refine Wc ?_ | refine Wd ?_ | refine We rfl ?_ | refine Wf (by first | exact Va | exact Vb | exact OpV.and32 | exact OpV.or32 | exact OpV.xor32 | exact OpV.andNot32 | exact OpV.add32 | exact OpV.sub32 | exact OpV.mul32 | exact OpV.quo32 (by decide) | exact OpV.rem32 (by decide) | exact OpV.quo64 (by decide) | exact OpV.rem64 (by decide)) rfl ?_ | refine Ws ?_ | refine Wt ?_)
  exact CT.done () rfl (fun w ho => ho.ent)
theorem start_ref (w : World) (F : Nat → Prop) : GivesV Tryz.prog 167 [] w F (.agg ⟨shaSV.1.map w32⟩) := by
  refine gives_of Tryz.func167 rfl Tryz.ntmps167 rfl rfl [] (.start w F) ?_
  repeat (first|refine Wa ?_|refine Wb ?_|refine Wc ?_|refine Wd ?_|refine We rfl ?_|(refine Wg rfl ?_; intro _))
  refine Wf (OpV.build [.int .u32 1779033703, .int .u32 3144134277, .int .u32 1013904242, .int .u32 2773480762, .int .u32 1359893119, .int .u32 2600822924, .int .u32 528734635, .int .u32 1541459225] (by kernel_rfl)) rfl ?_
  repeat (first|refine Wa ?_|refine Wd ?_|refine We rfl ?_|refine Wi ?_|refine Ws ?_)
  refine CT.done () ?_ (fun w ho => ho.ent)
  exact congrArg (fun l => Value.agg ⟨l⟩) (show _ = shaS.map w32 by kernel_rfl)
set_option maxRecDepth 4000 in
theorem constants_ref (w : World) (F : Nat → Prop) : GivesV Tryz.prog 198 [] w F (.agg ⟨shaKV.1.map w32⟩) := by
  show GivesV Tryz.prog 198 [] w F (.agg ⟨shaK.map w32⟩)
  refine gives_of Tryz.func198 rfl Tryz.ntmps198 rfl rfl [] (.start w F) ?_
  repeat (first|refine Wa ?_|refine Wb ?_|refine Wc ?_|refine Wd ?_|refine We rfl ?_|(refine Wg rfl ?_; intro _))
  refine Wf (OpV.build [.int .u32 1116352408, .int .u32 1899447441, .int .u32 3049323471, .int .u32 3921009573, .int .u32 961987163, .int .u32 1508970993, .int .u32 2453635748, .int .u32 2870763221, .int .u32 3624381080, .int .u32 310598401, .int .u32 607225278, .int .u32 1426881987, .int .u32 1925078388, .int .u32 2162078206, .int .u32 2614888103, .int .u32 3248222580, .int .u32 3835390401, .int .u32 4022224774, .int .u32 264347078, .int .u32 604807628, .int .u32 770255983, .int .u32 1249150122, .int .u32 1555081692, .int .u32 1996064986, .int .u32 2554220882, .int .u32 2821834349, .int .u32 2952996808, .int .u32 3210313671, .int .u32 3336571891, .int .u32 3584528711, .int .u32 113926993, .int .u32 338241895, .int .u32 666307205, .int .u32 773529912, .int .u32 1294757372, .int .u32 1396182291, .int .u32 1695183700, .int .u32 1986661051, .int .u32 2177026350, .int .u32 2456956037, .int .u32 2730485921, .int .u32 2820302411, .int .u32 3259730800, .int .u32 3345764771, .int .u32 3516065817, .int .u32 3600352804, .int .u32 4094571909, .int .u32 275423344, .int .u32 430227734, .int .u32 506948616, .int .u32 659060556, .int .u32 883997877, .int .u32 958139571, .int .u32 1322822218, .int .u32 1537002063, .int .u32 1747873779, .int .u32 1955562222, .int .u32 2024104815, .int .u32 2227730452, .int .u32 2361852424, .int .u32 2428436474, .int .u32 2756734187, .int .u32 3204031479, .int .u32 3329325298] (by kernel_rfl)) rfl ?_
  repeat (first|refine Wa ?_|refine Wd ?_|refine We rfl ?_|refine Wi ?_|refine Ws ?_)
  refine CT.done () ?_ (fun w ho => ho.ent)
  exact congrArg (fun l => Value.agg ⟨l⟩) (show _ = shaK.map w32 by kernel_rfl)
theorem four_0 (x : UInt32) : UInt8.ofNat (x / 16777216).toNat = fourB x 0 := by
  rw [fourB, UInt32.toNat_div]; rfl
theorem four_1 (x : UInt32) : UInt8.ofNat (x / 65536 % 256).toNat = fourB x 1 := by
  rw [fourB, UInt32.toNat_mod, UInt32.toNat_div]
  apply UInt8.toNat_inj.1
  rw [UInt8.toNat_ofNat', UInt8.toNat_ofNat', show (65536 : UInt32).toNat = 65536 by decide, show (256 : UInt32).toNat = 256 by decide]
  omega
theorem four_2 (x : UInt32) : UInt8.ofNat (x / 256 % 256).toNat = fourB x 2 := by
  rw [fourB, UInt32.toNat_mod, UInt32.toNat_div]
  apply UInt8.toNat_inj.1
  rw [UInt8.toNat_ofNat', UInt8.toNat_ofNat', show (256 : UInt32).toNat = 256 by decide]
  omega
theorem four_3 (x : UInt32) : UInt8.ofNat (x % 256).toNat = fourB x 3 := by
  rw [fourB, UInt32.toNat_mod]
  apply UInt8.toNat_inj.1
  rw [UInt8.toNat_ofNat', UInt8.toNat_ofNat', show (256 : UInt32).toNat = 256 by decide]
  omega
theorem four_ref (w : World) (F : Nat → Prop) (x : UInt32) : GivesV Tryz.prog 169 [w32 x] w F (.agg ⟨(fourL x).map byteV⟩) := by
  refine gives_of Tryz.func169 rfl Tryz.ntmps169 rfl rfl [] (.start w F) ?_
  repeat (first|refine Wa ?_|refine Wb ?_|refine Wc ?_|refine Wd ?_|refine We rfl ?_|refine Wf (by exact Va) rfl ?_|(refine Wg rfl ?_; intro _))
  repeat (first | refine Wa ?_ | refine Wb ?_ | refine Wc ?_ | refine Wd ?_ | refine We rfl ?_ | refine Wf (by first | exact Va | exact Vb | exact OpV.and32 | exact OpV.or32 | exact OpV.xor32 | exact OpV.andNot32 | exact OpV.add32 | exact OpV.sub32 | exact OpV.mul32 | exact OpV.quo32 (by decide) | exact OpV.rem32 (by decide) | exact OpV.quo64 (by decide) | exact OpV.rem64 (by decide)) rfl ?_ | refine Ws ?_ | refine Wt ?_)
  refine Wf OpV.conv rfl ?_
  refine JO.reslot 5 (byteV (fourB x 0)) (by rw [conv8, four_0]) ?_
  repeat (first | refine Wa ?_ | refine Wb ?_ | refine Wc ?_ | refine Wd ?_ | refine We rfl ?_ | refine Wf (by first | exact Va | exact Vb | exact OpV.and32 | exact OpV.or32 | exact OpV.xor32 | exact OpV.andNot32 | exact OpV.add32 | exact OpV.sub32 | exact OpV.mul32 | exact OpV.quo32 (by decide) | exact OpV.rem32 (by decide) | exact OpV.quo64 (by decide) | exact OpV.rem64 (by decide)) rfl ?_ | refine Ws ?_ | refine Wt ?_)
  refine Wf OpV.conv rfl ?_
  refine JO.reslot 9 (byteV (fourB x 1)) (by rw [conv8, four_1]) ?_
  repeat (first | refine Wa ?_ | refine Wb ?_ | refine Wc ?_ | refine Wd ?_ | refine We rfl ?_ | refine Wf (by first | exact Va | exact Vb | exact OpV.and32 | exact OpV.or32 | exact OpV.xor32 | exact OpV.andNot32 | exact OpV.add32 | exact OpV.sub32 | exact OpV.mul32 | exact OpV.quo32 (by decide) | exact OpV.rem32 (by decide) | exact OpV.quo64 (by decide) | exact OpV.rem64 (by decide)) rfl ?_ | refine Ws ?_ | refine Wt ?_)
  refine Wf OpV.conv rfl ?_
  refine JO.reslot 13 (byteV (fourB x 2)) (by rw [conv8, four_2]) ?_
  repeat (first | refine Wa ?_ | refine Wb ?_ | refine Wc ?_ | refine Wd ?_ | refine We rfl ?_ | refine Wf (by first | exact Va | exact Vb | exact OpV.and32 | exact OpV.or32 | exact OpV.xor32 | exact OpV.andNot32 | exact OpV.add32 | exact OpV.sub32 | exact OpV.mul32 | exact OpV.quo32 (by decide) | exact OpV.rem32 (by decide) | exact OpV.quo64 (by decide) | exact OpV.rem64 (by decide)) rfl ?_ | refine Ws ?_ | refine Wt ?_)
  refine Wf OpV.conv rfl ?_
  refine JO.reslot 16 (byteV (fourB x 3)) (by rw [conv8, four_3]) ?_
  refine We rfl ?_
  refine Wf (OpV.build [byteV (fourB x 0), byteV (fourB x 1), byteV (fourB x 2), byteV (fourB x 3)] (by kernel_rfl)) rfl ?_
  repeat (first|refine Wa ?_|refine Wd ?_|refine We rfl ?_|refine Wi ?_|refine Ws ?_)
  exact CT.done () rfl (fun w ho => ho.ent)
theorem longB_ref (x : UInt64) (k : Nat) (hk : k < 8) : UInt8.ofNat (shrN64 x (8 * k) % 256).toNat = longB x k := by
  have h1 : (shrN64 x (8 * k)).toNat = x.toNat / 2 ^ (8 * k) := by
    rw [shrN64, UInt64.toNat_ofNat', Nat.mod_eq_of_lt (Nat.lt_of_le_of_lt (Nat.div_le_self _ _) x.toNat_lt)]
  rw [longB, UInt64.toNat_mod, h1]
  apply UInt8.toNat_inj.1
  rw [UInt8.toNat_ofNat', UInt8.toNat_ofNat', show (256 : UInt64).toNat = 256 by decide]
  omega
theorem long_next (x : UInt64) (k : Nat) : shrN64 x (8 * k) / 256 = shrN64 x (8 * (k + 1)) := by
  have h1 : ∀ k, (shrN64 x k).toNat = x.toNat / 2 ^ k := fun k => by
    rw [shrN64, UInt64.toNat_ofNat', Nat.mod_eq_of_lt (Nat.lt_of_le_of_lt (Nat.div_le_self _ _) x.toNat_lt)]
  apply UInt64.toNat_inj.1
  rw [UInt64.toNat_div, h1, h1, Nat.div_div_eq_div_mul, show (256 : UInt64).toNat = 2 ^ 8 by decide, ← Nat.pow_add]; rfl
theorem long_ref (w : World) (F : Nat → Prop) (x : UInt64) : GivesV Tryz.prog 197 [w64 x] w F (.agg ⟨(longL x).map byteV⟩) := by
  refine gives_of Tryz.func197 rfl Tryz.ntmps197 rfl rfl [] (.start w F) ?_
  repeat (first|refine Wa ?_|refine Wb ?_|refine Wc ?_|refine Wd ?_|refine We rfl ?_|(refine Wg rfl ?_; intro _))
  refine Wf (OpV.build ((longK x 0).1.map byteV) (by kernel_rfl)) rfl ?_
  repeat (first|refine Wa ?_|refine Wb ?_|refine Wc ?_|refine Wd ?_|refine We rfl ?_|refine Wf (by exact Vb) rfl ?_|(refine Wg rfl ?_; intro _)|refine Wi ?_|refine Wn ?_)
  rename_i bo br
  refine JC.reslot 4 (.int .i64 (7 - ((0 : Nat) : Int))) (by rfl) ?_
  refine JC.loop1 (fun k : Nat => [(0, w64 (shrN64 x (8 * k))), (2, .pointer (some ⟨bo, 0, none⟩)), (3, .pointer (some ⟨br, 0, none⟩)), (4, .int .i64 (7 - (k : Int)))]) (fun k => [.own br 165 ((longK x k).1.map byteV), .own bo 165 [.int .u8 0, .int .u8 0, .int .u8 0, .int .u8 0, .int .u8 0, .int .u8 0, .int .u8 0, .int .u8 0]])
    (fun k => k ≤ 8) (fun k => 8 - k) 0 (Nat.zero_le _) (by rw [show shrN64 x (8 * 0) = x by simp [shrN64]]; infer_instance) ?_
  intro k hk
  repeat (first|refine Wa ?_|refine Wb ?_|refine Wc ?_|refine Wd ?_|refine We rfl ?_|refine Wf (by first|exact Va|exact Vp) rfl ?_)
  refine JC.test (fun hlt => ?_) (fun hge => ?_)
  · have hlt' : k < 8 := by omega
    refine JC.reslot 4 (.int .i64 ((7 - k : Nat) : Int)) (by congr 1; omega) ?_
    repeat (first|refine Wa ?_|refine Wb ?_|refine Wc ?_|refine We rfl ?_|refine Wf (by exact Va) rfl ?_|refine Wl ?_|refine Wn ?_)
    repeat (first | refine Wa ?_ | refine Wb ?_ | refine Wc ?_ | refine Wd ?_ | refine We rfl ?_ | refine Wf (by first | exact Va | exact Vb | exact OpV.and32 | exact OpV.or32 | exact OpV.xor32 | exact OpV.andNot32 | exact OpV.add32 | exact OpV.sub32 | exact OpV.mul32 | exact OpV.quo32 (by decide) | exact OpV.rem32 (by decide) | exact OpV.quo64 (by decide) | exact OpV.rem64 (by decide)) rfl ?_ | refine Ws ?_ | refine Wt ?_)
    refine Wf OpV.conv rfl ?_
    refine JO.reslot 13 (byteV (longB x k)) (by rw [conv8, longB_ref x k hlt']) ?_
    refine We rfl ?_
    refine Wf (OpV.indexArr (k := 7 - k) (by omega)) rfl ?_
    refine We rfl ?_
    refine JR.setW (7 - k) (longB x k) (by rw [(longK x k).2]; omega) (by omega) rfl ?_
    rw [longK_set x k hlt']
    repeat (first | refine Wa ?_ | refine Wb ?_ | refine Wc ?_ | refine Wd ?_ | refine We rfl ?_ | refine Wf (by first | exact Va | exact Vb | exact OpV.and32 | exact OpV.or32 | exact OpV.xor32 | exact OpV.andNot32 | exact OpV.add32 | exact OpV.sub32 | exact OpV.mul32 | exact OpV.quo32 (by decide) | exact OpV.rem32 (by decide) | exact OpV.quo64 (by decide) | exact OpV.rem64 (by decide)) rfl ?_ | refine Ws ?_ | refine Wt ?_)
    repeat (first|refine Wa ?_|refine Wc ?_|refine Wd ?_|refine We rfl ?_|refine Wf (by first|exact Va|exact Vb|exact Vv (by omega)) rfl ?_|refine Wr ?_)
    exact ⟨k + 1, by omega, by omega, by rw [← long_next, show 7 - ((k + 1 : Nat) : Int) = ((7 - k : Nat) : Int) - 1 by omega]; infer_instance⟩
  · obtain rfl : k = 8 := by omega
    repeat (first|refine Wa ?_|refine Wb ?_|refine Wc ?_|refine Wd ?_|refine We rfl ?_|refine Wf (by exact Vc) rfl ?_|refine Wi ?_|refine Wm ?_|refine Wo ?_|refine Wp ?_|refine Ws ?_)
    exact CT.done () rfl (fun w ho => ho.ent)
end Ab
end Go.Proofs.YtglclakhjmogiaaGreat

/- Contracts of the document's layer 2: Pad, words. -/
namespace Go.Proofs.YtglclakhjmogiaaGreat
namespace Ab
open Go Go.RowKit
set_option linter.unusedVariables false
set_option linter.unusedSimpArgs false
set_option synthInstance.maxSize 4000
set_option synthInstance.maxHeartbeats 400000
attribute [local irreducible] JC JO JR JQ andThen inBlock OpV Gives retTo JM JS

attribute [local irreducible] spreadK
set_option maxHeartbeats 1000000 in
theorem pad_ref (w : World) (F : Nat → Prop) (a : Option Addr) (c : Nat) (L : List UInt8) (h : (sl a c L).holds F w) (hL : L.length ≤ 1048576) :
    GivesBuf Tryz.prog 166 [.slice a L.length c] w F 5 (padL L) := by
  refine gives_of Tryz.func166 rfl Tryz.ntmps166 rfl rfl [.st (sl a c L)] (.start1 h) ?_
  repeat (first|refine Wa ?_|refine Wb ?_|refine Wc ?_|refine Wd ?_|refine We rfl ?_|refine Wf (by first|exact Va|exact Vb) rfl ?_)
  refine JR.appendNil (L' := L) rfl (by exact ⟨rfl, rfl, by decide⟩) (by omega) ?_
  intro a1 c1
  repeat (first|refine Wa ?_|refine Wb ?_|refine Wc ?_|refine Wd ?_|refine We rfl ?_|refine Wf (by first|exact Va|exact Vb) rfl ?_|(refine Ww rfl ⟨rfl, by decide, by decide, by decide⟩ ?_; intro _))
  refine JR.append1 rfl (by exact ⟨rfl, rfl, by decide⟩) (by omega) ?_
  intro a2 c2
  repeat (first|refine Wa ?_|refine Wb ?_|refine Wd ?_|refine We rfl ?_|refine Wf (by exact Vb) rfl ?_|refine Wn ?_)
  have hz : padZ L.length < 64 := Nat.mod_lt _ (by decide)
  refine JC.loop3 (fun (k : Nat) p q => [(0, .slice a L.length c), (3, .slice p ((L ++ [128]) ++ List.replicate k (0 : UInt8)).length q)]) (fun k p q => [.res (buf p q 5 ((L ++ [128]) ++ List.replicate k (0 : UInt8)))])
    (fun k _ _ => k ≤ padZ L.length) (fun k _ _ => padZ L.length - k) 0 a2 c2 (Nat.zero_le _) (by rw [List.replicate_zero, List.append_nil]; infer_instance) ?_
  intro k p q hk
  repeat (first|refine Wb ?_|refine Wc ?_|refine We rfl ?_|refine Wf (by first|exact Va|exact Vf) rfl ?_)
  have hlen : ((L ++ [128]) ++ List.replicate k (0 : UInt8)).length = L.length + 1 + k := by simp; omega
  refine Wf (OpV.rem (by decide)) rfl ?_
  refine JO.reslot 12 (.int .i64 (((L.length + 1 + k) % 64 : Nat) : Int)) (by rw [hlen, Int.tmod_eq_emod_of_nonneg (by omega)]; congr 1) ?_
  repeat (first|refine Wa ?_|refine Wd ?_|refine We rfl ?_|refine Wf (by exact Vm) rfl ?_)
  refine JC.test (fun h1 => ?_) (fun h1 => ?_)
  · have h2 : k < padZ L.length := by simp only [padZ] at hk ⊢; omega
    repeat (first|refine Wa ?_|refine Wc ?_|refine We rfl ?_|refine Wf (by exact Va) rfl ?_|refine Wl ?_|refine Wn ?_|(refine Ww rfl ⟨rfl, by decide, by decide, by decide⟩ ?_; intro _))
    refine JR.append1 rfl (by exact ⟨rfl, rfl, by decide⟩) (by rw [hlen]; omega) ?_
    intro a3 c3
    repeat (first|refine Wa ?_|refine Wd ?_|refine We rfl ?_|refine Wf (by exact Vb) rfl ?_|refine Wr ?_)
    have hs : (L ++ [128]) ++ List.replicate (k + 1) (0 : UInt8) = (L ++ [128]) ++ List.replicate k (0 : UInt8) ++ [0] := by rw [List.replicate_succ', ← List.append_assoc]
    exact ⟨k + 1, a3, c3, by omega, by omega, by rw [hs]; infer_instance⟩
  · have h2 : k = padZ L.length := by simp only [padZ] at hk ⊢; omega
    subst h2
    repeat (first|refine Wa ?_|refine Wb ?_|refine Wc ?_|refine We rfl ?_|refine Wf (by first|exact Va|exact Vf) rfl ?_|refine Wm ?_|refine Wo ?_|refine Wp ?_)
    refine Wf OpV.conv rfl ?_
    refine JO.reslot 19 (w64 (UInt64.ofNat L.length)) (congrArg (Value.int .u64) (by rw [wrap64, UInt64.toNat_ofNat'])) ?_
    repeat (first | refine Wa ?_ | refine Wb ?_ | refine Wc ?_ | refine Wd ?_ | refine We rfl ?_ | refine Wf (by first | exact Va | exact Vb | exact OpV.and32 | exact OpV.or32 | exact OpV.xor32 | exact OpV.andNot32 | exact OpV.add32 | exact OpV.sub32 | exact OpV.mul32 | exact OpV.quo32 (by decide) | exact OpV.rem32 (by decide) | exact OpV.quo64 (by decide) | exact OpV.rem64 (by decide) | exact OpV.mul64) rfl ?_ | refine Ws ?_ | refine Wt ?_)
    refine JR.reslot 20 (w64 (UInt64.ofNat (L.length * 8))) (by rw [UInt64.ofNat_mul, UInt64.mul_comm]; rfl) ?_
    refine JR.callV rfl (fun w1 hw => long_ref w1 _ _) ?_
    repeat (first|refine Wa ?_|refine Wb ?_|refine Wc ?_|refine Wd ?_|refine We rfl ?_|refine Wf (by exact Va) rfl ?_|(refine Wg rfl ?_; intro _)|refine Wi ?_)
    rename_i bn
    refine JR.reown bn [byteV (longB (UInt64.ofNat (L.length * 8)) 7), byteV (longB (UInt64.ofNat (L.length * 8)) 6), byteV (longB (UInt64.ofNat (L.length * 8)) 5), byteV (longB (UInt64.ofNat (L.length * 8)) 4), byteV (longB (UInt64.ofNat (L.length * 8)) 3), byteV (longB (UInt64.ofNat (L.length * 8)) 2), byteV (longB (UInt64.ofNat (L.length * 8)) 1), byteV (longB (UInt64.ofNat (L.length * 8)) 0)] rfl ?_
    repeat (refine Wf (OpV.indexArr (by decide)) rfl ?_; refine We rfl ?_; refine Wf Vc rfl ?_; refine We rfl ?_)
    refine Ww rfl ⟨rfl, by decide, by decide, by decide⟩ ?_
    intro bl
    refine We rfl ?_
    refine JR.appendBytes (M := longL (UInt64.ofNat (L.length * 8))) rfl rfl rfl (by simp [longL]) (by exact ⟨rfl, rfl, by decide⟩) (by rw [hlen]; omega) ?_
    intro a3 c3
    repeat (first|refine Wa ?_|refine Wd ?_|refine We rfl ?_|refine Wf (by exact Vb) rfl ?_|refine Ws ?_)
    exact CT.done (a3, c3) rfl (fun w ho => (ho.ent : Hold _ _ [.res (buf a3 c3 5 ((L ++ [128]) ++ List.replicate (padZ L.length) (0 : UInt8) ++ longL (UInt64.ofNat (L.length * 8))))] w))
theorem shr_div (x : UInt32) : x / 8 = shrN32 x 3 := by
  apply UInt32.toNat_inj.1
  rw [UInt32.toNat_div, shrN32, UInt32.toNat_ofNat', Nat.mod_eq_of_lt (Nat.lt_of_le_of_lt (Nat.div_le_self _ _) x.toNat_lt)]; rfl
theorem shr_div10 (x : UInt32) : x / 1024 = shrN32 x 10 := by
  apply UInt32.toNat_inj.1
  rw [UInt32.toNat_div, shrN32, UInt32.toNat_ofNat', Nat.mod_eq_of_lt (Nat.lt_of_le_of_lt (Nat.div_le_self _ _) x.toNat_lt)]; rfl
set_option maxHeartbeats 1000000 in
theorem words_ref (w : World) (F : Nat → Prop) (a : Option Addr) (c : Nat) (L : List UInt8) (h : (sl a c L).holds F w) (hL : L.length = 64) :
    GivesV Tryz.prog 199 [.slice a L.length c] w F (.agg ⟨(spreadV L 64).1.map w32⟩) := by
  refine gives_of Tryz.func199 rfl Tryz.ntmps199 rfl rfl [.st (sl a c L)] (.start1 h) ?_
  repeat (first|refine Wa ?_|refine Wb ?_|refine Wc ?_|refine Wd ?_|refine We rfl ?_|(refine Wg rfl ?_; intro _))
  refine Wf (OpV.build ((spreadV L 0).1.map w32) (by kernel_rfl)) rfl ?_
  repeat (first|refine Wa ?_|refine Wb ?_|refine Wc ?_|refine Wd ?_|refine We rfl ?_|refine Wf (by exact Vb) rfl ?_|(refine Wg rfl ?_; intro _)|refine Wi ?_|refine Wn ?_)
  rename_i bo br
  refine JC.reown bo ((spreadV L 0).1.map w32) (by rw [spreadV_zero, List.map_replicate]; rfl) ?_
  refine JC.loop1 (fun k : Nat => [(0, .slice a L.length c), (2, .pointer (some ⟨bo, 0, none⟩)), (3, .pointer (some ⟨br, 0, none⟩)), (4, .int .i64 (k : Int))]) (fun k => [.own br 167 ((spreadV L k).1.map w32), .own bo 167 ((spreadV L 0).1.map w32), .st (sl a c L)])
    (fun k => k ≤ 64) (fun k => 64 - k) 0 (Nat.zero_le _) inferInstance ?_
  intro k hk
  repeat (first|refine Wa ?_|refine Wb ?_|refine Wc ?_|refine Wd ?_|refine We rfl ?_|refine Wf (by first|exact Va|exact Vg) rfl ?_)
  refine JC.test (fun hlt => ?_) (fun hge => ?_)
  · have hlt' : k < 64 := by omega
    have hv := (spreadV L k).2
    repeat (first|refine Wa ?_|refine Wb ?_|refine Wc ?_|refine Wd ?_|refine We rfl ?_|refine Wf (by first|exact Va|exact Vg) rfl ?_|refine Wl ?_|refine Wn ?_)
    refine JC.test (fun h16 => ?_) (fun h16 => ?_)
    · have h16' : k < 16 := by omega
      repeat (first|refine Wb ?_|refine Wc ?_|refine We rfl ?_|refine Wf (by exact Va) rfl ?_)
      refine Wf (OpV.mul (by omega)) rfl ?_
      refine JO.reslot 21 (.int .i64 ((4 * k : Nat) : Int)) (by congr 1) ?_
      refine We rfl ?_
      refine JR.callV rfl (fun w1 hw => word_ref w1 _ a c L (4 * k) hw.get (by omega)) ?_
      repeat (first|refine Wa ?_|refine Wb ?_|refine Wc ?_|refine Wd ?_|refine We rfl ?_|refine Wf (by first|exact Va|exact Vb|exact Vq) rfl ?_)
      refine Wf (OpV.indexArr hlt') rfl ?_
      refine We rfl ?_
      refine JR.setW k (wordAt L (4 * k)) (by omega) (by omega) rfl ?_
      refine JO.reown br ((spreadV L (k + 1)).1.map w32) (by rw [spreadV_succ, wordK, if_pos h16']) ?_
      repeat (first|refine Wa ?_|refine Wc ?_|refine Wd ?_|refine We rfl ?_|refine Wf (by first|exact Va|exact Vb|exact Vk (by omega)) rfl ?_|refine Wm ?_|refine Wo ?_|refine Wp ?_)
      exact ⟨k + 1, by omega, by omega, inferInstance⟩
    · have h16' : ¬ k < 16 := by omega
      repeat (first|refine Wa ?_|refine Wb ?_|refine Wc ?_|refine We rfl ?_|refine Wf (by first|exact Va|exact Vu (by omega)) rfl ?_|refine Wl ?_)
      refine Wf (OpV.indexArr (k := k - 15) (by omega)) rfl ?_
      refine We rfl ?_
      refine Wf (OpV.getW (k - 15) (by omega) (by omega) rfl) rfl ?_
      repeat (first|refine Wa ?_|refine Wb ?_|refine Wc ?_|refine Wd ?_|refine We rfl ?_|refine Wf (by first|exact Va|exact Vb|exact Vu (by omega)) rfl ?_)
      refine Wf (OpV.indexArr (k := k - 2) (by omega)) rfl ?_
      refine We rfl ?_
      refine Wf (OpV.getW (k - 2) (by omega) (by omega) rfl) rfl ?_
      repeat (first|refine Wa ?_|refine Wb ?_|refine Wc ?_|refine Wd ?_|refine We rfl ?_|refine Wf (by first|exact Va|exact Vb) rfl ?_)
      refine JR.callV rfl (fun w1 hw => right_ref w1 _ _ 7 (by decide)) ?_
      repeat (first|refine We rfl ?_|refine Wf (by exact Va) rfl ?_)
      refine JR.callV rfl (fun w1 hw => right_ref w1 _ _ 18 (by decide)) ?_
      repeat (first | refine Wa ?_ | refine Wb ?_ | refine Wc ?_ | refine Wd ?_ | refine We rfl ?_ | refine Wf (by first | exact Va | exact Vb | exact OpV.and32 | exact OpV.or32 | exact OpV.xor32 | exact OpV.andNot32 | exact OpV.add32 | exact OpV.sub32 | exact OpV.mul32 | exact OpV.quo32 (by decide) | exact OpV.rem32 (by decide) | exact OpV.quo64 (by decide) | exact OpV.rem64 (by decide) | exact OpV.mul64) rfl ?_ | refine Ws ?_ | refine Wt ?_)
      refine JR.callV rfl (fun w1 hw => twist_ref w1 _ _ _ _) ?_
      repeat (first|refine Wa ?_|refine Wb ?_|refine Wc ?_|refine Wd ?_|refine We rfl ?_|refine Wf (by first|exact Va|exact Vb) rfl ?_)
      refine JR.callV rfl (fun w1 hw => right_ref w1 _ _ 17 (by decide)) ?_
      repeat (first|refine We rfl ?_|refine Wf (by exact Va) rfl ?_)
      refine JR.callV rfl (fun w1 hw => right_ref w1 _ _ 19 (by decide)) ?_
      repeat (first | refine Wa ?_ | refine Wb ?_ | refine Wc ?_ | refine Wd ?_ | refine We rfl ?_ | refine Wf (by first | exact Va | exact Vb | exact OpV.and32 | exact OpV.or32 | exact OpV.xor32 | exact OpV.andNot32 | exact OpV.add32 | exact OpV.sub32 | exact OpV.mul32 | exact OpV.quo32 (by decide) | exact OpV.rem32 (by decide) | exact OpV.quo64 (by decide) | exact OpV.rem64 (by decide) | exact OpV.mul64) rfl ?_ | refine Ws ?_ | refine Wt ?_)
      refine JR.callV rfl (fun w1 hw => twist_ref w1 _ _ _ _) ?_
      repeat (first|refine Wa ?_|refine Wd ?_|refine We rfl ?_|refine Wf (by exact Vb) rfl ?_)
      refine JC.draw 15 mixed ?_
      refine JM.take 0 rfl (by kernel_rfl) rfl Va rfl rfl ?_
      refine JM.take 1 rfl (by kernel_rfl) rfl Va rfl rfl ?_
      refine JM.take 2 rfl (by kernel_rfl) rfl (Vv (by omega)) rfl rfl ?_
      refine JM.reslot 52 (.int .i64 ((k - 16 : Nat) : Int)) (by congr 1 <;> omega) ?_
      refine JM.take 3 rfl (by kernel_rfl) rfl (OpV.indexArr (k := k - 16) (by omega)) rfl rfl ?_
      refine JM.take 4 rfl (by kernel_rfl) rfl (OpV.getW (k - 16) (by omega) (by omega) rfl) rfl rfl ?_
      refine JM.take 5 rfl (by kernel_rfl) rfl Va rfl rfl ?_
      refine JM.take 6 rfl (by kernel_rfl) rfl (Vv (by omega)) rfl rfl ?_
      refine JM.reslot 56 (.int .i64 ((k - 7 : Nat) : Int)) (by congr 1 <;> omega) ?_
      refine JM.take 7 rfl (by kernel_rfl) rfl (OpV.indexArr (k := k - 7) (by omega)) rfl rfl ?_
      refine JM.take 8 rfl (by kernel_rfl) rfl (OpV.getW (k - 7) (by omega) (by omega) rfl) rfl rfl ?_
      refine JM.take 9 rfl (by kernel_rfl) rfl OpV.add32 rfl rfl ?_
      refine JM.take 10 rfl (by kernel_rfl) rfl Va rfl rfl ?_
      refine JM.take 11 rfl (by kernel_rfl) rfl OpV.add32 rfl rfl ?_
      refine JM.take 12 rfl (by kernel_rfl) rfl Va rfl rfl ?_
      refine JM.take 13 rfl (by kernel_rfl) rfl OpV.add32 rfl rfl ?_
      refine JM.take 14 rfl (by kernel_rfl) rfl (OpV.indexArr hlt') rfl rfl ?_
      refine JM.reslot 63 (w32 (wordK L (spreadV L k).1 k)) (by rw [wordK, if_neg h16', getD_at, getD_at, getD_at, getD_at, shr_div, shr_div10]; rfl) ?_
      refine JM.last 15 (by kernel_rfl) rfl rfl rfl (JR.setW k (wordK L (spreadV L k).1 k) (by omega) (by omega) rfl (JO.reown br ((spreadV L (k + 1)).1.map w32) (by rw [spreadV_succ]) (Wd ⟨rfl, ?_⟩)))
      refine JM.nil (by kernel_rfl) ?_
      repeat (first|refine Wa ?_|refine Wc ?_|refine Wd ?_|refine We rfl ?_|refine Wf (by first|exact Va|exact Vb|exact Vk (by omega)) rfl ?_|refine Wr ?_)
      exact ⟨k + 1, by omega, by omega, inferInstance⟩
  · obtain rfl : k = 64 := by omega
    repeat (first|refine Wa ?_|refine Wb ?_|refine Wc ?_|refine Wd ?_|refine We rfl ?_|refine Wf (by exact Vc) rfl ?_|refine Wi ?_|refine Wm ?_|refine Wo ?_|refine Wp ?_|refine Ws ?_)
    exact CT.done () rfl (fun w ho => ho.ent)
end Ab
end Go.Proofs.YtglclakhjmogiaaGreat

/- Contracts of the document's layer 2: Block. -/
namespace Go.Proofs.YtglclakhjmogiaaGreat
namespace Ab
open Go Go.RowKit
set_option linter.unusedVariables false
set_option linter.unusedSimpArgs false
set_option synthInstance.maxSize 4000
set_option synthInstance.maxHeartbeats 400000
attribute [local irreducible] JC JO JR JQ andThen inBlock OpV Gives retTo JM JS

attribute [local irreducible] spreadK shaKV spreadV turnV plusV
set_option maxHeartbeats 2000000 in
theorem block_ref (w : World) (F : Nat → Prop) (a : Option Addr) (c : Nat) (L : List UInt8) (h : Vec UInt32 8) (hs : (sl a c L).holds F w) (hL : L.length = 64) :
    GivesV Tryz.prog 168 [.agg ⟨h.1.map w32⟩, .slice a L.length c] w F (.tuple ⟨[.agg ⟨(blockL h L).1.map w32⟩, .bool true]⟩) := by
  refine gives_of Tryz.func168 rfl Tryz.ntmps168 rfl rfl [.st (sl a c L)] (.start1 hs) ?_
  repeat (first|refine Wa ?_|refine Wb ?_|refine Wc ?_|refine Wd ?_|refine We rfl ?_|refine Wf (by first|exact Va|exact Vb|exact Vf|exact Vm) rfl ?_|(refine Wg rfl ?_; intro _)|(refine Wh rfl ?_; intro _))
  rename_i bh br
  refine JC.test (fun h0 => ?_) (fun h0 => ?_)
  · simp [hL] at h0
  repeat (first|refine Wa ?_|refine Wb ?_|refine Wc ?_|refine We rfl ?_|refine Wl ?_)
  refine JR.callV rfl (fun w1 hw => constants_ref w1 _) ?_
  repeat (first|refine Wa ?_|refine Wb ?_|refine Wc ?_|refine Wd ?_|refine We rfl ?_|refine Wf (by exact Va) rfl ?_|(refine Wg rfl ?_; intro _)|refine Wi ?_)
  refine JR.callV rfl (fun w1 hw => words_ref w1 _ a c L hw.get hL) ?_
  repeat (first|refine Wa ?_|refine Wb ?_|refine Wc ?_|refine Wd ?_|refine We rfl ?_|refine Wf (by first|exact Vb|exact Vc) rfl ?_|(refine Wg rfl ?_; intro _)|refine Wi ?_|refine Wn ?_)
  rename_i q1 q2 q3
  refine JC.loop1 (fun k : Nat => [(2, .pointer (some ⟨bh, 0, none⟩)), (4, .pointer (some ⟨br, 0, none⟩)), (6, .pointer (some ⟨q1, 0, none⟩)), (7, .pointer (some ⟨q2, 0, none⟩)), (8, .pointer (some ⟨q3, 0, none⟩)), (9, .int .i64 (k : Int))])
    (fun k => [.own bh 137 (h.1.map w32), .own br 137 [.int .u32 0, .int .u32 0, .int .u32 0, .int .u32 0, .int .u32 0, .int .u32 0, .int .u32 0, .int .u32 0], .own q1 167 (shaKV.1.map w32), .own q2 167 ((spreadV L 64).1.map w32), .own q3 137 ((turnV (spreadV L 64).1 h k).1.map w32)])
    (fun k => k ≤ 64) (fun k => 64 - k) 0 (Nat.zero_le _) (by rw [turnV_zero]; infer_instance) ?_
  intro k hk
  repeat (first|refine Wa ?_|refine Wb ?_|refine Wc ?_|refine Wd ?_|refine We rfl ?_|refine Wf (by first|exact Va|exact Vg) rfl ?_)
  refine JC.test (fun hlt => ?_) (fun hge => ?_)
  · have hlt' : k < 64 := by omega
    have hkk : k < shaKV.1.length := by rw [shaKV.2]; exact hlt'
    have hkw : k < (spreadV L 64).1.length := by rw [(spreadV L 64).2]; exact hlt'
    obtain ⟨x0, x1, x2, x3, x4, x5, x6, x7, hx⟩ := vec8 (turnV (spreadV L 64).1 h k)
    have hnext := turnV_succ (spreadV L 64).1 h k
    rw [hx] at hnext ⊢
    repeat (first|refine Wa ?_|refine Wb ?_|refine Wl ?_|refine Wn ?_)
    refine JC.quiet mixed (by kernel_rfl) ?_
    refine Wy rfl (OpV.indexArr (k := 4) (by decide)) rfl ?_
    refine Wy rfl (OpV.getW 4 (by simp) rfl rfl) rfl ?_
    refine JQ.call rfl rfl (fun w1 hw => right_ref w1 _ _ 6 (by decide)) ?_
    refine Wy rfl (OpV.indexArr (k := 4) (by decide)) rfl ?_
    refine Wy rfl (OpV.getW 4 (by simp) rfl rfl) rfl ?_
    refine JQ.call rfl rfl (fun w1 hw => right_ref w1 _ _ 11 (by decide)) ?_
    refine Wy rfl (OpV.indexArr (k := 4) (by decide)) rfl ?_
    refine Wy rfl (OpV.getW 4 (by simp) rfl rfl) rfl ?_
    refine JQ.call rfl rfl (fun w1 hw => right_ref w1 _ _ 25 (by decide)) ?_
    refine JQ.call rfl rfl (fun w1 hw => twist_ref w1 _ _ _ _) ?_
    refine Wy rfl Vb rfl ?_
    refine WB ?_
    repeat (first|refine Wa ?_|refine Wb ?_)
    refine JC.quiet mixed (by kernel_rfl) ?_
    refine Wy rfl (OpV.indexArr (k := 0) (by decide)) rfl ?_
    refine Wy rfl (OpV.getW 0 (by simp) rfl rfl) rfl ?_
    refine JQ.call rfl rfl (fun w1 hw => right_ref w1 _ _ 2 (by decide)) ?_
    refine Wy rfl (OpV.indexArr (k := 0) (by decide)) rfl ?_
    refine Wy rfl (OpV.getW 0 (by simp) rfl rfl) rfl ?_
    refine JQ.call rfl rfl (fun w1 hw => right_ref w1 _ _ 13 (by decide)) ?_
    refine Wy rfl (OpV.indexArr (k := 0) (by decide)) rfl ?_
    refine Wy rfl (OpV.getW 0 (by simp) rfl rfl) rfl ?_
    refine JQ.call rfl rfl (fun w1 hw => right_ref w1 _ _ 22 (by decide)) ?_
    refine JQ.call rfl rfl (fun w1 hw => twist_ref w1 _ _ _ _) ?_
    refine Wy rfl Vb rfl ?_
    refine WB ?_
    repeat (first|refine Wa ?_|refine Wb ?_)
    refine JC.quiet mixed (by kernel_rfl) ?_
    refine Wy rfl (OpV.indexArr (k := 7) (by decide)) rfl ?_
    refine Wy rfl (OpV.getW 7 (by simp) rfl rfl) rfl ?_
    refine Wy rfl Va rfl ?_
    refine Wy rfl OpV.add32 rfl ?_
    refine Wy rfl (OpV.indexArr (k := 4) (by decide)) rfl ?_
    refine Wy rfl (OpV.getW 4 (by simp) rfl rfl) rfl ?_
    refine Wy rfl (OpV.indexArr (k := 5) (by decide)) rfl ?_
    refine Wy rfl (OpV.getW 5 (by simp) rfl rfl) rfl ?_
    refine Wy rfl (OpV.indexArr (k := 6) (by decide)) rfl ?_
    refine Wy rfl (OpV.getW 6 (by simp) rfl rfl) rfl ?_
    refine JQ.call rfl rfl (fun w1 hw => pick_ref w1 _ _ _ _) ?_
    refine Wy rfl OpV.add32 rfl ?_
    refine Wy rfl Va rfl ?_
    refine Wy rfl (OpV.indexArr hlt') rfl ?_
    refine Wy rfl (OpV.getW k hkk (by omega) rfl) rfl ?_
    refine Wy rfl OpV.add32 rfl ?_
    refine Wy rfl Va rfl ?_
    refine Wy rfl (OpV.indexArr hlt') rfl ?_
    refine Wy rfl (OpV.getW k hkw (by omega) rfl) rfl ?_
    refine Wy rfl OpV.add32 rfl ?_
    refine JQ.reslot 66 (w32 (one32 (spreadV L 64).1 [x0, x1, x2, x3, x4, x5, x6, x7] k)) (by simp only [getD_at, shaKV_eq]; rfl) ?_
    refine Wy rfl Vb rfl ?_
    refine WB ?_
    repeat (first|refine Wa ?_|refine Wb ?_|refine Wc ?_|refine We rfl ?_|refine Wf (by exact Va) rfl ?_)
    repeat (first | refine Wf (OpV.indexArr (k := 0) (by decide)) rfl ?_; refine We rfl ?_; refine Wf (OpV.getW 0 (by simp) rfl rfl) rfl ?_; refine We rfl ?_ | refine Wf (OpV.indexArr (k := 1) (by decide)) rfl ?_; refine We rfl ?_; refine Wf (OpV.getW 1 (by simp) rfl rfl) rfl ?_; refine We rfl ?_ | refine Wf (OpV.indexArr (k := 2) (by decide)) rfl ?_; refine We rfl ?_; refine Wf (OpV.getW 2 (by simp) rfl rfl) rfl ?_; refine We rfl ?_)
    refine JR.callV rfl (fun w1 hw => most_ref w1 _ _ _ _) ?_
    refine We rfl ?_
    refine Wf OpV.add32 rfl ?_
    refine JO.reslot 75 (w32 (two32 [x0, x1, x2, x3, x4, x5, x6, x7])) rfl ?_
    repeat (first|refine Wa ?_|refine Wc ?_|refine Wd ?_|refine We rfl ?_|refine Wf (by first|exact Va|exact Vb) rfl ?_)
    refine Wf OpV.add32 rfl ?_
    refine We rfl ?_
    refine Wf (OpV.indexArr (k := 0) (by decide)) rfl ?_
    refine We rfl ?_
    refine Wf (OpV.getW 0 (by simp) rfl rfl) rfl ?_
    refine We rfl ?_
    refine Wf (OpV.indexArr (k := 1) (by decide)) rfl ?_
    refine We rfl ?_
    refine Wf (OpV.getW 1 (by simp) rfl rfl) rfl ?_
    refine We rfl ?_
    refine Wf (OpV.indexArr (k := 2) (by decide)) rfl ?_
    refine We rfl ?_
    refine Wf (OpV.getW 2 (by simp) rfl rfl) rfl ?_
    refine We rfl ?_
    refine Wf (OpV.indexArr (k := 3) (by decide)) rfl ?_
    refine We rfl ?_
    refine Wf (OpV.getW 3 (by simp) rfl rfl) rfl ?_
    refine We rfl ?_
    refine Wf Va rfl ?_
    refine We rfl ?_
    refine Wf OpV.add32 rfl ?_
    refine We rfl ?_
    refine Wf (OpV.indexArr (k := 4) (by decide)) rfl ?_
    refine We rfl ?_
    refine Wf (OpV.getW 4 (by simp) rfl rfl) rfl ?_
    refine We rfl ?_
    refine Wf (OpV.indexArr (k := 5) (by decide)) rfl ?_
    refine We rfl ?_
    refine Wf (OpV.getW 5 (by simp) rfl rfl) rfl ?_
    refine We rfl ?_
    refine Wf (OpV.indexArr (k := 6) (by decide)) rfl ?_
    refine We rfl ?_
    refine Wf (OpV.getW 6 (by simp) rfl rfl) rfl ?_
    refine We rfl ?_
    refine Wf (OpV.build ((turnS (spreadV L 64).1 [x0, x1, x2, x3, x4, x5, x6, x7] k).map w32) (by kernel_rfl)) rfl ?_
    rw [← hnext]
    refine JO.reown q3 ((turnV (spreadV L 64).1 h k).1.map w32) (by rw [hx]) ?_
    repeat (first|refine Wa ?_|refine Wc ?_|refine Wd ?_|refine We rfl ?_|refine Wf (by first|exact Va|exact Vb|exact Vk (by omega)) rfl ?_|refine Wi ?_|refine Wr ?_)
    exact ⟨k + 1, by omega, by omega, inferInstance⟩
  · obtain rfl : k = 64 := by omega
    obtain ⟨S, hS⟩ : ∃ S, S = turnV (spreadV L 64).1 h 64 := ⟨_, rfl⟩
    have hb : (blockL h L).1 = (plusV h.1 S.1 8).1 := by rw [hS]; rfl
    rw [← hS, hb]
    repeat (first|refine Wa ?_|refine Wb ?_|refine Wc ?_|refine Wd ?_|refine We rfl ?_|refine Wf (by exact Vb) rfl ?_|refine Wm ?_|refine Wn ?_|refine Wo ?_|refine Wp ?_)
    refine JC.loop1 (fun k : Nat => [(2, .pointer (some ⟨bh, 0, none⟩)), (4, .pointer (some ⟨br, 0, none⟩)), (8, .pointer (some ⟨q3, 0, none⟩)), (14, .int .i64 (k : Int))])
      (fun k => [.own bh 137 ((plusV h.1 S.1 k).1.map w32), .own br 137 [.int .u32 0, .int .u32 0, .int .u32 0, .int .u32 0, .int .u32 0, .int .u32 0, .int .u32 0, .int .u32 0], .own q3 137 (S.1.map w32)])
      (fun k => k ≤ 8) (fun k => 8 - k) 0 (Nat.zero_le _) (by rw [plusV_zero]; infer_instance) ?_
    intro k hk
    repeat (first|refine Wa ?_|refine Wb ?_|refine Wc ?_|refine Wd ?_|refine We rfl ?_|refine Wf (by first|exact Va|exact Vg) rfl ?_)
    refine JC.test (fun hlt => ?_) (fun hge => ?_)
    · have hlt' : k < 8 := by omega
      have hk1 : k < (plusV h.1 S.1 k).1.length := by rw [(plusV h.1 S.1 k).2]; exact hlt'
      have hk2 : k < S.1.length := by rw [S.2]; exact hlt'
      repeat (first|refine Wa ?_|refine Wb ?_|refine Wl ?_|refine Wn ?_)
      refine JC.draw 9 mixed ?_
      refine JM.take 0 rfl (by kernel_rfl) rfl Va rfl rfl ?_
      refine JM.take 1 rfl (by kernel_rfl) rfl Va rfl rfl ?_
      refine JM.take 2 rfl (by kernel_rfl) rfl (OpV.indexArr hlt') rfl rfl ?_
      refine JM.take 3 rfl (by kernel_rfl) rfl (OpV.getW k hk1 (by omega) rfl) rfl rfl ?_
      refine JM.take 4 rfl (by kernel_rfl) rfl Va rfl rfl ?_
      refine JM.take 5 rfl (by kernel_rfl) rfl (OpV.indexArr hlt') rfl rfl ?_
      refine JM.take 6 rfl (by kernel_rfl) rfl (OpV.getW k hk2 (by omega) rfl) rfl rfl ?_
      refine JM.take 7 rfl (by kernel_rfl) rfl OpV.add32 rfl rfl ?_
      refine JM.take 8 rfl (by kernel_rfl) rfl (OpV.indexArr hlt') rfl rfl ?_
      refine JM.reslot 107 (w32 (h.1.getD k 0 + S.1.getD k 0)) (by simp only [getD_at]; rw [plusV_at _ _ _ hlt']) ?_
      refine JM.last 9 (by kernel_rfl) rfl rfl rfl (JR.setW k (h.1.getD k 0 + S.1.getD k 0) hk1 (by omega) rfl (JO.reown bh ((plusV h.1 S.1 (k + 1)).1.map w32) (by rw [plusV_set _ _ _ hlt']) (Wd ⟨rfl, ?_⟩)))
      refine JM.nil (by kernel_rfl) ?_
      repeat (first|refine Wa ?_|refine Wc ?_|refine Wd ?_|refine We rfl ?_|refine Wf (by first|exact Va|exact Vb|exact Vk (by omega)) rfl ?_|refine Wr ?_)
      exact ⟨k + 1, by omega, by omega, inferInstance⟩
    · obtain rfl : k = 8 := by omega
      repeat (first|refine Wa ?_|refine Wb ?_|refine Wc ?_|refine Wd ?_|refine We rfl ?_|refine Wf (by first|exact Vb|exact Vc) rfl ?_|refine Wi ?_|refine Wm ?_|refine Wo ?_|refine Wp ?_|refine Ws ?_)
      exact CT.done () rfl (fun w ho => ho.ent)
end Ab
end Go.Proofs.YtglclakhjmogiaaGreat

/- Contracts of the document's layer 2: Sum. -/
namespace Go.Proofs.YtglclakhjmogiaaGreat
namespace Ab
open Go Go.RowKit
set_option linter.unusedVariables false
set_option linter.unusedSimpArgs false
set_option synthInstance.maxSize 4000
set_option synthInstance.maxHeartbeats 400000
attribute [local irreducible] JC JO JR JQ andThen inBlock OpV Gives retTo JM JS

attribute [local irreducible] spreadK shaKV spreadV turnV plusV blockL
/-- The words' bytes, as far as they are written, and j of the next. -/
def outJ (h : List UInt32) (i j : Nat) : List UInt8 := ((h.take i).flatMap fourL ++ (fourL (h.getD i 0)).take j) ++ List.replicate (32 - 4 * i - j) 0
theorem four_len (x : UInt32) : (fourL x).length = 4 := by simp [fourL]
theorem outJ_length (h : Vec UInt32 8) (i j : Nat) (hi : i < 8) (hj : j ≤ 4) : (outJ h.1 i j).length = 32 := by
  have := h.2
  simp only [outJ, List.length_append, flat4, List.length_take, List.length_replicate, four_len]
  omega
theorem outJ_zero (h : List UInt32) (i : Nat) : outJ h i 0 = outK h i := by simp [outJ, outK]
theorem outJ_four (h : Vec UInt32 8) (i : Nat) (hi : i < 8) : outJ h.1 i 4 = outK h.1 (i + 1) := by
  have h8 := h.2
  have hg : h.1[i]'(by omega) = h.1.getD i 0 := by simp [List.getD_eq_getElem?_getD, h8, hi]
  rw [outJ, outK, List.take_of_length_le (l := fourL (h.1.getD i 0)) (by rw [four_len]; exact Nat.le_refl _), List.take_succ_eq_append_getElem (by omega), List.flatMap_append, hg]
  simp only [List.flatMap_cons, List.flatMap_nil, List.append_nil]
  congr 2
theorem outJ_set (h : Vec UInt32 8) (i j : Nat) (hi : i < 8) (hj : j < 4) : (outJ h.1 i j).set (4 * i + j) (fourB (h.1.getD i 0) j) = outJ h.1 i (j + 1) := by
  have h8 := h.2
  have hl : ((h.1.take i).flatMap fourL ++ (fourL (h.1.getD i 0)).take j).length = 4 * i + j := by
    simp only [List.length_append, flat4, List.length_take, four_len]; omega
  have hr : List.replicate (32 - 4 * i - j) (0 : UInt8) = 0 :: List.replicate (32 - 4 * i - (j + 1)) 0 := by
    rw [show 32 - 4 * i - j = (32 - 4 * i - (j + 1)) + 1 by omega]; rfl
  have ht : (fourL (h.1.getD i 0)).take (j + 1) = (fourL (h.1.getD i 0)).take j ++ [fourB (h.1.getD i 0) j] := by
    rw [List.take_succ_eq_append_getElem (by rw [four_len]; exact hj)]
    simp [fourL]
  rw [outJ, outJ, List.set_append_right _ _ (by omega), hl, hr, ht]
  simp

theorem id0_cells : List.replicate 32 (Value.int .u8 0) = idc id0 := by simp [idc, id0]; rfl
theorem outK_id0 (S : List UInt32) : idc id0 = (outK S 0).map byteV := by rw [outK_zero]; rfl
set_option maxHeartbeats 2000000 in
theorem sum_ref (w : World) (F : Nat → Prop) (a : Option Addr) (c : Nat) (L : List UInt8) (h : (sl a c L).holds F w) (hL : L.length ≤ 1048576) :
    GivesV Tryz.prog 135 [.slice a L.length c] w F (.agg ⟨idc (sumI L)⟩) := by
  have hpl := padL_length L
  refine gives_of Tryz.func135 rfl Tryz.ntmps135 rfl rfl [.st (sl a c L)] (.start1 h) ?_
  repeat (first|refine Wa ?_|refine Wb ?_|refine Wc ?_|refine Wd ?_|refine We rfl ?_|refine Wf (by exact Va) rfl ?_|(refine Wg rfl ?_; intro _))
  refine JR.callBuf rfl (fun w1 hw => pad_ref w1 _ a c L hw.get hL) ?_
  intro a1 c1
  refine JO.more (fun w1 ho => ho.pub) ?_
  repeat (first|refine Wa ?_|refine Wb ?_|refine Wc ?_|refine Wd ?_|refine We rfl ?_|refine Wf (by exact Vb) rfl ?_)
  refine JR.callV rfl (fun w1 hw => start_ref w1 _) ?_
  repeat (first|refine Wa ?_|refine Wb ?_|refine Wc ?_|refine Wd ?_|refine We rfl ?_|refine Wf (by exact Vb) rfl ?_|(refine Wg rfl ?_; intro _)|refine Wi ?_|refine Wn ?_)
  rename_i bo bh
  refine JC.reown bo (idc id0) id0_cells ?_
  refine JC.reslot 5 (.int .i64 ((64 * 0 : Nat) : Int)) (by rfl) ?_
  refine JC.loop2 (fun (k : Nat) (H : Vec UInt32 8) => [(2, .pointer (some ⟨bo, 0, none⟩)), (3, .slice a1 (padL L).length c1), (4, .pointer (some ⟨bh, 0, none⟩)), (5, .int .i64 ((64 * k : Nat) : Int))])
    (fun k H => [.own bh 137 (H.1.map w32), .own bo 47 (idc id0), .st (sl a1 c1 (padL L))])
    (fun k H => 64 * k ≤ (padL L).length ∧ blocksV ((padL L).length / 64 - k) H ((padL L).drop (64 * k)) = sumV L) (fun k _ => (padL L).length - 64 * k) 0 shaSV ⟨Nat.zero_le _, rfl⟩ inferInstance ?_
  intro k H ⟨hk, hinv⟩
  repeat (first|refine Wa ?_|refine Wb ?_|refine Wc ?_|refine Wd ?_|refine We rfl ?_|refine Wf (by first|exact Va|exact Vf|exact Vg) rfl ?_)
  refine JC.test (fun h1 => ?_) (fun h1 => ?_)
  · have hk2 : 64 * k + 64 ≤ (padL L).length := by omega
    have hp64 : (((padL L).drop (64 * k)).take 64).length = 64 := by rw [List.length_take, List.length_drop]; omega
    repeat (first|refine Wa ?_|refine Wb ?_|refine Wl ?_|refine Wn ?_)
    refine JC.draw 10 mixed ?_
    refine JM.take 0 rfl (by kernel_rfl) rfl Vc rfl rfl ?_
    refine JM.take 1 rfl (by kernel_rfl) rfl Va rfl rfl ?_
    refine JM.take 2 rfl (by kernel_rfl) rfl Va rfl rfl ?_
    refine JM.take 3 rfl (by kernel_rfl) rfl Va rfl rfl ?_
    refine JM.take 4 rfl (by kernel_rfl) rfl (Vs (by omega)) rfl rfl ?_
    refine JM.take 5 rfl (by kernel_rfl) rfl (OpV.sliceMidA (l := 64 * k) (h := 64 * k + 64) (s := 1) rfl (fun w1 ho => ⟨by omega, by have := (Hold.get (A := sl a1 c1 (padL L)) ho).1; omega⟩)) rfl rfl ?_
    refine JM.reslot 25 (.slice (fromA a1 c1 (64 * k) 1) (((padL L).drop (64 * k)).take 64).length (c1 - 64 * k)) (by rw [hp64]; congr 1; omega) ?_
    refine JM.takeCall 6 rfl (by kernel_rfl) rfl (fun w1 hw => block_ref w1 _ (fromA a1 c1 (64 * k) 1) (c1 - 64 * k) (((padL L).drop (64 * k)).take 64) H (sl_take (sl_from (hw.get (A := sl a1 c1 (padL L))) (by omega)) (by rw [List.length_drop]; omega) ⟨by have := (hw.get (A := sl a1 c1 (padL L))).1; omega, Nat.le_refl _⟩) hp64) rfl rfl ?_
    refine JM.take 7 rfl (by kernel_rfl) rfl Va rfl rfl ?_
    refine JM.take 8 rfl (by kernel_rfl) rfl Vq rfl rfl ?_
    have hn : (padL L).length / 64 - k = ((padL L).length / 64 - (k + 1)) + 1 := by omega
    have hnext : blocksV ((padL L).length / 64 - (k + 1)) (blockL H (((padL L).drop (64 * k)).take 64)) ((padL L).drop (64 * (k + 1))) = sumV L := by
      rw [← hinv, hn, show 64 * (k + 1) = 64 * k + 64 by omega, ← List.drop_drop]; rfl
    refine JM.mix 9 10 (by kernel_rfl) rfl rfl rfl rfl rfl rfl rfl (JS.val Vq rfl ?_) (Wi (Wd ⟨rfl, ?_⟩))
    · refine JM.last 10 (by kernel_rfl) rfl rfl rfl (Wi (Wd ⟨rfl, ?_⟩))
      refine JM.nil (by kernel_rfl) ?_
      repeat (first|refine Wa ?_|refine Wc ?_|refine Wd ?_|refine We rfl ?_|refine Wf (by first|exact Va|exact Vb|exact Vs (by omega)) rfl ?_|refine Wr ?_)
      exact ⟨k + 1, blockL H (((padL L).drop (64 * k)).take 64), ⟨by omega, hnext⟩, by omega, inferInstance⟩
    · refine JM.one 9 (by kernel_rfl) rfl rfl rfl rfl (JS.val Vq rfl ?_)
      refine JM.nil (by kernel_rfl) ?_
      repeat (first|refine Wa ?_|refine Wc ?_|refine Wd ?_|refine We rfl ?_|refine Wf (by first|exact Va|exact Vb|exact Vs (by omega)) rfl ?_|refine Wr ?_)
      exact ⟨k + 1, blockL H (((padL L).drop (64 * k)).take 64), ⟨by omega, hnext⟩, by omega, inferInstance⟩
  · have hk2 : 64 * k = (padL L).length := by omega
    have hk3 : (padL L).length / 64 - k = 0 := by omega
    rw [hk3] at hinv
    have hinv : H = sumV L := hinv
    subst hinv
    repeat (first|refine Wa ?_|refine Wb ?_|refine Wc ?_|refine We rfl ?_|refine Wm ?_|refine Wo ?_|refine Wp ?_)
    obtain ⟨S, hS⟩ : ∃ S, S = sumV L := ⟨_, rfl⟩
    have hsum : sumI L = idOfS S := by subst hS; rfl
    rw [← hS, hsum]
    clear hS hinv hsum
    refine Wf (OpV.build (idc id0) (by kernel_rfl)) rfl ?_
    repeat (first|refine Wa ?_|refine Wb ?_|refine Wc ?_|refine Wd ?_|refine We rfl ?_|refine Wf (by exact Vb) rfl ?_|(refine Wg rfl ?_; intro _)|refine Wi ?_|refine Wn ?_)
    rename_i bi
    refine JC.reown bi ((outK S.1 0).map byteV) (outK_id0 S.1) ?_
    refine JC.loop1 (fun k : Nat => [(2, .pointer (some ⟨bo, 0, none⟩)), (4, .pointer (some ⟨bh, 0, none⟩)), (6, .pointer (some ⟨bi, 0, none⟩)), (7, .int .i64 (k : Int))]) (fun k => [.own bi 47 ((outK S.1 k).map byteV), .own bh 137 (S.1.map w32), .own bo 47 (idc id0)])
      (fun k => k ≤ 8) (fun k => 8 - k) 0 (Nat.zero_le _) inferInstance ?_
    intro k hk
    repeat (first|refine Wa ?_|refine Wb ?_|refine Wc ?_|refine Wd ?_|refine We rfl ?_|refine Wf (by first|exact Va|exact Vg) rfl ?_)
    refine JC.test (fun hlt => ?_) (fun hge => ?_)
    · have hlt' : k < 8 := by omega
      have hkS : k < S.1.length := by rw [S.2]; exact hlt'
      repeat (first|refine Wa ?_|refine Wb ?_|refine Wc ?_|refine We rfl ?_|refine Wf (by exact Va) rfl ?_|refine Wl ?_|refine Wn ?_)
      refine Wf (OpV.indexArr hlt') rfl ?_
      refine We rfl ?_
      refine Wf (OpV.getW k hkS (by omega) rfl) rfl ?_
      repeat (refine We rfl ?_)
      refine JR.callV rfl (fun w1 hw => four_ref w1 _ _) ?_
      rw [getD_at hkS]
      repeat (first|refine Wa ?_|refine Wb ?_|refine Wc ?_|refine Wd ?_|refine We rfl ?_|refine Wf (by exact Vb) rfl ?_|(refine Wg rfl ?_; intro _)|refine Wi ?_|refine Wn ?_)
      rename_i bf
      rw [← outJ_zero]
      refine JC.loop1 (fun j : Nat => [(2, .pointer (some ⟨bo, 0, none⟩)), (4, .pointer (some ⟨bh, 0, none⟩)), (6, .pointer (some ⟨bi, 0, none⟩)), (7, .int .i64 (k : Int)), (8, .pointer (some ⟨bf, 0, none⟩)), (9, .int .i64 (j : Int))]) (fun j => [.own bi 47 ((outJ S.1 k j).map byteV), .own bh 137 (S.1.map w32), .own bo 47 (idc id0), .own bf 141 ((fourL (S.1.getD k 0)).map byteV)])
        (fun j => j ≤ 4) (fun j => 4 - j) 0 (Nat.zero_le _) inferInstance ?_
      intro j hj
      repeat (first|refine Wa ?_|refine Wb ?_|refine Wc ?_|refine Wd ?_|refine We rfl ?_|refine Wf (by first|exact Va|exact Vg) rfl ?_)
      refine JC.test (fun hlt2 => ?_) (fun hge2 => ?_)
      · have hj' : j < 4 := by omega
        repeat (first|refine Wa ?_|refine Wb ?_|refine Wc ?_|refine We rfl ?_|refine Wf (by exact Va) rfl ?_|refine Wl ?_|refine Wn ?_)
        refine Wf (OpV.mul (by omega)) rfl ?_
        refine JO.reslot 43 (.int .i64 ((4 * k : Nat) : Int)) (by congr 1) ?_
        repeat (first|refine We rfl ?_|refine Wf (by first|exact Va|exact Vs (by omega)) rfl ?_)
        refine Wf (OpV.indexArr hj') rfl ?_
        refine We rfl ?_
        refine Wf (OpV.getW j (by rw [four_len]; exact hj') (by omega) rfl) rfl ?_
        refine JO.reslot 48 (byteV (fourB (S.1.getD k 0) j)) (by simp [fourL]) ?_
        refine We rfl ?_
        refine Wf (OpV.indexArr (k := 4 * k + j) (by omega)) rfl ?_
        refine We rfl ?_
        refine JR.setW (4 * k + j) (fourB (S.1.getD k 0) j) (by rw [outJ_length S k j hlt' hj]; omega) (by omega) rfl ?_
        rw [outJ_set S k j hlt' hj']
        repeat (first|refine Wa ?_|refine Wc ?_|refine Wd ?_|refine We rfl ?_|refine Wf (by first|exact Va|exact Vb|exact Vk (by omega)) rfl ?_|refine Wr ?_)
        exact ⟨j + 1, by omega, by omega, inferInstance⟩
      · obtain rfl : j = 4 := by omega
        rw [outJ_four S k hlt']
        repeat (first|refine Wa ?_|refine Wc ?_|refine Wd ?_|refine We rfl ?_|refine Wf (by first|exact Va|exact Vb|exact Vk (by omega)) rfl ?_|refine Wm ?_|refine Wo ?_|refine Wp ?_|refine Wr ?_)
        exact ⟨k + 1, by omega, by omega, inferInstance⟩
    · obtain rfl : k = 8 := by omega
      have h8 : outK S.1 8 = S.1.flatMap fourL := by
        rw [outK, List.take_of_length_le (by rw [S.2]; exact Nat.le_refl _)]
        simp
      repeat (first | refine Wa ?_ | refine Wo ?_ | refine Wp ?_ | refine Wq rfl ?_ | refine Wr ?_ | refine Wm ?_)
      refine JC.reown bi (idc (idOfS S)) (by rw [h8]; rfl) ?_
      repeat (first|refine Wa ?_|refine Wb ?_|refine Wc ?_|refine Wd ?_|refine We rfl ?_|refine Wf (by exact Vc) rfl ?_|refine Wi ?_|refine Ws ?_)
      exact CT.done () rfl (fun w ho => ho.ent)
end Ab
end Go.Proofs.YtglclakhjmogiaaGreat

/- Contracts of the document's layers 3 and 5: Num, Fold, Text, Key, May, Put. -/
namespace Go.Proofs.YtglclakhjmogiaaGreat
namespace Ab
open Go Go.RowKit
set_option linter.unusedVariables false
set_option linter.unusedSimpArgs false
set_option synthInstance.maxSize 4000
set_option synthInstance.maxHeartbeats 400000
attribute [local irreducible] JC JO JR JQ andThen inBlock OpV Gives retTo JM JS

theorem or128 (n : Nat) : (UInt8.ofNat n ||| 128).toNat = n % 128 + 128 := by
  have key : ∀ x : Fin 256, (x.val ||| 128) = x.val % 128 + 128 := by decide +kernel
  rw [UInt8.toNat_or, UInt8.toNat_ofNat']
  have := key ⟨n % 256, Nat.mod_lt _ (by decide)⟩
  rw [show (128 : UInt8).toNat = 128 by decide]
  show n % 256 ||| 128 = _
  rw [show (n % 256 ||| 128) = n % 256 % 128 + 128 from this]
  omega
theorem num_byte (n : Nat) : IntKind.u8.wrap (((n % 128 + 128 : Nat)) : Int) = ((UInt8.ofNat n ||| 128).toNat : Int) := by
  rw [wrap8, or128]; omega
theorem num_last {n : Nat} : IntKind.u8.wrap (n : Int) = ((UInt8.ofNat n).toNat : Int) := by
  rw [wrap8, UInt8.toNat_ofNat']
theorem num_ref (m : Nat) (hm : m < 18446744073709551616) (w : World) (F : Nat → Prop) : GivesBuf Tryz.prog 124 [.int .u64 (m : Int)] w F 5 (numL m) := by
  have hml := numL_length m
  refine gives_of Tryz.func124 rfl Tryz.ntmps124 rfl rfl [] (.start w F) ?_
  refine JC.buf_nil (α := UInt8) 5 ?_
  repeat (first|refine Wa ?_|refine Wb ?_|refine Wc ?_|refine Wd ?_|refine We rfl ?_|refine Wf (by exact Vb) rfl ?_|refine Wn ?_)
  refine JC.loop5 (fun (n f : Nat) (out : List UInt8) p q => [(0, .int .u64 (n : Int)), (3, .slice p out.length q)]) (fun n f out p q => [.res (buf p q 5 out)])
    (fun n f out _ _ => n < 18446744073709551616 ∧ n < 128 ^ (f + 1) ∧ numL m = out ++ numF f n) (fun _ f _ _ _ => f) m 9 [] none 0 ⟨hm, by omega, rfl⟩ inferInstance ?_
  intro n f out p q ⟨hn, hf, heq⟩
  have hol : out.length ≤ 10 := by rw [heq, List.length_append] at hml; omega
  repeat (first|refine Wa ?_|refine Wb ?_|refine Wc ?_|refine Wd ?_|refine We rfl ?_|refine Wf (by first|exact Va|exact Vo) rfl ?_)
  refine JC.test (fun h1 => ?_) (fun h1 => ?_)
  · have h1' : 127 < n := by omega
    cases f with
    | zero => omega
    | succ f =>
      have hstep : numF (f + 1) n = (UInt8.ofNat n ||| 128) :: numF f (n / 128) := by rw [numF, if_pos h1']
      repeat (first|refine Wa ?_|refine Wb ?_|refine Wc ?_|refine We rfl ?_|refine Wf (by exact Va) rfl ?_|refine Wl ?_|refine Wn ?_)
      refine Wf (OpV.rem (by decide)) rfl ?_
      refine JO.reslot 8 (.int .u64 ((n % 128 : Nat) : Int)) (by congr 1) ?_
      refine We rfl ?_
      refine Wf OpV.addw rfl ?_
      refine JO.reslot 9 (.int .u64 ((n % 128 + 128 : Nat) : Int)) (congrArg (Value.int .u64) (by rw [show ((n % 128 : Nat) : Int) + 128 = ((n % 128 + 128 : Nat) : Int) by omega, wrap64]; omega)) ?_
      refine We rfl ?_
      refine Wf OpV.conv rfl ?_
      refine JO.reslot 10 (byteV (UInt8.ofNat n ||| 128)) (congrArg (Value.int .u8) (num_byte n)) ?_
      repeat (first|refine We rfl ?_|(refine Ww rfl ⟨rfl, by decide, by decide, by decide⟩ ?_; intro _))
      refine JR.append1 rfl (by exact ⟨rfl, rfl, by decide⟩) (by omega) ?_
      intro a2 c2
      repeat (first|refine Wa ?_|refine Wc ?_|refine Wd ?_|refine We rfl ?_|refine Wf (by first|exact Va|exact Vb) rfl ?_)
      refine Wf (OpV.quo (by decide)) rfl ?_
      refine JO.reslot 14 (.int .u64 ((n / 128 : Nat) : Int)) (congrArg (Value.int .u64) (by rw [Int.tdiv_eq_ediv_of_nonneg (by omega), show (n : Int) / 128 = ((n / 128 : Nat) : Int) by omega, wrap64]; omega)) ?_
      repeat (first|refine Wa ?_|refine Wd ?_|refine We rfl ?_|refine Wf (by exact Vb) rfl ?_|refine Wr ?_)
      exact ⟨n / 128, f, out ++ [UInt8.ofNat n ||| 128], a2, c2, ⟨by omega, by rw [Nat.pow_succ] at hf; omega, by rw [heq, hstep]; simp⟩, by omega, inferInstance⟩
  · have h1' : ¬ 127 < n := by omega
    have hlast : numF f n = [UInt8.ofNat n] := by cases f <;> simp [numF, h1']
    repeat (first|refine Wa ?_|refine Wb ?_|refine Wc ?_|refine We rfl ?_|refine Wf (by exact Va) rfl ?_|refine Wm ?_|refine Wo ?_|refine Wp ?_)
    refine Wf OpV.conv rfl ?_
    refine JO.reslot 17 (byteV (UInt8.ofNat n)) (congrArg (Value.int .u8) num_last) ?_
    repeat (first|refine We rfl ?_|(refine Ww rfl ⟨rfl, by decide, by decide, by decide⟩ ?_; intro _))
    refine JR.append1 rfl (by exact ⟨rfl, rfl, by decide⟩) (by omega) ?_
    intro a2 c2
    repeat (first|refine Wa ?_|refine Wd ?_|refine We rfl ?_|refine Wf (by exact Vb) rfl ?_|refine Ws ?_)
    rw [heq, hlast]
    exact CT.done (a2, c2) rfl (fun w ho => ho.ent)
theorem fold_ref (w : World) (F : Nat → Prop) (n : Int) (h : -1099511627776 ≤ n ∧ n ≤ 1099511627776) : GivesV Tryz.prog 125 [.int .i64 n] w F (.int .u64 ((foldN n : Nat) : Int)) := by
  have hw : ∀ z : Int, IntKind.u64.wrap z = z % 18446744073709551616 := fun z => by simp [IntKind.wrap, IntKind.bits, IntKind.signed]
  refine gives_of Tryz.func125 rfl Tryz.ntmps125 rfl rfl [] (.start w F) ?_
  repeat (first|refine Wa ?_|refine Wb ?_|refine Wc ?_|refine Wd ?_|refine We rfl ?_|refine Wf (by first|exact Va|exact Vb|exact Vp) rfl ?_)
  refine JC.test (fun h1 => ?_) (fun h1 => ?_)
  · repeat (first|refine Wb ?_|refine Wc ?_|refine We rfl ?_|refine Wf (by exact Va) rfl ?_)
    refine Wf OpV.conv rfl ?_
    refine We rfl ?_
    refine Wf OpV.mulw rfl ?_
    repeat (first|refine Wa ?_|refine Wd ?_|refine We rfl ?_|refine Wf (by exact Vb) rfl ?_|refine Ws ?_|refine Wt ?_)
    refine CT.done () ?_ (fun w ho => ho.ent)
    exact congrArg (Value.int .u64) (by rw [hw, hw, foldN, if_pos h1]; omega)
  · repeat (first|refine Wa ?_|refine Wb ?_|refine Wc ?_|refine We rfl ?_|refine Wf (by first|exact Va|exact Vv (by omega)) rfl ?_|refine Wl ?_)
    refine Wf OpV.conv rfl ?_
    refine We rfl ?_
    refine Wf OpV.mulw rfl ?_
    refine We rfl ?_
    refine Wf OpV.addw rfl ?_
    repeat (first|refine Wa ?_|refine Wd ?_|refine We rfl ?_|refine Wf (by exact Vb) rfl ?_|refine Ws ?_)
    refine CT.done () ?_ (fun w ho => ho.ent)
    exact congrArg (Value.int .u64) (by rw [hw, hw, hw, foldN, if_neg (by omega)]; omega)
theorem text_ref (s : ByteArray) (hs : s.size ≤ 1048576) (w : World) (F : Nat → Prop) : GivesBuf Tryz.prog 162 [.string s] w F 5 (textL s) := by
  have hnl := numL_length s.size
  refine gives_of Tryz.func162 rfl Tryz.ntmps162 rfl rfl [] (.start w F) ?_
  repeat (first|refine Wa ?_|refine Wb ?_|refine Wc ?_|refine Wd ?_|refine We rfl ?_|refine Wf (by first|exact Va|exact Vb|exact Vw) rfl ?_)
  refine Wf (OpV.convIn (by rw [wrap64]; omega)) rfl ?_
  repeat (refine We rfl ?_)
  refine JR.callBuf rfl (fun w1 hw => num_ref s.size (by omega) w1 _) ?_
  intro a1 c1
  repeat (first|refine We rfl ?_|refine Wf (by exact Va) rfl ?_)
  refine JR.appendStr rfl (by exact ⟨rfl, rfl, by decide⟩) (by omega) ?_
  intro a2 c2
  repeat (first|refine Wa ?_|refine Wd ?_|refine We rfl ?_|refine Wf (by exact Vb) rfl ?_|refine Ws ?_)
  exact CT.done (a2, c2) rfl (fun w ho => (ho.ent : Hold _ _ [.res (buf a2 c2 5 (numL s.size ++ bytesOf s))] w))
end Ab
end Go.Proofs.YtglclakhjmogiaaGreat

/- Contracts of the document's layers 5 and 9: Key, May, Put, Event. -/
namespace Go.Proofs.YtglclakhjmogiaaGreat
namespace Ab
open Go Go.RowKit
set_option linter.unusedVariables false
set_option linter.unusedSimpArgs false
set_option synthInstance.maxSize 4000
set_option synthInstance.maxHeartbeats 400000
attribute [local irreducible] JC JO JR JQ andThen inBlock OpV Gives retTo JM JS

theorem sign_iff (c : UInt8) : c ∈ signs ↔ (97 ≤ (c.toNat : Int) ∧ (c.toNat : Int) ≤ 122) ∨ (48 ≤ (c.toNat : Int) ∧ (c.toNat : Int) ≤ 57) := by
  have key : ∀ x : Fin 256, (UInt8.ofNat x.val ∈ signs) ↔ (97 ≤ x.val ∧ x.val ≤ 122) ∨ (48 ≤ x.val ∧ x.val ≤ 57) := by decide +kernel
  have h := key ⟨c.toNat, c.toNat_lt⟩
  dsimp only at h
  rw [show UInt8.ofNat c.toNat = c from UInt8.ofNat_toNat] at h
  rw [h]
  show _ ↔ _
  omega
set_option maxHeartbeats 1000000 in
theorem key_ref (w : World) (F : Nat → Prop) (s : ByteArray) (hs : s.size < 4611686018427387904) : GivesV Tryz.prog 141 [.string s] w F (.bool (keyOk s)) := by
  refine gives_of Tryz.func141 rfl Tryz.ntmps141 rfl rfl [] (.start w F) ?_
  repeat (first|refine Wa ?_|refine Wb ?_|refine Wc ?_|refine Wd ?_|refine We rfl ?_|refine Wf (by exact Vb) rfl ?_|refine Wn ?_)
  refine JC.loop1 (fun k : Nat => [(0, .string s), (3, .int .i64 (k : Int))]) (fun _ => [])
    (fun k => k ≤ s.size ∧ (s.data.toList.take k).all (fun c => decide (c ∈ signs)) = true) (fun k => s.size - k) 0 ⟨Nat.zero_le _, by simp⟩ inferInstance ?_
  intro k ⟨hk, hin⟩
  have hlen : s.data.toList.length = s.size := rfl
  repeat (first|refine Wa ?_|refine Wb ?_|refine Wc ?_|refine Wd ?_|refine We rfl ?_|refine Wf (by first|exact Va|exact Vg|exact Vw) rfl ?_)
  refine JC.test (fun hlt => ?_) (fun hge => ?_)
  · have hlt' : k < s.size := by omega
    have hget : s.data.toList[k]'(by omega) = s[k] := rfl
    repeat (first|refine Wa ?_|refine Wb ?_|refine Wc ?_|refine We rfl ?_|refine Wf (by exact Va) rfl ?_|refine Wl ?_|refine Wn ?_)
    refine Wf (OpV.indexStr hlt') rfl ?_
    repeat (first|refine We rfl ?_|refine Wf (by first|exact Va|exact Vp) rfl ?_)
    refine JO.test 14 (fun h13 => ?_) (fun h13 => ?_)
    · repeat (first|refine We rfl ?_|refine Wf (by exact Va) rfl ?_)
      refine Wf (OpV.indexStr hlt') rfl ?_
      repeat (first|refine We rfl ?_|refine Wf (by first|exact Va|exact Vi|exact Vn) rfl ?_)
      refine JO.test 20 (fun h18 => ?_) (fun h18 => ?_)
      · have h1 : s[k] ∈ signs := (sign_iff _).2 (by omega)
        repeat (first|refine Wa ?_|refine Wc ?_|refine Wd ?_|refine We rfl ?_|refine Wf (by first|exact Va|exact Vb|exact Vh|exact Vi|exact Vk (by omega)) rfl ?_|refine Wk ?_|refine Wl ?_|refine Wr ?_|refine Wv rfl rfl ?_|refine Wx rfl rfl ?_)
        refine ⟨k + 1, ⟨by omega, ?_⟩, by omega, inferInstance⟩
        rw [List.take_succ_eq_append_getElem (by omega), List.all_append, hin, hget]
        simp [h1]
      · repeat (first|refine We rfl ?_|refine Wf (by exact Va) rfl ?_)
        refine Wf (OpV.indexStr hlt') rfl ?_
        repeat (first|refine We rfl ?_|refine Wf (by first|exact Va|exact Vp) rfl ?_)
        refine JO.test 25 (fun h24 => ?_) (fun h24 => ?_)
        · repeat (first|refine We rfl ?_|refine Wf (by exact Va) rfl ?_)
          refine Wf (OpV.indexStr hlt') rfl ?_
          repeat (first|refine Wa ?_|refine Wd ?_|refine We rfl ?_|refine Wf (by first|exact Vh|exact Vi|exact Vj|exact Vn) rfl ?_)
          refine JC.test (fun h29 => ?_) (fun h29 => ?_)
          · have h2 : s.data.toList.all (fun c => decide (c ∈ signs)) = false := by
              rw [List.all_eq_false]
              refine ⟨s[k], by rw [← hget]; exact List.getElem_mem _, fun h => ?_⟩
              have := (sign_iff _).1 (of_decide_eq_true h)
              omega
            repeat (first|refine Wa ?_|refine Wb ?_|refine Wc ?_|refine Wd ?_|refine We rfl ?_|refine Wf (by exact Vb) rfl ?_|refine Ws ?_|refine Wt ?_|refine Wu ?_)
            refine CT.done () ?_ (fun w ho => ho.ent)
            simp [packed, keyOk, h2]
          · have h1 : s[k] ∈ signs := (sign_iff _).2 (by omega)
            repeat (first|refine Wa ?_|refine Wc ?_|refine Wd ?_|refine We rfl ?_|refine Wf (by first|exact Va|exact Vb|exact Vk (by omega)) rfl ?_|refine Wl ?_|refine Wr ?_)
            refine ⟨k + 1, ⟨by omega, ?_⟩, by omega, inferInstance⟩
            rw [List.take_succ_eq_append_getElem (by omega), List.all_append, hin, hget]
            simp [h1]
        · have h2 : s.data.toList.all (fun c => decide (c ∈ signs)) = false := by
            rw [List.all_eq_false]
            refine ⟨s[k], by rw [← hget]; exact List.getElem_mem _, fun h => ?_⟩
            have := (sign_iff _).1 (of_decide_eq_true h)
            omega
          repeat (first|refine Wa ?_|refine Wb ?_|refine Wc ?_|refine Wd ?_|refine We rfl ?_|refine Wf (by first|exact Vb|exact Vh|exact Vj) rfl ?_|refine Wj ?_|refine Ws ?_|refine Wt ?_|refine Wu ?_|refine Wv rfl rfl ?_)
          refine CT.done () ?_ (fun w ho => ho.ent)
          simp [packed, keyOk, h2]
    · repeat (first|refine We rfl ?_|refine Wf (by first|exact Va|exact Vj) rfl ?_|refine Wv rfl rfl ?_)
      refine Wf (OpV.indexStr hlt') rfl ?_
      repeat (first|refine We rfl ?_|refine Wf (by first|exact Va|exact Vp) rfl ?_)
      refine JO.test 25 (fun h24 => ?_) (fun h24 => ?_)
      · repeat (first|refine We rfl ?_|refine Wf (by exact Va) rfl ?_)
        refine Wf (OpV.indexStr hlt') rfl ?_
        repeat (first|refine Wa ?_|refine Wd ?_|refine We rfl ?_|refine Wf (by first|exact Vh|exact Vi|exact Vj|exact Vn) rfl ?_)
        refine JC.test (fun h29 => ?_) (fun h29 => ?_)
        · have h2 : s.data.toList.all (fun c => decide (c ∈ signs)) = false := by
            rw [List.all_eq_false]
            refine ⟨s[k], by rw [← hget]; exact List.getElem_mem _, fun h => ?_⟩
            have := (sign_iff _).1 (of_decide_eq_true h)
            omega
          repeat (first|refine Wa ?_|refine Wb ?_|refine Wc ?_|refine Wd ?_|refine We rfl ?_|refine Wf (by exact Vb) rfl ?_|refine Ws ?_|refine Wt ?_|refine Wu ?_)
          refine CT.done () ?_ (fun w ho => ho.ent)
          simp [packed, keyOk, h2]
        · have h1 : s[k] ∈ signs := (sign_iff _).2 (by omega)
          repeat (first|refine Wa ?_|refine Wc ?_|refine Wd ?_|refine We rfl ?_|refine Wf (by first|exact Va|exact Vb|exact Vk (by omega)) rfl ?_|refine Wl ?_|refine Wr ?_)
          refine ⟨k + 1, ⟨by omega, ?_⟩, by omega, inferInstance⟩
          rw [List.take_succ_eq_append_getElem (by omega), List.all_append, hin, hget]
          simp [h1]
      · have h2 : s.data.toList.all (fun c => decide (c ∈ signs)) = false := by
          rw [List.all_eq_false]
          refine ⟨s[k], by rw [← hget]; exact List.getElem_mem _, fun h => ?_⟩
          have := (sign_iff _).1 (of_decide_eq_true h)
          omega
        repeat (first|refine Wa ?_|refine Wb ?_|refine Wc ?_|refine Wd ?_|refine We rfl ?_|refine Wf (by first|exact Vb|exact Vh|exact Vj) rfl ?_|refine Wj ?_|refine Ws ?_|refine Wt ?_|refine Wu ?_|refine Wv rfl rfl ?_)
        refine CT.done () ?_ (fun w ho => ho.ent)
        simp [packed, keyOk, h2]
  · have hall : s.data.toList.all (fun c => decide (c ∈ signs)) = true := by
      rwa [List.take_of_length_le (by omega)] at hin
    repeat (first|refine Wa ?_|refine Wb ?_|refine Wc ?_|refine We rfl ?_|refine Wf (by first|exact Va|exact Vp|exact Vw) rfl ?_|refine Wm ?_|refine Wo ?_|refine Wp ?_)
    refine JO.test 36 (fun h => ?_) (fun h => ?_)
    · repeat (first|refine Wa ?_|refine Wd ?_|refine We rfl ?_|refine Wf (by first|exact Va|exact Vb|exact Vi|exact Vn|exact Vw) rfl ?_|refine Ws ?_)
      refine CT.done () ?_ (fun w ho => ho.ent)
      have : s.size ≠ 0 := by omega
      simp only [packed, keyOk, hall, Bool.true_and, this, decide_true, ne_eq, not_false_eq_true]
      simp
      omega
    · repeat (first|refine Wa ?_|refine Wd ?_|refine We rfl ?_|refine Wf (by first|exact Vb|exact Vj) rfl ?_|refine Ws ?_|refine Wv rfl rfl ?_)
      refine CT.done () ?_ (fun w ho => ho.ent)
      have : s.size = 0 := by omega
      simp [packed, keyOk, this]

theorem event_ref (w : World) (F : Nat → Prop) (a b : Int) : GivesV Tryz.prog 104 [.agg ⟨[.int .i64 a, .int .i64 b]⟩] w F (.bool (inB a 0 7 && inB b 1 1048576)) := by
  refine gives_of Tryz.func104 rfl Tryz.ntmps104 rfl rfl [] (.start w F) ?_
  repeat (first|refine Wa ?_|refine Wb ?_|refine Wc ?_|refine Wd ?_|refine We rfl ?_|refine Wf (by first|exact Va|exact Vb|exact Vc|exact Vd|exact Vp) rfl ?_|(refine Wh rfl ?_; intro _))
  refine JO.test 6 (fun h1 => ?_) (fun h1 => ?_)
  · repeat (first|refine We rfl ?_|refine Wf (by first|exact Va|exact Vc|exact Vd|exact Vg|exact Vi) rfl ?_)
    refine JO.test 11 (fun h2 => ?_) (fun h2 => ?_)
    · repeat (first|refine We rfl ?_|refine Wf (by first|exact Va|exact Vc|exact Vd|exact Vi|exact Vp) rfl ?_)
      refine JO.test 16 (fun h3 => ?_) (fun h3 => ?_)
      · repeat (first|refine Wa ?_|refine Wd ?_|refine We rfl ?_|refine Wf (by first|exact Vb|exact Vc|exact Vd|exact Vi|exact Vn) rfl ?_|refine Ws ?_)
        refine CT.done () ?_ (fun w ho => ho.ent)
        have : a ≤ 7 := by omega
        simp [packed, inB, h1, this, h3]
      · repeat (first|refine Wa ?_|refine Wd ?_|refine We rfl ?_|refine Wf (by first|exact Vb|exact Vj) rfl ?_|refine Ws ?_|refine Wv rfl rfl ?_)
        refine CT.done () ?_ (fun w ho => ho.ent)
        simp [packed, inB, h3]
    · repeat (first|refine Wa ?_|refine Wd ?_|refine We rfl ?_|refine Wf (by first|exact Va|exact Vb|exact Vj) rfl ?_|refine Ws ?_|refine Wv rfl rfl ?_)
      refine CT.done () ?_ (fun w ho => ho.ent)
      have : ¬ a ≤ 7 := by omega
      simp [packed, inB, this]
  · repeat (first|refine Wa ?_|refine Wd ?_|refine We rfl ?_|refine Wf (by first|exact Va|exact Vb|exact Vj) rfl ?_|refine Ws ?_|refine Wv rfl rfl ?_)
    refine CT.done () ?_ (fun w ho => ho.ent)
    simp [packed, inB, h1]

set_option maxHeartbeats 1000000 in
theorem opmay_ref : Tests Tryz.prog 105 opMay := by
  intro w F o h1 h2
  refine gives_of Tryz.func105 rfl Tryz.ntmps105 rfl rfl [] (.start w F) ?_
  repeat (first|refine Wa ?_|refine Wb ?_|refine Wc ?_|refine Wd ?_|refine We rfl ?_|refine Wf (by first|exact Vb|exact Vc|exact Vd) rfl ?_|(refine Wh rfl ?_; intro _))
  refine JR.callV rfl (fun w1 hw => key_ref w1 _ o.key h1) ?_
  repeat (first|refine Wa ?_|refine Wb ?_|refine Wc ?_|refine Wd ?_|refine We rfl ?_|refine Wf (by first|exact Vb|exact Vc|exact Vd) rfl ?_)
  refine JR.callV rfl (fun w1 hw => key_ref w1 _ o.elem h2) ?_
  cases hk : keyOk o.key with
  | false =>
    repeat (first|refine Wa ?_|refine Wb ?_|refine Wc ?_|refine Wd ?_|refine We rfl ?_|refine Wf (by first|exact Va|exact Vb|exact Vh) rfl ?_|refine Wj ?_|refine Ws ?_|refine Wt ?_)
    refine CT.done () ?_ (fun w ho => ho.ent)
    simp [packed, opMay, *] <;> exact Iff.rfl
  | true =>
    repeat (first|refine Wa ?_|refine Wb ?_|refine Wc ?_|refine Wd ?_|refine We rfl ?_|refine Wf (by first|exact Va|exact Vb|exact Vc|exact Vd|exact Vh|exact Vl) rfl ?_|refine Wk ?_|refine Wl ?_)
    refine JC.test (fun hk0 => ?_) (fun hk0 => ?_)
    · repeat (first|refine Wb ?_|refine Wc ?_|refine We rfl ?_|refine Wf (by first|exact Va|exact Vc|exact Vd|exact Vp) rfl ?_)
      refine JO.test 19 (fun h3 => ?_) (fun h3 => ?_)
      · repeat (first|refine We rfl ?_|refine Wf (by first|exact Va|exact Vc|exact Vd|exact Vi|exact Vn) rfl ?_)
        refine JO.test 24 (fun h4 => ?_) (fun h4 => ?_)
        · repeat (first|refine We rfl ?_|refine Wf (by first|exact Va|exact Vc|exact Vd|exact Vi|exact Vm) rfl ?_)
          refine JO.test 29 (fun h5 => ?_) (fun h5 => ?_)
          · repeat (first|refine Wa ?_|refine Wd ?_|refine We rfl ?_|refine Wf (by first|exact Vb|exact Vc|exact Vd|exact Vi|exact VB) rfl ?_|refine Ws ?_|refine Wt ?_)
            refine CT.done () ?_ (fun w ho => ho.ent)
            simp [packed, opMay, *] <;> exact Iff.rfl
          · repeat (first|refine Wa ?_|refine Wd ?_|refine We rfl ?_|refine Wf (by first|exact Vb|exact Vj) rfl ?_|refine Ws ?_|refine Wt ?_|refine Wv rfl rfl ?_)
            refine CT.done () ?_ (fun w ho => ho.ent)
            simp [packed, opMay, *] <;> exact Iff.rfl
        · repeat (first|refine Wa ?_|refine Wd ?_|refine We rfl ?_|refine Wf (by first|exact Va|exact Vb|exact Vj) rfl ?_|refine Ws ?_|refine Wt ?_|refine Wv rfl rfl ?_)
          refine CT.done () ?_ (fun w ho => ho.ent)
          simp [packed, opMay, *] <;> exact Iff.rfl
      · repeat (first|refine Wa ?_|refine Wd ?_|refine We rfl ?_|refine Wf (by first|exact Va|exact Vb|exact Vj) rfl ?_|refine Ws ?_|refine Wt ?_|refine Wv rfl rfl ?_)
        refine CT.done () ?_ (fun w ho => ho.ent)
        simp [packed, opMay, *] <;> exact Iff.rfl
    · repeat (first|refine Wa ?_|refine Wb ?_|refine Wc ?_|refine We rfl ?_|refine Wf (by first|exact Va|exact Vc|exact Vd|exact Vl) rfl ?_|refine Wl ?_)
      cases he : keyOk o.elem with
      | false =>
        refine JO.test 37 (fun h3 => ?_) (fun h3 => ?_)
        · repeat (first|refine Wa ?_|refine Wd ?_|refine We rfl ?_|refine Wf (by first|exact Va|exact Vb|exact Vi|exact Vj) rfl ?_|refine Ws ?_|refine Wv rfl rfl ?_)
          refine CT.done () ?_ (fun w ho => ho.ent)
          simp [packed, opMay, *] <;> exact Iff.rfl
        · repeat (first|refine We rfl ?_|refine Wf (by first|exact Va|exact Vc|exact Vd|exact Vj|exact Vl) rfl ?_)
          refine JO.test 42 (fun h4 => ?_) (fun h4 => ?_)
          · repeat (first|refine Wa ?_|refine Wd ?_|refine We rfl ?_|refine Wf (by first|exact Va|exact Vb|exact Vi|exact Vj) rfl ?_|refine Ws ?_|refine Wv rfl rfl ?_)
            refine CT.done () ?_ (fun w ho => ho.ent)
            simp [packed, opMay, *] <;> exact Iff.rfl
          · repeat (first|refine We rfl ?_|refine Wf (by first|exact Va|exact Vc|exact Vd|exact Vj|exact Vl) rfl ?_)
            refine JO.test 47 (fun h5 => ?_) (fun h5 => ?_)
            · repeat (first|refine Wa ?_|refine Wd ?_|refine We rfl ?_|refine Wf (by first|exact Va|exact Vb|exact Vi|exact Vj) rfl ?_|refine Ws ?_|refine Wv rfl rfl ?_)
              refine CT.done () ?_ (fun w ho => ho.ent)
              simp [packed, opMay, *] <;> exact Iff.rfl
            · repeat (first|refine Wa ?_|refine Wd ?_|refine We rfl ?_|refine Wf (by first|exact Va|exact Vb|exact Vj) rfl ?_|refine Ws ?_|refine Wv rfl rfl ?_)
              refine CT.done () ?_ (fun w ho => ho.ent)
              simp [packed, opMay, *] <;> exact Iff.rfl
      | true =>
        refine JO.test 37 (fun h3 => ?_) (fun h3 => ?_)
        · repeat (first|refine Wa ?_|refine Wd ?_|refine We rfl ?_|refine Wf (by first|exact Va|exact Vb|exact Vc|exact Vd|exact Vi|exact Vl) rfl ?_|refine Ws ?_|refine Wv rfl rfl ?_)
          refine CT.done () ?_ (fun w ho => ho.ent)
          simp [packed, opMay, *] <;> exact Iff.rfl
        · repeat (first|refine We rfl ?_|refine Wf (by first|exact Va|exact Vc|exact Vd|exact Vj|exact Vl) rfl ?_)
          refine JO.test 42 (fun h4 => ?_) (fun h4 => ?_)
          · repeat (first|refine Wa ?_|refine Wd ?_|refine We rfl ?_|refine Wf (by first|exact Va|exact Vb|exact Vc|exact Vd|exact Vi|exact Vl) rfl ?_|refine Ws ?_|refine Wv rfl rfl ?_)
            refine CT.done () ?_ (fun w ho => ho.ent)
            simp [packed, opMay, *] <;> exact Iff.rfl
          · repeat (first|refine We rfl ?_|refine Wf (by first|exact Va|exact Vc|exact Vd|exact Vj|exact Vl) rfl ?_)
            refine JO.test 47 (fun h5 => ?_) (fun h5 => ?_)
            · repeat (first|refine Wa ?_|refine Wd ?_|refine We rfl ?_|refine Wf (by first|exact Va|exact Vb|exact Vc|exact Vd|exact Vi|exact Vl) rfl ?_|refine Ws ?_)
              refine CT.done () ?_ (fun w ho => ho.ent)
              simp [packed, opMay, *] <;> exact Iff.rfl
            · repeat (first|refine Wa ?_|refine Wd ?_|refine We rfl ?_|refine Wf (by first|exact Va|exact Vb|exact Vj) rfl ?_|refine Ws ?_|refine Wv rfl rfl ?_)
              refine CT.done () ?_ (fun w ho => ho.ent)
              simp [packed, opMay, *] <;> exact Iff.rfl
end Ab
end Go.Proofs.YtglclakhjmogiaaGreat

/- Contracts of the document's layer 5: Put. -/
namespace Go.Proofs.YtglclakhjmogiaaGreat
namespace Ab
open Go Go.RowKit
set_option linter.unusedVariables false
set_option linter.unusedSimpArgs false
set_option synthInstance.maxSize 4000
set_option synthInstance.maxHeartbeats 400000
attribute [local irreducible] JC JO JR JQ andThen inBlock OpV Gives retTo JM JS

attribute [local irreducible] sumI numL textL opPut keyOk
set_option maxHeartbeats 1000000 in
theorem opput_ref (w : World) (F : Nat → Prop) (o : Op_) (hk : o.key.size < 4611686018427387904) (he : o.elem.size < 4611686018427387904) : GivesSlT Tryz.prog 126 [opV o] w F (putOp o).1 [.int .i64 (putOp o).2] := by
  refine gives_of Tryz.func126 rfl Tryz.ntmps126 rfl rfl [] (.start w F) ?_
  repeat (first|refine Wa ?_|refine Wb ?_|refine Wc ?_|refine Wd ?_|refine We rfl ?_|refine Wf (by first|exact Vb|exact Vc) rfl ?_|(refine Wh rfl ?_; intro _))
  rename_i bo
  refine JR.callV rfl (fun w1 hw => opmay_ref w1 _ o hk he) ?_
  repeat (first|refine Wa ?_|refine Wb ?_|refine Wc ?_|refine Wd ?_|refine We rfl ?_|refine Wf (by first|exact Va|exact Vb|exact Vh) rfl ?_)
  refine JC.test (fun h1 => ?_) (fun h1 => ?_)
  · have h2 : putOp o = ([], 1) := by simp [putOp, h1]
    rw [h2]
    repeat (first|refine Wa ?_|refine Wb ?_|refine Wc ?_|refine Wd ?_|refine We rfl ?_|refine Wf (by exact Vb) rfl ?_|refine Ws ?_|refine Wt ?_)
    exact CT.done (none, 0) rfl (fun w ho => (ho.ent : Hold _ _ [] w).add sl_nil)
  have h1 : opMay o = true := by simpa using h1
  have h2 : putOp o = (opPut o, 0) := by simp [putOp, h1]
  obtain ⟨⟨hkk, hkn⟩, hks, _, _, _, _, _, _, _, _, hlen⟩ := put_facts o h1
  have hconv : IntKind.u64.wrap o.kind = o.kind := by rw [hkk, wrap64]; omega
  have hnl := numL_length o.kind.toNat
  have htl := textL_length o.key
  have hsz : o.key.size ≤ 1048576 ∧ o.elem.size ≤ 1048576 ∧ -1099511627776 ≤ o.n ∧ o.n ≤ 1099511627776 := by
    have h3 := h1
    unfold opMay at h3
    split at h3
    · simp only [Bool.and_eq_true, decide_eq_true_eq] at h3
      exact ⟨hks, by rw [h3.2.2]; decide, by omega, by omega⟩
    · split at h3
      · simp only [Bool.and_eq_true, decide_eq_true_eq] at h3
        have := h3.2.2
        unfold keyOk at this
        simp only [Bool.and_eq_true, decide_eq_true_eq] at this
        exact ⟨hks, by omega, by omega, by omega⟩
      · cases h3
  rw [h2]
  repeat (first|refine Wa ?_|refine Wb ?_|refine Wl ?_)
  refine JC.draw 7 mixed ?_
  refine JM.take 0 rfl (by kernel_rfl) rfl Vd rfl rfl ?_
  refine JM.take 1 rfl (by kernel_rfl) rfl Vc rfl rfl ?_
  refine JM.take 2 rfl (by kernel_rfl) rfl (OpV.convIn hconv) rfl rfl ?_
  refine JM.reslot 12 (.int .u64 ((o.kind.toNat : Nat) : Int)) (congrArg (Value.int .u64) hkk) ?_
  refine JM.take 4 rfl (by kernel_rfl) rfl Vd rfl rfl ?_
  refine JM.take 5 rfl (by kernel_rfl) rfl Vc rfl rfl ?_
  refine JM.one 3 (by kernel_rfl) rfl rfl rfl rfl (JS.callBuf rfl (fun w1 hw => num_ref _ (by omega) w1 _) fun aN cN => ?_)
  refine JM.one 6 (by kernel_rfl) rfl rfl rfl rfl (JS.callBuf rfl (fun w1 hw => text_ref _ hks w1 _) fun aT cT => ?_)
  refine JM.more (fun w1 ho => ho.pub) ?_
  refine JM.last 7 (by kernel_rfl) rfl rfl rfl (JR.appendSl rfl (by exact ⟨rfl, rfl, by decide⟩) (by omega) (fun a5 c5 => Wd ⟨rfl, ?_⟩))
  refine JM.last 8 (by kernel_rfl) rfl rfl rfl (Wf Vb rfl (Wd ⟨rfl, ?_⟩))
  refine JM.nil (by kernel_rfl) ?_
  repeat (first|refine Wa ?_|refine Wb ?_|refine Wc ?_|refine Wd ?_|refine We rfl ?_|refine Wf (by first|exact Vc|exact Vd|exact Vl) rfl ?_)
  refine JC.test (fun h3 => ?_) (fun h3 => ?_)
  · have hop : opPut o = (numL o.kind.toNat ++ textL o.key) ++ numL (foldN o.n) := by unfold opPut; rw [if_pos h3]
    have hnn := numL_length (foldN o.n)
    rw [hop]
    repeat (first|refine Wb ?_|refine Wc ?_|refine We rfl ?_|refine Wf (by first|exact Va|exact Vc|exact Vd) rfl ?_)
    refine JR.callV rfl (fun w1 hw => fold_ref w1 _ o.n hsz.2.2) ?_
    repeat (refine We rfl ?_)
    refine JR.callBuf rfl (fun w1 hw => num_ref _ (foldN_lt hsz.2.2) w1 _) ?_
    intro a6 c6
    refine JO.more (fun w1 ho => ho.pub) ?_
    repeat (refine We rfl ?_)
    refine JR.appendSl rfl (by exact ⟨rfl, rfl, by decide⟩) (by rw [List.length_append]; omega) ?_
    intro a7 c7
    repeat (first|refine Wa ?_|refine Wd ?_|refine We rfl ?_|refine Wf (by exact Vb) rfl ?_|refine Ws ?_|refine Wt ?_)
    exact CT.done (a7, c7) rfl (fun w ho => Hold.left (Γ := [.st (sl a7 c7 ((numL o.kind.toNat ++ textL o.key) ++ numL (foldN o.n)))]) (Hold.pub (ho.ent : Hold _ _ [.res (buf a7 c7 5 ((numL o.kind.toNat ++ textL o.key) ++ numL (foldN o.n)))] w)))
  · have hop : opPut o = (numL o.kind.toNat ++ textL o.key) ++ textL o.elem := by unfold opPut; rw [if_neg h3]
    have hnn := textL_length o.elem
    rw [hop]
    repeat (first|refine Wa ?_|refine Wb ?_|refine Wc ?_|refine We rfl ?_|refine Wf (by first|exact Va|exact Vc|exact Vd) rfl ?_|refine Wl ?_)
    refine JR.callBuf rfl (fun w1 hw => text_ref _ hsz.2.1 w1 _) ?_
    intro a6 c6
    refine JO.more (fun w1 ho => ho.pub) ?_
    repeat (refine We rfl ?_)
    refine JR.appendSl rfl (by exact ⟨rfl, rfl, by decide⟩) (by rw [List.length_append]; omega) ?_
    intro a7 c7
    repeat (first|refine Wa ?_|refine Wd ?_|refine We rfl ?_|refine Wf (by exact Vb) rfl ?_|refine Ws ?_)
    exact CT.done (a7, c7) rfl (fun w ho => Hold.left (Γ := [.st (sl a7 c7 ((numL o.kind.toNat ++ textL o.key) ++ textL o.elem))]) (Hold.pub (ho.ent : Hold _ _ [.res (buf a7 c7 5 ((numL o.kind.toNat ++ textL o.key) ++ textL o.elem))] w)))
end Ab
end Go.Proofs.YtglclakhjmogiaaGreat

/- Contracts of the document's layer 4: Less, Has, Rises. -/
namespace Go.Proofs.YtglclakhjmogiaaGreat
namespace Ab
open Go Go.RowKit
set_option linter.unusedVariables false
set_option linter.unusedSimpArgs false
set_option synthInstance.maxSize 4000
set_option synthInstance.maxHeartbeats 400000
attribute [local irreducible] JC JO JR JQ andThen inBlock OpV Gives retTo JM JS

theorem lt_at {A B : List UInt8} (i : Nat) (hA : i < A.length) (hB : i < B.length) (h : A.take i = B.take i) (hne : A[i] ≠ B[i]) : A < B ↔ A[i] < B[i] := by
  induction i generalizing A B with
  | zero =>
    match A, B, hA, hB with
    | a :: A, b :: B, _, _ =>
      simp only [List.getElem_cons_zero] at hne ⊢
      rw [List.cons_lt_cons_iff]
      simp [hne]
  | succ i ih =>
    match A, B, hA, hB with
    | a :: A, b :: B, hA, hB =>
      simp only [List.take_succ_cons, List.cons.injEq] at h
      simp only [List.getElem_cons_succ] at hne ⊢
      rw [List.cons_lt_cons_iff]
      have := ih (by simpa using hA) (by simpa using hB) h.2 hne
      rw [← this]
      have hirr : ¬ a < b := by rw [h.1]; exact UInt8.lt_irrefl _
      simp [hirr, h.1]
theorem idLt_at {a b : ID} (i : Nat) (hi : i < 32) (h : a.1.take i = b.1.take i) (hne : a.1[i]'(by rw [a.2]; exact hi) ≠ b.1[i]'(by rw [b.2]; exact hi)) :
    idLt a b = decide (((a.1[i]'(by rw [a.2]; exact hi)).toNat : Int) < ((b.1[i]'(by rw [b.2]; exact hi)).toNat : Int)) := by
  rw [Bool.eq_iff_iff, idLt_iff, lt_at i (by rw [a.2]; exact hi) (by rw [b.2]; exact hi) h hne, decide_eq_true_eq, UInt8.lt_iff_toNat_lt]
  omega

theorem less_ref (w : World) (F : Nat → Prop) (a b : ID) : GivesV Tryz.prog 101 [.agg ⟨idc a⟩, .agg ⟨idc b⟩] w F (.bool (idLt a b)) := by
  refine gives_of Tryz.func101 rfl Tryz.ntmps101 rfl rfl [] (.start w F) ?_
  repeat (first|refine Wa ?_|refine Wb ?_|refine Wc ?_|refine Wd ?_|refine We rfl ?_|refine Wf (by exact Vb) rfl ?_|(refine Wh rfl ?_; intro _)|refine Wn ?_)
  rename_i ba bb
  refine JC.reown ba (a.1.map byteV) rfl ?_
  refine JC.reown bb (b.1.map byteV) rfl ?_
  refine JC.loop1 (fun k : Nat => [(2, .pointer (some ⟨ba, 0, none⟩)), (3, .pointer (some ⟨bb, 0, none⟩)), (5, .int .i64 (k : Int))]) (fun _ => [.own ba 47 (a.1.map byteV), .own bb 47 (b.1.map byteV)])
    (fun k => k ≤ 32 ∧ a.1.take k = b.1.take k) (fun k => 32 - k) 0 ⟨Nat.zero_le _, rfl⟩ inferInstance ?_
  intro k ⟨hk, heq⟩
  repeat (first|refine Wa ?_|refine Wb ?_|refine Wc ?_|refine Wd ?_|refine We rfl ?_|refine Wf (by first|exact Va|exact Vg) rfl ?_)
  refine JC.test (fun hlt => ?_) (fun hge => ?_)
  · have hlt' : k < 32 := by omega
    have ha : k < a.1.length := by rw [a.2]; exact hlt'
    have hb : k < b.1.length := by rw [b.2]; exact hlt'
    repeat (first|refine Wa ?_|refine Wb ?_|refine Wl ?_|refine Wn ?_)
    refine JC.quiet mixed (by kernel_rfl) ?_
    refine Wy rfl Va rfl ?_
    refine Wy rfl (OpV.indexArr hlt') rfl ?_
    refine Wy rfl (OpV.getW k ha (by omega) rfl) rfl ?_
    refine Wy rfl Va rfl ?_
    refine Wy rfl (OpV.indexArr hlt') rfl ?_
    refine Wy rfl (OpV.getW k hb (by omega) rfl) rfl ?_
    repeat (first|refine Wy rfl (by exact Vm) rfl ?_|refine WB ?_)
    repeat (refine Wa ?_)
    refine JC.test (fun hne => ?_) (fun he => ?_)
    · have hne' : a.1[k] ≠ b.1[k] := fun h => by rw [h] at hne; exact hne rfl
      repeat (refine Wb ?_)
      refine JC.quiet mixed (by kernel_rfl) ?_
      refine Wy rfl Va rfl ?_
      refine Wy rfl (OpV.indexArr hlt') rfl ?_
      refine Wy rfl (OpV.getW k ha (by omega) rfl) rfl ?_
      refine Wy rfl Va rfl ?_
      refine Wy rfl (OpV.indexArr hlt') rfl ?_
      refine Wy rfl (OpV.getW k hb (by omega) rfl) rfl ?_
      repeat (first|refine Wy rfl (by first|exact Vb|exact Vg) rfl ?_|refine WB ?_)
      repeat (first|refine Wa ?_|refine Ws ?_|refine Wt ?_|refine Wu ?_)
      exact CT.done () (by rw [idLt_at k hlt' heq hne']; rfl) (fun w ho => ho.ent)
    · have he' : a.1[k] = b.1[k] := UInt8.toNat_inj.1 (by omega)
      repeat (first|refine Wa ?_|refine Wc ?_|refine Wd ?_|refine We rfl ?_|refine Wf (by first|exact Va|exact Vb|exact Vk (by omega)) rfl ?_|refine Wl ?_|refine Wr ?_)
      exact ⟨k + 1, ⟨by omega, by rw [List.take_succ_eq_append_getElem ha, List.take_succ_eq_append_getElem hb, heq, he']⟩, by omega, inferInstance⟩
  · have hk2 : k = 32 := by omega
    have hab : a = b := Subtype.ext (by
      rw [List.take_of_length_le (by rw [a.2]; omega), List.take_of_length_le (by rw [b.2]; omega)] at heq
      exact heq)
    subst hab
    repeat (first|refine Wa ?_|refine Wb ?_|refine Wc ?_|refine Wd ?_|refine We rfl ?_|refine Wf (by exact Vb) rfl ?_|refine Wm ?_|refine Wo ?_|refine Wp ?_|refine Ws ?_)
    exact CT.done () (by rw [idLt_irrefl]; rfl) (fun w ho => ho.ent)

theorem hasid_ref (w : World) (F : Nat → Prop) (a : Option Addr) (c : Nat) (L : List ID) (x : ID) (h : (sl a c L).holds F w) :
    GivesV Tryz.prog 56 [.slice a L.length c, .agg ⟨idc x⟩] w F (.bool (decide (x ∈ L))) := by
  have hL : L.length < 9223372036854775807 := by have := h.2.2.1; simp only [lim] at this; omega
  refine gives_of Tryz.func56 rfl Tryz.ntmps56 rfl rfl [.st (sl a c L)] (.start1 h) ?_
  repeat (first|refine Wa ?_|refine Wb ?_|refine Wc ?_|refine Wd ?_|refine We rfl ?_|refine Wf (by exact Vb) rfl ?_|(refine Wh rfl ?_; intro _)|refine Wn ?_)
  rename_i bx
  refine JC.loop1 (fun k : Nat => [(0, .slice a L.length c), (3, .pointer (some ⟨bx, 0, none⟩)), (5, .int .i64 (k : Int))]) (fun _ => [.own bx 47 (idc x), .st (sl a c L)])
    (fun k => k ≤ L.length ∧ x ∉ L.take k) (fun k => L.length - k) 0 ⟨Nat.zero_le _, by simp⟩ inferInstance ?_
  intro k ⟨hk, hno⟩
  repeat (first|refine Wa ?_|refine Wb ?_|refine Wc ?_|refine Wd ?_|refine We rfl ?_|refine Wf (by first|exact Va|exact Vf|exact Vg) rfl ?_)
  refine JC.test (fun hlt => ?_) (fun hge => ?_)
  · have hlt' : k < L.length := by omega
    repeat (first|refine Wa ?_|refine Wb ?_|refine Wl ?_|refine Wn ?_)
    refine JC.openID (.slice a L.length c) k hlt' ?_
    intro b1 o1
    refine JC.quiet mixed (by kernel_rfl) ?_
    repeat (first|refine Wy rfl (by first|exact Va|exact Vc|exact Ve|exact Vx) rfl ?_|refine WB ?_)
    repeat (refine Wa ?_)
    refine JC.test (fun he => ?_) (fun hne => ?_)
    · have : x ∈ L := by rw [← he]; exact List.getElem_mem _
      repeat (first|refine Wa ?_|refine Wb ?_|refine Wc ?_|refine Wd ?_|refine We rfl ?_|refine Wf (by exact Vb) rfl ?_|refine Ws ?_|refine Wt ?_|refine Wu ?_)
      exact CT.done () (by simp [packed, this]) (fun w ho => ho.ent)
    · repeat (first|refine Wa ?_|refine Wc ?_|refine Wd ?_|refine We rfl ?_|refine Wf (by first|exact Va|exact Vb|exact Vk (by omega)) rfl ?_|refine Wl ?_|refine Wr ?_)
      exact ⟨k + 1, ⟨by omega, by rw [List.take_succ_eq_append_getElem hlt']; simp only [List.mem_append, List.mem_singleton, not_or]; exact ⟨hno, fun h => hne h.symm⟩⟩, by omega, inferInstance⟩
  · have : x ∉ L := by rwa [List.take_of_length_le (by omega)] at hno
    repeat (first|refine Wa ?_|refine Wb ?_|refine Wc ?_|refine Wd ?_|refine We rfl ?_|refine Wf (by exact Vb) rfl ?_|refine Wm ?_|refine Wo ?_|refine Wp ?_|refine Ws ?_)
    exact CT.done () (by simp [packed, this]) (fun w ho => ho.ent)

theorem rises_ref (w : World) (F : Nat → Prop) (a : Option Addr) (c : Nat) (L : List ID) (h : (sl a c L).holds F w) :
    GivesV Tryz.prog 103 [.slice a L.length c] w F (.bool (rises L)) := by
  have hL : L.length < 9223372036854775807 := by have := h.2.2.1; simp only [lim] at this; omega
  refine gives_of Tryz.func103 rfl Tryz.ntmps103 rfl rfl [.st (sl a c L)] (.start1 h) ?_
  repeat (first|refine Wa ?_|refine Wb ?_|refine Wc ?_|refine Wd ?_|refine We rfl ?_|refine Wf (by exact Vb) rfl ?_|refine Wn ?_)
  refine JC.reslot 3 (.int .i64 ((1 : Nat) : Int)) rfl ?_
  refine JC.loop1 (fun k : Nat => [(0, .slice a L.length c), (3, .int .i64 (k : Int))]) (fun _ => [.st (sl a c L)])
    (fun k => 1 ≤ k ∧ (k ≤ L.length ∨ k = 1) ∧ rises (L.take k) = true) (fun k => L.length + 1 - k) 1 ⟨Nat.le_refl _, .inr rfl, rises_short _ (by simp; omega)⟩ inferInstance ?_
  intro k ⟨h1, hk, hr⟩
  repeat (first|refine Wa ?_|refine Wb ?_|refine Wc ?_|refine Wd ?_|refine We rfl ?_|refine Wf (by first|exact Va|exact Vf|exact Vg) rfl ?_)
  refine JC.test (fun hlt => ?_) (fun hge => ?_)
  · have hlt' : k < L.length := by omega
    have hr' := rises_take L k h1 hlt' hr
    repeat (first|refine Wa ?_|refine Wb ?_|refine Wl ?_|refine Wn ?_)
    refine JC.openID (.slice a L.length c) (k - 1) (by omega) ?_
    intro b1 o1
    refine JC.openID (.slice a L.length c) k hlt' ?_
    intro b2 o2
    refine JC.quiet mixed (by kernel_rfl) ?_
    repeat (refine Wy rfl (by first|exact Va|exact Vc|exact Ve|exact Vu (by omega)) rfl ?_)
    refine JQ.call rfl rfl (fun w1 hw => less_ref w1 _ _ _) ?_
    repeat (first|refine Wy rfl (by exact Vb) rfl ?_|refine WB ?_)
    repeat (first|refine Wa ?_|refine Wb ?_|refine Wc ?_|refine Wd ?_|refine We rfl ?_|refine Wf (by first|exact Va|exact Vh) rfl ?_)
    refine JC.test (fun hne => ?_) (fun heq2 => ?_)
    · repeat (first|refine Wa ?_|refine Wb ?_|refine Wc ?_|refine Wd ?_|refine We rfl ?_|refine Wf (by exact Vb) rfl ?_|refine Ws ?_|refine Wt ?_|refine Wu ?_)
      refine CT.done () ?_ (fun w ho => ho.ent)
      simp [packed, hr'.2 (by simpa using hne)]
    · repeat (first|refine Wa ?_|refine Wc ?_|refine Wd ?_|refine We rfl ?_|refine Wf (by first|exact Va|exact Vb|exact Vk (by omega)) rfl ?_|refine Wl ?_|refine Wr ?_)
      exact ⟨k + 1, ⟨by omega, .inl (by omega), by rw [hr'.1]; simpa using heq2⟩, by omega, inferInstance⟩
  · repeat (first|refine Wa ?_|refine Wb ?_|refine Wc ?_|refine Wd ?_|refine We rfl ?_|refine Wf (by exact Vb) rfl ?_|refine Wm ?_|refine Wo ?_|refine Wp ?_|refine Ws ?_)
    refine CT.done () ?_ (fun w ho => ho.ent)
    have : rises L = true := by
      rcases hk with hk | hk
      · rwa [List.take_of_length_le (by omega)] at hr
      · exact rises_short L (by omega)
    simp [packed, this]
end Ab
end Go.Proofs.YtglclakhjmogiaaGreat

/- Contracts of the document's layer 4: Sort, some, Without. -/
namespace Go.Proofs.YtglclakhjmogiaaGreat
namespace Ab
open Go Go.RowKit
set_option linter.unusedVariables false
set_option linter.unusedSimpArgs false
set_option synthInstance.maxSize 4000
set_option synthInstance.maxHeartbeats 400000
attribute [local irreducible] JC JO JR JQ andThen inBlock OpV Gives retTo JM JS

attribute [local irreducible] sortL setOf
theorem ins_at {M : List ID} {x : ID} {out : List ID} (ho : out = sortL (setOf M)) (hx : x ∉ M) (at_ : Nat) (hle : at_ ≤ out.length)
    (hup : ∀ j (hj : j < out.length), at_ ≤ j → idLt x out[j] = true) (hdn : ∀ (h0 : 0 < at_), idLt x (out[at_ - 1]'(by omega)) = false) :
    out.take at_ ++ [x] ++ out.drop at_ = sortL (setOf (M ++ [x])) := by
  have hp : out.Perm (setOf M) := by rw [ho]; exact sortL_perm' _
  have hs : out.Pairwise (fun x y => idLt y x = false) := by rw [ho]; exact sortL_pairwise _
  have hsn : setOf (M ++ [x]) = setOf M ++ [x] := by
    rw [setOf_snoc, addK, if_neg (by rw [mem_setOf]; exact hx)]
  refine sorted_unique ?_ ?_ (sortL_pairwise _)
  · refine List.Perm.trans ?_ (sortL_perm' _).symm
    rw [hsn, List.append_assoc]
    refine List.Perm.trans ((List.perm_append_comm (l₁ := [x]) (l₂ := out.drop at_)).append_left _) ?_
    rw [← List.append_assoc, List.take_append_drop]
    exact hp.append_right _
  · have hs2 : (out.take at_ ++ out.drop at_).Pairwise (fun x y => idLt y x = false) := by rw [List.take_append_drop]; exact hs
    rw [List.pairwise_append] at hs2
    rw [List.append_assoc, List.pairwise_append]
    refine ⟨hs2.1, ?_, ?_⟩
    · rw [List.singleton_append, List.pairwise_cons]
      refine ⟨fun y hy => ?_, hs2.2.1⟩
      obtain ⟨j, hj, rfl⟩ := List.getElem_of_mem hy
      rw [List.length_drop] at hj
      rw [List.getElem_drop]
      exact idLt_asymm (hup _ (by omega) (by omega))
    · intro y hy z hz
      rcases List.mem_append.1 hz with hz | hz
      · rw [List.mem_singleton.1 hz]
        obtain ⟨j, hj, rfl⟩ := List.getElem_of_mem hy
        rw [List.length_take] at hj
        have h0 : 0 < at_ := by omega
        rw [List.getElem_take]
        by_cases hja : j = at_ - 1
        · subst hja; exact hdn h0
        · exact idLe_trans (List.pairwise_iff_getElem.1 hs j (at_ - 1) (by omega) (by omega) (by omega)) (hdn h0)
      · exact hs2.2.2 y hy z hz
theorem sortset_length (M : List ID) : (sortL (setOf M)).length ≤ M.length := by rw [sortL_length]; exact setOf_length M

set_option maxHeartbeats 1000000 in
theorem sort_ref (w : World) (F : Nat → Prop) (a : Option Addr) (c : Nat) (L : List ID) (h : (sl a c L).holds F w) (hl : L.length ≤ 34359738360) :
    GivesSl Tryz.prog 57 [.slice a L.length c] w F (sortL (setOf L)) := by
  refine gives_of Tryz.func57 rfl Tryz.ntmps57 rfl rfl [.st (sl a c L)] (.start1 h) ?_
  repeat (first|refine Wa ?_|refine Wb ?_|refine Wc ?_|refine Wd ?_|refine We rfl ?_|refine Wf (by exact Vb) rfl ?_|refine Wn ?_)
  refine JC.more (Γ' := [.st (sl (α := ID) none 0 []), .st (sl a c L)]) (fun w1 ho => (ho.add (A := sl (α := ID) none 0 []) sl_nil).ent) ?_
  refine JC.loop4 (fun (i : Nat) (out : List ID) (p : Option Addr) (q : Nat) => [(0, .slice a L.length c), (3, .slice p out.length q), (4, .int .i64 (i : Int))]) (fun i out p q => [.st (sl p q out), .st (sl a c L)])
    (fun i out p q => i ≤ L.length ∧ out = sortL (setOf (L.take i))) (fun i _ _ _ => L.length - i) 0 [] none 0 ⟨Nat.zero_le _, by rw [List.take_zero, setOf_nil]; simp [sortL]⟩ inferInstance ?_
  intro i out p q ⟨hi, hout⟩
  repeat (first|refine Wa ?_|refine Wb ?_|refine Wc ?_|refine Wd ?_|refine We rfl ?_|refine Wf (by first|exact Va|exact Vf|exact Vg) rfl ?_)
  refine JC.test (fun hlt => ?_) (fun hge => ?_)
  · have hlt' : i < L.length := by omega
    have hol : out.length ≤ i := by
      rw [hout]
      refine Nat.le_trans (sortset_length _) ?_
      rw [List.length_take]; omega
    repeat (first|refine Wa ?_|refine Wb ?_|refine Wc ?_|refine We rfl ?_|refine Wf (by exact Va) rfl ?_|refine Wl ?_|refine Wn ?_)
    refine JR.indexID rfl hlt' ?_
    intro b1 o1
    repeat (first|refine We rfl ?_|refine Wf (by exact Vc) rfl ?_)
    refine JR.callV rfl (fun w1 hw => hasid_ref w1 _ p q out L[i] hw.get) ?_
    repeat (first|refine Wa ?_|refine Wb ?_|refine Wc ?_|refine Wd ?_|refine We rfl ?_|refine Wf (by first|exact Va|exact Vb) rfl ?_)
    refine JC.test (fun hin => ?_) (fun hin => ?_)
    · repeat (first|refine Wa ?_|refine Wc ?_|refine Wd ?_|refine We rfl ?_|refine Wf (by first|exact Va|exact Vb|exact Vk (by omega)) rfl ?_|refine Wm ?_|refine Wo ?_|refine Wp ?_)
      have hm : L[i] ∈ L.take i := by
        rw [hout, mem_sortL, mem_setOf] at hin; exact hin
      refine ⟨i + 1, out, p, q, ⟨by omega, ?_⟩, by omega, inferInstance⟩
      rw [List.take_succ_eq_append_getElem hlt', setOf_snoc, addK, if_pos (by rw [mem_setOf]; exact hm), hout]
    · have hm : L[i] ∉ L.take i := by
        rw [hout, mem_sortL, mem_setOf] at hin; exact hin
      repeat (first|refine Wa ?_|refine Wb ?_|refine Wc ?_|refine Wd ?_|refine We rfl ?_|refine Wf (by first|exact Va|exact Vb|exact Vf) rfl ?_|refine Wl ?_|refine Wn ?_)
      refine JC.loop1 (fun (at_ : Nat) => [(0, .slice a L.length c), (3, .slice p out.length q), (4, .int .i64 (i : Int)), (6, .int .i64 (at_ : Int))]) (fun at_ => [.st (sl p q out), .st (sl a c L)])
        (fun at_ => at_ ≤ out.length ∧ ∀ j (hj : j < out.length), at_ ≤ j → idLt L[i] out[j] = true) (fun at_ => at_) out.length ⟨Nat.le_refl _, fun j hj h => by omega⟩ inferInstance ?_
      intro at_ ⟨hat, hup⟩
      repeat (first|refine Wa ?_|refine Wb ?_|refine Wc ?_|refine Wd ?_|refine We rfl ?_|refine Wf (by first|exact Va|exact Vo) rfl ?_)
      refine JC.test (fun h0 => ?_) (fun h0 => ?_)
      · have hat1 : at_ - 1 < out.length := by omega
        repeat (first|refine Wa ?_|refine Wb ?_|refine Wl ?_|refine Wn ?_)
        refine JC.openID (.slice a L.length c) i hlt' ?_
        intro b1 o1
        refine JC.openID (.slice p out.length q) (at_ - 1) hat1 ?_
        intro b2 o2
        refine JC.quiet mixed (by kernel_rfl) ?_
        repeat (refine Wy rfl (by first|exact Va|exact Vc|exact Ve|exact Vu (by omega)) rfl ?_)
        refine JQ.call rfl rfl (fun w1 hw => less_ref w1 _ _ _) ?_
        repeat (first|refine Wy rfl (by exact Vb) rfl ?_|refine WB ?_)
        repeat (first|refine Wa ?_|refine Wb ?_|refine Wc ?_|refine Wd ?_|refine We rfl ?_|refine Wf (by first|exact Va|exact Vh) rfl ?_)
        refine JC.test (fun hne => ?_) (fun hls => ?_)
        · have hins := ins_at hout hm at_ hat hup (fun _ => by simpa using hne)
          repeat (first|refine Wa ?_|refine Wb ?_|refine Wc ?_|refine We rfl ?_|refine Wf (by exact Va) rfl ?_|refine Wm ?_|refine Wo ?_|refine Wp ?_|refine Wq rfl ?_)
          refine JR.sliceTo (L := out) (k := at_) rfl rfl hat ?_
          intro a1 c1
          repeat (refine We rfl ?_)
          refine JR.appendNil (L' := out.take at_) rfl (by exact ⟨rfl, rfl, by decide⟩) (by rw [List.length_take]; omega) ?_
          intro a2 c2
          repeat (first|refine Wa ?_|refine Wb ?_|refine Wc ?_|refine Wd ?_|refine We rfl ?_|refine Wf (by first|exact Va|exact Vb|exact Vc|exact Ve) rfl ?_|(refine Ww rfl ⟨rfl, by decide, by decide, by decide⟩ ?_; intro _))
          refine JR.append1 (u := L[i]) rfl (by exact ⟨rfl, rfl, by decide⟩) (by rw [List.length_take]; omega) ?_
          intro a4 c4
          repeat (first|refine Wa ?_|refine Wb ?_|refine Wc ?_|refine Wd ?_|refine We rfl ?_|refine Wf (by first|exact Va|exact Vb) rfl ?_)
          refine JR.sliceFrom (L := out) (k := at_) rfl rfl hat ?_
          intro a5 c5
          repeat (refine We rfl ?_)
          refine JR.appendSl (L := out.take at_ ++ [L[i]]) (L' := out.drop at_) rfl (by exact ⟨rfl, rfl, by decide⟩) (by rw [List.length_append, List.length_take, List.length_drop, List.length_singleton]; omega) ?_
          intro a6 c6
          rw [hins]
          refine JO.more (fun w1 ho => ho.pub) ?_
          repeat (first|refine Wa ?_|refine Wc ?_|refine Wd ?_|refine We rfl ?_|refine Wf (by first|exact Va|exact Vb|exact Vk (by omega)) rfl ?_|refine Wr ?_)
          exact ⟨i + 1, sortL (setOf (L.take i ++ [L[i]])), a6, c6, ⟨by omega, by rw [List.take_succ_eq_append_getElem hlt']⟩, by omega, inferInstance⟩
        · have hls : idLt L[i] out[at_ - 1] = true := by simpa using hls
          repeat (first|refine Wa ?_|refine Wc ?_|refine Wd ?_|refine We rfl ?_|refine Wf (by first|exact Va|exact Vb|exact Vu (by omega)) rfl ?_|refine Wl ?_|refine Wr ?_)
          refine ⟨at_ - 1, ⟨by omega, fun j hj hle => ?_⟩, by omega, inferInstance⟩
          by_cases hj1 : j = at_ - 1
          · subst hj1; exact hls
          · exact hup j hj (by omega)
      · have hins := ins_at hout hm at_ hat hup (fun h => by omega)
        repeat (first|refine Wa ?_|refine Wb ?_|refine Wc ?_|refine We rfl ?_|refine Wf (by exact Va) rfl ?_|refine Wm ?_|refine Wo ?_|refine Wp ?_)
        refine JR.sliceTo (L := out) (k := at_) rfl rfl hat ?_
        intro a1 c1
        repeat (refine We rfl ?_)
        refine JR.appendNil (L' := out.take at_) rfl (by exact ⟨rfl, rfl, by decide⟩) (by rw [List.length_take]; omega) ?_
        intro a2 c2
        repeat (first|refine Wa ?_|refine Wb ?_|refine Wc ?_|refine Wd ?_|refine We rfl ?_|refine Wf (by first|exact Va|exact Vb) rfl ?_)
        refine JR.indexID rfl hlt' ?_
        intro b3 o3
        repeat (first|refine We rfl ?_|refine Wf (by exact Vc) rfl ?_|(refine Ww rfl ⟨rfl, by decide, by decide, by decide⟩ ?_; intro _))
        refine JR.append1 (u := L[i]) rfl (by exact ⟨rfl, rfl, by decide⟩) (by rw [List.length_take]; omega) ?_
        intro a4 c4
        repeat (first|refine Wa ?_|refine Wb ?_|refine Wc ?_|refine Wd ?_|refine We rfl ?_|refine Wf (by first|exact Va|exact Vb) rfl ?_)
        refine JR.sliceFrom (L := out) (k := at_) rfl rfl hat ?_
        intro a5 c5
        repeat (refine We rfl ?_)
        refine JR.appendSl (L := out.take at_ ++ [L[i]]) (L' := out.drop at_) rfl (by exact ⟨rfl, rfl, by decide⟩) (by rw [List.length_append, List.length_take, List.length_drop, List.length_singleton]; omega) ?_
        intro a6 c6
        rw [hins]
        refine JO.more (fun w1 ho => ho.pub) ?_
        repeat (first|refine Wa ?_|refine Wc ?_|refine Wd ?_|refine We rfl ?_|refine Wf (by first|exact Va|exact Vb|exact Vk (by omega)) rfl ?_|refine Wr ?_)
        exact ⟨i + 1, sortL (setOf (L.take i ++ [L[i]])), a6, c6, ⟨by omega, by rw [List.take_succ_eq_append_getElem hlt']⟩, by omega, inferInstance⟩
  · have hi2 : i = L.length := by omega
    subst hi2
    rw [List.take_length] at hout
    subst hout
    repeat (first|refine Wa ?_|refine Wb ?_|refine Wc ?_|refine Wd ?_|refine We rfl ?_|refine Wf (by first|exact Va|exact Vb) rfl ?_|refine Wm ?_|refine Wo ?_|refine Wp ?_|refine Ws ?_)
    exact CT.done (p, q) rfl (fun w ho => ho.ent)
end Ab
end Go.Proofs.YtglclakhjmogiaaGreat

/- Contracts of the document's layer 4: some, Without; layer 10: May, Merge. -/
namespace Go.Proofs.YtglclakhjmogiaaGreat
namespace Ab
open Go Go.RowKit
set_option linter.unusedVariables false
set_option linter.unusedSimpArgs false
set_option synthInstance.maxSize 4000
set_option synthInstance.maxHeartbeats 400000
attribute [local irreducible] JC JO JR JQ andThen inBlock OpV Gives retTo JM JS

theorem some_ref (w : World) (F : Nat → Prop) (a b : Option Addr) (c k : Nat) (L M : List ID) (want : Bool) (h : (sl a c L).holds F w) (h' : (sl b k M).holds F w) (hl : L.length ≤ 34359738360) :
    GivesSl Tryz.prog 102 [.slice a L.length c, .slice b M.length k, .bool want] w F (someIds L M want) := by
  unfold someIds
  refine gives_of Tryz.func102 rfl Tryz.ntmps102 rfl rfl [.st (sl a c L), .st (sl b k M)] (.start2 h h') ?_
  refine JC.buf_nil (α := ID) 47 ?_
  repeat (first|refine Wa ?_|refine Wb ?_|refine Wc ?_|refine Wd ?_|refine We rfl ?_|refine Wf (by exact Vb) rfl ?_|refine Wn ?_)
  refine JC.loop4 (fun (i : Nat) (out : List ID) p q => [(0, .slice a L.length c), (1, .slice b M.length k), (2, .bool want), (7, .slice p out.length q), (8, .int .i64 (i : Int))]) (fun i out p q => [.res (buf p q 47 out), .st (sl a c L), .st (sl b k M)])
    (fun i out p q => i ≤ L.length ∧ out = pickIds M want (L.take i)) (fun i _ _ _ => L.length - i) 0 [] none 0 ⟨Nat.zero_le _, by rw [List.take_zero, pickIds_nil]⟩ inferInstance ?_
  intro i out p q ⟨hi, hout⟩
  have hol : out.length ≤ i := by
    rw [hout]
    refine Nat.le_trans (pickIds_length _ _ _) ?_
    rw [List.length_take]; omega
  repeat (first|refine Wa ?_|refine Wb ?_|refine Wc ?_|refine Wd ?_|refine We rfl ?_|refine Wf (by first|exact Va|exact Vf|exact Vg) rfl ?_)
  refine JC.test (fun hlt => ?_) (fun hge => ?_)
  · have hlt' : i < L.length := by omega
    repeat (first|refine Wa ?_|refine Wb ?_|refine Wc ?_|refine We rfl ?_|refine Wf (by exact Va) rfl ?_|refine Wl ?_|refine Wn ?_)
    refine JR.indexID rfl hlt' ?_
    intro b1 o1
    repeat (first|refine We rfl ?_|refine Wf (by exact Vc) rfl ?_)
    refine JR.callV rfl (fun w1 hw => hasid_ref w1 _ b k M L[i] hw.get) ?_
    repeat (first|refine Wa ?_|refine Wb ?_|refine Wc ?_|refine Wd ?_|refine We rfl ?_|refine Wf (by first|exact Va|exact Vb|exact VE) rfl ?_)
    refine JC.test (fun hy => ?_) (fun hn => ?_)
    · repeat (first|refine Wc ?_|refine We rfl ?_|refine Wf (by exact Va) rfl ?_)
      refine JR.indexID rfl hlt' ?_
      intro b3 o3
      repeat (first|refine We rfl ?_|refine Wf (by exact Vc) rfl ?_|(refine Ww rfl ⟨rfl, by decide, by decide, by decide⟩ ?_; intro _))
      refine JR.append1 (u := L[i]) rfl (by exact ⟨rfl, rfl, by decide⟩) (by omega) ?_
      intro a2 c2
      repeat (first|refine Wa ?_|refine Wc ?_|refine Wd ?_|refine We rfl ?_|refine Wf (by first|exact Va|exact Vb|exact Vk (by omega)) rfl ?_|refine Wr ?_)
      exact ⟨i + 1, out ++ [L[i]], a2, c2, ⟨by omega, by rw [pickIds_take _ _ _ _ hlt', if_pos hy, hout]⟩, by omega, inferInstance⟩
    · repeat (first|refine Wa ?_|refine Wc ?_|refine Wd ?_|refine We rfl ?_|refine Wf (by first|exact Va|exact Vb|exact Vk (by omega)) rfl ?_|refine Wl ?_|refine Wr ?_)
      exact ⟨i + 1, out, p, q, ⟨by omega, by rw [pickIds_take _ _ _ _ hlt', if_neg hn, hout]⟩, by omega, inferInstance⟩
  · have hi2 : i = L.length := by omega
    subst hi2
    rw [List.take_length] at hout
    subst hout
    refine JC.more (fun w1 ho => ho.pub) ?_
    repeat (first|refine Wa ?_|refine Wb ?_|refine Wc ?_|refine We rfl ?_|refine Wf (by exact Va) rfl ?_|refine Wm ?_|refine Wo ?_|refine Wp ?_)
    refine JR.callSl rfl (fun w1 hw => sort_ref w1 _ p q (pickIds M want L) hw.get (by have := pickIds_length M want L; omega)) ?_
    intro a2 c2
    repeat (first|refine Wa ?_|refine Wd ?_|refine We rfl ?_|refine Wf (by exact Vb) rfl ?_|refine Ws ?_)
    exact CT.done (a2, c2) rfl (fun w ho => ho.ent)
set_option maxHeartbeats 1000000 in
theorem maycom_ref (w : World) (F : Nat → Prop) (c : Commit) (a : Option Addr) (k : Nat) (h : (sl a k c.parents).holds F w) (ht : texts c) :
    GivesV Tryz.prog 66 [commitV c a k] w F (.bool (may c)) := by
  have hL : c.parents.length < 9223372036854775807 := by have := h.2.2.1; simp only [lim] at this; omega
  refine gives_of Tryz.func66 rfl Tryz.ntmps66 rfl rfl [.st (sl a k c.parents)] (.start1 h) ?_
  repeat (first|refine Wa ?_|refine Wb ?_|refine Wc ?_|refine Wd ?_|refine We rfl ?_|refine Wf (by first|exact Vb|exact Vc|exact Vd) rfl ?_|(refine Wh rfl ?_; intro _))
  refine JR.callV rfl (fun w1 hw => rises_ref w1 _ a k c.parents hw.get) ?_
  repeat (first|refine Wa ?_|refine Wb ?_|refine Wc ?_|refine Wd ?_|refine We rfl ?_|refine Wf (by first|exact Va|exact Vb|exact Vc|exact Vd|exact Vg) rfl ?_)
  refine JO.test 12 (fun h1 => ?_) (fun h1 => ?_)
  · have hm : may c = false := by simp [may, inB, h1] <;> omega
    rw [hm]
    repeat (first|refine Wa ?_|refine Wb ?_|refine Wc ?_|refine Wd ?_|refine We rfl ?_|refine Wf (by first|exact Va|exact Vb|exact Vi) rfl ?_|refine Wj ?_|refine Ws ?_|refine Wt ?_|refine Wv rfl rfl ?_)
    exact CT.done () rfl (fun w ho => ho.ent)
  repeat (first|refine We rfl ?_|refine Wf (by first|exact Va|exact Vc|exact Vd|exact Vj|exact Vo) rfl ?_)
  refine JO.test 17 (fun h2 => ?_) (fun h2 => ?_)
  · have hm : may c = false := by
      have : ¬ c.gen ≤ 1048576 := by omega
      simp [may, inB, this]
    rw [hm]
    repeat (first|refine Wa ?_|refine Wb ?_|refine Wc ?_|refine Wd ?_|refine We rfl ?_|refine Wf (by first|exact Va|exact Vb|exact Vi) rfl ?_|refine Wj ?_|refine Ws ?_|refine Wt ?_|refine Wv rfl rfl ?_)
    exact CT.done () rfl (fun w ho => ho.ent)
  repeat (first|refine We rfl ?_|refine Wf (by first|exact Va|exact Vc|exact Vd|exact Vf|exact Vj|exact Vo) rfl ?_)
  refine JO.test 23 (fun h3 => ?_) (fun h3 => ?_)
  · have hm : may c = false := by
      have : 8 < c.parents.length := by omega
      simp [may, this]
    rw [hm]
    repeat (first|refine Wa ?_|refine Wb ?_|refine Wc ?_|refine Wd ?_|refine We rfl ?_|refine Wf (by first|exact Va|exact Vb|exact Vi) rfl ?_|refine Wj ?_|refine Ws ?_|refine Wt ?_|refine Wv rfl rfl ?_)
    exact CT.done () rfl (fun w ho => ho.ent)
  repeat (first|refine We rfl ?_|refine Wf (by first|exact Va|exact Vh|exact Vj) rfl ?_)
  cases hr : rises c.parents with
  | false =>
    have hm : may c = false := by simp [may, hr]
    rw [hm]
    repeat (first|refine Wa ?_|refine Wb ?_|refine Wc ?_|refine Wd ?_|refine We rfl ?_|refine Wf (by first|exact Vb|exact Vi) rfl ?_|refine Wj ?_|refine Ws ?_|refine Wt ?_|refine Wv rfl rfl ?_)
    exact CT.done () rfl (fun w ho => ho.ent)
  | true =>
    repeat (first|refine Wa ?_|refine Wd ?_|refine We rfl ?_|refine Wf (by first|exact Vc|exact Vd|exact Vf|exact Vj|exact Vl|exact VF) rfl ?_)
    refine JC.test (fun h4 => ?_) (fun h4 => ?_)
    · have hm : may c = false := by
        have h4' : (decide (c.gen = 1) != decide (c.parents.length = 0)) = true := by
          have e : decide ((c.parents.length : Int) = 0) = decide (c.parents.length = 0) := decide_eq_decide.2 (by omega)
          rw [e] at h4
          simpa using h4
        rw [may, if_pos]
        rw [h4']
        simp
      rw [hm]
      repeat (first|refine Wa ?_|refine Wb ?_|refine Wc ?_|refine Wd ?_|refine We rfl ?_|refine Wf (by exact Vb) rfl ?_|refine Ws ?_|refine Wt ?_)
      exact CT.done () rfl (fun w ho => ho.ent)
    have hmay : may c = if c.ev.node = -1 then decide (2 ≤ c.parents.length) && decide (c.ev.seq = 0) && decide (c.op = op0) else inB c.ev.node 0 7 && inB c.ev.seq 1 1048576 && opMay c.op := by
      have h4' : (decide (c.gen = 1) != decide (c.parents.length = 0)) = false := by
        have e : decide ((c.parents.length : Int) = 0) = decide (c.parents.length = 0) := decide_eq_decide.2 (by omega)
        rw [e] at h4
        simpa using h4
      have h3' : ¬ 8 < c.parents.length := by omega
      have h1' : (inB c.gen 1 1048576) = true := by simp [inB]; omega
      rw [may, if_neg]
      rw [h4', h1', hr]
      simp [h3']
    rw [hmay]
    repeat (first|refine Wa ?_|refine Wb ?_|refine Wc ?_|refine Wd ?_|refine We rfl ?_|refine Wf (by first|exact Vc|exact Vd|exact Vl) rfl ?_|refine Wl ?_)
    refine JC.test (fun h5 => ?_) (fun h5 => ?_)
    · rw [if_pos h5]
      repeat (first|refine Wb ?_|refine Wc ?_|refine We rfl ?_|refine Wf (by first|exact Va|exact Vc|exact Vd|exact Vl) rfl ?_)
      refine JO.test 45 (fun h6 => ?_) (fun h6 => ?_)
      · repeat (first|refine We rfl ?_|refine Wf (by first|exact Vc|exact Vd) rfl ?_)
        refine Wf (OpV.build [.int .i64 op0.kind, .string op0.key, .string op0.elem, .int .i64 op0.n] (by kernel_rfl)) rfl ?_
        repeat (first|refine We rfl ?_|refine Wf (by first|exact Va|exact Vi|exact VA) rfl ?_)
        refine JO.test 51 (fun h7 => ?_) (fun h7 => ?_)
        · have h7' : c.op = op0 := h7
          have e : decide (2 ≤ (c.parents.length : Int)) = decide (2 ≤ c.parents.length) := decide_eq_decide.2 (by omega)
          rw [h6, h7']
          repeat (first|refine Wa ?_|refine Wd ?_|refine We rfl ?_|refine Wf (by first|exact Vb|exact Vc|exact Vd|exact Vf|exact Vi|exact Vp) rfl ?_|refine Ws ?_|refine Wt ?_)
          exact CT.done () (by simp [packed, e]) (fun w ho => ho.ent)
        · have h7' : ¬ c.op = op0 := h7
          repeat (first|refine Wa ?_|refine Wd ?_|refine We rfl ?_|refine Wf (by first|exact Vb|exact Vj) rfl ?_|refine Ws ?_|refine Wt ?_|refine Wv rfl rfl ?_)
          exact CT.done () (by simp [packed, h7']) (fun w ho => ho.ent)
      · repeat (first|refine Wa ?_|refine Wd ?_|refine We rfl ?_|refine Wf (by first|exact Va|exact Vb|exact Vj) rfl ?_|refine Ws ?_|refine Wt ?_|refine Wv rfl rfl ?_)
        exact CT.done () (by simp [packed, h6]) (fun w ho => ho.ent)
    · rw [if_neg h5]
      repeat (first|refine Wa ?_|refine Wb ?_|refine Wc ?_|refine We rfl ?_|refine Wf (by first|exact Vc|exact Vd) rfl ?_|refine Wl ?_)
      refine JR.callV rfl (fun w1 hw => event_ref w1 _ _ _) ?_
      repeat (first|refine Wa ?_|refine Wb ?_|refine Wc ?_|refine Wd ?_|refine We rfl ?_|refine Wf (by first|exact Vb|exact Vc|exact Vd) rfl ?_)
      refine JR.callV rfl (fun w1 hw => opmay_ref w1 _ c.op ht.1 ht.2) ?_
      cases hev : (inB c.ev.node 0 7 && inB c.ev.seq 1 1048576) with
      | false =>
        repeat (first|refine Wa ?_|refine Wb ?_|refine Wc ?_|refine Wd ?_|refine We rfl ?_|refine Wf (by first|exact Va|exact Vb|exact Vj) rfl ?_|refine Ws ?_|refine Wv rfl rfl ?_)
        exact CT.done () (by simp [packed]) (fun w ho => ho.ent)
      | true =>
        repeat (first|refine Wa ?_|refine Wb ?_|refine Wc ?_|refine Wd ?_|refine We rfl ?_|refine Wf (by first|exact Va|exact Vb|exact Vi) rfl ?_|refine Ws ?_)
        exact CT.done () (by simp [packed]) (fun w ho => ho.ent)
theorem mergecom_ref (w : World) (F : Nat → Prop) (c : Commit) (a : Option Addr) (k : Nat) (h : (sl a k c.parents).holds F w) (ht : texts c) :
    GivesV Tryz.prog 97 [commitV c a k] w F (.bool (merge c)) := by
  refine gives_of Tryz.func97 rfl Tryz.ntmps97 rfl rfl [.st (sl a k c.parents)] (.start1 h) ?_
  repeat (first|refine Wa ?_|refine Wb ?_|refine Wc ?_|refine Wd ?_|refine We rfl ?_|refine Wf (by first|exact Vb|exact Vc) rfl ?_|(refine Wh rfl ?_; intro _))
  refine JR.callV rfl (fun w1 hw => maycom_ref w1 _ c a k hw.get ht) ?_
  cases hm : may c with
  | false =>
    repeat (first|refine Wa ?_|refine Wb ?_|refine Wc ?_|refine Wd ?_|refine We rfl ?_|refine Wf (by first|exact Va|exact Vb|exact Vj) rfl ?_|refine Ws ?_|refine Wv rfl rfl ?_)
    exact CT.done () (by simp [packed, merge, hm]) (fun w ho => ho.ent)
  | true =>
    repeat (first|refine Wa ?_|refine Wb ?_|refine Wc ?_|refine Wd ?_|refine We rfl ?_|refine Wf (by first|exact Va|exact Vb|exact Vc|exact Vd|exact Vi|exact Vl) rfl ?_|refine Ws ?_)
    exact CT.done () (by simp [packed, merge, hm]) (fun w ho => ho.ent)
end Ab
end Go.Proofs.YtglclakhjmogiaaGreat

/- Contracts of the document's layer 10: Put, Hash. -/
namespace Go.Proofs.YtglclakhjmogiaaGreat
namespace Ab
open Go Go.RowKit
set_option linter.unusedVariables false
set_option linter.unusedSimpArgs false
set_option synthInstance.maxSize 4000
set_option synthInstance.maxHeartbeats 400000
attribute [local irreducible] JC JO JR JQ andThen inBlock OpV Gives retTo JM JS

attribute [local irreducible] sumI numL textL opPut
theorem opput_ok (w : World) (F : Nat → Prop) (o : Op_) (hk : o.key.size < 4611686018427387904) (he : o.elem.size < 4611686018427387904) (h : opMay o = true) : GivesSlT Tryz.prog 126 [opV o] w F (opPut o) [.int .i64 0] := by
  have h1 := opput_ref w F o hk he
  have h2 : putOp o = (opPut o, 0) := by simp [putOp, h]
  rw [h2] at h1
  exact h1
set_option maxHeartbeats 2000000 in
theorem putcom_ref (w : World) (F : Nat → Prop) (c : Commit) (a : Option Addr) (k : Nat) (h : (sl a k c.parents).holds F w) (ht : texts c) :
    GivesSlT Tryz.prog 82 [commitV c a k] w F (putCommit c).1 [.int .i64 (putCommit c).2] := by
  refine gives_of Tryz.func82 rfl Tryz.ntmps82 rfl rfl [.st (sl a k c.parents)] (.start1 h) ?_
  repeat (first|refine Wa ?_|refine Wb ?_|refine Wc ?_|refine Wd ?_|refine We rfl ?_|refine Wf (by first|exact Vb|exact Vc) rfl ?_|(refine Wh rfl ?_; intro _))
  rename_i bc
  refine JR.callV rfl (fun w1 hw => maycom_ref w1 _ c a k hw.get ht) ?_
  repeat (first|refine Wa ?_|refine Wb ?_|refine Wc ?_|refine Wd ?_|refine We rfl ?_|refine Wf (by first|exact Va|exact Vb|exact Vh) rfl ?_)
  refine JC.test (fun h1 => ?_) (fun h1 => ?_)
  · have h2 : putCommit c = ([], 1) := by simp [putCommit, h1]
    rw [h2]
    repeat (first|refine Wa ?_|refine Wb ?_|refine Wc ?_|refine Wd ?_|refine We rfl ?_|refine Wf (by exact Vb) rfl ?_|refine Ws ?_|refine Wt ?_)
    exact CT.done (none, 0) rfl (fun w ho => (ho.ent : Hold _ _ [] w).add sl_nil)
  have h1 : may c = true := by simpa using h1
  have h2 : putCommit c = (commitPut c, 0) := by simp [putCommit, h1]
  have hm := may_spec h1
  have hh := headL_length c
  rw [h2]
  have hn1 := hm.node
  have hn2 := hm.seq
  have hn3 := hm.gen
  have hn4 := hm.par
  have hs1 : IntKind.u64.wrap c.ev.seq = c.ev.seq := by rw [show c.ev.seq = ((c.ev.seq.toNat : Nat) : Int) by omega, wrap64]; omega
  have hs2 : IntKind.u64.wrap c.gen = c.gen := by rw [show c.gen = ((c.gen.toNat : Nat) : Int) by omega, wrap64]; omega
  have l1 := numL_length (foldN c.ev.node)
  have l2 := numL_length c.ev.seq.toNat
  have l3 := numL_length c.gen.toNat
  have l4 := numL_length c.parents.length
  repeat (first|refine Wa ?_|refine Wb ?_|refine Wc ?_|refine We rfl ?_|refine Wf (by first|exact Vc|exact Vd) rfl ?_|refine Wl ?_)
  refine JR.callV rfl (fun w1 hw => fold_ref w1 _ c.ev.node (by omega)) ?_
  repeat (refine We rfl ?_)
  refine JR.callBuf rfl (fun w1 hw => num_ref _ (foldN_lt (by omega)) w1 _) ?_
  intro a1 c1
  repeat (first|refine Wa ?_|refine Wb ?_|refine Wc ?_|refine Wd ?_|refine We rfl ?_|refine Wf (by first|exact Va|exact Vb|exact Vc|exact Vd) rfl ?_)
  refine Wf (OpV.convIn hs1) rfl ?_
  refine JO.reslot 23 (.int .u64 ((c.ev.seq.toNat : Nat) : Int)) (congrArg (Value.int .u64) (by omega)) ?_
  refine We rfl ?_
  refine JR.callBuf rfl (fun w1 hw => num_ref _ (by omega) w1 _) ?_
  intro a9 c9
  refine JO.more (fun w1 ho => ho.pub) ?_
  repeat (refine We rfl ?_)
  refine JR.appendSl rfl (by exact ⟨rfl, rfl, by decide⟩) (by omega) ?_
  intro a2 c2
  repeat (first|refine Wa ?_|refine Wb ?_|refine Wc ?_|refine Wd ?_|refine We rfl ?_|refine Wf (by first|exact Va|exact Vb|exact Vc|exact Vd) rfl ?_)
  refine Wf (OpV.convIn hs2) rfl ?_
  refine JO.reslot 29 (.int .u64 ((c.gen.toNat : Nat) : Int)) (congrArg (Value.int .u64) (by omega)) ?_
  refine We rfl ?_
  refine JR.callBuf rfl (fun w1 hw => num_ref _ (by omega) w1 _) ?_
  intro a9 c9
  refine JO.more (fun w1 ho => ho.pub) ?_
  repeat (refine We rfl ?_)
  refine JR.appendSl rfl (by exact ⟨rfl, rfl, by decide⟩) (by rw [List.length_append]; omega) ?_
  intro a3 c3
  repeat (first|refine Wa ?_|refine Wb ?_|refine Wc ?_|refine Wd ?_|refine We rfl ?_|refine Wf (by first|exact Va|exact Vb|exact Vc|exact Vd|exact Vf) rfl ?_)
  refine Wf (OpV.convIn (by rw [wrap64]; omega)) rfl ?_
  refine We rfl ?_
  refine JR.callBuf rfl (fun w1 hw => num_ref _ (by omega) w1 _) ?_
  intro a9 c9
  refine JO.more (fun w1 ho => ho.pub) ?_
  repeat (refine We rfl ?_)
  refine JR.appendSl rfl (by exact ⟨rfl, rfl, by decide⟩) (by rw [List.length_append, List.length_append]; omega) ?_
  intro a4 c4
  rw [show ((numL (foldN c.ev.node) ++ numL c.ev.seq.toNat) ++ numL c.gen.toNat) ++ numL c.parents.length = headL c from rfl]
  repeat (first|refine Wa ?_|refine Wb ?_|refine Wc ?_|refine Wd ?_|refine We rfl ?_|refine Wf (by exact Vb) rfl ?_|refine Wn ?_)
  refine JC.loop3 (fun (i : Nat) p q => [(1, .pointer (some ⟨bc, 0, none⟩)), (5, .slice p (headL c ++ idsL (c.parents.take i)).length q), (6, .int .i64 (i : Int))])
    (fun i p q => [.own bc 34 [.int .i64 c.ev.node, .int .i64 c.ev.seq, .int .i64 c.gen, .slice a c.parents.length k, .int .i64 c.op.kind, .string c.op.key, .string c.op.elem, .int .i64 c.op.n], .st (sl a k c.parents), .res (buf p q 5 (headL c ++ idsL (c.parents.take i)))])
    (fun i _ _ => i ≤ c.parents.length) (fun i _ _ => c.parents.length - i) 0 a4 c4 (Nat.zero_le _) (by rw [List.take_zero, show idsL [] = [] from rfl, List.append_nil]; infer_instance) ?_
  intro i p q hi
  repeat (first|refine Wa ?_|refine Wb ?_|refine Wc ?_|refine Wd ?_|refine We rfl ?_|refine Wf (by first|exact Va|exact Vc|exact Vd|exact Vf|exact Vg) rfl ?_)
  refine JC.test (fun hlt => ?_) (fun hge => ?_)
  · have hlt' : i < c.parents.length := by omega
    have hil := idsL_length (c.parents.take i)
    rw [List.length_take] at hil
    have h32 := (c.parents[i]).2
    repeat (first|refine Wa ?_|refine Wb ?_|refine Wc ?_|refine Wd ?_|refine We rfl ?_|refine Wf (by exact Vb) rfl ?_|refine Wl ?_|refine Wn ?_)
    refine JC.loop3 (fun (j : Nat) p q => [(1, .pointer (some ⟨bc, 0, none⟩)), (5, .slice p ((headL c ++ idsL (c.parents.take i)) ++ (c.parents[i]).1.take j).length q), (6, .int .i64 (i : Int)), (7, .int .i64 (j : Int))])
      (fun j p q => [.own bc 34 [.int .i64 c.ev.node, .int .i64 c.ev.seq, .int .i64 c.gen, .slice a c.parents.length k, .int .i64 c.op.kind, .string c.op.key, .string c.op.elem, .int .i64 c.op.n], .st (sl a k c.parents), .res (buf p q 5 ((headL c ++ idsL (c.parents.take i)) ++ (c.parents[i]).1.take j))])
      (fun j _ _ => j ≤ 32) (fun j _ _ => 32 - j) 0 p q (Nat.zero_le _) (by rw [List.take_zero, List.append_nil]; infer_instance) ?_
    intro j p q hj
    repeat (first|refine Wa ?_|refine Wb ?_|refine Wc ?_|refine Wd ?_|refine We rfl ?_|refine Wf (by first|exact Va|exact Vg) rfl ?_)
    refine JC.test (fun hlt2 => ?_) (fun hge2 => ?_)
    · have hj' : j < 32 := by omega
      have hjl : j < (c.parents[i]).1.length := by omega
      repeat (first|refine Wa ?_|refine Wb ?_|refine Wc ?_|refine We rfl ?_|refine Wf (by first|exact Va|exact Vc|exact Vd) rfl ?_|refine Wl ?_|refine Wn ?_)
      refine JR.indexID rfl hlt' ?_
      intro b1 o1
      refine We rfl ?_
      refine Wf (OpV.indexArr hj') rfl ?_
      refine We rfl ?_
      refine Wf (OpV.getR (L := (c.parents[i]).1) (f := byteV) j rfl hjl (by omega) rfl) rfl ?_
      repeat (first|refine We rfl ?_|(refine Ww rfl ⟨rfl, by decide, by decide, by decide⟩ ?_; intro _))
      refine JR.append1 (u := (c.parents[i]).1[j]) rfl (by exact ⟨rfl, rfl, by decide⟩) (by rw [List.length_append, List.length_append, List.length_take]; omega) ?_
      intro p3 q3
      repeat (first|refine Wa ?_|refine Wc ?_|refine Wd ?_|refine We rfl ?_|refine Wf (by first|exact Va|exact Vb|exact Vk (by omega)) rfl ?_|refine Wr ?_)
      exact ⟨j + 1, p3, q3, by omega, by omega, by rw [List.take_succ_eq_append_getElem hjl, ← List.append_assoc]; infer_instance⟩
    · obtain rfl : j = 32 := by omega
      rw [List.take_of_length_le (l := (c.parents[i]).1) (by omega)]
      repeat (first|refine Wa ?_|refine Wc ?_|refine Wd ?_|refine We rfl ?_|refine Wf (by first|exact Va|exact Vb|exact Vk (by omega)) rfl ?_|refine Wm ?_|refine Wo ?_|refine Wp ?_|refine Wr ?_)
      have hnx : headL c ++ idsL (c.parents.take (i + 1)) = headL c ++ idsL (c.parents.take i) ++ (c.parents[i]).1 := by rw [idsL_next _ _ hlt', List.append_assoc]
      exact ⟨i + 1, p, q, by omega, by omega, by rw [hnx]; infer_instance⟩
  · obtain rfl : i = c.parents.length := by omega
    have hil := idsL_length c.parents
    rw [List.take_length]
    repeat (first|refine Wa ?_|refine Wb ?_|refine Wc ?_|refine Wd ?_|refine We rfl ?_|refine Wf (by first|exact Vc|exact Vd|exact Vp) rfl ?_|refine Wm ?_|refine Wo ?_|refine Wp ?_)
    refine JC.test (fun hnode => ?_) (fun hnode => ?_)
    · have hnode' : ¬ c.ev.node = -1 := by omega
      have hb : commitPut c = headL c ++ idsL c.parents ++ opPut c.op := by rw [commitPut, if_neg hnode']
      have hop := hm.op hnode'
      have hopl := (put_facts c.op hop).2.2
      obtain ⟨_, _, _, _, _, _, _, _, hopl⟩ := hopl
      rw [hb]
      repeat (first|refine Wb ?_|refine Wc ?_|refine We rfl ?_|refine Wf (by first|exact Vc|exact Vd) rfl ?_)
      refine JR.callSlT (L := opPut c.op) (us' := [.int .i64 0]) rfl (fun w1 hw => opput_ok w1 _ c.op ht.1 ht.2 hop) ?_
      intro p4 q4
      repeat (first|refine Wa ?_|refine Wc ?_|refine Wd ?_|refine We rfl ?_|refine Wf (by first|exact Va|exact Vb|exact Vq) rfl ?_)
      refine JR.appendSl rfl (by exact ⟨rfl, rfl, by decide⟩) (by rw [List.length_append]; omega) ?_
      intro p5 q5
      repeat (first|refine Wa ?_|refine Wb ?_|refine Wc ?_|refine Wd ?_|refine We rfl ?_|refine Wf (by first|exact Va|exact Vb) rfl ?_|refine Ws ?_)
      exact CT.done (p5, q5) rfl (fun w ho => Hold.left (Γ := [.st (sl p5 q5 (headL c ++ idsL c.parents ++ opPut c.op))]) (Hold.pub (ho.ent : Hold _ _ [.res (buf p5 q5 5 (headL c ++ idsL c.parents ++ opPut c.op))] w)))
    · have hnode' : c.ev.node = -1 := by omega
      have hb : commitPut c = headL c ++ idsL c.parents := by rw [commitPut, if_pos hnode']
      rw [hb]
      repeat (first|refine Wa ?_|refine Wb ?_|refine Wc ?_|refine Wd ?_|refine We rfl ?_|refine Wf (by first|exact Va|exact Vb) rfl ?_|refine Wl ?_|refine Ws ?_)
      exact CT.done (p, q) rfl (fun w ho => Hold.left (Γ := [.st (sl p q (headL c ++ idsL c.parents))]) (Hold.pub (ho.ent : Hold _ _ [.res (buf p q 5 (headL c ++ idsL c.parents))] w)))
end Ab
end Go.Proofs.YtglclakhjmogiaaGreat

/- Contracts of the document's layers 10 and 16: Hash, Put, Ready, Missing. -/
namespace Go.Proofs.YtglclakhjmogiaaGreat
namespace Ab
open Go Go.RowKit
set_option linter.unusedVariables false
set_option linter.unusedSimpArgs false
set_option synthInstance.maxSize 4000
set_option synthInstance.maxHeartbeats 400000
attribute [local irreducible] JC JO JR JQ andThen inBlock OpV Gives retTo JM JS

attribute [local irreducible] sumI numL textL opPut
set_option maxHeartbeats 1000000 in
theorem hash_ref (w : World) (F : Nat → Prop) (c : Commit) (a : Option Addr) (k : Nat) (h : (sl a k c.parents).holds F w) (ht : texts c) :
    GivesV Tryz.prog 100 [commitV c a k] w F (.tuple ⟨[.agg ⟨idc (hashC c).1⟩, .int .i64 (hashC c).2]⟩) := by
  refine gives_of Tryz.func100 rfl Tryz.ntmps100 rfl rfl [.st (sl a k c.parents)] (.start1 h) ?_
  repeat (first|refine Wa ?_|refine Wb ?_|refine Wc ?_|refine Wd ?_|refine We rfl ?_|refine Wf (by first|exact Vb|exact Vc) rfl ?_|(refine Wg rfl ?_; intro _)|(refine Wh rfl ?_; intro _))
  rename_i bc bi
  refine JR.callSlT (L := (putCommit c).1) (us' := [.int .i64 (putCommit c).2]) rfl (fun w1 hw => putcom_ref w1 _ c a k hw.get ht) ?_
  intro p q
  repeat (first|refine Wa ?_|refine Wb ?_|refine Wc ?_|refine Wd ?_|refine We rfl ?_|refine Wf (by first|exact Va|exact Vb|exact Vm|exact Vq) rfl ?_)
  refine JC.test (fun h1 => ?_) (fun h1 => ?_)
  · have hm : may c = false := by
      rw [← Bool.not_eq_true]
      intro hm
      simp [putCommit, hm] at h1
    have h2 : hashC c = (zeroID, 1) := by simp [hashC, hm]
    have h3 : (putCommit c).2 = 1 := by simp [putCommit, hm]
    rw [h2, h3]
    repeat (first|refine Wb ?_|refine Wc ?_|refine We rfl ?_)
    refine Wf (OpV.build (idc zeroID) (by kernel_rfl)) rfl ?_
    repeat (first|refine Wa ?_|refine Wd ?_|refine We rfl ?_|refine Wf (by first|exact Va|exact Vb) rfl ?_|refine Wi ?_|refine Ws ?_|refine Wt ?_)
    exact CT.done () rfl (fun w ho => ho.ent)
  · have hm : may c = true := by
      rw [← Bool.not_eq_false]
      intro hm
      simp [putCommit, hm] at h1
    have h2 : hashC c = (sumI (commitPut c), 0) := by simp [hashC, hm]
    have h3 : putCommit c = (commitPut c, 0) := by simp [putCommit, hm]
    have hl := commitPut_length hm
    rw [h2, h3]
    repeat (first|refine Wa ?_|refine Wb ?_|refine Wc ?_|refine We rfl ?_|refine Wf (by exact Va) rfl ?_|refine Wl ?_)
    refine JR.callV rfl (fun w1 hw => sum_ref w1 _ p q (commitPut c) hw.get (by omega)) ?_
    repeat (first|refine Wa ?_|refine Wd ?_|refine We rfl ?_|refine Wf (by exact Vb) rfl ?_|refine Wi ?_|refine Ws ?_)
    exact CT.done () rfl (fun w ho => ho.ent)
attribute [local irreducible] hashC
end Ab
end Go.Proofs.YtglclakhjmogiaaGreat

/- Contracts of the document's layer 11: Ids, At, Find. -/
namespace Go.Proofs.YtglclakhjmogiaaGreat
namespace Ab
open Go Go.RowKit
set_option linter.unusedVariables false
set_option linter.unusedSimpArgs false
set_option synthInstance.maxSize 4000
set_option synthInstance.maxHeartbeats 400000
attribute [local irreducible] JC JO JR JQ andThen inBlock OpV Gives retTo JM JS

attribute [local irreducible] hashC
def atI (I : List ID) (x : ID) : Int := match I.findIdx? (fun y => decide (y = x)) with | some i => (i : Int) | none => -1
theorem atI_some {I : List ID} {x : ID} {i : Nat} (h : I.findIdx? (fun y => decide (y = x)) = some i) : atI I x = (i : Int) := by simp [atI, h]
theorem atI_none {I : List ID} {x : ID} (h : x ∉ I) : atI I x = -1 := by simp [atI, at_none.2 h]
theorem at_ref (w : World) (F : Nat → Prop) (a : Option Addr) (k : Nat) (I : List ID) (x : ID) (h : (sl a k I).holds F w) :
    GivesV Tryz.prog 99 [.slice a I.length k, .agg ⟨idc x⟩] w F (.int .i64 (atI I x)) := by
  have hI : I.length < 9223372036854775807 := by have := h.2.2.1; simp only [lim] at this; omega
  refine gives_of Tryz.func99 rfl Tryz.ntmps99 rfl rfl [.st (sl a k I)] (.start1 h) ?_
  repeat (first|refine Wa ?_|refine Wb ?_|refine Wc ?_|refine Wd ?_|refine We rfl ?_|refine Wf (by exact Vb) rfl ?_|(refine Wh rfl ?_; intro _)|refine Wn ?_)
  rename_i bx
  refine JC.loop1 (fun (i : Nat) => [(0, .slice a I.length k), (3, .pointer (some ⟨bx, 0, none⟩)), (5, .int .i64 (i : Int))]) (fun i => [.st (sl a k I), .own bx 47 (idc x)])
    (fun i => i ≤ I.length ∧ ∀ j (hj : j < I.length), j < i → I[j] ≠ x) (fun i => I.length - i) 0 ⟨Nat.zero_le _, fun j hj h => by omega⟩ inferInstance ?_
  intro i ⟨hi, hno⟩
  repeat (first|refine Wa ?_|refine Wb ?_|refine Wc ?_|refine Wd ?_|refine We rfl ?_|refine Wf (by first|exact Va|exact Vf|exact Vg) rfl ?_)
  refine JC.test (fun hlt => ?_) (fun hge => ?_)
  · have hlt' : i < I.length := by omega
    repeat (first|refine Wa ?_|refine Wb ?_|refine Wl ?_|refine Wn ?_)
    refine JC.openID (L := I) (.slice a I.length k) i hlt' ?_
    intro bi oi
    refine JC.quiet mixed (by kernel_rfl) ?_
    repeat (first|refine Wy rfl (by first|exact Va|exact Vc|exact Ve|exact Vx) rfl ?_|refine WB ?_)
    repeat (refine Wa ?_)
    refine JC.test (fun he => ?_) (fun hne => ?_)
    · have hat : I.findIdx? (fun y => decide (y = x)) = some i := by
        rw [List.findIdx?_eq_some_iff_getElem]
        exact ⟨hlt', by simpa using he, fun j hj => by simpa using hno j (by omega) hj⟩
      rw [atI_some hat]
      repeat (first|refine Wa ?_|refine Wb ?_|refine Wc ?_|refine Wd ?_|refine We rfl ?_|refine Wf (by first|exact Va|exact Vb) rfl ?_|refine Ws ?_|refine Wt ?_|refine Wu ?_)
      exact CT.done () rfl (fun w ho => ho.ent)
    · repeat (first|refine Wa ?_|refine Wc ?_|refine Wd ?_|refine We rfl ?_|refine Wf (by first|exact Va|exact Vb|exact Vk (by omega)) rfl ?_|refine Wl ?_|refine Wr ?_)
      refine ⟨i + 1, ⟨by omega, fun j hj hji => ?_⟩, by omega, inferInstance⟩
      by_cases hj' : j = i
      · subst hj'; exact hne
      · exact hno j hj (by omega)
  · have hat : x ∉ I := by
      intro hx
      obtain ⟨j, hj, rfl⟩ := List.getElem_of_mem hx
      exact hno j hj (by omega) rfl
    rw [atI_none hat]
    repeat (first|refine Wa ?_|refine Wb ?_|refine Wc ?_|refine Wd ?_|refine We rfl ?_|refine Wf (by exact Vb) rfl ?_|refine Wm ?_|refine Wo ?_|refine Wp ?_|refine Ws ?_)
    exact CT.done () rfl (fun w ho => ho.ent)
set_option maxHeartbeats 1000000 in
theorem ids_ref (w : World) (F : Nat → Prop) (a : Option Addr) (k : Nat) (L : List Commit) (h : (sl a k L).holds F w) (hl : L.length < 34359738368) (hf : ∀ x ∈ L, fine x) :
    GivesSl Tryz.prog 55 [.slice a L.length k] w F (idsP L) := by
  refine gives_of Tryz.func55 rfl Tryz.ntmps55 rfl rfl [.st (sl a k L)] (.start1 h) ?_
  repeat (first|refine Wa ?_|refine Wb ?_|refine Wc ?_|refine Wd ?_|refine We rfl ?_|refine Wf (by exact Vb) rfl ?_|refine Wn ?_)
  refine JC.buf_nil (α := ID) 47 ?_
  refine JC.loop3 (fun (i : Nat) p q => [(0, .slice a L.length k), (3, .slice p (cids (L.take i)).length q), (4, .int .i64 (i : Int))])
    (fun i p q => [.res (buf p q 47 (cids (L.take i))), .st (sl a k L)])
    (fun i _ _ => i ≤ L.length ∧ ∀ c ∈ L.take i, may c = true) (fun i _ _ => L.length - i) 0 none 0 ⟨Nat.zero_le _, by simp⟩ (by rw [List.take_zero, show cids [] = [] from rfl]; infer_instance) ?_
  intro i p q ⟨hi, hm⟩
  repeat (first|refine Wa ?_|refine Wb ?_|refine Wc ?_|refine Wd ?_|refine We rfl ?_|refine Wf (by first|exact Va|exact Vf|exact Vg) rfl ?_)
  refine JC.test (fun hlt => ?_) (fun hge => ?_)
  · have hlt' : i < L.length := by omega
    have hfx := hf _ (List.getElem_mem hlt')
    repeat (first|refine Wa ?_|refine Wb ?_|refine Wc ?_|refine We rfl ?_|refine Wf (by exact Va) rfl ?_|refine Wl ?_|refine Wn ?_)
    refine JR.indexCommit rfl hlt' ?_
    intro b1 o1 p1 q1
    repeat (first|refine We rfl ?_|refine Wf (by exact Vc) rfl ?_)
    refine JR.callV rfl (fun w1 hw => hash_ref w1 _ (L[i]) p1 q1 hw.get hfx.1) ?_
    repeat (first|refine Wa ?_|refine Wb ?_|refine Wc ?_|refine Wd ?_|refine We rfl ?_|refine Wf (by first|exact Va|exact Vb|exact Vm|exact Vq) rfl ?_|(refine Wg rfl ?_; intro _)|refine Wi ?_)
    refine JC.test (fun h0 => ?_) (fun h0 => ?_)
    · have hmay : may L[i] = false := by
        rw [← Bool.not_eq_true, ← hash_err]; exact h0
      repeat (first|refine Wa ?_|refine Wb ?_|refine Wc ?_|refine Wd ?_|refine We rfl ?_|refine Wf (by exact Vb) rfl ?_|refine Ws ?_|refine Wt ?_|refine Wu ?_)
      rw [idsP_not (List.getElem_mem hlt') hmay]
      exact CT.done (none, 0) rfl (fun w ho => (ho.ent : Hold _ _ [.st (sl a k L)] w).tail.add sl_nil)
    · have hmay : may L[i] = true := (hash_err _).1 (by simpa using h0)
      have h1 : (cids (L.take i)).length ≤ i := by simp [cids]; omega
      repeat (first|refine Wa ?_|refine Wc ?_|refine We rfl ?_|refine Wf (by first|exact Va|exact Vc) rfl ?_|refine Wl ?_|(refine Ww rfl ⟨rfl, by decide, by decide, by decide⟩ ?_; intro _))
      refine JR.append1 (u := idC L[i]) rfl (by exact ⟨rfl, rfl, by decide⟩) (by omega) ?_
      intro r s
      repeat (first|refine Wa ?_|refine Wc ?_|refine Wd ?_|refine We rfl ?_|refine Wf (by first|exact Va|exact Vb|exact Vk (by omega)) rfl ?_|refine Wr ?_)
      refine ⟨i + 1, r, s, ⟨by omega, fun c hc => ?_⟩, by omega, by rw [cids_take_next hlt']; infer_instance⟩
      rw [List.take_succ_eq_append_getElem hlt', List.mem_append, List.mem_singleton] at hc
      rcases hc with hc | rfl
      · exact hm c hc
      · exact hmay
  · obtain rfl : i = L.length := by omega
    rw [List.take_length] at hm ⊢
    refine JC.more (fun w1 ho => ho.pub) ?_
    repeat (first|refine Wa ?_|refine Wb ?_|refine Wc ?_|refine Wd ?_|refine We rfl ?_|refine Wf (by first|exact Va|exact Vb) rfl ?_|refine Wm ?_|refine Wo ?_|refine Wp ?_|refine Ws ?_)
    rw [idsP_all hm]
    exact CT.done (p, q) rfl (fun w ho => (ho.ent : Hold _ _ [.st (sl p q (cids L))] w))
theorem hashO_dec' (c : Commit) (x : ID) : decide (hashO c = some x) = (decide ((hashC c).2 = 0) && decide ((hashC c).1 = x)) := by
  rw [hashO_dec]; congr 1; exact decide_eq_decide.2 ⟨Eq.symm, Eq.symm⟩
set_option maxHeartbeats 1000000 in
theorem find_ref (w : World) (F : Nat → Prop) (a : Option Addr) (k : Nat) (L : List Commit) (x : ID) (h : (sl a k L).holds F w) (hf : ∀ c ∈ L, fine c) :
    Gives Tryz.prog 65 [.slice a L.length k, .agg ⟨idc x⟩] w F (fun y : Option Addr × Nat => .tuple ⟨[commitV (findR L x).1 y.1 y.2, .bool (findR L x).2]⟩) (fun y => [.st (sl y.1 y.2 (findR L x).1.parents)]) := by
  have hL : L.length < 9223372036854775807 := by have := h.2.2.1; simp only [lim] at this; omega
  refine gives_of Tryz.func65 rfl Tryz.ntmps65 rfl rfl [.st (sl a k L)] (.start1 h) ?_
  repeat (first|refine Wa ?_|refine Wb ?_|refine Wc ?_|refine Wd ?_|refine We rfl ?_|refine Wf (by exact Vb) rfl ?_|(refine Wg rfl ?_; intro _)|(refine Wh rfl ?_; intro _)|refine Wn ?_)
  rename_i bx bc
  refine JC.loop1 (fun (i : Nat) => [(0, .slice a L.length k), (3, .pointer (some ⟨bx, 0, none⟩)), (4, .pointer (some ⟨bc, 0, none⟩)), (5, .bool false), (6, .int .i64 (i : Int))])
    (fun i => [.st (sl a k L), .own bx 47 (idc x), .own bc 34 [.int .i64 0, .int .i64 0, .int .i64 0, .slice none 0 0, .int .i64 0, .string .empty, .string .empty, .int .i64 0]])
    (fun i => i ≤ L.length ∧ ∀ c ∈ L.take i, decide (hashO c = some x) = false) (fun i => L.length - i) 0 ⟨Nat.zero_le _, by simp⟩ inferInstance ?_
  intro i ⟨hi, hno⟩
  repeat (first|refine Wa ?_|refine Wb ?_|refine Wc ?_|refine Wd ?_|refine We rfl ?_|refine Wf (by first|exact Va|exact Vf|exact Vg) rfl ?_)
  refine JC.test (fun hlt => ?_) (fun hge => ?_)
  · have hlt' : i < L.length := by omega
    have hfx := hf _ (List.getElem_mem hlt')
    repeat (first|refine Wa ?_|refine Wb ?_|refine Wc ?_|refine We rfl ?_|refine Wf (by exact Va) rfl ?_|refine Wl ?_|refine Wn ?_)
    refine JR.indexCommit rfl hlt' ?_
    intro b1 o1 p1 q1
    repeat (first|refine We rfl ?_|refine Wf (by exact Vc) rfl ?_)
    refine JR.callV rfl (fun w1 hw => hash_ref w1 _ (L[i]) p1 q1 hw.get hfx.1) ?_
    repeat (first|refine Wa ?_|refine Wb ?_|refine Wc ?_|refine Wd ?_|refine We rfl ?_|refine Wf (by first|exact Va|exact Vb|exact Vl|exact Vq) rfl ?_|(refine Wg rfl ?_; intro _)|refine Wi ?_)
    refine JO.test 25 (fun h0 => ?_) (fun h0 => ?_)
    · repeat (first|refine Wa ?_|refine Wd ?_|refine We rfl ?_|refine Wf (by first|exact Vc|exact Vi|exact Vx) rfl ?_)
      refine JC.test (fun he => ?_) (fun hne => ?_)
      · have hd : decide (hashO L[i] = some x) = true := by rw [hashO_dec', decide_eq_true h0, decide_eq_true he]; rfl
        have hfd : findC L x = some L[i] := by
          rw [findC, List.find?_eq_some_iff_getElem]
          refine ⟨hd, i, hlt', rfl, fun j hj => ?_⟩
          rw [hno _ (List.mem_take_iff_getElem.2 ⟨j, by omega, rfl⟩)]; rfl
        have e1 : findR L x = (L[i], true) := by simp [findR, hfd]
        rw [e1]
        repeat (first|refine Wb ?_|refine Wc ?_|refine We rfl ?_|refine Wf (by exact Va) rfl ?_)
        refine JR.indexCommit rfl hlt' ?_
        intro b2 o2 p2 q2
        repeat (first|refine Wa ?_|refine Wd ?_|refine We rfl ?_|refine Wf (by first|exact Vb|exact Vc) rfl ?_|refine Wi ?_|refine Ws ?_|refine Wt ?_|refine Wu ?_)
        exact CT.done (p2, q2) rfl (fun w ho => ho.ent)
      · have hd : decide (hashO L[i] = some x) = false := by rw [hashO_dec', decide_eq_false hne, Bool.and_false]
        repeat (first|refine Wa ?_|refine Wc ?_|refine Wd ?_|refine We rfl ?_|refine Wf (by first|exact Va|exact Vb|exact Vk (by omega)) rfl ?_|refine Wl ?_|refine Wr ?_)
        refine ⟨i + 1, ⟨by omega, fun c hc => ?_⟩, by omega, inferInstance⟩
        rw [List.take_succ_eq_append_getElem hlt', List.mem_append, List.mem_singleton] at hc
        rcases hc with hc | rfl
        · exact hno c hc
        · exact hd
    · have hd : decide (hashO L[i] = some x) = false := by rw [hashO_dec', decide_eq_false h0, Bool.false_and]
      repeat (first|refine Wa ?_|refine Wc ?_|refine Wd ?_|refine We rfl ?_|refine Wf (by first|exact Va|exact Vb|exact Vj|exact Vk (by omega)) rfl ?_|refine Wk ?_|refine Wl ?_|refine Wr ?_|refine Wv rfl rfl ?_)
      refine ⟨i + 1, ⟨by omega, fun c hc => ?_⟩, by omega, inferInstance⟩
      rw [List.take_succ_eq_append_getElem hlt', List.mem_append, List.mem_singleton] at hc
      rcases hc with hc | rfl
      · exact hno c hc
      · exact hd
  · obtain rfl : i = L.length := by omega
    rw [List.take_length] at hno
    have hfd : findC L x = none := by
      rw [findC, List.find?_eq_none]
      intro c hc; rw [hno c hc]; simp
    have e1 : findR L x = (commit0, false) := by simp [findR, hfd]
    rw [e1]
    repeat (first|refine Wa ?_|refine Wb ?_|refine Wc ?_|refine We rfl ?_|refine Wm ?_|refine Wo ?_|refine Wp ?_)
    refine Wf (OpV.build [.int .i64 0, .int .i64 0, .int .i64 0, .slice none 0 0, .int .i64 0, .string .empty, .string .empty, .int .i64 0] (by kernel_rfl)) rfl ?_
    repeat (first|refine Wa ?_|refine Wd ?_|refine We rfl ?_|refine Wf (by exact Vb) rfl ?_|refine Wi ?_|refine Ws ?_)
    exact CT.done (none, 0) rfl (fun w ho => (ho.ent : Hold _ _ [.st (sl a k L)] w).tail.add sl_nil)
end Ab
end Go.Proofs.YtglclakhjmogiaaGreat

/- Rows of truth values in blocks of their own, behind a row of slices: made, read, written, published. Program-independent. -/
namespace Go.Proofs.YtglclakhjmogiaaGreat
namespace Ab
open Go Go.RowKit
set_option linter.unusedVariables false
set_option linter.unusedSimpArgs false

/-- A slice that is the whole of a block. -/
structure RowP where
  b : Nat
  n : Nat
instance : Cell RowP where
  Ix := Unit
  sz := 1
  cells r _ := [.slice (some ⟨r.b, 0, none⟩) r.n r.n]
  facts _ _ := []
  len _ _ := rfl
  one r _ := by simp [Value.oneCell']
  pos := by decide
instance {Γ : List Fact} {b n : Nat} : Typed Γ [.slice (some ⟨b, 0, none⟩) n n] (RowP.mk b n) := ⟨(), rfl, by simp [Cell.facts]⟩
instance : Cell (List Bool) where
  Ix := Option Addr × Nat
  sz := 1
  cells l y := [.slice y.1 l.length y.2]
  facts l y := [sl y.1 y.2 l]
  len _ _ := rfl
  one l y := by simp [Value.oneCell']
  pos := by decide

def rowBs (B : List RowP) : List Nat := B.map RowP.b
def rowsHold (t : TypeId) (B : List RowP) (K : List (List Bool)) (w : World) : Prop :=
  B.length = K.length ∧ ∀ i (h : i < B.length) (h' : i < K.length), B[i].n = K[i].length ∧ w.heap[B[i].b]? = some (.cells (K[i].map Value.bool).toArray t (0, 0))
theorem rowsHold.keep {t : TypeId} {B : List RowP} {K : List (List Bool)} {w w' : World} (h : rowsHold t B K w) (hk : ∀ r ∈ B, r.b < w.heap.size → w'.heap[r.b]? = w.heap[r.b]?) : rowsHold t B K w' := by
  refine ⟨h.1, fun i hi hi' => ⟨(h.2 i hi hi').1, ?_⟩⟩
  have h1 := (h.2 i hi hi').2
  rw [hk _ (List.getElem_mem hi) (Array.getElem?_eq_some_iff.1 h1).1]
  exact h1
theorem rowsHold.lt {t : TypeId} {B : List RowP} {K : List (List Bool)} {w : World} (h : rowsHold t B K w) {r : RowP} (hr : r ∈ B) : r.b < w.heap.size := by
  obtain ⟨i, hi, rfl⟩ := List.getElem_of_mem hr
  exact (Array.getElem?_eq_some_iff.1 (h.2 i hi (by have := h.1; omega)).2).1
/-- The rows, which the call owns. -/
def rowsR (t : TypeId) (B : List RowP) (K : List (List Bool)) : Res where
  owns k := ∃ r ∈ B, r.b = k
  holds F w := (rowBs B).Nodup ∧ rowsHold t B K w
  keep F G w w' h hF hk := ⟨h.1, h.2.keep fun r hr hlt => hk r.b hlt (.inr ⟨r, hr, rfl⟩)⟩
  lt F w h k hk := by obtain ⟨r, hr, rfl⟩ := hk; exact h.2.lt hr
/-- The rows, which are read. -/
def rowsA (t : TypeId) (B : List RowP) (K : List (List Bool)) : Asn where
  holds F w := (∀ r ∈ B, F r.b) ∧ rowsHold t B K w
  mono F G w h hh := ⟨fun r hr => h _ (hh.1 r hr), hh.2⟩
  frame F w w' hk h := ⟨h.1, h.2.keep fun r hr _ => hk _ (h.1 r hr)⟩
  within F w h := ⟨fun r hr => ⟨h.1 r hr, h.2.lt hr⟩, h.2⟩

section
variable {P : Program} {n : Nat} {w0 : World} {F : Nat → Prop} {ops : Array Oper} {i d : Nat} {t : TypeId} {pos : String} {aft : Array Edge} {g : Option (Nat × Bool)} {os : List Oper} {Q : Cont} {e : E} {Γ : List Fact} [Dr]
/-- Two facts told as one. -/
theorem Hold.join {w : World} {f g h : Fact} (ho : Hold w0 F (f :: g :: Γ) w) (hown : ∀ k, h.owns k ↔ f.owns k ∨ g.owns k) (hs : h.sat (fp w0 F (h :: Γ)) w) : Hold w0 F (h :: Γ) w := by
  have hfree : ∀ k, fp w0 F (f :: g :: Γ) k → fp w0 F (h :: Γ) k := by
    refine fun k hk => ⟨hk.1, fun f' hf' hown' => ?_⟩
    rcases List.mem_cons.1 hf' with rfl | hf'
    · rcases (hown k).1 hown' with h1 | h1
      · exact hk.2 f (by simp) h1
      · exact hk.2 g (by simp) h1
    · exact hk.2 f' (by simp [hf']) hown'
  have hp := List.pairwise_cons.1 ho.dis
  have hp2 := List.pairwise_cons.1 hp.2
  refine ⟨ho.below, fun f' hf' => ?_, ?_, ?_⟩
  · rcases List.mem_cons.1 hf' with rfl | hf'
    · exact hs
    · exact Fact.sat_keep (ho.sat f' (by simp [hf'])) (fun k hk _ => hfree k hk) (fun _ _ _ => rfl)
  · refine List.pairwise_cons.2 ⟨fun f' hf' k hk => ?_, hp2.2⟩
    rcases (hown k).1 hk.1 with h1 | h1
    · exact hp.1 f' (by simp [hf']) k ⟨h1, hk.2⟩
    · exact hp2.1 f' hf' k ⟨h1, hk.2⟩
  · intro f' hf' k hk
    rcases List.mem_cons.1 hf' with rfl | hf'
    · rcases (hown k).1 hk with h1 | h1
      · exact ho.new f (by simp) k h1
      · exact ho.new g (by simp) k h1
    · exact ho.new f' (by simp [hf']) k hk
theorem Hold.addRow {w : World} {b : Nat} {bt : TypeId} {r : List Bool} {B : List RowP} {K : List (List Bool)} (ho : Hold w0 F (.own b bt (r.map Value.bool) :: .res (rowsR bt B K) :: Γ) w) :
    Hold w0 F (.res (rowsR bt (B ++ [⟨b, r.length⟩]) (K ++ [r])) :: Γ) w := by
  have hb : w.heap[b]? = some (.cells (r.map Value.bool).toArray bt (0, 0)) := ho.sat (.own b bt _) (by simp)
  obtain ⟨h1, h2, h3⟩ : (rowsR bt B K).holds _ w := ho.sat (.res (rowsR bt B K)) (by simp)
  have hdis := (List.pairwise_cons.1 ho.dis).1 (.res (rowsR bt B K)) (by simp)
  refine ho.join (fun k => ?_) ⟨?_, by simp [h2], fun i hi hi' => ?_⟩
  · constructor
    · rintro ⟨x, hx, rfl⟩
      rcases List.mem_append.1 hx with hx | hx
      · exact .inr ⟨x, hx, rfl⟩
      · simp only [List.mem_singleton] at hx; subst hx; exact .inl rfl
    · rintro (rfl | ⟨x, hx, rfl⟩)
      · exact ⟨⟨_, r.length⟩, by simp, rfl⟩
      · exact ⟨x, by simp [hx], rfl⟩
  · rw [rowBs, List.map_append, List.nodup_append]
    refine ⟨h1, by simp, fun x hx y hy e => ?_⟩
    simp only [List.map_cons, List.map_nil, List.mem_singleton] at hy
    subst e hy
    obtain ⟨z, hz, hzb⟩ := List.mem_map.1 hx
    exact hdis _ ⟨rfl, z, hz, hzb⟩
  · by_cases hlt : i < B.length
    · rw [List.getElem_append_left hlt, List.getElem_append_left (by omega)]
      exact h3 i hlt (by omega)
    · have e1 : i = B.length := by simp at hi; omega
      subst e1
      rw [List.getElem_append_right (by omega), List.getElem_append_right (by omega)]
      simp [h2, hb]
/-- The rows' fact. -/
class HasRows (Γ : List Fact) (bt : outParam TypeId) (B : outParam (List RowP)) (K : outParam (List (List Bool))) (Δ : outParam (List Fact)) : Prop where
  ok : Γ.Perm (.res (rowsR bt B K) :: Δ)
instance (priority := 100) HasRows.miss {g : Fact} {bt : TypeId} {B : List RowP} {K : List (List Bool)} {Δ : List Fact} [h : HasRows Γ bt B K Δ] : HasRows (g :: Γ) bt B K (g :: Δ) :=
  ⟨(h.ok.cons g).trans (List.Perm.swap _ g Δ)⟩
instance (priority := 1000) HasRows.hit {bt : TypeId} {B : List RowP} {K : List (List Bool)} : HasRows (.res (rowsR bt B K) :: Γ) bt B K Γ := ⟨List.Perm.refl _⟩
/-- A slice of the row of slices, loaded. -/
theorem OpV.loadRow {x : Operand} {b c k o : Nat} {el ty : TypeId} {B : List RowP} {sz by_ : Nat} {z : Value} {Δ : List Fact} {d : Option Nat}
    [hx : Ev e x (.pointer (some ⟨b, o, none⟩))] [hB : BufAt Γ b c el B Δ] {td2 : TypeId} [hT : Ty P ty (.slice td2) sz by_ z] (h : k < B.length) (ho' : o = k) (hsz : sz = 1) :
    OpV P n w0 F ⟨d, .load ty x, t, pos, aft, g⟩ e Γ (.slice (some ⟨B[k].b, 0, none⟩) B[k].n B[k].n) :=
  fun a w fr ho => by
    obtain ⟨q, cur, h0, h1, h2, hg, hnc, hcm, hcs, htk⟩ := buf_some ((ho.perm hB.ok).sat (.res (buf (some ⟨b, 0, none⟩) c el B)) (by simp))
    have hqL : q.length = B.length := by rw [← h1]; simp
    have hkq : k < q.length := by omega
    have hqk : q[k].1 = B[k] := by simp [← h1]
    have hr : w.rangeAt b o [.slice (some ⟨B[k].b, 0, none⟩) B[k].n B[k].n] := by
      intro j v hj
      cases j with
      | zero =>
        simp only [List.getElem?_cons_zero, Option.some.injEq] at hj
        subst hj
        rw [Nat.add_zero, cell_of_row w b _ cur el _ hg, ho']
        have := flat_at q k hkq 0 (.slice (some ⟨B[k].b, 0, none⟩) B[k].n B[k].n) (by rw [hqk]; rfl)
        rw [← htk, List.getElem?_take] at this
        split at this
        · simpa [Cell.sz] using this
        · cases this
      | succ j => simp at hj
    have hload := run_load_at (P := P) (t := ty) (v := .slice (some ⟨B[k].b, 0, none⟩) B[k].n B[k].n) hr (by simp [hsz])
    simp [execOp, hx.ok n a fr, hload]
/-- An element of a row, loaded. -/
theorem OpV.rowGet {x : Operand} {o k j : Nat} {bt ty : TypeId} {B : List RowP} {K : List (List Bool)} {sz by_ : Nat} {z : Value} {Δ : List Fact} {bb : Nat} {d : Option Nat}
    [hx : Ev e x (.pointer (some ⟨bb, o, none⟩))] [hB : HasRows Γ bt B K Δ] [hT : Ty P ty .bool sz by_ z] (h : k < B.length) (h' : k < K.length) (hj : j < K[k].length) (hb : bb = B[k].b) (ho' : o = j) (hsz : sz = 1) :
    OpV P n w0 F ⟨d, .load ty x, t, pos, aft, g⟩ e Γ (.bool K[k][j]) :=
  fun a w fr ho => by
    obtain ⟨_, _, h3⟩ : (rowsR bt B K).holds _ w := (ho.perm hB.ok).sat (.res (rowsR bt B K)) (by simp)
    have hg := (h3 k h h').2
    rw [← hb] at hg
    have hr : w.rangeAt bb o [.bool K[k][j]] := by
      intro y v hy
      cases y with
      | zero =>
        simp only [List.getElem?_cons_zero, Option.some.injEq] at hy
        subst hy
        rw [Nat.add_zero, cell_of_row w bb _ _ _ _ hg, ho']
        simp [hj]
      | succ y => simp at hy
    have hload := run_load_at (P := P) (t := ty) (v := .bool K[k][j]) hr (by simp [hsz])
    simp [execOp, hx.ok n a fr, hload]
/-- An element of a row, written. -/
theorem JR.rowSet {x y : Operand} {o k j : Nat} {bt ty : TypeId} {B : List RowP} {K : List (List Bool)} {u : Bool} {sz by_ : Nat} {z : Value} {Δ : List Fact} {bb : Nat}
    [hx : Ev e x (.pointer (some ⟨bb, o, none⟩))] [hB : HasRows Γ bt B K Δ] [hy : Ev e y (.bool u)] [hT : Ty P ty .bool sz by_ z] (h : k < B.length) (h' : k < K.length) (hj : j < K[k].length) (hb : bb = B[k].b) (ho' : o = j) (hsz : sz = 1)
    (kk : JO P n w0 F ops (i + 1) os Q e (.res (rowsR bt B (K.set k (K[k].set j u))) :: Δ)) : JR P n w0 F ops i ⟨none, .store ty x y, t, pos, aft, g⟩ os Q e Γ :=
  JR.effect fun a w fr ho => by
    have hp := ho.perm hB.ok
    obtain ⟨h1, h2, h3⟩ : (rowsR bt B K).holds _ w := hp.sat (.res (rowsR bt B K)) (by simp)
    have hg := (h3 k h h').2
    rw [← hb] at hg
    have hlay : o + [Value.bool u].length ≤ (K[k].map Value.bool).length ∧ (K[k].map Value.bool).take o ++ [Value.bool u] ++ (K[k].map Value.bool).drop (o + [Value.bool u].length) = (K[k].set j u).map Value.bool := by
      refine ⟨by simp; omega, ?_⟩
      rw [ho', List.map_set, List.set_eq_take_append_cons_drop, if_pos (by simpa using hj)]
      simp
    have hheap : ∀ q, q ≠ bb → (w.setRow bb ((K[k].set j u).map Value.bool).toArray).heap[q]? = w.heap[q]? := fun q hq => by
      simp only [World.setRow, Array.getElem?_modify]; rw [if_neg (by omega)]
    have hnew := setRow_heap w bb (K[k].map Value.bool).toArray ((K[k].set j u).map Value.bool).toArray bt _ hg
    have hown : ∀ q, (Fact.res (rowsR bt B K)).owns q ↔ (Fact.res (rowsR bt B (K.set k (K[k].set j u)))).owns q := fun q => Iff.rfl
    refine ⟨.skip, w.setRow bb ((K[k].set j u).map Value.bool).toArray, .res (rowsR bt B (K.set k (K[k].set j u))) :: Δ, .inl rfl, ?_, ?_, kk⟩
    · simp [execOp, hx.ok n a fr, hy.ok n a fr, run_store_own (P := P) (ty := ty) (cs := [Value.bool u]) (r := (K[k].set j u).map Value.bool) hg (by simp [hsz]) hlay]
    · have hbb : w0.heap.size ≤ bb := hp.new (.res (rowsR bt B K)) (by simp) bb ⟨B[k], List.getElem_mem h, hb.symm⟩
      have hdis := List.pairwise_cons.1 hp.dis
      refine ⟨hp.below.trans ⟨rfl, rfl, rfl, by simp [World.setRow], fun q hq => hheap q (by omega), fun _ => Nat.le_refl _⟩, fun f hf => ?_, ?_, ?_⟩
      · rcases List.mem_cons.1 hf with rfl | hf
        · refine ⟨h1, by simp [h2], fun x hx1 hx2 => ?_⟩
          by_cases hxk : x = k
          · subst hxk
            refine ⟨by simp [(h3 x h h').1], ?_⟩
            rw [List.getElem_set_self, ← hb]
            exact hnew
          · have hx2' : x < K.length := by simpa using hx2
            rw [List.getElem_set_ne (Ne.symm hxk)]
            refine ⟨(h3 x hx1 hx2').1, ?_⟩
            rw [hheap _ ?_]
            · exact (h3 x hx1 hx2').2
            · rw [hb]
              intro e
              have hn := List.pairwise_iff_getElem.1 h1
              rcases Nat.lt_or_gt_of_ne hxk with hlt | hlt
              · have := hn x k (by simpa [rowBs] using hx1) (by simpa [rowBs] using h) hlt
                simp only [rowBs, List.getElem_map] at this; exact this e
              · have := hn k x (by simpa [rowBs] using h) (by simpa [rowBs] using hx1) hlt
                simp only [rowBs, List.getElem_map] at this; exact this e.symm
        · refine Fact.sat_keep (hp.sat f (by simp [hf])) (fun q hq _ => ⟨hq.1, fun f' hf' => ?_⟩) (fun q _ hq => hheap q (fun e => ?_))
          · rcases List.mem_cons.1 hf' with rfl | hf'
            · exact hq.2 (.res (rowsR bt B K)) (by simp)
            · exact hq.2 f' (by simp [hf'])
          · subst e
            have hmem : (Fact.res (rowsR bt B K)).owns q := ⟨B[k], List.getElem_mem h, hb.symm⟩
            rcases hq with hq | hq
            · exact hq.2 (.res (rowsR bt B K)) (by simp) hmem
            · exact hdis.1 f hf q ⟨hmem, hq⟩
      · exact List.pairwise_cons.2 ⟨fun f' hf' q hq => hdis.1 f' hf' q ⟨hq.1, hq.2⟩, hdis.2⟩
      · intro f' hf' q hq
        rcases List.mem_cons.1 hf' with rfl | hf'
        · exact hp.new (.res (rowsR bt B K)) (by simp) q hq
        · exact hp.new f' (by simp [hf']) q hq
theorem Hold.pubRows {w : World} {bt : TypeId} {B : List RowP} {K : List (List Bool)} (ho : Hold w0 F (.res (rowsR bt B K) :: Γ) w) : Hold w0 F (.st (rowsA bt B K) :: Γ) w :=
  ho.publish fun hk => ⟨fun r hr => hk r.b (.inr ⟨r, hr, rfl⟩), (ho.sat (.res (rowsR bt B K)) (by simp)).2⟩
end
theorem sl_bools {w : World} {F : Nat → Prop} {b : Nat} {L : List Bool} {t : TypeId} (h : w.heap[b]? = some (.cells (L.map Value.bool).toArray t (0, 0))) (hF : F b) (hmax : L.length ≤ 4096) : (sl (some ⟨b, 0, none⟩) L.length L).holds F w := by
  refine ⟨Nat.le_refl _, by simp [maxLen]; omega, by simp only [lim]; omega, fun hne => ⟨b, 0, rfl, hF, (Array.getElem?_eq_some_iff.1 h).1, fun i hi => ⟨(), ?_, by simp [Cell.facts]⟩⟩⟩
  intro j v hj
  simp only [Cell.cells, List.getElem?_singleton] at hj
  split at hj
  · rename_i h0; subst h0
    injection hj with hj
    subst hj
    rw [cell_of_row w b _ _ _ _ h]
    simp [Cell.sz, hi]
  · cases hj
theorem sl_rows {w : World} {F : Nat → Prop} {a : Option Addr} {c : Nat} {bt : TypeId} {B : List RowP} {K : List (List Bool)} (h : (sl a c B).holds F w) (h' : (rowsA bt B K).holds F w) (hK : ∀ r ∈ K, r.length ≤ 4096) : (sl a c K).holds F w := by
  obtain ⟨h1, h2, h3⟩ := h'
  refine ⟨by rw [← h2]; exact h.1, h.2.1, by rw [← h2]; exact h.2.2.1, fun hne => ?_⟩
  obtain ⟨b, off, rfl, hb, hlt, hrow⟩ := h.2.2.2 (fun e => hne (List.eq_nil_of_length_eq_zero (by rw [← h2, e]; rfl)))
  refine ⟨b, off, rfl, hb, hlt, fun i hi => ?_⟩
  have hi' : i < B.length := by omega
  obtain ⟨_, hr, _⟩ := hrow i hi'
  obtain ⟨h4, h5⟩ := h3 i hi' hi
  refine ⟨(some ⟨B[i].b, 0, none⟩, B[i].n), ?_, fun A hA => ?_⟩
  · have e : Cell.cells K[i] ((some ⟨B[i].b, 0, none⟩, B[i].n) : Cell.Ix (List Bool)) = Cell.cells B[i] (() : Cell.Ix RowP) := by
      show [Value.slice (some ⟨B[i].b, 0, none⟩) K[i].length B[i].n] = [Value.slice (some ⟨B[i].b, 0, none⟩) B[i].n B[i].n]
      rw [h4]
    rw [e]; exact hr
  · simp only [Cell.facts, List.mem_singleton] at hA
    subst hA
    rw [h4]
    exact sl_bools h5 (h1 _ (List.getElem_mem hi')) (hK _ (List.getElem_mem hi))
theorem madeBools (c : Nat) : (madeCells (Value.cells (.bool false)) (c * 1)) = ((List.replicate c false).map Value.bool).toArray := by
  apply Array.ext
  · simp [size_madeCells]
  · intro i h1 h2
    simp [madeCells, Value.cells, Nat.mod_one]
section
variable {P : Program} {n : Nat} {w0 : World} {F : Nat → Prop} {ops : Array Oper} {i d : Nat} {t : TypeId} {pos : String} {aft : Array Edge} {g : Option (Nat × Bool)} {os : List Oper} {Q : Cont} {e : E} {Γ : List Fact} [Dr]
/-- make([]bool, l) -/
theorem JR.makeBools {x y : Operand} {kk k2 : IntKind} {j j2 : Int} {l l2 : Nat} {ty el : TypeId} {ed : TypeDesc} {sz by_ : Nat} {z : Value}
    [hx : Ev e x (.int kk j)] [hk : NatI j l] [hy : Ev e y (.int k2 j2)] [hk2 : NatI j2 l2] [hT : Ty P ty (.slice el) sz by_ z] [hE : Ty P el ed 1 1 (.bool false)]
    (hd : Nat.blt d n = true) (he : l = l2) (hl : l ≤ 1073741824)
    (K : ∀ b, JO P n w0 F ops (i + 1) os Q ((d, .slice (some ⟨b, 0, none⟩) l l) :: e) (.own b el ((List.replicate l false).map Value.bool) :: Γ)) :
    JR P n w0 F ops i ⟨some d, .makeSlice ty x y, t, pos, aft, g⟩ os Q e Γ :=
  JR.value hd fun a w fr ho => by
    subst he
    obtain ⟨ti, hti, hti1, hti2, hti3⟩ := hE.some
    have hj := hk.ok
    have hj2 := hk2.ok
    subst hj hj2
    have hr := run_make (P := P) w ty el ti (.bool false) hT.und hti hti3 kk k2 (l : Int) (l : Int) (by omega) (by omega) (by rw [hti2]; omega) (by omega)
    simp only [Int.toNat_natCast, hti1, madeBools] at hr
    refine ⟨_, w.alloc (.cells ((List.replicate l false).map Value.bool).toArray el), _, ?_, ho.alloc el ((List.replicate l false).map Value.bool), K w.heap.size⟩
    simp [execOp, hx.ok n a fr, hy.ok n a fr, hr]
end
end Ab
end Go.Proofs.YtglclakhjmogiaaGreat

/- Contract of the document's layer 11: Knows. -/
namespace Go.Proofs.YtglclakhjmogiaaGreat
namespace Ab
open Go Go.RowKit
set_option linter.unusedVariables false
set_option linter.unusedSimpArgs false
set_option synthInstance.maxSize 4000
set_option synthInstance.maxHeartbeats 400000
attribute [local irreducible] JC JO JR JQ andThen inBlock OpV Gives retTo JM JS

attribute [local irreducible] hashC
def get (K : List (List Bool)) (i j : Nat) : Bool := (K.getD i []).getD j false
theorem get_eq {K : List (List Bool)} {i j : Nat} (hi : i < K.length) (hj : j < K[i].length) : get K i j = K[i][j] := by simp [get, List.getD_eq_getElem?_getD, hi, hj]
theorem get_set {K : List (List Bool)} {i j : Nat} (hi : i < K.length) (hj : j < K[i].length) (x y : Nat) : get (K.set i (K[i].set j true)) x y = if x = i ∧ y = j then true else get K x y := by
  unfold get
  simp only [List.getD_eq_getElem?_getD]
  by_cases hx : x = i
  · subst hx
    rw [List.getElem?_set_self hi, List.getElem?_eq_getElem hi]
    by_cases hy : y = j
    · subst hy; simp [hj]
    · simp [hy, List.getElem?_set_ne (Ne.symm hy)]
  · rw [List.getElem?_set_ne (Ne.symm hx)]; simp [hx]
def rowF (r : List Bool) : Nat := (r.filter fun b => !b).length
def cntF : List (List Bool) → Nat
  | [] => 0
  | r :: K => rowF r + cntF K
theorem rowF_lt : ∀ (r : List Bool) (j : Nat) (h : j < r.length), r[j] = false → rowF (r.set j true) < rowF r
  | [], j, h, _ => by cases h
  | b :: r, 0, _, hb => by
    have : b = false := hb
    subst this
    simp [rowF]
  | b :: r, j + 1, h, hb => by
    have := rowF_lt r j (by simpa using h) hb
    cases b <;> simp [rowF] at this ⊢ <;> omega
theorem cntF_lt : ∀ (K : List (List Bool)) (i : Nat) (h : i < K.length) (r : List Bool), rowF r < rowF K[i] → cntF (K.set i r) < cntF K
  | [], i, h, _, _ => by cases h
  | q :: K, 0, _, r, hr => by simp [cntF] at hr ⊢; omega
  | q :: K, i + 1, h, r, hr => by
    have := cntF_lt K i (by simpa using h) r hr
    simp [cntF]; omega
theorem cnt_set {K : List (List Bool)} {i j : Nat} (hi : i < K.length) (hj : j < K[i].length) (h : get K i j = false) : cntF (K.set i (K[i].set j true)) < cntF K :=
  cntF_lt K i hi _ (rowF_lt _ j hj (by rw [← get_eq hi hj]; exact h))
def Square (n : Nat) (K : List (List Bool)) : Prop := K.length = n ∧ ∀ i (h : i < K.length), K[i].length = n
theorem Square.set {n : Nat} {K : List (List Bool)} (h : Square n K) {i j : Nat} (hi : i < K.length) : Square n (K.set i (K[i].set j true)) := by
  refine ⟨by simp [h.1], fun x hx => ?_⟩
  by_cases hxi : x = i
  · subst hxi; simp [h.2 x hi]
  · rw [List.getElem_set_ne (Ne.symm hxi)]; exact h.2 x (by simpa using hx)
theorem square_false (n : Nat) : Square n (List.replicate n (List.replicate n false)) := ⟨by simp, fun i h => by simp⟩
theorem get_false (n i j : Nat) : get (List.replicate n (List.replicate n false)) i j = false := by
  unfold get
  simp only [List.getD_eq_getElem?_getD, List.getElem?_replicate]
  split
  · simp only [Option.getD_some, List.getElem?_replicate]; split <;> rfl
  · rfl
def Rule (K : List (List Bool)) (i p j : Nat) : Prop := (j = p ∨ get K p j = true) → get K i j = true
def RuleP (L : List Commit) (K : List (List Bool)) (i : Nat) (q : ID) : Prop := ∀ p, (cids L).findIdx? (fun x => decide (x = q)) = some p → ∀ j, j < L.length → Rule K i p j
def Sound (L : List Commit) (K : List (List Bool)) : Prop := ∀ i j, get K i j = true → knowsI L i j
structure KnowsR (L : List Commit) (K : List (List Bool)) : Prop where
  square : Square L.length K
  iff : ∀ i j, get K i j = true ↔ knowsI L i j
abbrev KnowsY (L : List Commit) := { y : List (List Bool) × Option Addr × Nat // KnowsR L y.1 }
theorem knowsR_of {L : List Commit} {K : List (List Bool)} (h1 : Square L.length K) (h2 : Sound L K) (h3 : ∀ i (hi : i < L.length), ∀ q ∈ (L[i]).parents, RuleP L K i q) : KnowsR L K := by
  refine ⟨h1, fun i j => ⟨h2 i j, fun hk => ?_⟩⟩
  have : (get K i j = true ∧ j < L.length) := by
    refine knowsI_all (K := fun i j => get K i j = true ∧ j < L.length) (fun i p hs => ?_) hk
    obtain ⟨hi, q, hq, hat⟩ := id hs
    have hp := (istep_lt hs).2
    exact ⟨⟨h3 i hi q hq p hat p hp (.inl rfl), hp⟩, fun j hj => ⟨h3 i hi q hq p hat j hj.2 (.inr hj.1), hj.2⟩⟩
  exact this.1
set_option maxHeartbeats 4000000 in
theorem knows_ref (w : World) (F : Nat → Prop) (a d : Option Addr) (k m : Nat) (L : List Commit) (h : (sl a k L).holds F w) (h' : (sl d m (cids L)).holds F w) (hl : L.length ≤ 1000) (hf : ∀ x ∈ L, x.parents.length ≤ 1000) :
    Gives Tryz.prog 96 [.slice a L.length k, .slice d (cids L).length m] w F (fun y : KnowsY L => .slice y.1.2.1 y.1.1.length y.1.2.2) (fun y => [.st (sl y.1.2.1 y.1.2.2 y.1.1)]) := by
  refine gives_of Tryz.func96 rfl Tryz.ntmps96 rfl rfl [.st (sl a k L), .st (sl d m (cids L))] (.start2 h h') ?_
  repeat (first|refine Wa ?_|refine Wb ?_|refine Wc ?_|refine Wd ?_|refine We rfl ?_|refine Wf (by exact Vb) rfl ?_|refine Wn ?_)
  refine JC.buf_nil (α := RowP) 116 ?_
  refine JC.more (Γ' := [.res (rowsR 4 [] []), .res (buf (α := RowP) none 0 116 []), .st (sl a k L), .st (sl d m (cids L))]) (fun w1 ho => (ho.res (R := rowsR 4 [] []) (fun k hk => by obtain ⟨r, hr, _⟩ := hk; cases hr) ⟨List.nodup_nil, rfl, fun i hi => by cases hi⟩).ent) ?_
  refine JC.loop4 (fun (i : Nat) (B : List RowP) r s => [(0, .slice a L.length k), (1, .slice d (cids L).length m), (5, .slice r B.length s), (6, .int .i64 (i : Int))])
    (fun i B r s => [.res (rowsR 4 B (List.replicate i (List.replicate L.length false))), .res (buf r s 116 B), .st (sl a k L), .st (sl d m (cids L))])
    (fun i B _ _ => i ≤ L.length ∧ B.length = i ∧ ∀ x ∈ B, x.n = L.length) (fun i _ _ _ => L.length - i) 0 [] none 0 ⟨Nat.zero_le _, rfl, by simp⟩ (by rw [List.replicate_zero]; infer_instance) ?_
  intro i B r s ⟨hi, hBl, hBn⟩
  repeat (first|refine Wa ?_|refine Wb ?_|refine Wc ?_|refine Wd ?_|refine We rfl ?_|refine Wf (by first|exact Va|exact Vf|exact Vg) rfl ?_)
  refine JC.test (fun hlt => ?_) (fun hge => ?_)
  · have hlt' : i < L.length := by omega
    repeat (first|refine Wa ?_|refine Wb ?_|refine Wc ?_|refine We rfl ?_|refine Wf (by first|exact Va|exact Vf) rfl ?_|refine Wl ?_|refine Wn ?_)
    refine JR.makeBools rfl rfl (by omega) ?_
    intro bn
    repeat (first|refine We rfl ?_|(refine Ww rfl ⟨rfl, by decide, by decide, by decide⟩ ?_; intro _))
    refine JR.append1 (u := RowP.mk bn L.length) rfl (by exact ⟨rfl, rfl, by decide⟩) (by omega) ?_
    intro r2 s2
    refine JO.more (Γ' := [.res (rowsR 4 (B ++ [⟨bn, L.length⟩]) (List.replicate (i + 1) (List.replicate L.length false))), .res (buf r2 s2 116 (B ++ [⟨bn, L.length⟩])), .st (sl a k L), .st (sl d m (cids L))]) (fun w1 ho => ?_) ?_
    · have h1 : Hold _ _ (.own bn 4 ((List.replicate L.length false).map Value.bool) :: .res (rowsR 4 B (List.replicate i (List.replicate L.length false))) :: .res (buf r2 s2 116 (B ++ [⟨bn, L.length⟩])) :: [.st (sl a k L), .st (sl d m (cids L))]) w1 := ho.ent
      have h2 := h1.addRow
      rw [List.length_replicate, ← List.replicate_succ'] at h2
      exact h2
    repeat (first|refine Wa ?_|refine Wc ?_|refine Wd ?_|refine We rfl ?_|refine Wf (by first|exact Va|exact Vb|exact Vk (by omega)) rfl ?_|refine Wr ?_)
    refine ⟨i + 1, B ++ [⟨bn, L.length⟩], r2, s2, ⟨by omega, by simp [hBl], fun x hx => ?_⟩, by omega, inferInstance⟩
    rcases List.mem_append.1 hx with hx | hx
    · exact hBn x hx
    · simp only [List.mem_singleton] at hx; subst hx; rfl
  obtain rfl : i = L.length := by omega
  obtain ⟨K0, hK0⟩ : ∃ K0, K0 = List.replicate L.length (List.replicate L.length false) := ⟨_, rfl⟩
  have hs0 : Square L.length K0 := hK0 ▸ square_false _
  have hd0 : Sound L K0 := fun i j hg => by rw [hK0, get_false] at hg; cases hg
  rw [← hK0]
  repeat (first|refine Wa ?_|refine Wb ?_|refine Wc ?_|refine Wd ?_|refine We rfl ?_|refine Wf (by exact Vb) rfl ?_|refine Wm ?_|refine Wn ?_|refine Wo ?_|refine Wp ?_)
  refine JC.loop2 (fun (K : List (List Bool)) (m_ : Bool) => [(0, .slice a L.length k), (1, .slice d (cids L).length m), (5, .slice r B.length s), (7, .bool m_)]) (fun K m_ => [.res (buf r s 116 B), .res (rowsR 4 B K), .st (sl a k L), .st (sl d m (cids L))])
    (fun K m_ => Square L.length K ∧ Sound L K ∧ (m_ = false → ∀ i (hi : i < L.length), ∀ q ∈ (L[i]).parents, RuleP L K i q)) (fun K m_ => 2 * cntF K + (if m_ then 1 else 0)) K0 true ⟨hs0, hd0, fun h => by cases h⟩ inferInstance ?_
  intro K m_ ⟨hsq, hsd, hrl⟩
  cases m_ with
  | false =>
    have hR := knowsR_of hsq hsd (hrl rfl)
    refine JC.more (Γ' := [.st (sl r s K)]) (fun w1 ho => ?_) ?_
    · have h1 : Hold _ _ (.res (buf r s 116 B) :: [.res (rowsR 4 B K)]) w1 := ho.ent
      have h2 : Hold _ _ (.res (rowsR 4 B K) :: [.st (sl r s B)]) w1 := (h1.pub).ent
      have h3 := h2.pubRows
      have h4 := h3.add (A := sl r s K) (sl_rows (h3.get (A := sl r s B)) (h3.get (A := rowsA 4 B K)) (fun x hx => by obtain ⟨i, hi, rfl⟩ := List.getElem_of_mem hx; rw [hsq.2 i hi]; omega))
      exact h4.ent
    refine JC.reslot 5 (.slice r K.length s) (by rw [hBl, hsq.1]) ?_
    repeat (first|refine Wa ?_|refine Wb ?_|refine Wc ?_|refine Wd ?_|refine We rfl ?_|refine Wf (by first|exact Va|exact Vb) rfl ?_|refine Wk ?_|refine Wm ?_|refine Wo ?_|refine Wp ?_|refine Ws ?_)
    exact CT.done (Y := KnowsY L) ⟨(K, r, s), hR⟩ rfl (fun w ho => ho.ent)
  | true =>
    repeat (first|refine Wa ?_|refine Wb ?_|refine Wc ?_|refine Wd ?_|refine We rfl ?_|refine Wf (by first|exact Va|exact Vb) rfl ?_|refine Wj ?_|refine Wl ?_|refine Wn ?_)
    refine JC.loop3 (fun (i : Nat) (K1 : List (List Bool)) (m1 : Bool) => [(0, .slice a L.length k), (1, .slice d (cids L).length m), (5, .slice r B.length s), (7, .bool m1), (8, .int .i64 (i : Int))]) (fun i K1 m1 => [.res (buf r s 116 B), .res (rowsR 4 B K1), .st (sl a k L), .st (sl d m (cids L))])
      (fun i K1 m1 => i ≤ L.length ∧ Square L.length K1 ∧ Sound L K1 ∧ (m1 = true → cntF K1 < cntF K) ∧ (m1 = false → K1 = K ∧ ∀ x (hx : x < L.length), x < i → ∀ q ∈ (L[x]).parents, RuleP L K x q)) (fun i _ _ => L.length - i) 0 K false
      ⟨Nat.zero_le _, hsq, hsd, (fun h => by cases h), fun _ => ⟨rfl, fun x hx h => by omega⟩⟩ inferInstance ?_
    intro i K1 m1 ⟨hi, hsq1, hsd1, hm1, hr1⟩
    repeat (first|refine Wa ?_|refine Wb ?_|refine Wc ?_|refine Wd ?_|refine We rfl ?_|refine Wf (by first|exact Va|exact Vf|exact Vg) rfl ?_)
    refine JC.test (fun hlt => ?_) (fun hge => ?_)
    · have hlt' : i < L.length := by omega
      have hpf := hf _ (List.getElem_mem hlt')
      repeat (first|refine Wa ?_|refine Wb ?_|refine Wc ?_|refine Wd ?_|refine We rfl ?_|refine Wf (by exact Vb) rfl ?_|refine Wl ?_|refine Wn ?_)
      refine JC.loop3 (fun (y : Nat) (K2 : List (List Bool)) (m2 : Bool) => [(0, .slice a L.length k), (1, .slice d (cids L).length m), (5, .slice r B.length s), (7, .bool m2), (8, .int .i64 (i : Int)), (9, .int .i64 (y : Int))]) (fun y K2 m2 => [.res (buf r s 116 B), .res (rowsR 4 B K2), .st (sl a k L), .st (sl d m (cids L))])
        (fun y K2 m2 => y ≤ (L[i]).parents.length ∧ Square L.length K2 ∧ Sound L K2 ∧ (m2 = true → cntF K2 < cntF K) ∧ (m2 = false → K2 = K ∧ (∀ x (hx : x < L.length), x < i → ∀ q ∈ (L[x]).parents, RuleP L K x q) ∧ ∀ q ∈ (L[i]).parents.take y, RuleP L K i q))
        (fun y _ _ => (L[i]).parents.length - y) 0 K1 m1 ⟨Nat.zero_le _, hsq1, hsd1, hm1, fun h => ⟨(hr1 h).1, (hr1 h).2, by simp⟩⟩ inferInstance ?_
      intro y K2 m2 ⟨hy, hsq2, hsd2, hm2, hr2⟩
      repeat (first|refine Wb ?_|refine Wc ?_|refine We rfl ?_|refine Wf (by exact Va) rfl ?_)
      refine JR.indexCommit rfl hlt' ?_
      intro b1 o1 p1 q1
      repeat (first|refine Wa ?_|refine Wd ?_|refine We rfl ?_|refine Wf (by first|exact Vc|exact Vd|exact Vf|exact Vg) rfl ?_)
      refine JC.test (fun hlty => ?_) (fun hgey => ?_)
      · have hly : y < (L[i]).parents.length := by omega
        repeat (first|refine Wa ?_|refine Wb ?_|refine Wc ?_|refine We rfl ?_|refine Wf (by exact Va) rfl ?_|refine Wl ?_|refine Wn ?_)
        refine JR.indexCommit rfl hlt' ?_
        intro b2 o2 p2 q2
        repeat (first|refine We rfl ?_|refine Wf (by first|exact Va|exact Vc|exact Vd) rfl ?_)
        refine JR.indexID (L := (L[i]).parents) rfl hly ?_
        intro b3 o3
        repeat (first|refine We rfl ?_|refine Wf (by exact Vc) rfl ?_)
        refine JR.callV rfl (fun w1 hw => at_ref w1 _ d m (cids L) ((L[i]).parents[y]) hw.get) ?_
        repeat (first|refine Wa ?_|refine Wb ?_|refine Wc ?_|refine Wd ?_|refine We rfl ?_|refine Wf (by exact Vb) rfl ?_|refine Wn ?_)
        cases hat : (cids L).findIdx? (fun x => decide (x = (L[i]).parents[y])) with
        | none =>
          have hrp : RuleP L K i ((L[i]).parents[y]) := fun p hp => by rw [hat] at hp; cases hp
          refine JC.reslot 10 (.int .i64 (-1)) (by simp [atI, hat]) ?_
          refine JC.loop1 (fun (_ : Unit) => [(0, .slice a L.length k), (1, .slice d (cids L).length m), (5, .slice r B.length s), (7, .bool m2), (8, .int .i64 (i : Int)), (9, .int .i64 (y : Int)), (10, .int .i64 (-1)), (11, .int .i64 0)]) (fun _ => [.res (buf r s 116 B), .res (rowsR 4 B K2), .st (sl a k L), .st (sl d m (cids L))]) (fun _ => True) (fun _ => 0) () trivial inferInstance ?_
          intro _ _
          repeat (first|refine Wa ?_|refine Wb ?_|refine Wc ?_|refine Wd ?_|refine We rfl ?_|refine Wf (by first|exact Va|exact Vb|exact Vj|exact Vk (by omega)|exact Vp) rfl ?_|refine Wk ?_|refine Wm ?_|refine Wo ?_|refine Wp ?_|refine Wr ?_|refine Wv rfl rfl ?_)
          refine ⟨y + 1, K2, m2, ⟨by omega, hsq2, hsd2, hm2, fun h => ⟨(hr2 h).1, (hr2 h).2.1, fun q hq => ?_⟩⟩, by omega, inferInstance⟩
          rcases (mem_take_succ hly).1 hq with hq | rfl
          · exact (hr2 h).2.2 q hq
          · exact hrp
        | some p =>
          have hstep : istep L i p := ⟨hlt', _, List.getElem_mem hly, hat⟩
          have hpl := (istep_lt hstep).2
          refine JC.reslot 10 (.int .i64 (p : Int)) (by simp [atI, hat]) ?_
          refine JC.loop3 (fun (j : Nat) (K3 : List (List Bool)) (m3 : Bool) => [(0, .slice a L.length k), (1, .slice d (cids L).length m), (5, .slice r B.length s), (7, .bool m3), (8, .int .i64 (i : Int)), (9, .int .i64 (y : Int)), (10, .int .i64 (p : Int)), (11, .int .i64 (j : Int))]) (fun j K3 m3 => [.res (buf r s 116 B), .res (rowsR 4 B K3), .st (sl a k L), .st (sl d m (cids L))])
            (fun j K3 m3 => j ≤ L.length ∧ Square L.length K3 ∧ Sound L K3 ∧ (m3 = true → cntF K3 < cntF K) ∧ (m3 = false → K3 = K ∧ (∀ x (hx : x < L.length), x < i → ∀ q ∈ (L[x]).parents, RuleP L K x q) ∧ (∀ q ∈ (L[i]).parents.take y, RuleP L K i q) ∧ ∀ z, z < j → Rule K i p z))
            (fun j _ _ => L.length - j) 0 K2 m2 ⟨Nat.zero_le _, hsq2, hsd2, hm2, fun h => ⟨(hr2 h).1, (hr2 h).2.1, (hr2 h).2.2, fun z hz => by omega⟩⟩ inferInstance ?_
          intro j K3 m3 ⟨hj, hsq3, hsd3, hm3, hr3⟩
          repeat (first|refine Wa ?_|refine Wb ?_|refine Wc ?_|refine Wd ?_|refine We rfl ?_|refine Wf (by first|exact Va|exact Vf|exact Vg|exact Vi|exact Vp) rfl ?_)
          refine JC.test (fun hltj => ?_) (fun hgej => ?_)
          · have hjl : j < L.length := by omega
            have hBne : B ≠ [] := by
              intro e; subst e; simp at hBl; omega
            refine JC.pure (fun w1 ho => buf_addr (ho.sat (.res (buf r s 116 B)) (by simp)) hBne) ?_
            rintro ⟨bb, rfl⟩
            have hBi : i < B.length := by omega
            have hBp : p < B.length := by omega
            have hKi : i < K3.length := by rw [hsq3.1]; exact hlt'
            have hKp : p < K3.length := by rw [hsq3.1]; exact hpl
            have hji : j < K3[i].length := by rw [hsq3.2 i hKi]; exact hjl
            have hjp : j < K3[p].length := by rw [hsq3.2 p hKp]; exact hjl
            have hBin : B[i].n = L.length := hBn _ (List.getElem_mem hBi)
            have hBpn : B[p].n = L.length := hBn _ (List.getElem_mem hBp)
            have hle : cntF K3 ≤ cntF K := by
              cases m3 with
              | true => have := hm3 rfl; omega
              | false => rw [(hr3 rfl).1]; exact Nat.le_refl _
            repeat (first|refine Wa ?_|refine Wb ?_|refine Wc ?_|refine We rfl ?_|refine Wf (by exact Va) rfl ?_|refine Wl ?_|refine Wn ?_)
            refine Wf (OpV.indexBuf (k := i) hBi) rfl ?_
            refine We rfl ?_
            refine Wf (OpV.loadRow (k := i) hBi (by omega) rfl) rfl ?_
            refine JO.reslot 64 (.slice (some ⟨B[i].b, 0, none⟩) L.length L.length) (by rw [hBin]) ?_
            repeat (first|refine We rfl ?_|refine Wf (by exact Va) rfl ?_)
            refine Wf (OpV.indexBuf (k := j) hjl) rfl ?_
            refine We rfl ?_
            refine Wf (OpV.rowGet (k := i) (j := j) hBi hKi hji rfl (by omega) rfl) rfl ?_
            refine JO.reslot 67 (.bool (get K3 i j)) (by rw [get_eq hKi hji]) ?_
            cases hgij : get K3 i j with
            | true =>
              repeat (first|refine Wa ?_|refine Wc ?_|refine Wd ?_|refine We rfl ?_|refine Wf (by first|exact Va|exact Vb|exact Vh|exact Vj|exact Vk (by omega)) rfl ?_|refine Wk ?_|refine Wl ?_|refine Wr ?_|refine Wv rfl rfl ?_|refine Wx rfl rfl ?_)
              refine ⟨j + 1, K3, m3, ⟨by omega, hsq3, hsd3, hm3, fun h => ⟨(hr3 h).1, (hr3 h).2.1, (hr3 h).2.2.1, fun z hz => ?_⟩⟩, by omega, inferInstance⟩
              by_cases hze : z = j
              · subst hze; intro _; rw [← (hr3 h).1]; exact hgij
              · exact (hr3 h).2.2.2 z (by omega)
            | false =>
              repeat (first|refine We rfl ?_|refine Wf (by first|exact Va|exact Vh|exact Vl) rfl ?_)
              refine JO.test 73 (fun he => ?_) (fun hnp => ?_)
              · have hkn : knowsI L i j := by
                  have : j = p := by omega
                  subst this; exact .single hstep
                repeat (first|refine Wa ?_|refine Wb ?_|refine Wc ?_|refine Wd ?_|refine We rfl ?_|refine Wf (by first|exact Va|exact Vi) rfl ?_|refine Wj ?_|refine Wv rfl rfl ?_)
                refine Wf (OpV.indexBuf (k := i) hBi) rfl ?_
                refine We rfl ?_
                refine Wf (OpV.loadRow (k := i) hBi (by omega) rfl) rfl ?_
                refine JO.reslot 86 (.slice (some ⟨B[i].b, 0, none⟩) L.length L.length) (by rw [hBin]) ?_
                repeat (first|refine We rfl ?_|refine Wf (by exact Va) rfl ?_)
                refine Wf (OpV.indexBuf (k := j) hjl) rfl ?_
                refine We rfl ?_
                refine JR.rowSet (k := i) (j := j) hBi hKi hji rfl (by omega) rfl ?_
                repeat (first|refine Wa ?_|refine Wc ?_|refine Wd ?_|refine We rfl ?_|refine Wf (by first|exact Va|exact Vb|exact Vk (by omega)) rfl ?_|refine Wr ?_)
                refine ⟨j + 1, K3.set i (K3[i].set j true), true, ⟨by omega, hsq3.set hKi, fun x z hg => ?_, fun _ => Nat.lt_of_lt_of_le (cnt_set hKi hji hgij) hle, fun h => by cases h⟩, by omega, inferInstance⟩
                rw [get_set hKi hji] at hg
                split at hg
                · rename_i hxz; obtain ⟨rfl, rfl⟩ := hxz; exact hkn
                · exact hsd3 x z hg
              · repeat (first|refine We rfl ?_|refine Wf (by exact Va) rfl ?_)
                refine Wf (OpV.indexBuf (k := p) hBp) rfl ?_
                refine We rfl ?_
                refine Wf (OpV.loadRow (k := p) hBp (by omega) rfl) rfl ?_
                refine JO.reslot 77 (.slice (some ⟨B[p].b, 0, none⟩) L.length L.length) (by rw [hBpn]) ?_
                repeat (first|refine We rfl ?_|refine Wf (by exact Va) rfl ?_)
                refine Wf (OpV.indexBuf (k := j) hjl) rfl ?_
                refine We rfl ?_
                refine Wf (OpV.rowGet (k := p) (j := j) hBp hKp hjp rfl (by omega) rfl) rfl ?_
                refine JO.reslot 80 (.bool (get K3 p j)) (by rw [get_eq hKp hjp]) ?_
                cases hgpj : get K3 p j with
                | true =>
                  have hkn : knowsI L i j := Relation.TransGen.trans (.single hstep) (hsd3 p j hgpj)
                  repeat (first|refine Wa ?_|refine Wb ?_|refine Wc ?_|refine Wd ?_|refine We rfl ?_|refine Wf (by first|exact Va|exact Vi|exact Vj) rfl ?_|refine Wj ?_)
                  refine Wf (OpV.indexBuf (k := i) hBi) rfl ?_
                  refine We rfl ?_
                  refine Wf (OpV.loadRow (k := i) hBi (by omega) rfl) rfl ?_
                  refine JO.reslot 86 (.slice (some ⟨B[i].b, 0, none⟩) L.length L.length) (by rw [hBin]) ?_
                  repeat (first|refine We rfl ?_|refine Wf (by exact Va) rfl ?_)
                  refine Wf (OpV.indexBuf (k := j) hjl) rfl ?_
                  refine We rfl ?_
                  refine JR.rowSet (k := i) (j := j) hBi hKi hji rfl (by omega) rfl ?_
                  repeat (first|refine Wa ?_|refine Wc ?_|refine Wd ?_|refine We rfl ?_|refine Wf (by first|exact Va|exact Vb|exact Vk (by omega)) rfl ?_|refine Wr ?_)
                  refine ⟨j + 1, K3.set i (K3[i].set j true), true, ⟨by omega, hsq3.set hKi, fun x z hg => ?_, fun _ => Nat.lt_of_lt_of_le (cnt_set hKi hji hgij) hle, fun h => by cases h⟩, by omega, inferInstance⟩
                  rw [get_set hKi hji] at hg
                  split at hg
                  · rename_i hxz; obtain ⟨rfl, rfl⟩ := hxz; exact hkn
                  · exact hsd3 x z hg
                | false =>
                  repeat (first|refine Wa ?_|refine Wc ?_|refine Wd ?_|refine We rfl ?_|refine Wf (by first|exact Va|exact Vb|exact Vi|exact Vj|exact Vk (by omega)) rfl ?_|refine Wk ?_|refine Wl ?_|refine Wr ?_)
                  refine ⟨j + 1, K3, m3, ⟨by omega, hsq3, hsd3, hm3, fun h => ⟨(hr3 h).1, (hr3 h).2.1, (hr3 h).2.2.1, fun z hz => ?_⟩⟩, by omega, inferInstance⟩
                  by_cases hze : z = j
                  · subst hze
                    rintro (h1 | h1)
                    · exact (hnp (by omega)).elim
                    · rw [← (hr3 h).1, hgpj] at h1; cases h1
                  · exact (hr3 h).2.2.2 z (by omega)
          · obtain rfl : j = L.length := by omega
            repeat (first|refine Wa ?_|refine Wc ?_|refine Wd ?_|refine We rfl ?_|refine Wf (by first|exact Va|exact Vb|exact Vk (by omega)) rfl ?_|refine Wm ?_|refine Wo ?_|refine Wp ?_|refine Wr ?_)
            refine ⟨y + 1, K3, m3, ⟨by omega, hsq3, hsd3, hm3, fun h => ⟨(hr3 h).1, (hr3 h).2.1, fun q hq => ?_⟩⟩, by omega, inferInstance⟩
            rcases (mem_take_succ hly).1 hq with hq | rfl
            · exact (hr3 h).2.2.1 q hq
            · intro p' hp' z hz
              rw [hat] at hp'
              injection hp' with hp'
              subst hp'
              exact (hr3 h).2.2.2 z hz
      · have hye : y = (L[i]).parents.length := by omega
        repeat (first|refine Wa ?_|refine Wc ?_|refine Wd ?_|refine We rfl ?_|refine Wf (by first|exact Va|exact Vb|exact Vk (by omega)) rfl ?_|refine Wm ?_|refine Wo ?_|refine Wp ?_|refine Wr ?_)
        refine ⟨i + 1, K2, m2, ⟨by omega, hsq2, hsd2, hm2, fun h => ⟨(hr2 h).1, fun x hx hxi => ?_⟩⟩, by omega, inferInstance⟩
        by_cases hxe : x = i
        · subst hxe
          have := (hr2 h).2.2
          rwa [hye, List.take_length] at this
        · exact (hr2 h).2.1 x hx (by omega)
    · obtain rfl : i = L.length := by omega
      repeat (first|refine Wa ?_|refine Wm ?_|refine Wo ?_|refine Wp ?_|refine Wr ?_)
      refine ⟨K1, m1, ⟨hsq1, hsd1, fun h x hx => ?_⟩, ?_, inferInstance⟩
      · have := (hr1 h).2 x hx hx
        rw [(hr1 h).1]; exact this
      · cases m1 with
        | true => have := hm1 rfl; simp; omega
        | false => rw [(hr1 rfl).1]; simp
end Ab
end Go.Proofs.YtglclakhjmogiaaGreat

/- Contract of the document's layer 11: one. -/
namespace Go.Proofs.YtglclakhjmogiaaGreat
namespace Ab
open Go Go.RowKit
set_option linter.unusedVariables false
set_option linter.unusedSimpArgs false
set_option synthInstance.maxSize 4000
set_option synthInstance.maxHeartbeats 400000
attribute [local irreducible] JC JO JR JQ andThen inBlock OpV Gives retTo JM JS

attribute [local irreducible] hashC
section
variable {P : Program} {n : Nat} {w0 : World} {F : Nat → Prop} {ops : Array Oper} {i d : Nat} {t : TypeId} {pos : String} {aft : Array Edge} {g : Option (Nat × Bool)} {os : List Oper} {Q : Cont} {e : E} {Γ : List Fact} [Dr]
theorem JR.indexRow {x ix : Operand} {v : Value} {L : List (List Bool)} {kk : IntKind} {j : Int} {k : Nat} {ty el : TypeId} {sz by_ eb : Nat} {z ez : Value} {ed : TypeDesc}
    [hx : Ev e x v] [hL : HasSl Γ v (List Bool) inferInstance L] [hi : Ev e ix (.int kk j)] [hk : NatI j k] [hT : Ty P ty (.slice el) sz by_ z] [hE : Ty P el ed 1 eb ez] (hd : Nat.blt d n = true) (h : k < L.length)
    (K : ∀ b o p q, JO P n w0 F ops (i + 1) os Q ((d, .pointer (some ⟨b, o, none⟩)) :: e) (.st (ro b o [.slice p (L[k]'h).length q]) :: .st (sl p q (L[k]'h)) :: Γ)) :
    JR P n w0 F ops i ⟨some d, .indexAddr ty x ix, t, pos, aft, g⟩ os Q e Γ := JR.index hd rfl h fun b o (y : Option Addr × Nat) => K b o y.1 y.2
theorem JC.openRow {c : Code} (v : Value) {L : List (List Bool)} (k : Nat) [hL : HasSl Γ v (List Bool) inferInstance L] (h : k < L.length)
    (K : ∀ b o p q, JC P n w0 F c Q e (.st (elA v k 1 b o) :: .st (ro b o [.slice p (L[k]'h).length q]) :: .st (sl p q (L[k]'h)) :: Γ)) : JC P n w0 F c Q e Γ :=
  JC.open_ k hL h fun b o (y : Option Addr × Nat) => K b o y.1 y.2
end
theorem genAt_at {L : List Commit} {p : ID} {x : Nat} (h : (cids L).findIdx? (fun y => decide (y = p)) = some x) (hx : x < L.length) : genAt L p = L[x].gen := by
  obtain ⟨h1, h2, h3⟩ := List.findIdx?_eq_some_iff_getElem.1 h
  rw [cids_get] at h2
  have hf : L.find? (fun c => decide (idC c = p)) = some L[x] := by
    rw [List.find?_eq_some_iff_getElem]
    refine ⟨h2, x, hx, rfl, fun j hj => ?_⟩
    have := h3 j hj
    rw [cids_get] at this
    simpa using this
  unfold genAt
  rw [hf]
abbrev IsOne (L : List Commit) (i : Nat) := { b : Bool // b = true ↔ oneI L i }
theorem not_one_of {L : List Commit} {i : Nat} (hi : i < L.length) {p : ID} (hp : p ∈ L[i].parents) (h : p ∉ cids L) : false = true ↔ oneI L i :=
  ⟨fun h => (Bool.noConfusion h), fun ⟨_, h1, _⟩ => (h (h1 p hp)).elim⟩
theorem not_one_pair {L : List Commit} {i x y : Nat} (h1 : istep L i x) (h2 : istep L i y) (h : knowsI L x y) : false = true ↔ oneI L i :=
  ⟨fun h => (Bool.noConfusion h), fun ⟨_, _, h3, _⟩ => (h3 x y h1 h2 h).elim⟩
set_option maxHeartbeats 4000000 in
theorem one_ref (w : World) (F : Nat → Prop) (a d e : Option Addr) (k m n : Nat) (L : List Commit) (K : List (List Bool)) (i : Nat) (hi : i < L.length) (h : (sl a k L).holds F w) (h' : (sl d m (cids L)).holds F w) (h2 : (sl e n K).holds F w) (hK : KnowsR L K)
    (hl : L.length ≤ 1000) (hp : (L[i]).parents.length ≤ 1000) (hg : ∀ c ∈ L, 1 ≤ c.gen ∧ c.gen ≤ 1048576) :
    Gives Tryz.prog 98 [.slice a L.length k, .slice d (cids L).length m, .slice e K.length n, .int .i64 (i : Int)] w F (fun y : IsOne L i => .bool y.1) (fun _ => []) := by
  refine gives_of Tryz.func98 rfl Tryz.ntmps98 rfl rfl [.st (sl a k L), .st (sl d m (cids L)), .st (sl e n K)] (.start3 h h' h2) ?_
  repeat (first|refine Wa ?_|refine Wb ?_|refine Wc ?_|refine Wd ?_|refine We rfl ?_|refine Wf (by first|exact Va|exact Vb) rfl ?_)
  refine JR.indexCommit rfl hi ?_
  intro b1 o1 p1 q1
  repeat (first|refine Wa ?_|refine Wb ?_|refine Wc ?_|refine Wd ?_|refine We rfl ?_|refine Wf (by first|exact Vb|exact Vc) rfl ?_|(refine Wg rfl ?_; intro _)|refine Wi ?_|refine Wn ?_)
  rename_i bc
  refine JC.loop2 (fun (y : Nat) (g : Int) => [(0, .slice a L.length k), (1, .slice d (cids L).length m), (2, .slice e K.length n), (10, .pointer (some ⟨bc, 0, none⟩)), (9, .int .i64 g), (11, .int .i64 (y : Int))]) (fun y g => [.own bc 34 [.int .i64 (L[i]).ev.node, .int .i64 (L[i]).ev.seq, .int .i64 (L[i]).gen, .slice p1 (L[i]).parents.length q1, .int .i64 (L[i]).op.kind, .string (L[i]).op.key, .string (L[i]).op.elem, .int .i64 (L[i]).op.n], .st (sl a k L), .st (sl d m (cids L)), .st (sl e n K), .st (sl p1 q1 (L[i]).parents)])
    (fun y g => y ≤ (L[i]).parents.length ∧ g = maxGen L ((L[i]).parents.take y) ∧ 0 ≤ g ∧ g ≤ 1048576 ∧ (∀ q ∈ (L[i]).parents.take y, q ∈ cids L) ∧
      ∀ q ∈ (L[i]).parents.take y, ∀ u, (cids L).findIdx? (fun x => decide (x = q)) = some u → ∀ q2 ∈ (L[i]).parents, ∀ v, (cids L).findIdx? (fun x => decide (x = q2)) = some v → ¬ knowsI L u v)
    (fun y _ => (L[i]).parents.length - y) 0 0 ⟨Nat.zero_le _, by simp [maxGen], by decide, by decide, by simp, by simp⟩ inferInstance ?_
  intro y g ⟨hy, hgm, hg0, hg1, hin, hpr⟩
  repeat (first|refine Wa ?_|refine Wb ?_|refine Wc ?_|refine Wd ?_|refine We rfl ?_|refine Wf (by first|exact Va|exact Vc|exact Vd|exact Vf|exact Vg) rfl ?_)
  refine JC.test (fun hlty => ?_) (fun hgey => ?_)
  · have hly : y < (L[i]).parents.length := by omega
    repeat (first|refine Wa ?_|refine Wb ?_|refine Wc ?_|refine We rfl ?_|refine Wf (by first|exact Va|exact Vc|exact Vd) rfl ?_|refine Wl ?_|refine Wn ?_)
    refine JR.indexID (L := (L[i]).parents) rfl hly ?_
    intro b2 o2
    repeat (first|refine We rfl ?_|refine Wf (by exact Vc) rfl ?_)
    refine JR.callV rfl (fun w1 hw => at_ref w1 _ d m (cids L) ((L[i]).parents[y]) hw.get) ?_
    cases hat : (cids L).findIdx? (fun u => decide (u = (L[i]).parents[y])) with
    | none =>
      refine JO.reslot 32 (.int .i64 (-1)) (by simp [atI, hat]) ?_
      repeat (first|refine Wa ?_|refine Wb ?_|refine Wc ?_|refine Wd ?_|refine We rfl ?_|refine Wf (by first|exact Va|exact Vb|exact Vg) rfl ?_|refine Wj ?_|refine Ws ?_|refine Wt ?_|refine Wu ?_)
      exact CT.done (Y := IsOne L i) ⟨false, not_one_of hi (List.getElem_mem hly) (at_none.1 hat)⟩ rfl (fun w ho => ho.ent)
    | some x =>
      have hsx : istep L i x := ⟨hi, _, List.getElem_mem hly, hat⟩
      have hxl := (istep_lt hsx).2
      have hgx := hg _ (List.getElem_mem hxl)
      have hga := genAt_at hat hxl
      refine JO.reslot 32 (.int .i64 (x : Int)) (by simp [atI, hat]) ?_
      repeat (first|refine Wa ?_|refine Wb ?_|refine Wc ?_|refine Wd ?_|refine We rfl ?_|refine Wf (by first|exact Va|exact Vb|exact Vg) rfl ?_|refine Wk ?_|refine Wl ?_)
      refine JR.indexCommit (L := L) (k := x) rfl hxl ?_
      intro b3 o3 p3 q3
      repeat (first|refine Wa ?_|refine Wd ?_|refine We rfl ?_|refine Wf (by first|exact Va|exact Vc|exact Vd|exact Vo) rfl ?_)
      refine JC.test (fun hgt => ?_) (fun hgt => ?_)
      · repeat (first|refine Wc ?_|refine We rfl ?_|refine Wf (by exact Va) rfl ?_)
        refine JR.indexCommit (L := L) (k := x) rfl hxl ?_
        intro b4 o4 p4 q4
        repeat (first|refine Wa ?_|refine Wb ?_|refine Wc ?_|refine Wd ?_|refine We rfl ?_|refine Wf (by first|exact Vb|exact Vc|exact Vd) rfl ?_|refine Wn ?_)
        obtain ⟨g2, hg2⟩ : ∃ g2, g2 = maxGen L ((L[i]).parents.take (y + 1)) ∧ g2 = L[x].gen := ⟨L[x].gen, by rw [List.take_succ_eq_append_getElem hly, maxGen_snoc, ← hgm, hga]; omega, rfl⟩
        rw [← hg2.2]
        refine JC.loop1 (fun (z : Nat) => [(0, .slice a L.length k), (1, .slice d (cids L).length m), (2, .slice e K.length n), (10, .pointer (some ⟨bc, 0, none⟩)), (9, .int .i64 g2), (11, .int .i64 (y : Int)), (12, .int .i64 (x : Int)), (13, .int .i64 (z : Int))]) (fun z => [.own bc 34 [.int .i64 (L[i]).ev.node, .int .i64 (L[i]).ev.seq, .int .i64 (L[i]).gen, .slice p1 (L[i]).parents.length q1, .int .i64 (L[i]).op.kind, .string (L[i]).op.key, .string (L[i]).op.elem, .int .i64 (L[i]).op.n], .st (sl a k L), .st (sl d m (cids L)), .st (sl e n K), .st (sl p1 q1 (L[i]).parents)])
          (fun z => z ≤ (L[i]).parents.length ∧ (∀ q ∈ (L[i]).parents.take z, ∀ v, (cids L).findIdx? (fun u => decide (u = q)) = some v → ¬ knowsI L x v)) (fun z => (L[i]).parents.length - z) 0 ⟨Nat.zero_le _, by simp⟩ inferInstance ?_
        intro z ⟨hz, hpair⟩
        repeat (first|refine Wa ?_|refine Wb ?_|refine Wc ?_|refine Wd ?_|refine We rfl ?_|refine Wf (by first|exact Va|exact Vc|exact Vd|exact Vf|exact Vg) rfl ?_)
        refine JC.test (fun hltz => ?_) (fun hgez => ?_)
        · have hlz : z < (L[i]).parents.length := by omega
          repeat (first|refine Wa ?_|refine Wb ?_|refine Wc ?_|refine We rfl ?_|refine Wf (by first|exact Va|exact Vc|exact Vd) rfl ?_|refine Wl ?_|refine Wn ?_)
          refine JR.indexID (L := (L[i]).parents) rfl hlz ?_
          intro b5 o5
          repeat (first|refine We rfl ?_|refine Wf (by exact Vc) rfl ?_)
          refine JR.callV rfl (fun w1 hw => at_ref w1 _ d m (cids L) ((L[i]).parents[z]) hw.get) ?_
          cases hatz : (cids L).findIdx? (fun u => decide (u = (L[i]).parents[z])) with
          | none =>
            refine JO.reslot 60 (.int .i64 (-1)) (by simp [atI, hatz]) ?_
            repeat (first|refine Wa ?_|refine Wb ?_|refine Wc ?_|refine Wd ?_|refine We rfl ?_|refine Wf (by first|exact Va|exact Vb|exact Vg|exact Vi) rfl ?_|refine Wj ?_|refine Ws ?_|refine Wt ?_|refine Wu ?_|refine Wv rfl rfl ?_)
            exact CT.done (Y := IsOne L i) ⟨false, not_one_of hi (List.getElem_mem hlz) (at_none.1 hatz)⟩ rfl (fun w ho => ho.ent)
          | some v =>
            have hsv : istep L i v := ⟨hi, _, List.getElem_mem hlz, hatz⟩
            have hvl := (istep_lt hsv).2
            have hKx : x < K.length := by rw [hK.square.1]; exact hxl
            have hKxl : K[x].length = L.length := hK.square.2 x hKx
            refine JO.reslot 60 (.int .i64 (v : Int)) (by simp [atI, hatz]) ?_
            repeat (first|refine Wa ?_|refine Wb ?_|refine Wc ?_|refine Wd ?_|refine We rfl ?_|refine Wf (by first|exact Va|exact Vb|exact Vg) rfl ?_)
            refine JR.indexRow (L := K) (k := x) rfl hKx ?_
            intro b6 o6 p6 q6
            repeat (first|refine We rfl ?_|refine Wf (by first|exact Va|exact Vc) rfl ?_)
            refine JR.indexBool (L := K[x]) (k := v) rfl (by omega) ?_
            intro b7 o7
            repeat (first|refine Wa ?_|refine Wd ?_|refine We rfl ?_|refine Wf (by first|exact Vc|exact Vj) rfl ?_)
            refine JC.test (fun hkv => ?_) (fun hkv => ?_)
            · have hk2 : knowsI L x v := (hK.iff x v).1 (by rw [get_eq hKx (by omega)]; exact hkv)
              repeat (first|refine Wa ?_|refine Wb ?_|refine Wc ?_|refine Wd ?_|refine We rfl ?_|refine Wf (by exact Vb) rfl ?_|refine Ws ?_|refine Wt ?_|refine Wu ?_)
              exact CT.done (Y := IsOne L i) ⟨false, not_one_pair hsx hsv hk2⟩ rfl (fun w ho => ho.ent)
            · have hk2 : ¬ knowsI L x v := fun hk => by
                have := (hK.iff x v).2 hk
                rw [get_eq hKx (by omega)] at this
                exact hkv this
              repeat (first|refine Wa ?_|refine Wc ?_|refine Wd ?_|refine We rfl ?_|refine Wf (by first|exact Va|exact Vb|exact Vk (by omega)) rfl ?_|refine Wl ?_|refine Wr ?_)
              refine ⟨z + 1, ⟨by omega, fun q hq v' hv' => ?_⟩, by omega, inferInstance⟩
              rcases (mem_take_succ hlz).1 hq with hq | rfl
              · exact hpair q hq v' hv'
              · rw [hatz] at hv'
                injection hv' with hv'
                subst hv'; exact hk2
        · have hze : z = (L[i]).parents.length := by omega
          rw [hze, List.take_length] at hpair
          repeat (first|refine Wa ?_|refine Wc ?_|refine Wd ?_|refine We rfl ?_|refine Wf (by first|exact Va|exact Vb|exact Vk (by omega)) rfl ?_|refine Wm ?_|refine Wo ?_|refine Wp ?_|refine Wr ?_)
          refine ⟨y + 1, g2, ⟨by omega, hg2.1, by omega, by omega, fun q hq => ?_, fun q hq u hu q2 hq2 v hv => ?_⟩, by omega, inferInstance⟩
          · rcases (mem_take_succ hly).1 hq with hq | rfl
            · exact hin q hq
            · exact Classical.byContradiction fun hn => by rw [at_none.2 hn] at hat; cases hat
          · rcases (mem_take_succ hly).1 hq with hq | rfl
            · exact hpr q hq u hu q2 hq2 v hv
            · rw [hat] at hu
              injection hu with hu
              subst hu
              exact hpair q2 hq2 v hv
      · repeat (first|refine Wa ?_|refine Wb ?_|refine Wc ?_|refine Wd ?_|refine We rfl ?_|refine Wf (by exact Vb) rfl ?_|refine Wl ?_|refine Wn ?_)
        obtain ⟨g2, hg2⟩ : ∃ g2, g2 = maxGen L ((L[i]).parents.take (y + 1)) ∧ g2 = g := ⟨g, by rw [List.take_succ_eq_append_getElem hly, maxGen_snoc, ← hgm, hga]; omega, rfl⟩
        rw [← hg2.2]
        refine JC.loop1 (fun (z : Nat) => [(0, .slice a L.length k), (1, .slice d (cids L).length m), (2, .slice e K.length n), (10, .pointer (some ⟨bc, 0, none⟩)), (9, .int .i64 g2), (11, .int .i64 (y : Int)), (12, .int .i64 (x : Int)), (13, .int .i64 (z : Int))]) (fun z => [.own bc 34 [.int .i64 (L[i]).ev.node, .int .i64 (L[i]).ev.seq, .int .i64 (L[i]).gen, .slice p1 (L[i]).parents.length q1, .int .i64 (L[i]).op.kind, .string (L[i]).op.key, .string (L[i]).op.elem, .int .i64 (L[i]).op.n], .st (sl a k L), .st (sl d m (cids L)), .st (sl e n K), .st (sl p1 q1 (L[i]).parents)])
          (fun z => z ≤ (L[i]).parents.length ∧ (∀ q ∈ (L[i]).parents.take z, ∀ v, (cids L).findIdx? (fun u => decide (u = q)) = some v → ¬ knowsI L x v)) (fun z => (L[i]).parents.length - z) 0 ⟨Nat.zero_le _, by simp⟩ inferInstance ?_
        intro z ⟨hz, hpair⟩
        repeat (first|refine Wa ?_|refine Wb ?_|refine Wc ?_|refine Wd ?_|refine We rfl ?_|refine Wf (by first|exact Va|exact Vc|exact Vd|exact Vf|exact Vg) rfl ?_)
        refine JC.test (fun hltz => ?_) (fun hgez => ?_)
        · have hlz : z < (L[i]).parents.length := by omega
          repeat (first|refine Wa ?_|refine Wb ?_|refine Wc ?_|refine We rfl ?_|refine Wf (by first|exact Va|exact Vc|exact Vd) rfl ?_|refine Wl ?_|refine Wn ?_)
          refine JR.indexID (L := (L[i]).parents) rfl hlz ?_
          intro b5 o5
          repeat (first|refine We rfl ?_|refine Wf (by exact Vc) rfl ?_)
          refine JR.callV rfl (fun w1 hw => at_ref w1 _ d m (cids L) ((L[i]).parents[z]) hw.get) ?_
          cases hatz : (cids L).findIdx? (fun u => decide (u = (L[i]).parents[z])) with
          | none =>
            refine JO.reslot 60 (.int .i64 (-1)) (by simp [atI, hatz]) ?_
            repeat (first|refine Wa ?_|refine Wb ?_|refine Wc ?_|refine Wd ?_|refine We rfl ?_|refine Wf (by first|exact Va|exact Vb|exact Vg|exact Vi) rfl ?_|refine Wj ?_|refine Ws ?_|refine Wt ?_|refine Wu ?_|refine Wv rfl rfl ?_)
            exact CT.done (Y := IsOne L i) ⟨false, not_one_of hi (List.getElem_mem hlz) (at_none.1 hatz)⟩ rfl (fun w ho => ho.ent)
          | some v =>
            have hsv : istep L i v := ⟨hi, _, List.getElem_mem hlz, hatz⟩
            have hvl := (istep_lt hsv).2
            have hKx : x < K.length := by rw [hK.square.1]; exact hxl
            have hKxl : K[x].length = L.length := hK.square.2 x hKx
            refine JO.reslot 60 (.int .i64 (v : Int)) (by simp [atI, hatz]) ?_
            repeat (first|refine Wa ?_|refine Wb ?_|refine Wc ?_|refine Wd ?_|refine We rfl ?_|refine Wf (by first|exact Va|exact Vb|exact Vg) rfl ?_)
            refine JR.indexRow (L := K) (k := x) rfl hKx ?_
            intro b6 o6 p6 q6
            repeat (first|refine We rfl ?_|refine Wf (by first|exact Va|exact Vc) rfl ?_)
            refine JR.indexBool (L := K[x]) (k := v) rfl (by omega) ?_
            intro b7 o7
            repeat (first|refine Wa ?_|refine Wd ?_|refine We rfl ?_|refine Wf (by first|exact Vc|exact Vj) rfl ?_)
            refine JC.test (fun hkv => ?_) (fun hkv => ?_)
            · have hk2 : knowsI L x v := (hK.iff x v).1 (by rw [get_eq hKx (by omega)]; exact hkv)
              repeat (first|refine Wa ?_|refine Wb ?_|refine Wc ?_|refine Wd ?_|refine We rfl ?_|refine Wf (by exact Vb) rfl ?_|refine Ws ?_|refine Wt ?_|refine Wu ?_)
              exact CT.done (Y := IsOne L i) ⟨false, not_one_pair hsx hsv hk2⟩ rfl (fun w ho => ho.ent)
            · have hk2 : ¬ knowsI L x v := fun hk => by
                have := (hK.iff x v).2 hk
                rw [get_eq hKx (by omega)] at this
                exact hkv this
              repeat (first|refine Wa ?_|refine Wc ?_|refine Wd ?_|refine We rfl ?_|refine Wf (by first|exact Va|exact Vb|exact Vk (by omega)) rfl ?_|refine Wl ?_|refine Wr ?_)
              refine ⟨z + 1, ⟨by omega, fun q hq v' hv' => ?_⟩, by omega, inferInstance⟩
              rcases (mem_take_succ hlz).1 hq with hq | rfl
              · exact hpair q hq v' hv'
              · rw [hatz] at hv'
                injection hv' with hv'
                subst hv'; exact hk2
        · have hze : z = (L[i]).parents.length := by omega
          rw [hze, List.take_length] at hpair
          repeat (first|refine Wa ?_|refine Wc ?_|refine Wd ?_|refine We rfl ?_|refine Wf (by first|exact Va|exact Vb|exact Vk (by omega)) rfl ?_|refine Wm ?_|refine Wo ?_|refine Wp ?_|refine Wr ?_)
          refine ⟨y + 1, g2, ⟨by omega, hg2.1, by omega, by omega, fun q hq => ?_, fun q hq u hu q2 hq2 v hv => ?_⟩, by omega, inferInstance⟩
          · rcases (mem_take_succ hly).1 hq with hq | rfl
            · exact hin q hq
            · exact Classical.byContradiction fun hn => by rw [at_none.2 hn] at hat; cases hat
          · rcases (mem_take_succ hly).1 hq with hq | rfl
            · exact hpr q hq u hu q2 hq2 v hv
            · rw [hat] at hu
              injection hu with hu
              subst hu
              exact hpair q2 hq2 v hv
  · have hye : y = (L[i]).parents.length := by omega
    rw [hye, List.take_length] at hgm hin hpr
    repeat (first|refine Wa ?_|refine Wb ?_|refine Wc ?_|refine Wd ?_|refine We rfl ?_|refine Wf (by first|exact Va|exact Vb|exact Vc|exact Vd|exact Vl|exact Vt (by omega)) rfl ?_|refine Wm ?_|refine Wo ?_|refine Wp ?_|refine Ws ?_)
    refine CT.done (Y := IsOne L i) ⟨decide ((L[i]).gen = g + 1), ?_⟩ rfl (fun w ho => ho.ent)
    rw [decide_eq_true_eq]
    constructor
    · intro hge
      refine ⟨hi, hin, ?_, by rw [hge, hgm]⟩
      rintro u v ⟨_, q, hq, hu⟩ ⟨_, q2, hq2, hv⟩
      exact hpr q hq u hu q2 hq2 v hv
    · rintro ⟨_, _, _, hge⟩
      rw [hge, hgm]
end Ab
end Go.Proofs.YtglclakhjmogiaaGreat

/- Contract of the document's layer 11: Closed. -/
namespace Go.Proofs.YtglclakhjmogiaaGreat
namespace Ab
open Go Go.RowKit
set_option linter.unusedVariables false
set_option linter.unusedSimpArgs false
set_option synthInstance.maxSize 4000
set_option synthInstance.maxHeartbeats 400000
attribute [local irreducible] JC JO JR JQ andThen inBlock OpV Gives retTo JM JS

attribute [local irreducible] hashC
structure GoodI (L : List Commit) (i : Nat) : Prop where
  lt : i < L.length
  merge : merge L[i] = false
  one : oneI L i
  at_ : (cids L).findIdx? (fun x => decide (x = idC L[i])) = some i
  ev : ∀ j, j < i → evI L i j
theorem closed_good (L : List Commit) (hm : ∀ c ∈ L, may c = true) : Closed L ↔ ∀ i, i < L.length → GoodI L i := by
  rw [closed_iff_I]
  constructor
  · rintro ⟨_, h⟩ i hi
    obtain ⟨h1, h2, h3, h4⟩ := h i hi
    exact ⟨hi, h1, h2, h3, h4⟩
  · intro h
    refine ⟨hm, fun i hi => ?_⟩
    have := h i hi
    exact ⟨this.merge, this.one, this.at_, this.ev⟩
theorem not_closed {L : List Commit} (hm : ∀ c ∈ L, may c = true) {i : Nat} (hi : i < L.length) (h : ¬ GoodI L i) : false = true ↔ Closed L :=
  ⟨fun h => (Bool.noConfusion h), fun hc => (h ((closed_good L hm).1 hc i hi)).elim⟩
set_option maxHeartbeats 4000000 in
theorem closed_ref (w : World) (F : Nat → Prop) (a : Option Addr) (k : Nat) (L : List Commit) (h : (sl a k L).holds F w) (hl : L.length ≤ 1000) (hf : ∀ x ∈ L, fine x) (hq : ∀ x ∈ L, x.parents.length ≤ 1000) :
    Gives Tryz.prog 54 [.slice a L.length k] w F (fun y : IsClosed L => .bool y.1) (fun _ => []) := by
  refine gives_of Tryz.func54 rfl Tryz.ntmps54 rfl rfl [.st (sl a k L)] (.start1 h) ?_
  repeat (first|refine Wa ?_|refine Wb ?_|refine Wc ?_|refine Wd ?_|refine We rfl ?_|refine Wf (by first|exact Va|exact Vb) rfl ?_)
  refine JR.callSl rfl (fun w1 hw => ids_ref w1 _ a k L hw.get (by omega) hf) ?_
  intro d m
  repeat (first|refine Wa ?_|refine Wb ?_|refine Wc ?_|refine Wd ?_|refine We rfl ?_|refine Wf (by first|exact Va|exact Vb|exact Vf|exact Vm) rfl ?_)
  refine JC.test (fun hne => ?_) (fun heq => ?_)
  · have hno : ¬ Closed L := fun hc => hne (by rw [idsP_all hc.may]; simp [cids])
    repeat (first|refine Wa ?_|refine Wb ?_|refine Wc ?_|refine Wd ?_|refine We rfl ?_|refine Wf (by exact Vb) rfl ?_|refine Ws ?_|refine Wt ?_)
    exact CT.done (Y := IsClosed L) ⟨false, ⟨fun h => (Bool.noConfusion h), fun hc => (hno hc).elim⟩⟩ rfl (fun w ho => ho.ent)
  have hmay : ∀ c ∈ L, may c = true := by
    intro c hc
    rw [← Bool.not_eq_false]
    intro hn
    have h1 : (idsP L).length = L.length := by omega
    rw [idsP_not hc hn, List.length_nil] at h1
    have := List.length_pos_of_mem hc
    omega
  have hids := idsP_all hmay
  have hcl := cids_length L
  have hgen : ∀ c ∈ L, 1 ≤ c.gen ∧ c.gen ≤ 1048576 := fun c hc => may_gen (hmay c hc)
  rw [hids]
  repeat (first|refine Wa ?_|refine Wb ?_|refine Wc ?_|refine We rfl ?_|refine Wf (by exact Va) rfl ?_|refine Wl ?_)
  refine JR.call1 (v := fun y : KnowsY L => .slice y.1.2.1 y.1.1.length y.1.2.2) (B := fun y => .st (sl y.1.2.1 y.1.2.2 y.1.1)) rfl (fun w1 hw => knows_ref w1 _ a d k m L hw.get hw.get hl hq) ?_
  rintro ⟨⟨K, e, n⟩, hK⟩
  dsimp only at hK ⊢
  repeat (first|refine Wa ?_|refine Wb ?_|refine Wc ?_|refine Wd ?_|refine We rfl ?_|refine Wf (by exact Vb) rfl ?_|refine Wn ?_)
  refine JC.loop1 (fun (i : Nat) => [(0, .slice a L.length k), (3, .slice d (cids L).length m), (4, .slice e K.length n), (5, .int .i64 (i : Int))]) (fun i => [.st (sl a k L), .st (sl d m (cids L)), .st (sl e n K)]) (fun i => i ≤ L.length ∧ ∀ x, x < i → GoodI L x) (fun i => L.length - i) 0 ⟨Nat.zero_le _, fun x hx => by omega⟩ inferInstance ?_
  intro i ⟨hil, hgood⟩
  repeat (first|refine Wa ?_|refine Wb ?_|refine Wc ?_|refine Wd ?_|refine We rfl ?_|refine Wf (by first|exact Va|exact Vf|exact Vg) rfl ?_)
  refine JC.test (fun hlt => ?_) (fun hge => ?_)
  · have hi : i < L.length := by omega
    have him := List.getElem_mem hi
    have hfx := hf _ him
    have hxe : (cids L)[i]'(by omega) = idC L[i] := cids_get L i (by omega)
    have hKi : i < K.length := by rw [hK.square.1]; exact hi
    have hKil : K[i].length = L.length := hK.square.2 i hKi
    repeat (first|refine Wa ?_|refine Wb ?_|refine Wc ?_|refine We rfl ?_|refine Wf (by exact Va) rfl ?_|refine Wl ?_|refine Wn ?_)
    refine JR.indexCommit rfl hi ?_
    intro b1 o1 p1 q1
    repeat (first|refine We rfl ?_|refine Wf (by exact Vc) rfl ?_)
    refine JR.callV rfl (fun w1 hw => mergecom_ref w1 _ (L[i]) p1 q1 hw.get hfx.1) ?_
    repeat (first|refine Wa ?_|refine Wb ?_|refine Wc ?_|refine Wd ?_|refine We rfl ?_|refine Wf (by first|exact Va|exact Vb) rfl ?_)
    refine JR.call (v := fun y : IsOne L i => .bool y.1) (B := fun _ => []) rfl (fun w1 hw => one_ref w1 _ a d e k m n L K i hi hw.get hw.get hw.get hK hl (hq _ him) hgen) ?_
    rintro ⟨b, hb⟩
    simp only [List.nil_append]
    repeat (first|refine Wa ?_|refine Wb ?_|refine Wc ?_|refine Wd ?_|refine We rfl ?_|refine Wf (by first|exact Va|exact Vb) rfl ?_)
    cases hmer : merge L[i] with
    | true =>
      have hbad : ¬ GoodI L i := fun h => by have := h.merge; rw [hmer] at this; cases this
      repeat (first|refine Wa ?_|refine Wb ?_|refine Wc ?_|refine Wd ?_|refine We rfl ?_|refine Wf (by first|exact Va|exact Vb|exact Vi) rfl ?_|refine Wj ?_|refine Ws ?_|refine Wt ?_|refine Wu ?_|refine Wv rfl rfl ?_)
      exact CT.done (Y := IsClosed L) ⟨false, not_closed hmay hi hbad⟩ rfl (fun w ho => ho.ent)
    | false =>
    cases b with
    | false =>
      have hbad : ¬ GoodI L i := fun h => by have := hb.2 h.one; cases this
      repeat (first|refine Wa ?_|refine Wb ?_|refine Wc ?_|refine Wd ?_|refine We rfl ?_|refine Wf (by first|exact Va|exact Vb|exact Vh|exact Vi|exact Vj) rfl ?_|refine Wj ?_|refine Ws ?_|refine Wt ?_|refine Wu ?_|refine Wv rfl rfl ?_)
      exact CT.done (Y := IsClosed L) ⟨false, not_closed hmay hi hbad⟩ rfl (fun w ho => ho.ent)
    | true =>
    have hone := hb.1 rfl
    repeat (first|refine We rfl ?_|refine Wf (by first|exact Va|exact Vh|exact Vj) rfl ?_)
    refine JR.indexID (L := cids L) (k := i) rfl (by omega) ?_
    intro b2 o2
    rw [hxe]
    repeat (first|refine We rfl ?_|refine Wf (by exact Vc) rfl ?_)
    refine JR.callV rfl (fun w1 hw => at_ref w1 _ d m (cids L) (idC L[i]) hw.get) ?_
    repeat (first|refine Wa ?_|refine Wd ?_|refine We rfl ?_|refine Wf (by first|exact Va|exact Vj|exact Vm) rfl ?_)
    refine JC.test (fun hat => ?_) (fun hat => ?_)
    · have hbad : ¬ GoodI L i := fun h => hat (by rw [atI_some h.at_])
      repeat (first|refine Wa ?_|refine Wb ?_|refine Wc ?_|refine Wd ?_|refine We rfl ?_|refine Wf (by exact Vb) rfl ?_|refine Ws ?_|refine Wt ?_|refine Wu ?_)
      exact CT.done (Y := IsClosed L) ⟨false, not_closed hmay hi hbad⟩ rfl (fun w ho => ho.ent)
    have hati : (cids L).findIdx? (fun x => decide (x = idC L[i])) = some i := by
      cases hfi : (cids L).findIdx? (fun x => decide (x = idC L[i])) with
      | none =>
        rw [show atI (cids L) (idC L[i]) = -1 by simp [atI, hfi]] at hat
        omega
      | some x =>
        rw [atI_some hfi] at hat
        exact congrArg some (by omega)
    repeat (first|refine Wa ?_|refine Wb ?_|refine Wc ?_|refine Wd ?_|refine We rfl ?_|refine Wf (by exact Vb) rfl ?_|refine Wl ?_|refine Wn ?_)
    refine JC.loop1 (fun (j : Nat) => [(0, .slice a L.length k), (3, .slice d (cids L).length m), (4, .slice e K.length n), (5, .int .i64 (i : Int)), (8, .int .i64 (j : Int))]) (fun j => [.st (sl a k L), .st (sl d m (cids L)), .st (sl e n K)]) (fun j => j ≤ i ∧ ∀ x, x < j → evI L i x) (fun j => i - j) 0 ⟨Nat.zero_le _, fun x hx => by omega⟩ inferInstance ?_
    intro j ⟨hji, hev⟩
    repeat (first|refine Wa ?_|refine Wb ?_|refine Wc ?_|refine Wd ?_|refine We rfl ?_|refine Wf (by first|exact Va|exact Vg) rfl ?_)
    refine JC.test (fun hltj => ?_) (fun hgej => ?_)
    · have hj : j < L.length := by omega
      have hKj : j < K.length := by rw [hK.square.1]; exact hj
      have hKjl : K[j].length = L.length := hK.square.2 j hKj
      have hnext : evI L i j → ∀ x, x < j + 1 → evI L i x := fun h x hx => by
        by_cases hxe : x = j
        · subst hxe; exact h
        · exact hev x (by omega)
      repeat (first|refine Wa ?_|refine Wb ?_|refine Wl ?_|refine Wn ?_)
      refine JC.openCommit (L := L) (.slice a L.length k) i hi ?_
      intro b3 o3 p3 q3
      refine JC.openCommit (L := L) (.slice a L.length k) j hj ?_
      intro b4 o4 p4 q4
      refine JC.quiet mixed (by kernel_rfl) ?_
      repeat (first|refine Wy rfl (by first|exact Va|exact Vc|exact Vd|exact Ve|exact Vm) rfl ?_|refine WB ?_)
      repeat (refine Wa ?_)
      refine JC.test (fun hnd => ?_) (fun hnd => ?_)
      · repeat (first|refine Wa ?_|refine Wc ?_|refine Wd ?_|refine We rfl ?_|refine Wf (by first|exact Va|exact Vb|exact Vk (by omega)) rfl ?_|refine Wm ?_|refine Wo ?_|refine Wp ?_)
        exact ⟨j + 1, ⟨by omega, hnext ⟨hi, hj, fun h => (hnd h).elim⟩⟩, by omega, inferInstance⟩
      have hnd' : (L[i]).ev.node = (L[j]).ev.node := by simpa using hnd
      repeat (first|refine Wa ?_|refine Wb ?_|refine Wl ?_)
      refine JC.openRow (L := K) (.slice e K.length n) i hKi ?_
      intro b5 o5 p5 q5
      refine JC.openBool (L := K[i]) (.slice p5 K[i].length q5) j (by omega) ?_
      intro b6 o6
      refine JC.openRow (L := K) (.slice e K.length n) j hKj ?_
      intro b7 o7 p7 q7
      refine JC.openBool (L := K[j]) (.slice p7 K[j].length q7) i (by omega) ?_
      intro b8 o8
      refine JC.quiet mixed (by kernel_rfl) ?_
      repeat (refine Wy rfl (by first|exact Va|exact Vc|exact Vd|exact Ve|exact Vl) rfl ?_)
      by_cases hsq : (L[i]).ev.seq = (L[j]).ev.seq
      · have hbad : ¬ GoodI L i := fun h => by
          obtain ⟨_, _, h1⟩ := h.ev j (by omega)
          exact (h1 hnd').1 hsq
        refine JQ.reslot 81 (.bool true) (congrArg Value.bool (decide_eq_true hsq)) ?_
        repeat (first|refine Wy rfl (by first|exact Va|exact Vi) rfl ?_|refine Wz rfl rfl ?_|refine WA rfl rfl ?_|refine WB ?_)
        repeat (first|refine Wa ?_|refine Wb ?_|refine Wc ?_|refine Wd ?_|refine We rfl ?_|refine Wf (by exact Vb) rfl ?_|refine Wj ?_|refine Ws ?_|refine Wt ?_|refine Wu ?_)
        exact CT.done (Y := IsClosed L) ⟨false, not_closed hmay hi hbad⟩ rfl (fun w ho => ho.ent)
      refine JQ.reslot 81 (.bool false) (congrArg Value.bool (decide_eq_false hsq)) ?_
      repeat (refine Wy rfl (by first|exact Va|exact Vc|exact Vd|exact Ve|exact Vo) rfl ?_)
      by_cases hgt : (L[j]).ev.seq < (L[i]).ev.seq
      · refine JQ.reslot 95 (.bool true) (congrArg Value.bool (decide_eq_true hgt)) ?_
        repeat (refine Wy rfl (by first|exact Va|exact Vc|exact Ve|exact Vh|exact Vi|exact Vj) rfl ?_)
        cases hkk : K[i][j]'(by omega) with
        | false =>
          have hbad : ¬ GoodI L i := fun h => by
            obtain ⟨_, _, h1⟩ := h.ev j (by omega)
            have := (hK.iff i j).2 ((h1 hnd').2.1 hgt)
            rw [get_eq hKi (by omega), hkk] at this
            cases this
          repeat (first|refine Wy rfl (by first|exact Va|exact Vi) rfl ?_|refine Wz rfl rfl ?_|refine WA rfl rfl ?_|refine WB ?_)
          repeat (first|refine Wa ?_|refine Wb ?_|refine Wc ?_|refine Wd ?_|refine We rfl ?_|refine Wf (by exact Vb) rfl ?_|refine Wj ?_|refine Ws ?_|refine Wt ?_|refine Wu ?_)
          exact CT.done (Y := IsClosed L) ⟨false, not_closed hmay hi hbad⟩ rfl (fun w ho => ho.ent)
        | true =>
          have hk2 : knowsI L i j := (hK.iff i j).1 (by rw [get_eq hKi (by omega)]; exact hkk)
          repeat (refine Wy rfl (by first|exact Va|exact Vc|exact Vd|exact Ve|exact Vg) rfl ?_)
          refine JQ.reslot 120 (.bool false) (congrArg Value.bool (decide_eq_false (by omega))) ?_
          repeat (first|refine Wy rfl (by first|exact Va|exact Vj) rfl ?_|refine Wz rfl rfl ?_|refine WB ?_)
          repeat (first|refine Wa ?_|refine Wc ?_|refine Wd ?_|refine We rfl ?_|refine Wf (by first|exact Va|exact Vb|exact Vk (by omega)) rfl ?_|refine Wk ?_|refine Wl ?_|refine Wr ?_)
          exact ⟨j + 1, ⟨by omega, hnext ⟨hi, hj, fun _ => ⟨hsq, fun _ => hk2, fun h => by omega⟩⟩⟩, by omega, inferInstance⟩
      · refine JQ.reslot 95 (.bool false) (congrArg Value.bool (decide_eq_false hgt)) ?_
        repeat (first|refine Wy rfl (by first|exact Va|exact Vc|exact Vd|exact Ve|exact Vg|exact Vj) rfl ?_|refine Wz rfl rfl ?_)
        have hlt2 : (L[i]).ev.seq < (L[j]).ev.seq := by omega
        refine JQ.reslot 120 (.bool true) (congrArg Value.bool (decide_eq_true hlt2)) ?_
        repeat (first|refine Wy rfl (by first|exact Va|exact Vc|exact Ve|exact Vh|exact Vi|exact Vj) rfl ?_|refine WB ?_)
        cases hkk : K[j][i]'(by omega) with
        | false =>
          have hbad : ¬ GoodI L i := fun h => by
            obtain ⟨_, _, h1⟩ := h.ev j (by omega)
            have := (hK.iff j i).2 ((h1 hnd').2.2 hlt2)
            rw [get_eq hKj (by omega), hkk] at this
            cases this
          skip
          repeat (first|refine Wa ?_|refine Wb ?_|refine Wc ?_|refine Wd ?_|refine We rfl ?_|refine Wf (by exact Vb) rfl ?_|refine Wj ?_|refine Ws ?_|refine Wt ?_|refine Wu ?_)
          exact CT.done (Y := IsClosed L) ⟨false, not_closed hmay hi hbad⟩ rfl (fun w ho => ho.ent)
        | true =>
          have hk2 : knowsI L j i := (hK.iff j i).1 (by rw [get_eq hKj (by omega)]; exact hkk)
          skip
          repeat (first|refine Wa ?_|refine Wc ?_|refine Wd ?_|refine We rfl ?_|refine Wf (by first|exact Va|exact Vb|exact Vk (by omega)) rfl ?_|refine Wk ?_|refine Wl ?_|refine Wr ?_)
          exact ⟨j + 1, ⟨by omega, hnext ⟨hi, hj, fun _ => ⟨hsq, fun h => by omega, fun _ => hk2⟩⟩⟩, by omega, inferInstance⟩
    · have hje : j = i := by omega
      subst hje
      repeat (first|refine Wa ?_|refine Wc ?_|refine Wd ?_|refine We rfl ?_|refine Wf (by first|exact Va|exact Vb|exact Vk (by omega)) rfl ?_|refine Wm ?_|refine Wo ?_|refine Wp ?_|refine Wr ?_)
      refine ⟨j + 1, ⟨by omega, fun x hx => ?_⟩, by omega, inferInstance⟩
      by_cases hxe2 : x = j
      · subst hxe2; exact ⟨hi, hmer, hone, hati, hev⟩
      · exact hgood x (by omega)
  · obtain rfl : i = L.length := by omega
    repeat (first|refine Wa ?_|refine Wb ?_|refine Wc ?_|refine Wd ?_|refine We rfl ?_|refine Wf (by exact Vb) rfl ?_|refine Wm ?_|refine Wo ?_|refine Wp ?_|refine Ws ?_)
    exact CT.done (Y := IsClosed L) ⟨true, ⟨fun _ => (closed_good L hmay).2 hgood, fun _ => rfl⟩⟩ rfl (fun w ho => ho.ent)
end Ab
end Go.Proofs.YtglclakhjmogiaaGreat
