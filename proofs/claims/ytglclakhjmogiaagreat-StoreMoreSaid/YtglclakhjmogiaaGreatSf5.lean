/- Lemmas for the walks, part 5 of 5: DagK, LawK, LawN, FrP, FrQ, RefA, RefB, RefC, RefD, RefE, RefF, RefG, RefH, RefI, RefJ, RefK, RefL, RefM, RfA, Mat, RfB, RfC, RfD, RfE, RfF, RfG, LawD, FrA, LoadP, Round, RoundX, LoadI, Load, Trip, StA, StB, StC, StD, LsA, Entry, Shut, LsB. -/
import Derived.Test.YtglclakhjmogiaaGreatSf4
import Derived.Test.YtglclakhjmogiaaGreatSf2
import Derived.Test.YtglclakhjmogiaaGreatSf3
import Derived.RangeFuncLeaves
import Derived.RangeFuncCalls
import Derived.RangeFuncRecord
import Derived.RangeFuncSeq
import Derived.ControlIn
import Derived.Test.YtglclakhjmogiaaGreatSf1
import Derived.RangeFuncIn
import Derived.SizedLaws
import Derived.ChangeArms
import Derived.KernelRfl
import Derived.OpenShut
import Derived.Test.YtglclakhjmogiaaGreatRows
import Derived.ProofKit
import Derived.Carry
/- Contracts: slices.Grow, slices.Concat of ids; ids.Both, Common. -/
namespace Go.Proofs.YtglclakhjmogiaaGreat
namespace Ab
open Go Go.RowKit
set_option linter.unusedVariables false
set_option linter.unusedSimpArgs false
set_option synthInstance.maxSize 4000
set_option synthInstance.maxHeartbeats 400000
attribute [local irreducible] JC JO JR JQ andThen inBlock OpV Gives retTo JM JS

attribute [local irreducible] hashC
instance : Cell (List ID) where
  Ix := Option Addr × Nat
  sz := 1
  cells l y := [.slice y.1 l.length y.2]
  facts l y := [sl y.1 y.2 l]
  len _ _ := rfl
  one l y := by simp [Value.oneCell']
  pos := by decide
section
variable {P : Program} {n : Nn} {w0 : World} {F : Nat → Prop} {ops : Array Oper} {i d : Nat} {t : TypeId} {pos : String} {aft : Array Edge} {g : Option (Nat × Bool)} {os : List Oper} {Q : Cont} {e : E} {Γ : List Fact} [Dr]
end

end Ab
end Go.Proofs.YtglclakhjmogiaaGreat

/- The law DagKnows returns true. -/
namespace Go.Proofs.YtglclakhjmogiaaGreat
namespace Ab
open Go Go.RowKit
set_option linter.unusedVariables false
set_option linter.unusedSimpArgs false
set_option synthInstance.maxSize 4000
set_option synthInstance.maxHeartbeats 400000
attribute [local irreducible] JC JO JR JQ andThen inBlock OpV Gives retTo JM JS

attribute [local irreducible] hashC idA l0 l1 ents
end Ab
end Go.Proofs.YtglclakhjmogiaaGreat

/- The law DagAnc returns true. -/
namespace Go.Proofs.YtglclakhjmogiaaGreat
namespace Ab
open Go Go.RowKit
set_option linter.unusedVariables false
set_option linter.unusedSimpArgs false
set_option synthInstance.maxSize 4000
set_option synthInstance.maxHeartbeats 400000
attribute [local irreducible] JC JO JR JQ andThen inBlock OpV Gives retTo JM JS

attribute [local irreducible] hashC idA l0 l1 ents
theorem AncR.ids {L : List Commit} (hc : Closed L) {A X : List ID} (h : AncR L A X) {x : ID} (hx : x ∈ X) : x ∈ cids L := ((h.mem hc x).1 hx).1
end Ab
end Go.Proofs.YtglclakhjmogiaaGreat

/- Heads, in plain words: the last ones, what ids join to, the head, what comes next. -/
namespace Go.Proofs.YtglclakhjmogiaaGreat
namespace Ab
open Go Go.RowKit
set_option linter.unusedVariables false
set_option linter.unusedSimpArgs false
set_option synthInstance.maxSize 4000
set_option synthInstance.maxHeartbeats 400000
attribute [local irreducible] JC JO JR JQ andThen inBlock OpV Gives retTo JM JS

attribute [local irreducible] hashC idA l0 l1 ents
open Classical in
noncomputable def closedB (L : List Commit) : Bool := decide (Closed L)
noncomputable def ancF (L : List Commit) (A : List ID) : List ID := Classical.choose (anc_ex L A)
noncomputable def partF (L : List Commit) (A : List ID) : List Commit := if closedB L then L.filter (fun c => decide (idC c ∈ A)) else []
noncomputable def frontF (L : List Commit) : List ID := if closedB L then someIds (cids L) (parentsL L) false else []
def topL (L : List Commit) : Int := L.foldl (fun g c => max g c.gen) 0
def headC (g : Int) (f : List ID) : Commit := ⟨⟨-1, 0⟩, g, f, op0⟩
def mergeR (g : Int) (f : List ID) : Commit × Bool := if merge (headC g f) then (headC g f, true) else (commit0, false)
noncomputable def joinF (L : List Commit) (A : List ID) : Commit × Bool :=
  match frontF (partF L (ancF L A)) with
  | [] => (commit0, false)
  | [x] => findR L x
  | f => mergeR (topL (partF L f) + 1) f
noncomputable def headF (L : List Commit) : Commit × Bool := joinF L (idsP L)
noncomputable def baseF (L : List Commit) (A B : List ID) : List ID := someIds (ancF L A) (ancF L B) true
noncomputable def nextC (L : List Commit) (ev : Ev_) (o : Op_) : Commit := ⟨ev, topL L + 1, frontF L, o⟩
noncomputable def nextF (L : List Commit) (ev : Ev_) (o : Op_) : Commit × Bool :=
  if closedB L && may (nextC L ev o) && closedB (L ++ [nextC L ev o]) then (nextC L ev o, true) else (commit0, false)

end Ab
end Go.Proofs.YtglclakhjmogiaaGreat

/- Heads, in plain words: what ids join to, in any order; the head; what comes next. -/
namespace Go.Proofs.YtglclakhjmogiaaGreat
namespace Ab
open Go Go.RowKit
set_option linter.unusedVariables false
set_option linter.unusedSimpArgs false
set_option synthInstance.maxSize 4000
set_option synthInstance.maxHeartbeats 400000
attribute [local irreducible] JC JO JR JQ andThen inBlock OpV Gives retTo JM JS

attribute [local irreducible] hashC idA l0 l1 ents
end Ab
end Go.Proofs.YtglclakhjmogiaaGreat

/- Contracts of the document's layer 1: Right, Word, Four, Long, Pick, Most say what the program's own do. -/
namespace Go.Proofs.YtglclakhjmogiaaGreat
namespace Ab
open Go Go.RowKit
set_option linter.unusedVariables false
set_option linter.unusedSimpArgs false
set_option synthInstance.maxSize 4000
set_option synthInstance.maxHeartbeats 400000
attribute [local irreducible] JC JO JR JQ andThen inBlock OpV Gives retTo JM JS

end Ab
end Go.Proofs.YtglclakhjmogiaaGreat

/- Contracts of the document's layers 1 and 2: Four, Long, twist, Start, Constants, Pad. -/
namespace Go.Proofs.YtglclakhjmogiaaGreat
namespace Ab
open Go Go.RowKit
set_option linter.unusedVariables false
set_option linter.unusedSimpArgs false
set_option synthInstance.maxSize 4000
set_option synthInstance.maxHeartbeats 400000
attribute [local irreducible] JC JO JR JQ andThen inBlock OpV Gives retTo JM JS

end Ab
end Go.Proofs.YtglclakhjmogiaaGreat

/- Contracts of the document's layer 2: Pad, words. -/
namespace Go.Proofs.YtglclakhjmogiaaGreat
namespace Ab
open Go Go.RowKit
set_option linter.unusedVariables false
set_option linter.unusedSimpArgs false
set_option synthInstance.maxSize 4000
set_option synthInstance.maxHeartbeats 400000
attribute [local irreducible] JC JO JR JQ andThen inBlock OpV Gives retTo JM JS

attribute [local irreducible] spreadK
end Ab
end Go.Proofs.YtglclakhjmogiaaGreat

/- Contracts of the document's layer 2: Block. -/
namespace Go.Proofs.YtglclakhjmogiaaGreat
namespace Ab
open Go Go.RowKit
set_option linter.unusedVariables false
set_option linter.unusedSimpArgs false
set_option synthInstance.maxSize 4000
set_option synthInstance.maxHeartbeats 400000
attribute [local irreducible] JC JO JR JQ andThen inBlock OpV Gives retTo JM JS

attribute [local irreducible] spreadK shaKV spreadV turnV plusV
end Ab
end Go.Proofs.YtglclakhjmogiaaGreat

/- Contracts of the document's layer 2: Sum. -/
namespace Go.Proofs.YtglclakhjmogiaaGreat
namespace Ab
open Go Go.RowKit
set_option linter.unusedVariables false
set_option linter.unusedSimpArgs false
set_option synthInstance.maxSize 4000
set_option synthInstance.maxHeartbeats 400000
attribute [local irreducible] JC JO JR JQ andThen inBlock OpV Gives retTo JM JS

attribute [local irreducible] spreadK shaKV spreadV turnV plusV blockL
end Ab
end Go.Proofs.YtglclakhjmogiaaGreat

/- Contracts of the document's layers 3 and 5: Num, Fold, Text, Key, May, Put. -/
namespace Go.Proofs.YtglclakhjmogiaaGreat
namespace Ab
open Go Go.RowKit
set_option linter.unusedVariables false
set_option linter.unusedSimpArgs false
set_option synthInstance.maxSize 4000
set_option synthInstance.maxHeartbeats 400000
attribute [local irreducible] JC JO JR JQ andThen inBlock OpV Gives retTo JM JS

end Ab
end Go.Proofs.YtglclakhjmogiaaGreat

/- Contracts of the document's layers 5 and 9: Key, May, Put, Event. -/
namespace Go.Proofs.YtglclakhjmogiaaGreat
namespace Ab
open Go Go.RowKit
set_option linter.unusedVariables false
set_option linter.unusedSimpArgs false
set_option synthInstance.maxSize 4000
set_option synthInstance.maxHeartbeats 400000
attribute [local irreducible] JC JO JR JQ andThen inBlock OpV Gives retTo JM JS

end Ab
end Go.Proofs.YtglclakhjmogiaaGreat

/- Contracts of the document's layer 5: Put. -/
namespace Go.Proofs.YtglclakhjmogiaaGreat
namespace Ab
open Go Go.RowKit
set_option linter.unusedVariables false
set_option linter.unusedSimpArgs false
set_option synthInstance.maxSize 4000
set_option synthInstance.maxHeartbeats 400000
attribute [local irreducible] JC JO JR JQ andThen inBlock OpV Gives retTo JM JS

attribute [local irreducible] sumI numL textL opPut keyOk
end Ab
end Go.Proofs.YtglclakhjmogiaaGreat

/- Contracts of the document's layer 4: Less, Has, Rises. -/
namespace Go.Proofs.YtglclakhjmogiaaGreat
namespace Ab
open Go Go.RowKit
set_option linter.unusedVariables false
set_option linter.unusedSimpArgs false
set_option synthInstance.maxSize 4000
set_option synthInstance.maxHeartbeats 400000
attribute [local irreducible] JC JO JR JQ andThen inBlock OpV Gives retTo JM JS

end Ab
end Go.Proofs.YtglclakhjmogiaaGreat

/- Contracts of the document's layer 4: Sort, some, Without. -/
namespace Go.Proofs.YtglclakhjmogiaaGreat
namespace Ab
open Go Go.RowKit
set_option linter.unusedVariables false
set_option linter.unusedSimpArgs false
set_option synthInstance.maxSize 4000
set_option synthInstance.maxHeartbeats 400000
attribute [local irreducible] JC JO JR JQ andThen inBlock OpV Gives retTo JM JS

attribute [local irreducible] sortL setOf
end Ab
end Go.Proofs.YtglclakhjmogiaaGreat

/- Contracts of the document's layer 4: some, Without; layer 10: May, Merge. -/
namespace Go.Proofs.YtglclakhjmogiaaGreat
namespace Ab
open Go Go.RowKit
set_option linter.unusedVariables false
set_option linter.unusedSimpArgs false
set_option synthInstance.maxSize 4000
set_option synthInstance.maxHeartbeats 400000
attribute [local irreducible] JC JO JR JQ andThen inBlock OpV Gives retTo JM JS

end Ab
end Go.Proofs.YtglclakhjmogiaaGreat

/- Contracts of the document's layer 10: Put, Hash. -/
namespace Go.Proofs.YtglclakhjmogiaaGreat
namespace Ab
open Go Go.RowKit
set_option linter.unusedVariables false
set_option linter.unusedSimpArgs false
set_option synthInstance.maxSize 4000
set_option synthInstance.maxHeartbeats 400000
attribute [local irreducible] JC JO JR JQ andThen inBlock OpV Gives retTo JM JS

attribute [local irreducible] sumI numL textL opPut
end Ab
end Go.Proofs.YtglclakhjmogiaaGreat

/- Contracts of the document's layers 10 and 16: Hash, Put, Ready, Missing. -/
namespace Go.Proofs.YtglclakhjmogiaaGreat
namespace Ab
open Go Go.RowKit
set_option linter.unusedVariables false
set_option linter.unusedSimpArgs false
set_option synthInstance.maxSize 4000
set_option synthInstance.maxHeartbeats 400000
attribute [local irreducible] JC JO JR JQ andThen inBlock OpV Gives retTo JM JS

attribute [local irreducible] sumI numL textL opPut
attribute [local irreducible] hashC
end Ab
end Go.Proofs.YtglclakhjmogiaaGreat

/- Contracts of the document's layer 11: Ids, At, Find. -/
namespace Go.Proofs.YtglclakhjmogiaaGreat
namespace Ab
open Go Go.RowKit
set_option linter.unusedVariables false
set_option linter.unusedSimpArgs false
set_option synthInstance.maxSize 4000
set_option synthInstance.maxHeartbeats 400000
attribute [local irreducible] JC JO JR JQ andThen inBlock OpV Gives retTo JM JS

attribute [local irreducible] hashC
end Ab
end Go.Proofs.YtglclakhjmogiaaGreat

/- Rows of truth values in blocks of their own, behind a row of slices: made, read, written, published. Program-independent. -/
namespace Go.Proofs.YtglclakhjmogiaaGreat
namespace Ab
open Go Go.RowKit
set_option linter.unusedVariables false
set_option linter.unusedSimpArgs false

/-- A slice that is the whole of a block. -/
structure RowP where
  b : Nat
  n : Nat
instance : Cell RowP where
  Ix := Unit
  sz := 1
  cells r _ := [.slice (some ⟨r.b, 0, none⟩) r.n r.n]
  facts _ _ := []
  len _ _ := rfl
  one r _ := by simp [Value.oneCell']
  pos := by decide
instance {Γ : List Fact} {b n : Nat} : Typed Γ [.slice (some ⟨b, 0, none⟩) n n] (RowP.mk b n) := ⟨(), rfl, by simp [Cell.facts]⟩
instance : Cell (List Bool) where
  Ix := Option Addr × Nat
  sz := 1
  cells l y := [.slice y.1 l.length y.2]
  facts l y := [sl y.1 y.2 l]
  len _ _ := rfl
  one l y := by simp [Value.oneCell']
  pos := by decide

def rowBs (B : List RowP) : List Nat := B.map RowP.b
def rowsHold (t : TypeId) (B : List RowP) (K : List (List Bool)) (w : World) : Prop :=
  B.length = K.length ∧ ∀ i (h : i < B.length) (h' : i < K.length), B[i].n = K[i].length ∧ w.heap[B[i].b]? = some (.cells (K[i].map Value.bool).toArray t (0, 0))
theorem rowsHold.keep {t : TypeId} {B : List RowP} {K : List (List Bool)} {w w' : World} (h : rowsHold t B K w) (hk : ∀ r ∈ B, r.b < w.heap.size → w'.heap[r.b]? = w.heap[r.b]?) : rowsHold t B K w' := by
  refine ⟨h.1, fun i hi hi' => ⟨(h.2 i hi hi').1, ?_⟩⟩
  have h1 := (h.2 i hi hi').2
  rw [hk _ (List.getElem_mem hi) (Array.getElem?_eq_some_iff.1 h1).1]
  exact h1
theorem rowsHold.lt {t : TypeId} {B : List RowP} {K : List (List Bool)} {w : World} (h : rowsHold t B K w) {r : RowP} (hr : r ∈ B) : r.b < w.heap.size := by
  obtain ⟨i, hi, rfl⟩ := List.getElem_of_mem hr
  exact (Array.getElem?_eq_some_iff.1 (h.2 i hi (by have := h.1; omega)).2).1
/-- The rows, which the call owns. -/
def rowsR (t : TypeId) (B : List RowP) (K : List (List Bool)) : Res where
  owns k := ∃ r ∈ B, r.b = k
  holds F w := (rowBs B).Nodup ∧ rowsHold t B K w
  keep F G w w' h hF hk := ⟨h.1, h.2.keep fun r hr hlt => hk r.b hlt (.inr ⟨r, hr, rfl⟩)⟩
  lt F w h k hk := by obtain ⟨r, hr, rfl⟩ := hk; exact h.2.lt hr
section
variable {P : Program} {n : Nn} {w0 : World} {F : Nat → Prop} {ops : Array Oper} {i d : Nat} {t : TypeId} {pos : String} {aft : Array Edge} {g : Option (Nat × Bool)} {os : List Oper} {Q : Cont} {e : E} {Γ : List Fact} [Dr]
/-- Two facts told as one. -/
theorem Hold.join {w : World} {f g h : Fact} (ho : Hold w0 F (f :: g :: Γ) w) (hown : ∀ k, h.owns k ↔ f.owns k ∨ g.owns k) (hs : h.sat (fp w0 F (h :: Γ)) w) : Hold w0 F (h :: Γ) w := by
  have hfree : ∀ k, fp w0 F (f :: g :: Γ) k → fp w0 F (h :: Γ) k := by
    refine fun k hk => ⟨hk.1, fun f' hf' hown' => ?_⟩
    rcases List.mem_cons.1 hf' with rfl | hf'
    · rcases (hown k).1 hown' with h1 | h1
      · exact hk.2 f (by simp) h1
      · exact hk.2 g (by simp) h1
    · exact hk.2 f' (by simp [hf']) hown'
  have hp := List.pairwise_cons.1 ho.dis
  have hp2 := List.pairwise_cons.1 hp.2
  refine ⟨ho.below, fun f' hf' => ?_, ?_, ?_⟩
  · rcases List.mem_cons.1 hf' with rfl | hf'
    · exact hs
    · exact Fact.sat_keep (ho.sat f' (by simp [hf'])) (fun k hk _ => hfree k hk) (fun _ _ _ => rfl)
  · refine List.pairwise_cons.2 ⟨fun f' hf' k hk => ?_, hp2.2⟩
    rcases (hown k).1 hk.1 with h1 | h1
    · exact hp.1 f' (by simp [hf']) k ⟨h1, hk.2⟩
    · exact hp2.1 f' hf' k ⟨h1, hk.2⟩
  · intro f' hf' k hk
    rcases List.mem_cons.1 hf' with rfl | hf'
    · rcases (hown k).1 hk with h1 | h1
      · exact ho.new f (by simp) k h1
      · exact ho.new g (by simp) k h1
    · exact ho.new f' (by simp [hf']) k hk
/-- The rows' fact. -/
class HasRows (Γ : List Fact) (bt : outParam TypeId) (B : outParam (List RowP)) (K : outParam (List (List Bool))) (Δ : outParam (List Fact)) : Prop where
  ok : Γ.Perm (.res (rowsR bt B K) :: Δ)
instance (priority := 100) HasRows.miss {g : Fact} {bt : TypeId} {B : List RowP} {K : List (List Bool)} {Δ : List Fact} [h : HasRows Γ bt B K Δ] : HasRows (g :: Γ) bt B K (g :: Δ) :=
  ⟨(h.ok.cons g).trans (List.Perm.swap _ g Δ)⟩
instance (priority := 1000) HasRows.hit {bt : TypeId} {B : List RowP} {K : List (List Bool)} : HasRows (.res (rowsR bt B K) :: Γ) bt B K Γ := ⟨List.Perm.refl _⟩
end
section
variable {P : Program} {n : Nn} {w0 : World} {F : Nat → Prop} {ops : Array Oper} {i d : Nat} {t : TypeId} {pos : String} {aft : Array Edge} {g : Option (Nat × Bool)} {os : List Oper} {Q : Cont} {e : E} {Γ : List Fact} [Dr]
end
end Ab
end Go.Proofs.YtglclakhjmogiaaGreat

/- Contract of the document's layer 11: Knows. -/
namespace Go.Proofs.YtglclakhjmogiaaGreat
namespace Ab
open Go Go.RowKit
set_option linter.unusedVariables false
set_option linter.unusedSimpArgs false
set_option synthInstance.maxSize 4000
set_option synthInstance.maxHeartbeats 400000
attribute [local irreducible] JC JO JR JQ andThen inBlock OpV Gives retTo JM JS

attribute [local irreducible] hashC
def get (K : List (List Bool)) (i j : Nat) : Bool := (K.getD i []).getD j false
def Square (n : Nat) (K : List (List Bool)) : Prop := K.length = n ∧ ∀ i (h : i < K.length), K[i].length = n
theorem Square.set {n : Nat} {K : List (List Bool)} (h : Square n K) {i j : Nat} (hi : i < K.length) : Square n (K.set i (K[i].set j true)) := by
  refine ⟨by simp [h.1], fun x hx => ?_⟩
  by_cases hxi : x = i
  · subst hxi; simp [h.2 x hi]
  · rw [List.getElem_set_ne (Ne.symm hxi)]; exact h.2 x (by simpa using hx)
structure KnowsR (L : List Commit) (K : List (List Bool)) : Prop where
  square : Square L.length K
  iff : ∀ i j, get K i j = true ↔ knowsI L i j
end Ab
end Go.Proofs.YtglclakhjmogiaaGreat

/- Contract of the document's layer 11: one. -/
namespace Go.Proofs.YtglclakhjmogiaaGreat
namespace Ab
open Go Go.RowKit
set_option linter.unusedVariables false
set_option linter.unusedSimpArgs false
set_option synthInstance.maxSize 4000
set_option synthInstance.maxHeartbeats 400000
attribute [local irreducible] JC JO JR JQ andThen inBlock OpV Gives retTo JM JS

attribute [local irreducible] hashC
section
variable {P : Program} {n : Nn} {w0 : World} {F : Nat → Prop} {ops : Array Oper} {i d : Nat} {t : TypeId} {pos : String} {aft : Array Edge} {g : Option (Nat × Bool)} {os : List Oper} {Q : Cont} {e : E} {Γ : List Fact} [Dr]
end
end Ab
end Go.Proofs.YtglclakhjmogiaaGreat

/- Contract of the document's layer 11: Closed. -/
namespace Go.Proofs.YtglclakhjmogiaaGreat
namespace Ab
open Go Go.RowKit
set_option linter.unusedVariables false
set_option linter.unusedSimpArgs false
set_option synthInstance.maxSize 4000
set_option synthInstance.maxHeartbeats 400000
attribute [local irreducible] JC JO JR JQ andThen inBlock OpV Gives retTo JM JS

attribute [local irreducible] hashC
structure GoodI (L : List Commit) (i : Nat) : Prop where
  lt : i < L.length
  merge : merge L[i] = false
  one : oneI L i
  at_ : (cids L).findIdx? (fun x => decide (x = idC L[i])) = some i
  ev : ∀ j, j < i → evI L i j
end Ab
end Go.Proofs.YtglclakhjmogiaaGreat

/- Contracts of the document's layer 11: Anc, Part. -/
namespace Go.Proofs.YtglclakhjmogiaaGreat
namespace Ab
open Go Go.RowKit
set_option linter.unusedVariables false
set_option linter.unusedSimpArgs false
set_option synthInstance.maxSize 4000
set_option synthInstance.maxHeartbeats 400000
attribute [local irreducible] JC JO JR JQ andThen inBlock OpV Gives retTo JM JS

attribute [local irreducible] hashC
end Ab
end Go.Proofs.YtglclakhjmogiaaGreat

/- Contract of the document's layer 11: Part. -/
namespace Go.Proofs.YtglclakhjmogiaaGreat
namespace Ab
open Go Go.RowKit
set_option linter.unusedVariables false
set_option linter.unusedSimpArgs false
set_option synthInstance.maxSize 4000
set_option synthInstance.maxHeartbeats 400000
attribute [local irreducible] JC JO JR JQ andThen inBlock OpV Gives retTo JM JS

attribute [local irreducible] hashC
end Ab
end Go.Proofs.YtglclakhjmogiaaGreat

/- Contract of the document's layer 11: Sorted. -/
namespace Go.Proofs.YtglclakhjmogiaaGreat
namespace Ab
open Go Go.RowKit
set_option linter.unusedVariables false
set_option linter.unusedSimpArgs false
set_option synthInstance.maxSize 4000
set_option synthInstance.maxHeartbeats 400000
attribute [local irreducible] JC JO JR JQ andThen inBlock OpV Gives retTo JM JS

attribute [local irreducible] hashC
instance : Cell Nat where
  Ix := Unit
  sz := 1
  cells n _ := [natV n]
  facts _ _ := []
  len _ _ := rfl
  one _ _ := One.ok
  pos := by decide
instance {Γ : List Fact} {n : Nat} : Typed Γ [natV n] n := ⟨(), rfl, by simp [Cell.facts]⟩
instance {Γ : List Fact} {n : Nat} : Typed Γ [.int .i64 (n : Int)] n := ⟨(), rfl, by simp [Cell.facts]⟩
section
variable {P : Program} {n : Nn} {w0 : World} {F : Nat → Prop} {ops : Array Oper} {i d : Nat} {t : TypeId} {pos : String} {aft : Array Edge} {g : Option (Nat × Bool)} {os : List Oper} {Q : Cont} {e : E} {Γ : List Fact} [Dr]
end
theorem leS_trans {a b c : Commit} (h1 : leS a b) (h2 : leS b c) : leS a c := by
  rcases h1 with h1 | ⟨h1, h3⟩ <;> rcases h2 with h2 | ⟨h2, h4⟩
  · exact .inl (by omega)
  · exact .inl (by omega)
  · exact .inl (by omega)
  · exact .inr ⟨by omega, idLe_trans h3 h4⟩
def atC (L : List Commit) (i : Nat) : Commit := L.getD i commit0
structure Ins (L : List Commit) (i : Nat) (O : List Nat) : Prop where
  perm : O.Perm (List.range i)
  sorted : O.Pairwise (fun x y => leS (atC L x) (atC L y))
theorem Ins.length {L : List Commit} {i : Nat} {O : List Nat} (h : Ins L i O) : O.length = i := by rw [h.perm.length_eq, List.length_range]
theorem Ins.lt {L : List Commit} {i : Nat} {O : List Nat} (h : Ins L i O) {j : Nat} (hj : j < O.length) : O[j] < i := List.mem_range.1 (h.perm.mem_iff.1 (List.getElem_mem hj))
theorem Ins.next {L : List Commit} {i : Nat} {O : List Nat} (h : Ins L i O) (at_ : Nat) (hle : at_ ≤ O.length) (hup : ∀ j (hj : j < O.length), at_ ≤ j → leS (atC L i) (atC L O[j]))
    (hdn : ∀ (h0 : 0 < at_), leS (atC L (O[at_ - 1]'(by omega))) (atC L i)) : Ins L (i + 1) (O.take at_ ++ [i] ++ O.drop at_) := by
  refine ⟨?_, ?_⟩
  · rw [List.range_succ, List.append_assoc]
    refine List.Perm.trans ((List.perm_append_comm (l₁ := [i]) (l₂ := O.drop at_)).append_left _) ?_
    rw [← List.append_assoc, List.take_append_drop]
    exact h.perm.append_right _
  · have hs2 : (O.take at_ ++ O.drop at_).Pairwise (fun x y => leS (atC L x) (atC L y)) := by rw [List.take_append_drop]; exact h.sorted
    rw [List.pairwise_append] at hs2
    rw [List.append_assoc, List.pairwise_append]
    refine ⟨hs2.1, ?_, ?_⟩
    · rw [List.singleton_append, List.pairwise_cons]
      refine ⟨fun y hy => ?_, hs2.2.1⟩
      obtain ⟨j, hj, rfl⟩ := List.getElem_of_mem hy
      rw [List.length_drop] at hj
      rw [List.getElem_drop]
      exact hup _ (by omega) (by omega)
    · intro y hy z hz
      rcases List.mem_append.1 hz with hz | hz
      · rw [List.mem_singleton.1 hz]
        obtain ⟨j, hj, rfl⟩ := List.getElem_of_mem hy
        rw [List.length_take] at hj
        have h0 : 0 < at_ := by omega
        rw [List.getElem_take]
        by_cases hja : j = at_ - 1
        · subst hja; exact hdn h0
        · exact leS_trans (List.pairwise_iff_getElem.1 h.sorted j (at_ - 1) (by omega) (by omega) (by omega)) (hdn h0)
      · exact hs2.2.2 y hy z hz
end Ab
end Go.Proofs.YtglclakhjmogiaaGreat

/- The law DagTells returns true. -/
namespace Go.Proofs.YtglclakhjmogiaaGreat
namespace Ab
open Go Go.RowKit
set_option linter.unusedVariables false
set_option linter.unusedSimpArgs false
set_option synthInstance.maxSize 4000
set_option synthInstance.maxHeartbeats 400000
attribute [local irreducible] JC JO JR JQ andThen inBlock OpV Gives retTo JM JS

attribute [local irreducible] hashC idA l0 l1 ents
end Ab
end Go.Proofs.YtglclakhjmogiaaGreat

/- Contracts: front.top, Front, Join, Head, Base. -/
namespace Go.Proofs.YtglclakhjmogiaaGreat
namespace Ab
open Go Go.RowKit
set_option linter.unusedVariables false
set_option linter.unusedSimpArgs false
set_option synthInstance.maxSize 4000
set_option synthInstance.maxHeartbeats 400000
attribute [local irreducible] JC JO JR JQ andThen inBlock OpV Gives retTo JM JS

attribute [local irreducible] hashC idA l0 l1 ents
theorem may_parents {c : Commit} (h : may c = true) : c.parents.length ≤ 8 := by
  unfold may at h
  split at h
  · cases h
  · rename_i hn
    simp only [Bool.or_eq_true, not_or, decide_eq_true_eq] at hn
    omega
end Ab
end Go.Proofs.YtglclakhjmogiaaGreat

/- The commits of a disk: plain words. -/
namespace Go.Proofs.YtglclakhjmogiaaGreat
namespace Ab
open Go Go.RowKit
set_option linter.unusedVariables false
set_option linter.unusedSimpArgs false
set_option synthInstance.maxSize 4000
set_option synthInstance.maxHeartbeats 400000
attribute [local irreducible] JC JO JR JQ andThen inBlock OpV Gives retTo JM JS

noncomputable section
/-- The commits of records, up to the first that is none. -/
def decL : List (List UInt8) → List Commit
  | [] => []
  | b :: l => match getC b with
    | some (c, []) => c :: decL l
    | _ => []
open Classical in
/-- Commits up to the first with which they are not closed. -/
def closeF (acc : List Commit) : List Commit → List Commit
  | [] => acc
  | c :: l => if Closed (acc ++ [c]) then closeF (acc ++ [c]) l else acc
def loadL (b : List UInt8) : List Commit := closeF [] (decL (readL b))
def loadEnd (b : List UInt8) : Nat := (framesL ((readL b).take (loadL b).length)).length
end
theorem decL_cons (b : List UInt8) (l : List (List UInt8)) : (∃ c, getC b = some (c, []) ∧ decL (b :: l) = c :: decL l) ∨ ((¬ ∃ c, getC b = some (c, [])) ∧ decL (b :: l) = []) := by
  rw [decL]
  split
  · rename_i c h; exact .inl ⟨c, h, rfl⟩
  · rename_i h; exact .inr ⟨fun ⟨c, hc⟩ => h c hc, rfl⟩
theorem decL_le : ∀ l : List (List UInt8), (decL l).length ≤ l.length
  | [] => Nat.le_refl _
  | b :: l => by
    have := decL_le l
    rcases decL_cons b l with ⟨c, _, h⟩ | ⟨_, h⟩ <;> rw [h] <;> simp <;> omega
theorem decL_at : ∀ (l : List (List UInt8)) (i : Nat) (h : i < (decL l).length) (h2 : i < l.length), getC l[i] = some ((decL l)[i], [])
  | [], i, h, _ => by cases h
  | b :: l, i, h, h2 => by
    rcases decL_cons b l with ⟨c, hc, hd⟩ | ⟨_, hd⟩
    · cases i with
      | zero => simp only [hd, List.getElem_cons_zero]; exact hc
      | succ i =>
        simp only [hd, List.getElem_cons_succ]
        exact decL_at l i (by rw [hd] at h; simpa using h) (by simpa using h2)
    · rw [hd] at h; cases h
theorem decL_end : ∀ (l : List (List UInt8)) (h : (decL l).length < l.length), ¬ ∃ c, getC (l[(decL l).length]) = some (c, [])
  | [], h => by cases h
  | b :: l, h => by
    rcases decL_cons b l with ⟨c, hc, hd⟩ | ⟨hn, hd⟩
    · simp only [hd, List.length_cons, List.getElem_cons_succ]
      exact decL_end l (by rw [hd] at h; simpa using h)
    · simp only [hd, List.length_nil, List.getElem_cons_zero]; exact hn
theorem closeF_pre : ∀ (l acc : List Commit), ∃ k, k ≤ l.length ∧ closeF acc l = acc ++ l.take k
  | [], acc => ⟨0, Nat.le_refl _, by simp [closeF]⟩
  | c :: l, acc => by
    unfold closeF
    split
    · obtain ⟨k, hk, h⟩ := closeF_pre l (acc ++ [c])
      exact ⟨k + 1, by simpa using hk, by rw [h]; simp⟩
    · exact ⟨0, Nat.zero_le _, by simp⟩
theorem closeF_closed : ∀ (l acc : List Commit), Closed acc → Closed (closeF acc l)
  | [], acc, h => h
  | c :: l, acc, h => by
    unfold closeF
    split
    · rename_i h2; exact closeF_closed l _ h2
    · exact h
/-- As a loop has it: the first i are closed, each ahead of the others. -/
theorem closeF_step {l : List Commit} {i : Nat} (hi : i < l.length) (h : closeF [] l = closeF (l.take i) (l.drop i)) (hc : Closed (l.take (i + 1))) : closeF [] l = closeF (l.take (i + 1)) (l.drop (i + 1)) := by
  rw [h, List.drop_eq_getElem_cons hi, closeF, ← List.take_succ_eq_append_getElem hi, if_pos hc]
theorem closeF_stop {l : List Commit} {i : Nat} (hi : i < l.length) (h : closeF [] l = closeF (l.take i) (l.drop i)) (hc : ¬ Closed (l.take (i + 1))) : closeF [] l = l.take i := by
  rw [h, List.drop_eq_getElem_cons hi, closeF, ← List.take_succ_eq_append_getElem hi, if_neg hc]
theorem readL_small : ∀ (f : Nat) (b : List UInt8), ∀ x ∈ readF f b, x.length ≤ 4000
  | 0, _, x, h => by cases h
  | f + 1, b, x, h => by
    unfold readF at h
    cases hs : readStep b with
    | none => rw [hs] at h; cases h
    | some q =>
      rw [hs] at h
      rcases List.mem_cons.1 h with rfl | h
      · exact (readStep_some (x := q.1) (r := q.2) hs).1
      · exact readL_small f _ x h
theorem readF_pre : ∀ (f : Nat) (b : List UInt8), framesL (readF f b) <+: b
  | 0, b => List.nil_prefix
  | f + 1, b => by
    unfold readF
    cases hs : readStep b with
    | none => exact List.nil_prefix
    | some q =>
      dsimp only
      rw [framesL_cons]
      have h1 := (readStep_some (x := q.1) (r := q.2) hs).2
      obtain ⟨t, ht⟩ := readF_pre f q.2
      exact ⟨t, by rw [List.append_assoc, ht, ← h1]⟩
theorem framesL_take_le (l : List (List UInt8)) (i : Nat) : (framesL (l.take i)).length ≤ (framesL l).length := by
  conv => rhs; rw [← List.take_append_drop i l]
  rw [framesL_append, List.length_append]; omega
theorem length_framesL (l : List (List UInt8)) : 5 * l.length ≤ (framesL l).length := by
  induction l with
  | nil => simp
  | cons y l ih => rw [framesL_cons, List.length_append, frameL_length, List.length_cons]; have := numL_pos y.length; omega
theorem framesL_next {l : List (List UInt8)} {i : Nat} (hi : i < l.length) : (framesL (l.take (i + 1))).length = (framesL (l.take i)).length + (frameL l[i]).length := by
  rw [List.take_succ_eq_append_getElem hi, framesL_append, framesL_one, List.length_append]
theorem finC_may {c0 c : Commit} {b r : List UInt8} (h : finC c0 b = some (c, r)) : may c = true ∧ c = c0 := by
  unfold finC at h
  split at h
  · cases h; exact ⟨by assumption, rfl⟩
  · cases h
theorem getC_may {b r : List UInt8} {c : Commit} (h : getC b = some (c, r)) : may c = true ∧ texts c := by
  unfold getC at h
  obtain ⟨q0, h0, h⟩ := Option.bind_eq_some_iff.1 h
  obtain ⟨q1, h1, h⟩ := Option.bind_eq_some_iff.1 h
  obtain ⟨q2, h2, h⟩ := Option.bind_eq_some_iff.1 h
  obtain ⟨q3, h3, h⟩ := Option.bind_eq_some_iff.1 h
  obtain ⟨q4, h4, h⟩ := Option.bind_eq_some_iff.1 h
  unfold opC at h
  split at h
  · obtain ⟨h5, h6⟩ := finC_may h
    refine ⟨h5, ?_⟩
    rw [h6]
    unfold texts
    exact (by decide : op0.key.size < 4611686018427387904 ∧ op0.elem.size < 4611686018427387904)
  · split at h
    · obtain ⟨h5, h6⟩ := finC_may h
      refine ⟨h5, ?_⟩
      rw [h6]
      exact getOp_texts q4.2
    · cases h
end Ab
end Go.Proofs.YtglclakhjmogiaaGreat

/- Code within a round of a range over a function; operations that call yield. Program-independent. -/
namespace Go.Proofs.YtglclakhjmogiaaGreat
namespace Ab
open Go Go.RowKit
set_option linter.unusedVariables false
set_option linter.unusedSimpArgs false
/-- The fence of a round. -/
abbrev rnd (l : Nat) : Fence := Fence.wide.inRound l
def notDefer : Oper → Bool
  | ⟨_, .defer _, _, _, _, _⟩ => false
  | _ => true
theorem notDefer_ok {o : Oper} (h : notDefer o = true) (c : Call) : o.op ≠ .defer c := by
  obtain ⟨d, op, t, p, a, g⟩ := o
  rintro rfl
  cases h
section
variable {P : Program} {ops : Array Oper} {Q : Exit → Act → World → Prop} {l m : Nat}
theorem upon_in {F : Fence} (hdp : F.depth = none) (hfn : ∀ f, F.fn f) (hcalls : ∀ {f args w R}, Calls P f args w R → CallsIn F (m - 1) P f args w R) (hrows : ∀ {row args w R}, Rows P row args w R → RowsIn F (m - 1) P row args w R)
    {o : Oper} {a : Act} {K K' : Act → World → Prop} (hK : ∀ a w, K a w → K' a w) (r : Result Next) (h : o.upon P a K Q r) : o.uponIn F m P a K' Q r := by
  have hn : F.depth.isSome = true → 1 ≤ m := by rw [hdp]; intro h; cases h
  cases r with
  | halt x w' => cases x <;> exact h
  | ok x w' =>
    cases x with
    | value v => exact hK _ _ h
    | skip => exact hK _ _ h
    | defer d => exact hK _ _ h
    | enter f args =>
      refine ⟨hn, hcalls (Calls.mono h ?_)⟩
      intro e w'' he
      cases e with
      | returned v => exact hK _ _ he
      | panicked c => exact he
      | outgrown => exact he
    | row row args => exact ⟨hn, (hrows h).mono fun v w'' h => hK _ _ h⟩
    | round l f tmps assign body => exact h.elim
    | _ => exact h
theorem wpOps_in (hd : ∀ o ∈ ops, notDefer o = true) (hQ : ¬ LetsOut Q) : ∀ (is : List Nat) (a : Act) (w : World), wpOps P ops Q is a w → wpOpsIn (rnd l) m P ops Q is a w
  | [], a, w, h => h
  | i :: is, a, w, h => by
    unfold wpOps at h
    unfold wpOpsIn
    cases ho : ops[i]? with
    | none => rw [ho] at h; exact wpOps_in hd hQ is a w h
    | some o =>
      rw [ho] at h
      dsimp only at h ⊢
      by_cases hw : Region.wanted o (yielded ops a.tmps) = true
      · rw [if_pos hw] at h ⊢
        rcases h with h | h
        · refine ⟨fun _ _ => trivial, ?_⟩
          have hm : o ∈ ops := Array.mem_of_getElem? ho
          rw [Oper.semAt_eq _ _ _ (notDefer_ok (hd o hm))]
          exact upon_in rfl (fun _ => trivial) (fun h => CallsIn.inRound l (callsIn_wide.2 h)) (fun h c cs _ => let ⟨v, w', r, s⟩ := h c cs; ⟨v, w', r, stepsIn_wide.2 s⟩) (fun a w h => wpOps_in hd hQ is a w h) _ h
        · exact (hQ h.2).elim
      · rw [if_neg hw] at h ⊢
        exact ⟨fun _ _ => trivial, wpOps_in hd hQ is _ w h⟩
end
section
variable {P : Program} {n : Nn} {w0 : World} {F : Nat → Prop} {l : Nat} {Q : Cont} {e : E} {Γ : List Fact} [Dr]
/-- As JC, within a round of loop l. -/
def JI (P : Program) (n : Nn) (w0 : World) (F : Nat → Prop) (l : Nat) (c : Code) (Q : Cont) (e : E) (Γ : List Fact) : Prop :=
  (∀ e Γ, ¬ Q .outgrown e Γ) → ∀ a w, Fr n e a → Hold w0 F Γ w → c.wpIn (rnd l) 1 P (up n w0 F Q) a w
theorem JI.skip (h : Q .normal e Γ) : JI P n w0 F l .skip Q e Γ := fun _ _ _ fr ho => wpIn_skip ⟨e, Γ, h, fr, ho⟩
theorem JI.ret (h : Q .ret e Γ) : JI P n w0 F l .ret Q e Γ := fun _ _ _ fr ho => wpIn_ret ⟨e, Γ, h, fr, ho⟩
theorem JI.seq {x y : Code} (h : JI P n w0 F l x (andThen (JI P n w0 F l y Q) Q) e Γ) : JI P n w0 F l (.seq x y) Q e Γ := by
  intro hq a w fr ho
  refine wpIn_seq (wpIn_mono (h hq a w fr ho) ?_)
  rintro x a w ⟨e, Γ, h, fr, ho⟩
  cases x <;> first | exact h hq a w fr ho | exact ⟨e, Γ, h, fr, ho⟩
theorem JI.cond_true {c : Operand} {x y : Code} [hc : Ev e c (.bool true)] (h : JI P n w0 F l x Q e Γ) : JI P n w0 F l (.cond c x y) Q e Γ :=
  fun hq a w fr ho => wpIn_cond_true (hc.ok n a fr) (h hq a w fr ho)
theorem JI.cond_false {c : Operand} {x y : Code} [hc : Ev e c (.bool false)] (h : JI P n w0 F l y Q e Γ) : JI P n w0 F l (.cond c x y) Q e Γ :=
  fun hq a w fr ho => wpIn_cond_false (hc.ok n a fr) (h hq a w fr ho)
theorem JI.block {id : Nat} {c : Code} (h : JI P n w0 F l c (inBlock id Q) e Γ) : JI P n w0 F l (.block id c) Q e Γ := by
  intro hq a w fr ho
  refine wpIn_block (wpIn_mono (h hq a w fr ho) ?_)
  rintro x a w ⟨e, Γ, hq, fr, ho⟩
  cases x with
  | exit id' =>
    simp only [inBlock, Exit.inBlock] at *
    split
    · rename_i he; rw [if_pos he] at hq; exact ⟨e, Γ, hq, fr, ho⟩
    · rename_i he; rw [if_neg he] at hq; exact ⟨e, Γ, hq, fr, ho⟩
  | _ => exact ⟨e, Γ, hq, fr, ho⟩
theorem JI.more {c : Code} {Γ' : List Fact} (h : ∀ w, Hold w0 F Γ w → Hold w0 F Γ' w) (k : JI P n w0 F l c Q e Γ') : JI P n w0 F l c Q e Γ := fun hq a w fr ho => k hq a w fr (h w ho)
theorem no_out (hq : ∀ e Γ, ¬ Q .outgrown e Γ) : ¬ LetsOut (up n w0 F Q) := by
  rintro ⟨a, w, e, Γ, h, _⟩
  exact hq e Γ h
theorem JI.region {id : Nat} {os : List Oper} (hd : os.all notDefer = true) (h : JO P n w0 F ⟨os⟩ 0 os Q e Γ) : JI P n w0 F l (.region id ⟨os⟩ false) Q e Γ := by
  intro hq a w fr ho
  refine wpIn_region ?_
  have e1 : List.range (Array.size ⟨os⟩ : Nat) = List.range' 0 os.length := by simp [List.range_eq_range']
  rw [e1]
  refine wpOps_in (fun o ho => ?_) (no_out hq) _ _ _ (h rfl a w fr ho)
  exact List.all_eq_true.1 hd o (by simpa using ho)
theorem JI.drawP {id : Nat} {ops : List Oper} (hm : P.follows .mixedOrders = true) (hd : ops.all notDefer = true) (h : JP P n w0 F ops [] ops.length (List.replicate ops.length false) Q e Γ) : JI P n w0 F l (.region id ⟨ops⟩ true) Q e Γ := by
  intro hq a w fr ho
  refine wpIn_region_draw fun t => ?_
  simp only [Region.schedule, hm, Bool.true_or, if_true]
  refine wpOps_in (fun o ho => List.all_eq_true.1 hd o (by simpa using ho)) (no_out hq) _ _ _ ?_
  have := pAny_wp exitP_up _ _ _ _ (h a w.drew fr ho.drew)
  have e1 : (⟨List.replicate ops.length false⟩ : Array Bool) = Array.replicate (⟨ops⟩ : Array Oper).size false := by apply Array.ext'; simp
  rw [e1] at this
  exact wpAny_sound _ t _ a _ this
/- ---------- operations that call yield ---------- -/
/-- As JO; the calls of yield may be met. -/
def JY (P : Program) (n : Nn) (w0 : World) (F : Nat → Prop) (ops : Array Oper) (i : Nat) (os : List Oper) (Q : Cont) (e : E) (Γ : List Fact) : Prop :=
  ops.toList.drop i = os → ∀ a w, Fr n e a → Hold w0 F Γ w → wpOpsIn Fence.wide 2 P ops (up n w0 F Q) (List.range' i os.length) a w
theorem JC.regionY {id : Nat} {os : List Oper} (h : JY P n w0 F ⟨os⟩ 0 os Q e Γ) : JC P n w0 F (.region id ⟨os⟩ false) Q e Γ := by
  intro a w fr ho
  refine (wpIn_wide (n := 2)).1 (wpIn_region ?_)
  have e1 : List.range (Array.size ⟨os⟩ : Nat) = List.range' 0 os.length := by simp [List.range_eq_range']
  rw [e1]
  exact h rfl a w fr ho
theorem JY.nil {ops : Array Oper} {i : Nat} (h : Q .normal e Γ) : JY P n w0 F ops i [] Q e Γ :=
  fun _ a w fr ho => by show wpOpsIn Fence.wide 2 P ops (up n w0 F Q) [] a w; unfold wpOpsIn; exact ⟨e, Γ, h, fr, ho⟩
section
variable {ops : List Oper} {i d : Nat} {op : Op} {t : TypeId} {pos : String} {aft : Array Edge} {g : Option (Nat × Bool)} {os : List Oper}
theorem JY.val {v : Value} (hg : gtest ops e g = some true) (h : OpV P n w0 F ⟨some d, op, t, pos, aft, g⟩ e Γ v) (hd : Nat.blt d n.s = true) (k : JY P n w0 F ⟨ops⟩ (i + 1) os Q ((d, v) :: e) Γ) : JY P n w0 F ⟨ops⟩ i (⟨some d, op, t, pos, aft, g⟩ :: os) Q e Γ := by
  intro hdr a w fr ho
  obtain ⟨h1, h2⟩ := drop_at hdr
  simp only [List.length_cons, List.range'_succ, wpOpsIn]
  rw [h1]
  simp only [gtest_ok (o := ⟨some d, op, t, pos, aft, g⟩) hg fr, if_true]
  refine ⟨fun _ _ => trivial, ?_⟩
  show Oper.uponIn _ _ _ _ _ _ _ ((execOp a.eval ⟨some d, op, t, pos, aft, g⟩).run P w)
  rw [h a w fr ho]
  exact k h2 _ w (fr.put hd v) ho
theorem JY.omit (hg : gtest ops e g = some false) (hd : Nat.blt d n.s = true) (k : JY P n w0 F ⟨ops⟩ (i + 1) os Q ((d, undef) :: e) Γ) : JY P n w0 F ⟨ops⟩ i (⟨some d, op, t, pos, aft, g⟩ :: os) Q e Γ := by
  intro hdr a w fr ho
  obtain ⟨h1, h2⟩ := drop_at hdr
  simp only [List.length_cons, List.range'_succ, wpOpsIn]
  rw [h1]
  simp only [gtest_ok (o := ⟨some d, op, t, pos, aft, g⟩) hg fr, Bool.false_eq_true, if_false]
  exact ⟨fun _ _ => trivial, k h2 _ w (fr.put hd _) ho⟩
theorem JY.skip (hg : gskip ops e g = true) (hd : Nat.blt d n.s = true) (k : JY P n w0 F ⟨ops⟩ (i + 1) os Q ((d, undef) :: e) Γ) : JY P n w0 F ⟨ops⟩ i (⟨some d, op, t, pos, aft, g⟩ :: os) Q e Γ := by
  intro hdr a w fr ho
  obtain ⟨h1, h2⟩ := drop_at hdr
  simp only [List.length_cons, List.range'_succ, wpOpsIn]
  rw [h1]
  simp only [gskip_ok (o := ⟨some d, op, t, pos, aft, g⟩) hg fr, Bool.false_eq_true, if_false]
  exact ⟨fun _ _ => trivial, k h2 _ w (fr.put hd _) ho⟩
theorem JY.test (s : Nat) {b : Bool} {p : Prop} [hc : Lk e s (.bool b)] [hp : Says b p] (ht : p → JY P n w0 F ⟨ops⟩ i os Q ((s, .bool true) :: e) Γ) (hf : ¬ p → JY P n w0 F ⟨ops⟩ i os Q ((s, .bool false) :: e) Γ) : JY P n w0 F ⟨ops⟩ i os Q e Γ := by
  intro hd a w fr ho
  have key : Fr n ((s, .bool b) :: e) a := fr.again hc.ok
  cases b with
  | true => exact ht (hp.ok.1 rfl) hd a w key ho
  | false => exact hf (fun h => by have := hp.ok.2 h; cases this) hd a w key ho
theorem JY.reslot (s : Nat) {v : Value} (u : Value) [hs : Lk e s v] (h : v = u) (k : JY P n w0 F ⟨ops⟩ i os Q ((s, u) :: e) Γ) : JY P n w0 F ⟨ops⟩ i os Q e Γ :=
  fun hd a w fr ho => k hd a w (fr.again (by rw [← h]; exact hs.ok)) ho
theorem JY.more {Γ' : List Fact} (h : ∀ w, Hold w0 F Γ w → Hold w0 F Γ' w) (k : JY P n w0 F ⟨ops⟩ i os Q e Γ') : JY P n w0 F ⟨ops⟩ i os Q e Γ := fun hd a w fr ho => k hd a w fr (h w ho)
/-- yield is called: the loop's body goes on, or stops. -/
theorem JY.yield {f : Operand} {args : Array Operand} {ats : Array TypeId} {vs : List Value} {l : Nat} {κ ξ : Type} {Γt : ξ → List Fact} {Γf : κ → List Fact} (hg : gtest ops e g = some true) [hf : Ev e f (.func (.yield l) #[] #[])] [hv : ArgVs e args.toList vs] (hd : Nat.blt d n.s = true)
    (h : ∀ w, Hold w0 F Γ w → YieldAt Fence.wide 1 P l ⟨vs⟩ w fun x w' => (x = .returned (.bool true) ∧ ∃ s, Hold w0 F (Γt s) w') ∨ (x = .returned (.bool false) ∧ ∃ k, Hold w0 F (Γf k) w'))
    (kt : ∀ s, JY P n w0 F ⟨ops⟩ (i + 1) os Q ((d, .bool true) :: e) (Γt s)) (kf : ∀ k, JY P n w0 F ⟨ops⟩ (i + 1) os Q ((d, .bool false) :: e) (Γf k)) :
    JY P n w0 F ⟨ops⟩ i (⟨some d, .call ⟨.value f, args, ats⟩, t, pos, aft, g⟩ :: os) Q e Γ := by
  intro hdr a w fr ho
  obtain ⟨h1, h2⟩ := drop_at hdr
  simp only [List.length_cons, List.range'_succ, wpOpsIn]
  rw [h1]
  simp only [gtest_ok (o := ⟨some d, .call ⟨.value f, args, ats⟩, t, pos, aft, g⟩) hg fr, if_true]
  refine ⟨fun _ _ => trivial, ?_⟩
  obtain ⟨fn, tmps, assign, body, hy, hR⟩ := h w ho
  have e1 := hf.ok n a fr
  have e2 : args.map a.eval = ⟨vs⟩ := by apply Array.ext'; simp [hv.ok n a fr]
  have hrun : (execOp a.eval ⟨some d, .call ⟨.value f, args, ats⟩, t, pos, aft, g⟩).run P w = .ok (.round l fn tmps assign body) w := by
    have e3 : (resolve a.eval ⟨.value f, args, ats⟩ t).run P w = .ok ⟨.fn (.yield l) #[], ⟨vs⟩⟩ w := by
      simp [resolve, e1, Deferred.ofValue]
      apply Array.ext'; simp [hv.ok n a fr]
    have e4 : (⟨vs⟩ : Array Value) ++ (#[] : Array Value) = ⟨vs⟩ := by apply Array.ext'; simp
    simp only [execOp, Sem.run_bind, e3, Result.andThen_ok, invoke]
    simpa [e4] using hy
  show Oper.uponIn _ _ _ _ _ _ _ ((execOp a.eval ⟨some d, .call ⟨.value f, args, ats⟩, t, pos, aft, g⟩).run P w)
  rw [hrun]
  refine ⟨fun h => (by cases h), hR.mono ?_⟩
  rintro x w' (⟨rfl, s, ho'⟩ | ⟨rfl, k, ho'⟩)
  · exact kt s h2 _ w' (fr.put hd _) ho'
  · exact kf k h2 _ w' (fr.put hd _) ho'
end
end
end Ab
end Go.Proofs.YtglclakhjmogiaaGreat

/- A range over a function, two loop variables; functions that hold one. Program-independent. -/
namespace Go.Proofs.YtglclakhjmogiaaGreat
namespace Ab
open Go Go.RowKit
set_option linter.unusedVariables false
set_option linter.unusedSimpArgs false
theorem zip_two (p1 p2 : Nat) (v1 v2 : Value) (T : Array Value) : ((#[p1, p2] : Array Nat).zip (⟨[v1, v2]⟩ : Array Value)).foldl (fun t (p, v) => t.setIfInBounds p v) T = (T.setIfInBounds p1 v1).setIfInBounds p2 v2 := by
  simp
/-- What is true whatever memory holds. -/
def tru (p : Prop) : Asn where
  holds _ _ := p
  mono _ _ _ _ h := h
  frame _ _ _ _ h := h
  within _ _ h := h
section
variable {P : Program} {n : Nn} {w0 : World} {F : Nat → Prop} {l : Nat} {Q : Cont} {e : E} {Γ : List Fact} [Dr]
theorem JI.know {c : Code} {p : Prop} (h : ∀ w, Hold w0 F Γ w → p) (k : p → JI P n w0 F l c Q e Γ) : JI P n w0 F l c Q e Γ := fun hq a w fr ho => k (h w ho) hq a w fr ho
end
section
variable {P : Program} {n : Nn} {w0 : World} {F : Nat → Prop} {l : Nat} {e : E} {Γ : List Fact} [Dr]
theorem Hold.turn {w : World} {r : Nat} {o o' : Obj} {Δ : List Fact} (h : Hold w0 F (.obj r o :: Δ) w) : Hold w0 F (.obj r o' :: Δ) (w.putObj r o') := setMapIter h
theorem Hold.objAt {w : World} {r : Nat} {o : Obj} {Δ : List Fact} (h : Hold w0 F (.obj r o :: Δ) w) : w.heap[r]? = some o := h.sat (.obj r o) (by simp)
/-- What the function that is ranged over does, told of what the loop's body does: N rounds at most; in round i it hands over the values vals i u, and tells G i u; M i is what the body tells ahead of round i, X k where it has stopped; Γi is what the function itself reads. -/
def Iter (P : Program) (w0 : World) (F : Nat → Prop) (gf : FuncId) (lb : List Value) (N : Nat) {ι : Type} (v1 v2 : Nat → ι → Value) (G : Nat → ι → List Fact) (Γi : List Fact) : Prop :=
  ∀ (l : Nat) (κ ξ : Type) (M : Nat → ξ → List Fact) (X : κ → List Fact),
    (∀ i, i < N → ∀ (u : ι) (s : ξ) (Γ : List Fact) w, Hold w0 F (G i u ++ Γ ++ M i s) w → YieldAt Fence.wide 1 P l ⟨[v1 i u, v2 i u]⟩ w fun x w' => (x = .returned (.bool true) ∧ ∃ s, Hold w0 F (Γ ++ M (i + 1) s) w') ∨ (x = .returned (.bool false) ∧ ∃ k, Hold w0 F (Γ ++ X k) w')) →
    ∀ s w, Hold w0 F (Γi ++ M 0 s) w → Calls P gf ⟨.func (.yield l) #[] #[] :: lb⟩ w fun x w' => (∃ v, x = .returned v) ∧ ((∃ s, Hold w0 F (M N s) w') ∨ ∃ k, Hold w0 F (X k) w')
theorem JX.range {Q : Nn → Cont} {g : Operand} {p1 p2 : Nat} {assign body : Code} {gf : FuncId} {lb : List Value} {N : Nat} {ι ζ κ ξ : Type} {v1 v2 : Nat → ι → Value} {G : Nat → ι → List Fact} {Γi : List Fact}
    (M : Nat → ξ → List Fact) (X : κ → List Fact) (E2 : Nat → ι → ξ → ζ → E) (N2 : Nat → ι → ξ → ζ → List Fact) (s0 : ξ)
    [hg : Ev e g (.func (.func gf) #[] ⟨lb⟩)] [hb : Body P gf] (h1 : Nat.blt p1 n.s = true) (h2 : Nat.blt p2 n.s = true)
    (hi : Iter P w0 F gf lb N v1 v2 G Γi) (h0 : ∀ w, Hold w0 F Γ w → Hold w0 F (Γi ++ M 0 s0) w)
    (ha : ∀ i, i < N → ∀ (u : ι) (s : ξ) (Γ : List Fact) l, JI P ⟨n.s, []⟩ w0 F l assign (fun x e' Γ' => x = .normal ∧ ∃ z, Ent e' Γ' (E2 i u s z) (N2 i u s z ++ Γ)) ((p2, v2 i u) :: (p1, v1 i u) :: e) (G i u ++ M i s ++ Γ))
    (hbd : ∀ i, i < N → ∀ (u : ι) (s : ξ) (z : ζ) (Γ : List Fact) l, JI P ⟨n.s, []⟩ w0 F l body (fun x e' Γ' => (x = .normal ∧ ∃ s, ∀ w, Hold w0 F Γ' w → Hold w0 F (M (i + 1) s ++ Γ) w) ∨ (x = .ret ∧ ∃ k, ∀ w, Hold w0 F Γ' w → Hold w0 F (X k ++ Γ) w)) (E2 i u s z) (N2 i u s z ++ Γ))
    (kn : ∀ D s, Q ⟨n.s, ⟨.collected D, #[]⟩ :: n.ds⟩ .normal e (.obj D (.deferred (some [])) :: M N s))
    (kr : ∀ D k, Q ⟨n.s, ⟨.collected D, #[]⟩ :: n.ds⟩ .ret e (.obj D (.deferred (some [])) :: X k)) :
    JX P n w0 F (.rangeFunc g #[p1, p2] assign body) Q e Γ := by
  intro a w fr ho
  refine (wpIn_wide (n := 3)).1 (wpIn_rangeFunc ?_)
  intro fn hfn
  obtain ⟨rec, hrec⟩ : ∃ rec : LoopState → Option Code → Loop, rec = fun st pe => { state := st, pending := pe, fn, tmps := a.tmps, params := #[p1, p2], assign, body, defers := w.heap.size } := ⟨_, rfl⟩
  have ho1 : Hold w0 F (.obj (w.heap.size + 1) (.loop (rec .ready none)) :: .obj w.heap.size (.deferred (some [])) :: (Γi ++ M 0 s0)) ((w.alloc (.deferred (some []))).alloc (.loop (rec .ready none))) := by
    have a1 := (h0 w ho).push (f := .obj w.heap.size (.deferred (some []))) (fun _ => Iff.rfl) (fun _ _ h => h)
    have a2 := a1.push (f := .obj (w.alloc (.deferred (some []))).heap.size (.loop (rec .ready none))) (fun _ => Iff.rfl) (fun _ _ h => h)
    simpa only [World.size_alloc] using a2
  obtain ⟨W1, hW1⟩ : ∃ W1, (w.alloc (.deferred (some []))).alloc (.loop (rec .ready none)) = W1 := ⟨_, rfl⟩
  rw [hW1] at ho1
  obtain ⟨D, hD⟩ : ∃ D, D = w.heap.size := ⟨_, rfl⟩
  have eg := hg.ok n a fr
  have e3 : (#[.func (.yield (D + 1)) #[] #[]] : Array Value) ++ (⟨lb⟩ : Array Value) = ⟨.func (.yield (D + 1)) #[] #[] :: lb⟩ := by apply Array.ext'; simp
  have hLr : ∀ st pe, (rec st pe).state = st := fun st pe => by rw [hrec]
  have fr0 : Fr ⟨n.s, []⟩ e ⟨a.tmps, []⟩ := ⟨rfl, fr.size, fr.slot⟩
  refine ⟨D + 1, [{ target := .collected D, args := #[] }], W1, { target := .fn (.func gf) ⟨lb⟩, args := #[.func (.yield (D + 1)) #[] #[]] }, W1, gf, ⟨.func (.yield (D + 1)) #[] #[] :: lb⟩, W1, ?_, ?_, ?_, ?_, fun h => (by cases h), ?_⟩
  · rw [← hW1, hrec, hD]; exact run_enterLoop_outer _ _ _ _ _
  · simp only [resolve, eg]
    simp [go_sem, Deferred.ofValue]
  · intro f' _; trivial
  · simp only [invoke, e3, hb.ok]
  · rw [← hD] at ho1
    let M' : Nat → ξ → List Fact := fun i s => .obj (D + 1) (.loop (rec .ready none)) :: .obj D (.deferred (some [])) :: M i s
    let X' : κ → List Fact := fun k => .obj (D + 1) (.loop { rec .ready none with state := .done, pending := some .ret }) :: .obj D (.deferred (some [])) :: X k
    refine callsIn_wide.2 (Calls.mono (hi (D + 1) κ ξ M' X' ?_ s0 W1 (ho1.perm ?_)) ?_)
    · intro i hin u s Γ W hW
      have hW' : Hold w0 F (.obj (D + 1) (.loop (rec .ready none)) :: (G i u ++ M i s ++ .obj D (.deferred (some [])) :: Γ)) W := by
        refine hW.perm ?_
        show (G i u ++ Γ ++ .obj (D + 1) (.loop (rec .ready none)) :: .obj D (.deferred (some [])) :: M i s).Perm _
        refine List.perm_middle.trans (List.Perm.cons _ ?_)
        refine List.perm_middle.trans ((List.Perm.cons _ ?_).trans List.perm_middle.symm)
        rw [List.append_assoc, List.append_assoc]
        exact List.Perm.append_left _ List.perm_append_comm
      have hl := hW'.objAt
      have hy := run_yield (P := P) (args := ⟨[v1 i u, v2 i u]⟩) hl (by rw [hrec]; rfl)
      refine ⟨_, _, _, _, hy, roundIn_of_wpIn trivial ?_⟩
      have etm : ((rec .ready none).params.zip (⟨[v1 i u, v2 i u]⟩ : Array Value)).foldl (fun t (p, v) => t.setIfInBounds p v) (rec .ready none).tmps = (a.tmps.setIfInBounds p1 (v1 i u)).setIfInBounds p2 (v2 i u) := by
        rw [hrec]; exact zip_two p1 p2 _ _ _
      have ea : (rec .ready none).assign = assign := by rw [hrec]
      have eb : (rec .ready none).body = body := by rw [hrec]
      rw [etm, ea, eb]
      have fr1 := (fr0.put h1 (v1 i u)).put h2 (v2 i u)
      have hW2 : Hold w0 F (G i u ++ M i s ++ (.obj (D + 1) (.loop (rec .ready none)) :: .obj D (.deferred (some [])) :: Γ)) W := hW'.perm List.perm_middle.symm
      refine wpIn_mono (ha i hin u s _ (D + 1) (fun _ _ h => by cases h.1) _ W fr1 hW2) ?_
      rintro x a2 W2 ⟨e2, Γ2, ⟨rfl, z, hent⟩, fr2, ho2⟩
      have ho3 : Hold w0 F (.obj (D + 1) (.loop (rec .ready none)) :: (N2 i u s z ++ .obj D (.deferred (some [])) :: Γ)) W2 := (hent.facts w0 F W2 ho2).perm List.perm_middle
      have fr3 := hent.slots _ _ fr2
      refine ⟨_, run_beginRound ho3.objAt (hLr _ _), ?_⟩
      have ho4 := (ho3.turn (o' := .loop { rec .ready none with state := .busy })).perm (List.perm_middle (l₁ := N2 i u s z)).symm
      refine wpIn_mono (hbd i hin u s z _ (D + 1) (fun _ _ h => by rcases h with h | h <;> cases h.1) _ _ fr3 ho4) ?_
      rintro x a5 W5 ⟨e5, Γ5, hx, fr5, ho5⟩
      rcases hx with ⟨rfl, s2, hm⟩ | ⟨rfl, k, hm⟩
      · have ho6 := (hm _ ho5).perm (List.perm_middle (l₁ := M (i + 1) s2))
        refine ⟨_, _, run_endRound none ho6.objAt, .inl ⟨rfl, s2, ?_⟩⟩
        have ho7 := ho6.turn (o' := .loop (rec .ready none))
        have er : (Obj.loop { ({ rec .ready none with state := .busy } : Loop) with state := if (none : Option Code).isNone then .ready else .done, pending := none }) = .loop (rec .ready none) := by rw [hrec]; rfl
        rw [er]
        refine ho7.perm ?_
        show List.Perm _ (Γ ++ .obj (D + 1) (.loop (rec .ready none)) :: .obj D (.deferred (some [])) :: M (i + 1) s2)
        refine (List.Perm.cons _ ?_).trans List.perm_middle.symm
        refine List.perm_middle.trans ((List.Perm.cons _ List.perm_append_comm).trans List.perm_middle.symm)
      · have ho6 := (hm _ ho5).perm (List.perm_middle (l₁ := X k))
        refine ⟨_, _, run_endRound (some .ret) ho6.objAt, .inr ⟨rfl, k, ?_⟩⟩
        have ho7 := ho6.turn (o' := .loop { rec .ready none with state := .done, pending := some .ret })
        have er : (Obj.loop { ({ rec .ready none with state := .busy } : Loop) with state := if (some Code.ret : Option Code).isNone then .ready else .done, pending := some .ret }) = .loop { rec .ready none with state := .done, pending := some .ret } := by rfl
        rw [er]
        refine ho7.perm ?_
        show List.Perm _ (Γ ++ .obj (D + 1) (.loop { rec .ready none with state := .done, pending := some .ret }) :: .obj D (.deferred (some [])) :: X k)
        refine (List.Perm.cons _ ?_).trans List.perm_middle.symm
        refine List.perm_middle.trans ((List.Perm.cons _ List.perm_append_comm).trans List.perm_middle.symm)
    · show List.Perm _ (Γi ++ .obj (D + 1) (.loop (rec .ready none)) :: .obj D (.deferred (some [])) :: M 0 s0)
      refine (List.Perm.trans ?_ List.perm_middle.symm)
      exact List.Perm.cons _ List.perm_middle.symm
    · have frD : ∀ {W}, Hold w0 F Γ W → Fr ⟨n.s, ⟨.collected D, #[]⟩ :: n.ds⟩ e { a with defers := [⟨.collected D, #[]⟩] ++ a.defers } := fun _ => ⟨by show [_] ++ a.defers = _; rw [fr.defers]; rfl, fr.size, fr.slot⟩
      have frE := frD ho
      rintro x W3 ⟨⟨v, rfl⟩, ⟨s, hM⟩ | ⟨k, hX⟩⟩
      · refine ⟨none, W3.putObj (D + 1) (.loop { rec .ready none with state := .exhausted }), ?_, ?_⟩
        · have := run_endLoop (P := P) hM.objAt (by rw [hLr]; simp)
          have ep : (rec .ready none).pending = none := by rw [hrec]
          exact this.trans (congrArg (fun x => Result.ok x _) ep)
        · have ho9 := (hM.turn (o' := .loop { rec .ready none with state := .exhausted })).tail
          exact ⟨_, e, _, kn D s, frE, ho9⟩
      · refine ⟨some .ret, _, run_endLoop (P := P) hX.objAt (by simp), ?_⟩
        have ho9 := (hX.turn (o' := .loop { ({ rec .ready none with state := .done, pending := some .ret } : Loop) with state := .exhausted })).tail
        exact wpIn_ret ⟨_, e, _, kr D k, frE, ho9⟩
/-- The first part may change what is put off. -/
theorem JX.seqX {Q : Nn → Cont} {x y : Code} (h : JX P n w0 F x (fun n' => andThen (JC P n' w0 F y (Q n')) (Q n')) e Γ) : JX P n w0 F (.seq x y) Q e Γ := by
  intro a w fr ho
  refine wp_seq (wp_mono (h a w fr ho) ?_)
  rintro z a w ⟨n', e, Γ, hq, fr, ho⟩
  cases z <;> first | exact wp_mono (hq a w fr ho) (fun x a w ⟨e, Γ, hq⟩ => ⟨n', e, Γ, hq⟩) | exact ⟨n', e, Γ, hq, fr, ho⟩
theorem JX.block {Q : Nn → Cont} {id : Nat} {c : Code} (h : JX P n w0 F c (fun n' => inBlock id (Q n')) e Γ) : JX P n w0 F (.block id c) Q e Γ := by
  intro a w fr ho
  refine wp_block (wp_mono (h a w fr ho) ?_)
  rintro x a w ⟨n', e, Γ, hq, fr, ho⟩
  cases x with
  | exit id' =>
    simp only [inBlock, Exit.inBlock] at *
    split
    · rename_i he; rw [if_pos he] at hq; exact ⟨n', e, Γ, hq, fr, ho⟩
    · rename_i he; rw [if_neg he] at hq; exact ⟨n', e, Γ, hq, fr, ho⟩
  | _ => exact ⟨n', e, Γ, hq, fr, ho⟩
/-- A function that holds one range over a function. -/
theorem gives_range {f : FuncId} {fn : Func} {c : Code} {rs : List ResultVar} {args : List Value} {w : World} {Y : Type} {v : Y → Value} {B : Y → List Fact}
    {m : Nat} (hf : P.funcs[f]? = some fn) (hb : fn.body = some c) (hn : fn.ntmps = m) (hr : fn.results = ⟨rs⟩) (hl : Nat.ble args.length m = true) (Γ : List Fact) (ho : Hold w F Γ w)
    (h : JX P ⟨m, []⟩ w F c (fun n' x e Γ => ∃ D Γ', n' = ⟨m, [⟨.collected D, #[]⟩]⟩ ∧ (x = .ret ∨ x = .normal) ∧ (∀ w1, Hold w F Γ w1 → Hold w F (.obj D (.deferred (some [])) :: Γ') w1) ∧ retTo P w F rs v B .ret e Γ') (enum 0 args) Γ) : Gives P f args w F v B := by
  refine callsIn_wide.1 (callsIn_of_wp_marks (F := Fence.wide) (n := 3) hf hb trivial ?_)
  rw [hn]
  refine wpIn_mono ((wpIn_wide (n := 3)).2 (h _ w (Fr.start hl) ho)) ?_
  rintro x a w' ⟨n', e, Γ, ⟨D, Γ', rfl, hx, hΓ, _, y, vs, hres, hpk, hB⟩, fr, ho'⟩
  have ho1 := hΓ w' ho'
  have ho2 := (ho1.turn (o' := .deferred none)).tail
  have fr' : Fr ⟨m, []⟩ e ⟨a.tmps, []⟩ := ⟨rfl, fr.size, fr.slot⟩
  have hrun := run_results (P := P) hr hres fr' ho2
  have key : LeavesInM Fence.wide 3 P fn a.tmps (fun x w' => ∃ y, x = .returned (v y) ∧ Bel w.heap.size w w' ∧ Fresh w.heap.size F (B y) w') a.defers .returning w' := by
    rw [fr.defers]
    refine ⟨by simp, .inl ⟨D, _, rfl, run_takeDeferred ho1.objAt, ?_⟩⟩
    exact ⟨_, hrun, y, by rw [hpk], ho2.below, (hB _ ho2).fresh⟩
  rcases hx with rfl | rfl <;> exact key
end
end Ab
end Go.Proofs.YtglclakhjmogiaaGreat

/- Contracts: store.commits, and the function that it gives. -/
namespace Go.Proofs.YtglclakhjmogiaaGreat
namespace Ab
open Go Go.RowKit
set_option linter.unusedVariables false
set_option linter.unusedSimpArgs false
set_option synthInstance.maxSize 4000
set_option synthInstance.maxHeartbeats 400000
attribute [local irreducible] JC JO JR JQ andThen inBlock OpV Gives retTo JM JS

attribute [local irreducible] JY JI JX
theorem commits_store (w : World) (F : Nat → Prop) (a : Option Addr) (c : Nat) (b : List UInt8) (h : (sl a c b).holds F w) :
    Gives Tryz.prog 84 [.slice a b.length c] w F (fun y : Nat => .func (.func 127) #[] ⟨[.pointer (some ⟨y, 0, none⟩)]⟩) (fun y => [.own y 50 [.slice a b.length c]]) := by
  refine gives_of Tryz.func84 rfl Tryz.ntmps84 rfl rfl [.st (sl a c b)] (.start1 h) ?_
  repeat (first|refine Wa ?_|refine Wb ?_|refine Wc ?_|refine Wd ?_|refine We rfl ?_|refine Wf (by first|exact Va|exact Vb|exact Vc|exact Vd|exact Ve|exact Vf|exact Vg|exact Vh|exact Vi|exact Vj|exact Vk (by omega)|exact Vl|exact Vm|exact Vn|exact Vo|exact Vp|exact Vq|exact Vr|exact Vs (by omega)|exact Vt (by omega)|exact Vu (by omega)|exact Vv (by omega)|exact Vw|exact Vx|exact Vy|exact Vz|exact VA|exact VB|exact VC|exact VD|exact VE|exact VF) rfl ?_|(refine Wg rfl ?_; intro _)|(refine Wh rfl ?_; intro _)|refine Wi ?_|refine Wj ?_|refine Wk ?_|refine Wl ?_|refine Wm ?_|refine Wn ?_|refine Wo ?_|refine Wp ?_|refine Wq rfl ?_|refine Wr ?_|refine Ws ?_|refine Wt ?_|refine Wu ?_|refine Wv rfl rfl ?_|(refine Ww rfl ⟨rfl, by decide, by decide, by decide⟩ ?_; intro _))
  rename_i bx
  exact CT.done bx rfl (fun w ho => ho.ent)
/-- The i-th commit of a disk, and where it ends. -/
noncomputable def comAt (b : List UInt8) (i : Nat) : Commit := (decL (readL b)).getD i com0
noncomputable def endAt (b : List UInt8) (i : Nat) : Nat := (framesL ((readL b).take (i + 1))).length
set_option maxHeartbeats 4000000 in
theorem iter_commits (w0 : World) (F : Nat → Prop) (bx : Nat) (a : Option Addr) (c : Nat) (b : List UInt8) (hb : b.length ≤ 1048576) :
    Iter Tryz.prog w0 F 127 [.pointer (some ⟨bx, 0, none⟩)] (decL (readL b)).length (ι := Option Addr × Nat) (fun i u => commitV (comAt b i) u.1 u.2) (fun i u => .int .i64 (endAt b i : Int))
      (fun i u => [.st (sl u.1 u.2 (comAt b i).parents)]) [.own bx 50 [.slice a b.length c], .st (sl a c b)] := by
  intro l κ ξ M X hY s0 w ho
  have hpre : framesL (readL b) <+: b := readF_pre _ _
  have hfl : (framesL (readL b)).length ≤ b.length := hpre.length_le
  have hrl := length_framesL (readL b)
  have hsm : ∀ x ∈ readL b, x.length ≤ 4000 := readL_small _ _
  have hdl := decL_le (readL b)
  refine Calls.mono (R := fun x w' => ∃ y : ξ ⊕ κ, x = .returned (.tuple ⟨[]⟩) ∧ Hold w0 F (match y with | .inl s => M (decL (readL b)).length s | .inr k => X k) w') ?key ?mono
  case mono =>
    rintro x w' ⟨y, rfl, hy⟩
    cases y with
    | inl s => exact ⟨⟨_, rfl⟩, .inl ⟨s, hy⟩⟩
    | inr k => exact ⟨⟨_, rfl⟩, .inr ⟨k, hy⟩⟩
  refine calls_of (Y := ξ ⊕ κ) (v := fun _ => .tuple ⟨[]⟩) (B := fun y => match y with | .inl s => M (decL (readL b)).length s | .inr k => X k) Tryz.func127 rfl Tryz.ntmps127 rfl rfl
    (.own bx 50 [.slice a b.length c] :: .st (sl a c b) :: M 0 s0) ho ?_
  repeat (first|refine Wa ?_|refine Wb ?_|refine Wc ?_|refine Wd ?_|refine We rfl ?_|refine Wf (by first|exact Va|exact Vb|exact Vc|exact Vd|exact Ve|exact Vf|exact Vg|exact Vh|exact Vi|exact Vj|exact Vk (by omega)|exact Vl|exact Vm|exact Vn|exact Vo|exact Vp|exact Vq|exact Vr|exact Vs (by omega)|exact Vt (by omega)|exact Vu (by omega)|exact Vv (by omega)|exact Vw|exact Vx|exact Vy|exact Vz|exact VA|exact VB|exact VC|exact VD|exact VE|exact VF) rfl ?_|(refine Wg rfl ?_; intro _)|(refine Wh rfl ?_; intro _)|refine Wi ?_|refine Wj ?_|refine Wk ?_|refine Wl ?_|refine Wm ?_|refine Wn ?_|refine Wo ?_|refine Wp ?_|refine Wq rfl ?_|refine Wr ?_|refine Ws ?_|refine Wt ?_|refine Wu ?_|refine Wv rfl rfl ?_|(refine Ww rfl ⟨rfl, by decide, by decide, by decide⟩ ?_; intro _))
  refine JR.callSlT rfl (fun w1 hw => read_log w1 _ a c b (hw.get (A := sl a c b)) hb) ?_
  intro a3 c3
  generalize hrs : readL b = rs at hY hpre hfl hrl hsm hdl ⊢
  repeat (first|refine Wa ?_|refine Wb ?_|refine Wc ?_|refine Wd ?_|refine We rfl ?_|refine Wf (by first|exact Va|exact Vb|exact Vc|exact Vd|exact Ve|exact Vf|exact Vg|exact Vh|exact Vi|exact Vj|exact Vk (by omega)|exact Vl|exact Vm|exact Vn|exact Vo|exact Vp|exact Vq|exact Vr|exact Vs (by omega)|exact Vt (by omega)|exact Vu (by omega)|exact Vv (by omega)|exact Vw|exact Vx|exact Vy|exact Vz|exact VA|exact VB|exact VC|exact VD|exact VE|exact VF) rfl ?_|(refine Wg rfl ?_; intro _)|(refine Wh rfl ?_; intro _)|refine Wi ?_|refine Wj ?_|refine Wk ?_|refine Wl ?_|refine Wm ?_|refine Wn ?_|refine Wo ?_|refine Wp ?_|refine Wq rfl ?_|refine Wr ?_|refine Ws ?_|refine Wt ?_|refine Wu ?_|refine Wv rfl rfl ?_|(refine Ww rfl ⟨rfl, by decide, by decide, by decide⟩ ?_; intro _))
  refine JC.reslot 5 (.int .i64 ((framesL (rs.take 0)).length : Int)) rfl ?_
  refine JC.loop2 (fun (i : Nat) (s : ξ) => [(0, .func (.yield l) #[] #[]), (5, .int .i64 ((framesL (rs.take i)).length : Int)), (18, .slice a3 rs.length c3), (19, .int .i64 (rs.length : Int)), (20, .int .i64 (i : Int))])
    (fun i s => .st (sl a3 c3 rs) :: M i s) (fun i _ => i ≤ (decL rs).length) (fun i _ => rs.length - i) 0 s0 (Nat.zero_le _) inferInstance ?_
  intro i s hi
  repeat (first|refine Wa ?_|refine Wb ?_|refine Wc ?_|refine Wd ?_|refine We rfl ?_|refine Wf (by first|exact Va|exact Vb|exact Vc|exact Vd|exact Ve|exact Vf|exact Vg|exact Vh|exact Vi|exact Vj|exact Vk (by omega)|exact Vl|exact Vm|exact Vn|exact Vo|exact Vp|exact Vq|exact Vr|exact Vs (by omega)|exact Vt (by omega)|exact Vu (by omega)|exact Vv (by omega)|exact Vw|exact Vx|exact Vy|exact Vz|exact VA|exact VB|exact VC|exact VD|exact VE|exact VF) rfl ?_|(refine Wg rfl ?_; intro _)|(refine Wh rfl ?_; intro _)|refine Wi ?_|refine Wj ?_|refine Wk ?_|refine Wl ?_|refine Wm ?_|refine Wn ?_|refine Wo ?_|refine Wp ?_|refine Wq rfl ?_|refine Wr ?_|refine Ws ?_|refine Wt ?_|refine Wu ?_|refine Wv rfl rfl ?_|(refine Ww rfl ⟨rfl, by decide, by decide, by decide⟩ ?_; intro _))
  refine JC.test (fun h1 => ?_) (fun h1 => ?_)
  · have hlt : i < rs.length := by omega
    repeat (first|refine Wa ?_|refine Wb ?_|refine Wc ?_|refine Wd ?_|refine We rfl ?_|refine Wf (by first|exact Va|exact Vb|exact Vc|exact Vd|exact Ve|exact Vf|exact Vg|exact Vh|exact Vi|exact Vj|exact Vk (by omega)|exact Vl|exact Vm|exact Vn|exact Vo|exact Vp|exact Vq|exact Vr|exact Vs (by omega)|exact Vt (by omega)|exact Vu (by omega)|exact Vv (by omega)|exact Vw|exact Vx|exact Vy|exact Vz|exact VA|exact VB|exact VC|exact VD|exact VE|exact VF) rfl ?_|(refine Wg rfl ?_; intro _)|(refine Wh rfl ?_; intro _)|refine Wi ?_|refine Wj ?_|refine Wk ?_|refine Wl ?_|refine Wm ?_|refine Wn ?_|refine Wo ?_|refine Wp ?_|refine Wq rfl ?_|refine Wr ?_|refine Ws ?_|refine Wt ?_|refine Wu ?_|refine Wv rfl rfl ?_|(refine Ww rfl ⟨rfl, by decide, by decide, by decide⟩ ?_; intro _))
    have hx := hsm rs[i] (List.getElem_mem hlt)
    have hfr : frameT rs[i] = (frameL rs[i], 0) := if_neg (by omega)
    refine JR.indexBytes (k := i) rfl hlt ?_
    intro b5 o5 a5 c5
    repeat (first|refine Wa ?_|refine Wb ?_|refine Wc ?_|refine Wd ?_|refine We rfl ?_|refine Wf (by first|exact Va|exact Vb|exact Vc|exact Vd|exact Ve|exact Vf|exact Vg|exact Vh|exact Vi|exact Vj|exact Vk (by omega)|exact Vl|exact Vm|exact Vn|exact Vo|exact Vp|exact Vq|exact Vr|exact Vs (by omega)|exact Vt (by omega)|exact Vu (by omega)|exact Vv (by omega)|exact Vw|exact Vx|exact Vy|exact Vz|exact VA|exact VB|exact VC|exact VD|exact VE|exact VF) rfl ?_|(refine Wg rfl ?_; intro _)|(refine Wh rfl ?_; intro _)|refine Wi ?_|refine Wj ?_|refine Wk ?_|refine Wl ?_|refine Wm ?_|refine Wn ?_|refine Wo ?_|refine Wp ?_|refine Wq rfl ?_|refine Wr ?_|refine Ws ?_|refine Wt ?_|refine Wu ?_|refine Wv rfl rfl ?_|(refine Ww rfl ⟨rfl, by decide, by decide, by decide⟩ ?_; intro _))
    refine JR.callSlT rfl (fun w1 hw => frame_log w1 _ a5 c5 rs[i] (hw.get (A := sl a5 c5 rs[i]))) ?_
    rw [hfr]
    intro a6 c6
    dsimp only
    have hnx := framesL_next hlt
    have hle := framesL_take_le rs (i + 1)
    repeat (first|refine Wa ?_|refine Wb ?_|refine Wc ?_|refine Wd ?_|refine We rfl ?_|refine Wf (by first|exact Va|exact Vb|exact Vc|exact Vd|exact Ve|exact Vf|exact Vg|exact Vh|exact Vi|exact Vj|exact Vk (by omega)|exact Vl|exact Vm|exact Vn|exact Vo|exact Vp|exact Vq|exact Vr|exact Vs (by omega)|exact Vt (by omega)|exact Vu (by omega)|exact Vv (by omega)|exact Vw|exact Vx|exact Vy|exact Vz|exact VA|exact VB|exact VC|exact VD|exact VE|exact VF) rfl ?_|(refine Wg rfl ?_; intro _)|(refine Wh rfl ?_; intro _)|refine Wi ?_|refine Wj ?_|refine Wk ?_|refine Wl ?_|refine Wm ?_|refine Wn ?_|refine Wo ?_|refine Wp ?_|refine Wq rfl ?_|refine Wr ?_|refine Ws ?_|refine Wt ?_|refine Wu ?_|refine Wv rfl rfl ?_|(refine Ww rfl ⟨rfl, by decide, by decide, by decide⟩ ?_; intro _))
    refine JR.call2 (B := fun y : GetY rs[i] => .st (sl y.pa y.pc (getT rs[i]).1.parents)) (C := fun y : GetY rs[i] => .st (sl y.ra y.rc (getT rs[i]).2.1)) rfl (fun w1 hw => get_com w1 _ a5 c5 rs[i] (hw.get (A := sl a5 c5 rs[i])) (by omega)) ?_
    rintro ⟨pa, pc, ra, rc⟩
    dsimp only
    by_cases hd : i < (decL rs).length
    · have hg := decL_at rs i hd hlt
      have hT : getT rs[i] = ((decL rs)[i], [], 0) := getT_some hg
      rw [hT]
      dsimp only
      have hcm : comAt b i = (decL rs)[i] := by unfold comAt; rw [hrs, List.getD_eq_getElem?_getD, List.getElem?_eq_getElem hd]; rfl
      have hend : endAt b i = (framesL (rs.take (i + 1))).length := by unfold endAt; rw [hrs]
      generalize (decL rs)[i] = cm at hg hcm ⊢
      repeat (first|refine Wd ?_|refine We rfl ?_|refine Wf (by first|exact Va|exact Vb|exact Vc|exact Vd|exact Ve|exact Vf|exact Vg|exact Vh|exact Vi|exact Vj|exact Vk (by omega)|exact Vl|exact Vm|exact Vn|exact Vo|exact Vp|exact Vq|exact Vr|exact Vs (by omega)|exact Vt (by omega)|exact Vu (by omega)|exact Vv (by omega)|exact Vw|exact Vx|exact Vy|exact Vz|exact VA|exact VB|exact VC|exact VD|exact VE|exact VF) rfl ?_|(refine Wg rfl ?_; intro _)|(refine Wh rfl ?_; intro _)|refine Wi ?_|refine Wv rfl rfl ?_)
      rename_i bc
      refine Wa ?_
      refine Wb ?_
      refine JC.regionY ?_
      repeat (first|refine JY.val rfl (by first|exact Va|exact Vb|exact Vc|exact Vd|exact Ve|exact Vf|exact Vg|exact Vh|exact Vi|exact Vj|exact Vk (by omega)|exact Vl|exact Vm|exact Vn|exact Vo|exact Vp|exact Vq|exact Vr|exact Vs (by omega)|exact Vt (by omega)|exact Vu (by omega)|exact Vv (by omega)|exact Vw|exact Vx|exact Vy|exact Vz|exact VA|exact VB|exact VC|exact VD|exact VE|exact VF) rfl ?_|refine JY.omit rfl rfl ?_|refine JY.skip rfl rfl ?_|refine JY.nil ?_)
      refine JY.reslot 49 (.int .i64 ((framesL (rs.take (i + 1))).length : Int)) (by congr 1; omega) ?_
      refine JY.reslot 5 (.int .i64 ((framesL (rs.take (i + 1))).length : Int)) (by congr 1; omega) ?_
      refine JY.yield (l := l) (κ := κ) (ξ := ξ) (Γt := fun s => .st (sl a3 c3 rs) :: M (i + 1) s) (Γf := fun k => .st (sl a3 c3 rs) :: X k) rfl rfl (fun w1 ho => ?_) (fun s2 => ?_) (fun k => ?_)
      · have hy := hY i hd (pa, pc) s [.st (sl a3 c3 rs)] w1
        dsimp only at hy
        rw [hcm, hend] at hy
        exact hy (ho.ent : Hold w0 F (.st (sl pa pc cm.parents) :: .st (sl a3 c3 rs) :: M i s) w1)
      · repeat (first|refine JY.val rfl (by first|exact Va|exact Vb|exact Vc|exact Vd|exact Ve|exact Vf|exact Vg|exact Vh|exact Vi|exact Vj|exact Vk (by omega)|exact Vl|exact Vm|exact Vn|exact Vo|exact Vp|exact Vq|exact Vr|exact Vs (by omega)|exact Vt (by omega)|exact Vu (by omega)|exact Vv (by omega)|exact Vw|exact Vx|exact Vy|exact Vz|exact VA|exact VB|exact VC|exact VD|exact VE|exact VF) rfl ?_|refine JY.omit rfl rfl ?_|refine JY.skip rfl rfl ?_|refine JY.nil ?_)
        repeat (first|refine Wa ?_|refine Wb ?_|refine Wc ?_|refine Wd ?_|refine We rfl ?_|refine Wf (by first|exact Va|exact Vb|exact Vc|exact Vd|exact Ve|exact Vf|exact Vg|exact Vh|exact Vi|exact Vj|exact Vk (by omega)|exact Vl|exact Vm|exact Vn|exact Vo|exact Vp|exact Vq|exact Vr|exact Vs (by omega)|exact Vt (by omega)|exact Vu (by omega)|exact Vv (by omega)|exact Vw|exact Vx|exact Vy|exact Vz|exact VA|exact VB|exact VC|exact VD|exact VE|exact VF) rfl ?_|(refine Wg rfl ?_; intro _)|(refine Wh rfl ?_; intro _)|refine Wi ?_|refine Wj ?_|refine Wk ?_|refine Wl ?_|refine Wm ?_|refine Wn ?_|refine Wo ?_|refine Wp ?_|refine Wq rfl ?_|refine Wr ?_|refine Ws ?_|refine Wt ?_|refine Wu ?_|refine Wv rfl rfl ?_|(refine Ww rfl ⟨rfl, by decide, by decide, by decide⟩ ?_; intro _))
        exact ⟨i + 1, s2, by omega, by omega, inferInstance⟩
      · repeat (first|refine JY.val rfl (by first|exact Va|exact Vb|exact Vc|exact Vd|exact Ve|exact Vf|exact Vg|exact Vh|exact Vi|exact Vj|exact Vk (by omega)|exact Vl|exact Vm|exact Vn|exact Vo|exact Vp|exact Vq|exact Vr|exact Vs (by omega)|exact Vt (by omega)|exact Vu (by omega)|exact Vv (by omega)|exact Vw|exact Vx|exact Vy|exact Vz|exact VA|exact VB|exact VC|exact VD|exact VE|exact VF) rfl ?_|refine JY.omit rfl rfl ?_|refine JY.skip rfl rfl ?_|refine JY.nil ?_)
        repeat (first|refine Wa ?_|refine Wb ?_|refine Wc ?_|refine Wd ?_|refine We rfl ?_|refine Wf (by first|exact Va|exact Vb|exact Vc|exact Vd|exact Ve|exact Vf|exact Vg|exact Vh|exact Vi|exact Vj|exact Vk (by omega)|exact Vl|exact Vm|exact Vn|exact Vo|exact Vp|exact Vq|exact Vr|exact Vs (by omega)|exact Vt (by omega)|exact Vu (by omega)|exact Vv (by omega)|exact Vw|exact Vx|exact Vy|exact Vz|exact VA|exact VB|exact VC|exact VD|exact VE|exact VF) rfl ?_|(refine Wg rfl ?_; intro _)|(refine Wh rfl ?_; intro _)|refine Wi ?_|refine Wj ?_|refine Wk ?_|refine Wl ?_|refine Wm ?_|refine Wn ?_|refine Wo ?_|refine Wp ?_|refine Wq rfl ?_|refine Wr ?_|refine Ws ?_|refine Wt ?_|refine Wu ?_|refine Wv rfl rfl ?_|(refine Ww rfl ⟨rfl, by decide, by decide, by decide⟩ ?_; intro _))
        exact CT.done (.inr k) rfl (fun w ho => ho.ent)
    · obtain rfl : i = (decL rs).length := by omega
      have hne := decL_end rs hlt
      cases hg : getC (rs[(decL rs).length]) with
      | none =>
        rw [getT_none hg]
        dsimp only
        repeat (first|refine Wa ?_|refine Wb ?_|refine Wc ?_|refine Wd ?_|refine We rfl ?_|refine Wf (by first|exact Va|exact Vb|exact Vc|exact Vd|exact Ve|exact Vf|exact Vg|exact Vh|exact Vi|exact Vj|exact Vk (by omega)|exact Vl|exact Vm|exact Vn|exact Vo|exact Vp|exact Vq|exact Vr|exact Vs (by omega)|exact Vt (by omega)|exact Vu (by omega)|exact Vv (by omega)|exact Vw|exact Vx|exact Vy|exact Vz|exact VA|exact VB|exact VC|exact VD|exact VE|exact VF) rfl ?_|(refine Wg rfl ?_; intro _)|(refine Wh rfl ?_; intro _)|refine Wi ?_|refine Wj ?_|refine Wk ?_|refine Wl ?_|refine Wm ?_|refine Wn ?_|refine Wo ?_|refine Wp ?_|refine Wq rfl ?_|refine Wr ?_|refine Ws ?_|refine Wt ?_|refine Wu ?_|refine Wv rfl rfl ?_|(refine Ww rfl ⟨rfl, by decide, by decide, by decide⟩ ?_; intro _)|refine Wx rfl rfl ?_)
        exact CT.done (.inl s) rfl (fun w ho => ho.ent)
      | some q =>
        obtain ⟨cm, R⟩ := q
        rw [getT_some hg]
        dsimp only
        have hR : 0 < R.length := by
          cases R with
          | nil => exact (hne ⟨cm, hg⟩).elim
          | cons r R => simp
        repeat (first|refine Wa ?_|refine Wb ?_|refine Wc ?_|refine Wd ?_|refine We rfl ?_|refine Wf (by first|exact Va|exact Vb|exact Vc|exact Vd|exact Ve|exact Vf|exact Vg|exact Vh|exact Vi|exact Vj|exact Vk (by omega)|exact Vl|exact Vm|exact Vn|exact Vo|exact Vp|exact Vq|exact Vr|exact Vs (by omega)|exact Vt (by omega)|exact Vu (by omega)|exact Vv (by omega)|exact Vw|exact Vx|exact Vy|exact Vz|exact VA|exact VB|exact VC|exact VD|exact VE|exact VF) rfl ?_|(refine Wg rfl ?_; intro _)|(refine Wh rfl ?_; intro _)|refine Wi ?_|refine Wj ?_|refine Wk ?_|refine Wl ?_|refine Wm ?_|refine Wn ?_|refine Wo ?_|refine Wp ?_|refine Wq rfl ?_|refine Wr ?_|refine Ws ?_|refine Wt ?_|refine Wu ?_|refine Wv rfl rfl ?_|(refine Ww rfl ⟨rfl, by decide, by decide, by decide⟩ ?_; intro _)|refine Wx rfl rfl ?_)
        refine JO.test 46 (fun h6 => ?_) (fun h6 => absurd h6 (by omega))
        repeat (first|refine Wa ?_|refine Wb ?_|refine Wc ?_|refine Wd ?_|refine We rfl ?_|refine Wf (by first|exact Va|exact Vb|exact Vc|exact Vd|exact Ve|exact Vf|exact Vg|exact Vh|exact Vi|exact Vj|exact Vk (by omega)|exact Vl|exact Vm|exact Vn|exact Vo|exact Vp|exact Vq|exact Vr|exact Vs (by omega)|exact Vt (by omega)|exact Vu (by omega)|exact Vv (by omega)|exact Vw|exact Vx|exact Vy|exact Vz|exact VA|exact VB|exact VC|exact VD|exact VE|exact VF) rfl ?_|(refine Wg rfl ?_; intro _)|(refine Wh rfl ?_; intro _)|refine Wi ?_|refine Wj ?_|refine Wk ?_|refine Wl ?_|refine Wm ?_|refine Wn ?_|refine Wo ?_|refine Wp ?_|refine Wq rfl ?_|refine Wr ?_|refine Ws ?_|refine Wt ?_|refine Wu ?_|refine Wv rfl rfl ?_|(refine Ww rfl ⟨rfl, by decide, by decide, by decide⟩ ?_; intro _)|refine Wx rfl rfl ?_)
        exact CT.done (.inl s) rfl (fun w ho => ho.ent)
  · obtain rfl : i = (decL rs).length := by omega
    repeat (first|refine Wa ?_|refine Wb ?_|refine Wc ?_|refine Wd ?_|refine We rfl ?_|refine Wf (by first|exact Va|exact Vb|exact Vc|exact Vd|exact Ve|exact Vf|exact Vg|exact Vh|exact Vi|exact Vj|exact Vk (by omega)|exact Vl|exact Vm|exact Vn|exact Vo|exact Vp|exact Vq|exact Vr|exact Vs (by omega)|exact Vt (by omega)|exact Vu (by omega)|exact Vv (by omega)|exact Vw|exact Vx|exact Vy|exact Vz|exact VA|exact VB|exact VC|exact VD|exact VE|exact VF) rfl ?_|(refine Wg rfl ?_; intro _)|(refine Wh rfl ?_; intro _)|refine Wi ?_|refine Wj ?_|refine Wk ?_|refine Wl ?_|refine Wm ?_|refine Wn ?_|refine Wo ?_|refine Wp ?_|refine Wq rfl ?_|refine Wr ?_|refine Ws ?_|refine Wt ?_|refine Wu ?_|refine Wv rfl rfl ?_|(refine Ww rfl ⟨rfl, by decide, by decide, by decide⟩ ?_; intro _)|refine Wx rfl rfl ?_)
    exact CT.doneN (.inl s) rfl (fun w ho => ho.ent)
end Ab
end Go.Proofs.YtglclakhjmogiaaGreat

/- Contract: store.Load. -/
namespace Go.Proofs.YtglclakhjmogiaaGreat
namespace Ab
open Go Go.RowKit
set_option linter.unusedVariables false
set_option linter.unusedSimpArgs false
set_option synthInstance.maxSize 4000
set_option synthInstance.maxHeartbeats 400000
attribute [local irreducible] JC JO JR JQ andThen inBlock OpV Gives retTo JM JS

attribute [local irreducible] JY JI JX hashC
theorem dec_fine {l : List (List UInt8)} {c : Commit} (h : c ∈ decL l) : fine c := by
  obtain ⟨i, hi, rfl⟩ := List.getElem_of_mem h
  obtain ⟨h1, h2⟩ := getC_may (decL_at l i hi (Nat.lt_of_lt_of_le hi (decL_le l)))
  exact ⟨h2, by have := may_parents h1; omega⟩
set_option maxHeartbeats 4000000 in
theorem load_store (w : World) (F : Nat → Prop) (a : Option Addr) (c : Nat) (b : List UInt8) (h : (sl a c b).holds F w) (hb : b.length ≤ 1048576) :
    GivesSlT Tryz.prog 43 [.slice a b.length c] w F (loadL b) [.int .i64 (loadEnd b : Int)] := by
  obtain ⟨xs, hxs⟩ : ∃ xs, xs = decL (readL b) := ⟨_, rfl⟩
  obtain ⟨rs, hrs⟩ : ∃ rs, rs = readL b := ⟨_, rfl⟩
  refine gives_range Tryz.func43 rfl Tryz.ntmps43 rfl rfl [.st (sl a c b)] (.start1 h) ?_
  refine JX.seq ?_
  repeat (first|refine Wa ?_|refine Wb ?_|refine Wc ?_|refine Wd ?_|refine We rfl ?_|refine Wf (by first|exact Va|exact Vb|exact Vc|exact Vd|exact Ve|exact Vf|exact Vg|exact Vh|exact Vi|exact Vj|exact Vk (by omega)|exact Vl|exact Vm|exact Vn|exact Vo|exact Vp|exact Vq|exact Vr|exact Vs (by omega)|exact Vt (by omega)|exact Vu (by omega)|exact Vv (by omega)|exact Vw|exact Vx|exact Vy|exact Vz|exact VA|exact VB|exact VC|exact VD|exact VE|exact VF) rfl ?_|(refine Wg rfl ?_; intro _)|(refine Wh rfl ?_; intro _)|refine Wi ?_|refine Wj ?_|refine Wk ?_|refine Wl ?_|refine Wm ?_|refine Wn ?_|refine Wo ?_|refine Wp ?_|refine Wq rfl ?_|refine Wr ?_|refine Ws ?_|refine Wt ?_|refine Wu ?_|refine Wv rfl rfl ?_|(refine Ww rfl ⟨rfl, by decide, by decide, by decide⟩ ?_; intro _))
  rename_i b2 b3
  refine ⟨rfl, JX.seq ?_⟩
  repeat (first|refine Wa ?_|refine Wb ?_|refine Wc ?_|refine Wd ?_|refine We rfl ?_|refine Wf (by first|exact Va|exact Vb|exact Vc|exact Vd|exact Ve|exact Vf|exact Vg|exact Vh|exact Vi|exact Vj|exact Vk (by omega)|exact Vl|exact Vm|exact Vn|exact Vo|exact Vp|exact Vq|exact Vr|exact Vs (by omega)|exact Vt (by omega)|exact Vu (by omega)|exact Vv (by omega)|exact Vw|exact Vx|exact Vy|exact Vz|exact VA|exact VB|exact VC|exact VD|exact VE|exact VF) rfl ?_|(refine Wg rfl ?_; intro _)|(refine Wh rfl ?_; intro _)|refine Wi ?_|refine Wj ?_|refine Wk ?_|refine Wl ?_|refine Wm ?_|refine Wn ?_|refine Wo ?_|refine Wp ?_|refine Wq rfl ?_|refine Wr ?_|refine Ws ?_|refine Wt ?_|refine Wu ?_|refine Wv rfl rfl ?_|(refine Ww rfl ⟨rfl, by decide, by decide, by decide⟩ ?_; intro _))
  rename_i b4
  refine ⟨rfl, JX.seq ?_⟩
  repeat (first|refine Wa ?_|refine Wb ?_|refine Wc ?_|refine Wd ?_|refine We rfl ?_|refine Wf (by first|exact Va|exact Vb|exact Vc|exact Vd|exact Ve|exact Vf|exact Vg|exact Vh|exact Vi|exact Vj|exact Vk (by omega)|exact Vl|exact Vm|exact Vn|exact Vo|exact Vp|exact Vq|exact Vr|exact Vs (by omega)|exact Vt (by omega)|exact Vu (by omega)|exact Vv (by omega)|exact Vw|exact Vx|exact Vy|exact Vz|exact VA|exact VB|exact VC|exact VD|exact VE|exact VF) rfl ?_|(refine Wg rfl ?_; intro _)|(refine Wh rfl ?_; intro _)|refine Wi ?_|refine Wj ?_|refine Wk ?_|refine Wl ?_|refine Wm ?_|refine Wn ?_|refine Wo ?_|refine Wp ?_|refine Wq rfl ?_|refine Wr ?_|refine Ws ?_|refine Wt ?_|refine Wu ?_|refine Wv rfl rfl ?_|(refine Ww rfl ⟨rfl, by decide, by decide, by decide⟩ ?_; intro _))
  rename_i b5
  refine ⟨rfl, JX.seqX (JX.seq ?_)⟩
  repeat (first|refine Wa ?_|refine Wb ?_|refine Wc ?_|refine Wd ?_|refine We rfl ?_|refine Wf (by first|exact Va|exact Vb|exact Vc|exact Vd|exact Ve|exact Vf|exact Vg|exact Vh|exact Vi|exact Vj|exact Vk (by omega)|exact Vl|exact Vm|exact Vn|exact Vo|exact Vp|exact Vq|exact Vr|exact Vs (by omega)|exact Vt (by omega)|exact Vu (by omega)|exact Vv (by omega)|exact Vw|exact Vx|exact Vy|exact Vz|exact VA|exact VB|exact VC|exact VD|exact VE|exact VF) rfl ?_|(refine Wg rfl ?_; intro _)|(refine Wh rfl ?_; intro _)|refine Wi ?_|refine Wj ?_|refine Wk ?_|refine Wl ?_|refine Wm ?_|refine Wn ?_|refine Wo ?_|refine Wp ?_|refine Wq rfl ?_|refine Wr ?_|refine Ws ?_|refine Wt ?_|refine Wu ?_|refine Wv rfl rfl ?_|(refine Ww rfl ⟨rfl, by decide, by decide, by decide⟩ ?_; intro _))
  refine JR.call1 (B := fun y : Nat => .own y 50 [.slice a b.length c]) rfl (fun w1 hw => commits_store w1 _ a c b (hw.get (A := sl a c b))) ?_
  intro bx
  repeat (first|refine Wa ?_|refine Wb ?_|refine Wc ?_|refine Wd ?_|refine We rfl ?_|refine Wf (by first|exact Va|exact Vb|exact Vc|exact Vd|exact Ve|exact Vf|exact Vg|exact Vh|exact Vi|exact Vj|exact Vk (by omega)|exact Vl|exact Vm|exact Vn|exact Vo|exact Vp|exact Vq|exact Vr|exact Vs (by omega)|exact Vt (by omega)|exact Vu (by omega)|exact Vv (by omega)|exact Vw|exact Vx|exact Vy|exact Vz|exact VA|exact VB|exact VC|exact VD|exact VE|exact VF) rfl ?_|(refine Wg rfl ?_; intro _)|(refine Wh rfl ?_; intro _)|refine Wi ?_|refine Wj ?_|refine Wk ?_|refine Wl ?_|refine Wm ?_|refine Wn ?_|refine Wo ?_|refine Wp ?_|refine Wq rfl ?_|refine Wr ?_|refine Ws ?_|refine Wt ?_|refine Wu ?_|refine Wv rfl rfl ?_|(refine Ww rfl ⟨rfl, by decide, by decide, by decide⟩ ?_; intro _))
  refine ⟨rfl, JX.block ?_⟩
  let E0 : E := [(2, .pointer (some ⟨b2, 0, none⟩)), (3, .pointer (some ⟨b3, 0, none⟩)), (4, .pointer (some ⟨b4, 0, none⟩)), (5, .pointer (some ⟨b5, 0, none⟩))]
  have hiter := iter_commits w F bx a c b hb
  rw [← hxs] at hiter
  refine JX.range (ξ := Option Addr × Nat) (κ := Option Addr × Nat) (ζ := Nat)
    (fun i s => [.own b2 22 [.slice none 0 0], .own b3 3 [.int .i64 0], .own b4 22 [.slice s.1 (xs.take i).length s.2], .own b5 3 [.int .i64 ((framesL (rs.take i)).length : Int)], .res (buf s.1 s.2 34 (xs.take i)), .st (tru (closeF [] xs = closeF (xs.take i) (xs.drop i)))])
    (fun k => [.own b2 22 [.slice k.1 (loadL b).length k.2], .own b3 3 [.int .i64 (loadEnd b : Int)], .st (sl k.1 k.2 (loadL b))])
    (fun i u s z => (7, .int .i64 (endAt b i : Int)) :: (6, .pointer (some ⟨z, 0, none⟩)) :: E0)
    (fun i u s z => [.own z 34 [.int .i64 (comAt b i).ev.node, .int .i64 (comAt b i).ev.seq, .int .i64 (comAt b i).gen, .slice u.1 (comAt b i).parents.length u.2, .int .i64 (comAt b i).op.kind, .string (comAt b i).op.key, .string (comAt b i).op.elem, .int .i64 (comAt b i).op.n], .st (sl u.1 u.2 (comAt b i).parents),
      .own b2 22 [.slice none 0 0], .own b3 3 [.int .i64 0], .own b4 22 [.slice s.1 (xs.take i).length s.2], .own b5 3 [.int .i64 ((framesL (rs.take i)).length : Int)], .res (buf s.1 s.2 34 (xs.take i)), .st (tru (closeF [] xs = closeF (xs.take i) (xs.drop i)))])
    (none, 0) rfl rfl hiter ?h0 ?ha ?hbd ?kn ?kr
  case h0 =>
    intro w1 ho
    show Hold w F [.own bx 50 [.slice a b.length c], .st (sl a c b), .own b2 22 [.slice none 0 0], .own b3 3 [.int .i64 0], .own b4 22 [.slice none 0 0], .own b5 3 [.int .i64 0], .res (buf (α := Commit) none 0 34 []), .st (tru (closeF [] xs = closeF (xs.take 0) (xs.drop 0)))] w1
    have := ((ho.ent : Hold w F [.own bx 50 [.slice a b.length c], .st (sl a c b), .own b2 22 [.slice none 0 0], .own b3 3 [.int .i64 0], .own b4 22 [.slice none 0 0], .own b5 3 [.int .i64 0]] w1).add (A := tru (closeF [] xs = closeF (xs.take 0) (xs.drop 0))) rfl)
    exact (this.bufNil (α := Commit) (el := 34) (Γ' := .st (tru (closeF [] xs = closeF (xs.take 0) (xs.drop 0))) :: [.own bx 50 [.slice a b.length c], .st (sl a c b), .own b2 22 [.slice none 0 0], .own b3 3 [.int .i64 0], .own b4 22 [.slice none 0 0], .own b5 3 [.int .i64 0]])).ent
  case ha =>
    rintro i hi ⟨pa, pc⟩ ⟨p, q⟩ Γ l
    dsimp only [List.cons_append, List.nil_append]
    repeat (first|refine Wa ?_|refine JI.seq ?_|refine JI.region rfl ?_|refine Wd ?_|refine We rfl ?_|refine Wf (by first|exact Va|exact Vb|exact Vc|exact Vd|exact Ve|exact Vf|exact Vg|exact Vh|exact Vi|exact Vj|exact Vk (by omega)|exact Vl|exact Vm|exact Vn|exact Vo|exact Vp|exact Vq|exact Vr|exact Vs (by omega)|exact Vt (by omega)|exact Vu (by omega)|exact Vv (by omega)|exact Vw|exact Vx|exact Vy|exact Vz|exact VA|exact VB|exact VC|exact VD|exact VE|exact VF) rfl ?_|(refine Wg rfl ?_; intro _)|(refine Wh rfl ?_; intro _)|refine Wi ?_|refine JI.cond_true ?_|refine JI.cond_false ?_|refine JI.skip ?_|refine JI.ret ?_|refine Wt ?_|refine JI.block ?_|refine Wr ?_|refine Wu ?_|refine Wv rfl rfl ?_|(refine Ww rfl ⟨rfl, by decide, by decide, by decide⟩ ?_; intro _))
    rename_i z
    exact ⟨rfl, z, inferInstance⟩
  case hbd =>
    rintro i hi ⟨pa, pc⟩ ⟨p, q⟩ z Γ l
    dsimp only [List.cons_append, List.nil_append]
    have hxi : comAt b i = xs[i] := by unfold comAt; rw [← hxs, List.getD_eq_getElem?_getD, List.getElem?_eq_getElem hi]; rfl
    have hfn : ∀ x ∈ xs.take (i + 1), fine x := fun x hx => dec_fine (by rw [← hxs]; exact List.mem_of_mem_take hx)
    have hdl := decL_le (readL b)
    have hrl := length_framesL (readL b)
    have hpre : (framesL (readL b)).length ≤ b.length := (readF_pre _ _ : framesL (readL b) <+: b).length_le
    rw [← hxs] at hdl
    have hlen : (xs.take i).length = i := by rw [List.length_take]; omega
    have hnext : xs.take (i + 1) = xs.take i ++ [comAt b i] := by rw [hxi]; exact List.take_succ_eq_append_getElem hi
    refine JI.know (fun w1 ho => (ho.get (A := tru (closeF [] xs = closeF (xs.take i) (xs.drop i))))) ?_
    intro hcl
    generalize comAt b i = cm at hnext hxi ⊢
    repeat (first|refine Wa ?_|refine JI.seq ?_|refine JI.region rfl ?_|refine Wd ?_|refine We rfl ?_|refine Wf (by first|exact Va|exact Vb|exact Vc|exact Vd|exact Ve|exact Vf|exact Vg|exact Vh|exact Vi|exact Vj|exact Vk (by omega)|exact Vl|exact Vm|exact Vn|exact Vo|exact Vp|exact Vq|exact Vr|exact Vs (by omega)|exact Vt (by omega)|exact Vu (by omega)|exact Vv (by omega)|exact Vw|exact Vx|exact Vy|exact Vz|exact VA|exact VB|exact VC|exact VD|exact VE|exact VF) rfl ?_|(refine Wg rfl ?_; intro _)|(refine Wh rfl ?_; intro _)|refine Wi ?_|refine JI.cond_true ?_|refine JI.cond_false ?_|refine JI.skip ?_|refine JI.ret ?_|refine Wt ?_|refine JI.block ?_|refine Wr ?_|refine Wu ?_|refine Wv rfl rfl ?_|(refine Ww rfl ⟨rfl, by decide, by decide, by decide⟩ ?_; intro _))
    rename_i bl
    refine JR.append1 (L := xs.take i) (u := cm) rfl (by exact ⟨rfl, rfl, by decide⟩) (by omega) ?_
    intro a6 c6
    rw [← hnext]
    repeat (first|refine Wa ?_|refine JI.seq ?_|refine JI.region rfl ?_|refine Wd ?_|refine We rfl ?_|refine Wf (by first|exact Va|exact Vb|exact Vc|exact Vd|exact Ve|exact Vf|exact Vg|exact Vh|exact Vi|exact Vj|exact Vk (by omega)|exact Vl|exact Vm|exact Vn|exact Vo|exact Vp|exact Vq|exact Vr|exact Vs (by omega)|exact Vt (by omega)|exact Vu (by omega)|exact Vv (by omega)|exact Vw|exact Vx|exact Vy|exact Vz|exact VA|exact VB|exact VC|exact VD|exact VE|exact VF) rfl ?_|(refine Wg rfl ?_; intro _)|(refine Wh rfl ?_; intro _)|refine Wi ?_|refine JI.cond_true ?_|refine JI.cond_false ?_|refine JI.skip ?_|refine JI.ret ?_|refine Wt ?_|refine JI.block ?_|refine Wr ?_|refine Wu ?_|refine Wv rfl rfl ?_|(refine Ww rfl ⟨rfl, by decide, by decide, by decide⟩ ?_; intro _))
    have hend : endAt b i = (framesL (rs.take (i + 1))).length := by unfold endAt; rw [← hrs]
    rw [hend]
    have hlen1 : (xs.take (i + 1)).length = i + 1 := by rw [List.length_take]; omega
    by_cases hc : Closed (xs.take (i + 1))
    · have hst := closeF_step hi hcl hc
      refine JR.callV rfl (fun w1 hw => (closed_yes w1 (fun _ => True) a6 c6 (xs.take (i + 1)) (Hold.bufSlOf (α := Commit) (a := a6) (c := c6) (el := 34) (L := xs.take (i + 1)) hw) (by omega) hfn hc).any) ?_
      repeat (first|refine Wa ?_|refine JI.seq ?_|refine JI.region rfl ?_|refine Wd ?_|refine We rfl ?_|refine Wf (by first|exact Va|exact Vb|exact Vc|exact Vd|exact Ve|exact Vf|exact Vg|exact Vh|exact Vi|exact Vj|exact Vk (by omega)|exact Vl|exact Vm|exact Vn|exact Vo|exact Vp|exact Vq|exact Vr|exact Vs (by omega)|exact Vt (by omega)|exact Vu (by omega)|exact Vv (by omega)|exact Vw|exact Vx|exact Vy|exact Vz|exact VA|exact VB|exact VC|exact VD|exact VE|exact VF) rfl ?_|(refine Wg rfl ?_; intro _)|(refine Wh rfl ?_; intro _)|refine Wi ?_|refine JI.cond_true ?_|refine JI.cond_false ?_|refine JI.skip ?_|refine JI.ret ?_|refine Wt ?_|refine JI.block ?_|refine Wr ?_|refine Wu ?_|refine Wv rfl rfl ?_|(refine Ww rfl ⟨rfl, by decide, by decide, by decide⟩ ?_; intro _))
      refine .inl ⟨rfl, (a6, c6), fun w1 ho => ?_⟩
      exact (ho.add (A := tru (closeF [] xs = closeF (xs.take (i + 1)) (xs.drop (i + 1)))) hst).ent
    · have hst : loadL b = xs.take i := by unfold loadL; rw [← hxs]; exact closeF_stop hi hcl hc
      have hle : loadEnd b = (framesL (rs.take i)).length := by unfold loadEnd; rw [hst, hlen, ← hrs]
      rw [hst, hle]
      refine JR.callV rfl (fun w1 hw => (closed_no w1 (fun _ => True) a6 c6 (xs.take (i + 1)) (Hold.bufSlOf (α := Commit) (a := a6) (c := c6) (el := 34) (L := xs.take (i + 1)) hw) (by omega) hfn hc).any) ?_
      repeat (first|refine Wa ?_|refine JI.seq ?_|refine JI.region rfl ?_|refine Wd ?_|refine We rfl ?_|refine Wf (by first|exact Va|exact Vb|exact Vc|exact Vd|exact Ve|exact Vf|exact Vg|exact Vh|exact Vi|exact Vj|exact Vk (by omega)|exact Vl|exact Vm|exact Vn|exact Vo|exact Vp|exact Vq|exact Vr|exact Vs (by omega)|exact Vt (by omega)|exact Vu (by omega)|exact Vv (by omega)|exact Vw|exact Vx|exact Vy|exact Vz|exact VA|exact VB|exact VC|exact VD|exact VE|exact VF) rfl ?_|(refine Wg rfl ?_; intro _)|(refine Wh rfl ?_; intro _)|refine Wi ?_|refine JI.cond_true ?_|refine JI.cond_false ?_|refine JI.skip ?_|refine JI.ret ?_|refine Wt ?_|refine JI.block ?_|refine Wr ?_|refine Wu ?_|refine Wv rfl rfl ?_|(refine Ww rfl ⟨rfl, by decide, by decide, by decide⟩ ?_; intro _))
      refine JI.more (Γ' := .st (sl a6 c6 (xs.take (i + 1))) :: .own b2 22 [.slice none 0 0] :: .own b3 3 [.int .i64 0] :: .own b4 22 [.slice a6 (xs.take (i + 1)).length c6] :: .own b5 3 [.int .i64 ((framesL (rs.take i)).length : Int)] :: Γ) (fun w1 ho => (ho.ent : Hold w F (.res (buf a6 c6 34 (xs.take (i + 1))) :: .own b2 22 [.slice none 0 0] :: .own b3 3 [.int .i64 0] :: .own b4 22 [.slice a6 (xs.take (i + 1)).length c6] :: .own b5 3 [.int .i64 ((framesL (rs.take i)).length : Int)] :: Γ) w1).pub) ?_
      refine JI.drawP mixed rfl ?_
      refine JP.take 0 [.own b4 22 [.slice a6 (xs.take (i + 1)).length c6]] rfl (by kernel_rfl) rfl Vc rfl rfl ?_
      refine JP.take 1 [.own b4 22 [.slice a6 (xs.take (i + 1)).length c6]] rfl (by kernel_rfl) rfl Vc rfl rfl ?_
      refine JP.pure 2 rfl (by kernel_rfl) rfl (fun _ => Vf) rfl rfl ?_
      refine JP.pure 3 rfl (by kernel_rfl) rfl (fun _ => Vv (by omega)) rfl rfl ?_
      refine JP.reslot 22 (.int .i64 (i : Int)) (by congr 1; omega) ?_
      refine JP.take 4 [.st (sl a6 c6 (xs.take (i + 1)))] rfl (by kernel_rfl) rfl (OpV.sliceToV (k := i) (fun w1 ho => by have := (Hold.get (A := sl a6 c6 (xs.take (i + 1))) ho).1; omega)) rfl rfl ?_
      refine JP.take 5 [.own b5 3 [.int .i64 ((framesL (rs.take i)).length : Int)]] rfl (by kernel_rfl) rfl Vc rfl rfl ?_
      refine JP.op 6 (by kernel_rfl) rfl rfl (Wi (Wd ⟨rfl, (by repeat (first|exact Obs.nil|refine Obs.keep ?_|refine Obs.skip (by kernel_rfl) ?_)), ?_⟩))
      refine JP.op 7 (by kernel_rfl) rfl rfl (Wi (Wd ⟨rfl, (by repeat (first|exact Obs.nil|refine Obs.keep ?_|refine Obs.skip (by kernel_rfl) ?_)), ?_⟩))
      refine JP.nil (by kernel_rfl) ?_
      repeat (first|refine Wa ?_|refine JI.seq ?_|refine JI.region rfl ?_|refine Wd ?_|refine We rfl ?_|refine Wf (by first|exact Va|exact Vb|exact Vc|exact Vd|exact Ve|exact Vf|exact Vg|exact Vh|exact Vi|exact Vj|exact Vk (by omega)|exact Vl|exact Vm|exact Vn|exact Vo|exact Vp|exact Vq|exact Vr|exact Vs (by omega)|exact Vt (by omega)|exact Vu (by omega)|exact Vv (by omega)|exact Vw|exact Vx|exact Vy|exact Vz|exact VA|exact VB|exact VC|exact VD|exact VE|exact VF) rfl ?_|(refine Wg rfl ?_; intro _)|(refine Wh rfl ?_; intro _)|refine Wi ?_|refine JI.cond_true ?_|refine JI.cond_false ?_|refine JI.skip ?_|refine JI.ret ?_|refine Wt ?_|refine JI.block ?_|refine Wr ?_|refine Wu ?_|refine Wv rfl rfl ?_|(refine Ww rfl ⟨rfl, by decide, by decide, by decide⟩ ?_; intro _))
      refine .inr ⟨rfl, (a6, c6), fun w1 ho => ?_⟩
      have e1 := sl_take (k := i) (c' := c6) (ho.get (A := sl a6 c6 (xs.take (i + 1)))) (by omega) ⟨by have := (ho.get (A := sl a6 c6 (xs.take (i + 1)))).1; omega, Nat.le_refl _⟩
      rw [List.take_take, Nat.min_eq_left (by omega)] at e1
      have e2 := ho.add (A := sl a6 c6 (xs.take i)) e1
      dsimp only
      rw [hlen]
      exact e2.ent
  case kn =>
    rintro D ⟨p, q⟩
    refine Wr ?_
    refine Wa ?_
    dsimp only
    refine JC.know (fun w1 ho => (ho.get (A := tru (closeF [] xs = closeF (xs.take xs.length) (xs.drop xs.length))))) ?_
    intro hcl
    rw [List.take_length, List.drop_length] at hcl ⊢
    have hst : loadL b = xs := by unfold loadL; rw [← hxs]; exact hcl
    have hle : loadEnd b = (framesL (rs.take xs.length)).length := by unfold loadEnd; rw [hst, ← hrs]
    rw [hst, hle]
    refine JC.more (Γ' := .st (sl p q xs) :: .obj D (.deferred (some [])) :: .own b2 22 [.slice none 0 0] :: .own b3 3 [.int .i64 0] :: .own b4 22 [.slice p xs.length q] :: [.own b5 3 [.int .i64 ((framesL (rs.take xs.length)).length : Int)]]) (fun w1 ho => (ho.ent : Hold w F (.res (buf p q 34 xs) :: .obj D (.deferred (some [])) :: .own b2 22 [.slice none 0 0] :: .own b3 3 [.int .i64 0] :: .own b4 22 [.slice p xs.length q] :: [.own b5 3 [.int .i64 ((framesL (rs.take xs.length)).length : Int)]]) w1).pub) ?_
    refine Wb ?_
    refine JC.drawP mixed ?_
    refine JP.take 0 [.own b4 22 [.slice p xs.length q]] rfl (by kernel_rfl) rfl Vc rfl rfl ?_
    refine JP.take 1 [.own b5 3 [.int .i64 ((framesL (rs.take xs.length)).length : Int)]] rfl (by kernel_rfl) rfl Vc rfl rfl ?_
    refine JP.op 2 (by kernel_rfl) rfl rfl (Wi (Wd ⟨rfl, (by repeat (first|exact Obs.nil|refine Obs.keep ?_|refine Obs.skip (by kernel_rfl) ?_)), ?_⟩))
    refine JP.op 3 (by kernel_rfl) rfl rfl (Wi (Wd ⟨rfl, (by repeat (first|exact Obs.nil|refine Obs.keep ?_|refine Obs.skip (by kernel_rfl) ?_)), ?_⟩))
    refine JP.nil (by kernel_rfl) ?_
    repeat (first|refine Wa ?_|refine Wb ?_|refine Wc ?_|refine Wd ?_|refine We rfl ?_|refine Wf (by first|exact Va|exact Vb|exact Vc|exact Vd|exact Ve|exact Vf|exact Vg|exact Vh|exact Vi|exact Vj|exact Vk (by omega)|exact Vl|exact Vm|exact Vn|exact Vo|exact Vp|exact Vq|exact Vr|exact Vs (by omega)|exact Vt (by omega)|exact Vu (by omega)|exact Vv (by omega)|exact Vw|exact Vx|exact Vy|exact Vz|exact VA|exact VB|exact VC|exact VD|exact VE|exact VF) rfl ?_|(refine Wg rfl ?_; intro _)|(refine Wh rfl ?_; intro _)|refine Wi ?_|refine Wj ?_|refine Wk ?_|refine Wl ?_|refine Wm ?_|refine Wn ?_|refine Wo ?_|refine Wp ?_|refine Wq rfl ?_|refine Wr ?_|refine Ws ?_|refine Wt ?_|refine Wu ?_|refine Wv rfl rfl ?_|(refine Ww rfl ⟨rfl, by decide, by decide, by decide⟩ ?_; intro _))
    refine ⟨D, [.own b2 22 [.slice p xs.length q], .own b3 3 [.int .i64 ((framesL (rs.take xs.length)).length : Int)], .st (sl p q xs)], rfl, .inl rfl, fun w1 ho => ho.ent, ?_⟩
    exact CT.done (p, q) rfl (fun w ho => ho.ent)
  case kr =>
    rintro D ⟨p, q⟩
    refine Wu ?_
    refine Wt ?_
    refine ⟨D, [.own b2 22 [.slice p (loadL b).length q], .own b3 3 [.int .i64 (loadEnd b : Int)], .st (sl p q (loadL b))], rfl, .inl rfl, fun w1 ho => ho.ent, ?_⟩
    exact CT.done (p, q) rfl (fun w ho => ho.ent)
end Ab
end Go.Proofs.YtglclakhjmogiaaGreat

/- What Put writes, Get reads: plain words. -/
namespace Go.Proofs.YtglclakhjmogiaaGreat
namespace Ab
open Go Go.RowKit
set_option linter.unusedVariables false
set_option linter.unusedSimpArgs false
set_option synthInstance.maxSize 4000
set_option synthInstance.maxHeartbeats 400000
attribute [local irreducible] JC JO JR JQ andThen inBlock OpV Gives retTo JM JS

theorem unfold_fold {n : Int} (h : -1099511627776 ≤ n ∧ n ≤ 1099511627776) : unfoldN (foldN n) = n := by
  unfold unfoldN foldN
  split
  · split <;> omega
  · split <;> omega
theorem strB_bytes (s : ByteArray) : strB (bytesOf s) = s := by
  cases s with
  | mk d => cases d; rfl
theorem cutT_text {s : ByteArray} {m : Nat} (h : s.size ≤ m) (hm : m ≤ 1048576) (r : List UInt8) : cutT (textL s ++ r) m = (s, r, true) := by
  have hb := bytesOf_length s
  have hN : getN (textL s ++ r) = (s.size, (numL s.size).length) := by
    unfold textL; rw [List.append_assoc]; exact getN_append (by omega) _
  have hp := numL_pos s.size
  have d1 : (textL s ++ r).drop (numL s.size).length = bytesOf s ++ r := by
    unfold textL; rw [List.append_assoc, List.drop_left' rfl]
  unfold cutT
  rw [hN]
  dsimp only
  rw [d1, if_neg (by unfold textL; rw [List.length_append, List.length_append, hb]; omega), List.take_left' hb, List.drop_left' hb, strB_bytes]
theorem keyOk_size {s : ByteArray} (h : keyOk s = true) : s.size ≤ 8 := by
  unfold keyOk at h
  simp only [Bool.and_eq_true, decide_eq_true_eq] at h
  exact h.2
theorem getOp_put {o : Op_} (h : opMay o = true) (r : List UInt8) : getOp (opPut o ++ r) = (o, r, 0) := by
  have hm := h
  unfold opMay at h
  by_cases h0 : o.kind = 0
  · rw [if_pos h0] at h
    simp only [Bool.and_eq_true, decide_eq_true_eq] at h
    obtain ⟨hk, ⟨⟨⟨hn0, hn1⟩, hn2⟩, he⟩⟩ := h
    have hs := keyOk_size hk
    have hf : -1099511627776 ≤ o.n ∧ o.n ≤ 1099511627776 := by omega
    have e0 : opPut o ++ r = numL 0 ++ (textL o.key ++ (numL (foldN o.n) ++ r)) := by
      unfold opPut; rw [if_pos h0, h0]; simp
    have hN : getN (opPut o ++ r) = (0, (numL 0).length) := by rw [e0]; exact getN_append (by omega) _
    have hd : (opPut o ++ r).drop (numL 0).length = textL o.key ++ (numL (foldN o.n) ++ r) := by rw [e0]; exact List.drop_left' rfl
    have hR : restOp 0 o.key (numL (foldN o.n) ++ r) = (o, r, true) := by
      unfold restOp
      rw [if_pos rfl, getN_append (foldN_lt hf)]
      dsimp only
      rw [unfold_fold hf, List.drop_left' rfl]
      have := numL_pos (foldN o.n)
      refine Prod.ext ?_ (Prod.ext rfl (decide_eq_true (by omega)))
      cases o
      simp only at h0 he
      subst h0 he
      rfl
    have hp := numL_pos 0
    unfold getOp
    rw [hN]
    dsimp only
    rw [hd, cutT_text hs (by decide), if_neg (by omega), if_neg (by simp)]
    dsimp only
    rw [hR, if_pos ⟨rfl, hm⟩]
  · rw [if_neg h0] at h
    split at h
    · rename_i hk3
      simp only [Bool.and_eq_true, decide_eq_true_eq] at h
      obtain ⟨hk, hn, he⟩ := h
      have hs := keyOk_size hk
      have hse := keyOk_size he
      have e0 : opPut o ++ r = numL o.kind.toNat ++ (textL o.key ++ (textL o.elem ++ r)) := by
        unfold opPut; rw [if_neg h0]; simp
      have hN : getN (opPut o ++ r) = (o.kind.toNat, (numL o.kind.toNat).length) := by rw [e0]; exact getN_append (by omega) _
      have hd : (opPut o ++ r).drop (numL o.kind.toNat).length = textL o.key ++ (textL o.elem ++ r) := by rw [e0]; exact List.drop_left' rfl
      have hR : restOp o.kind.toNat o.key (textL o.elem ++ r) = (o, r, true) := by
        unfold restOp
        rw [if_neg (by omega), cutT_text hse (by decide)]
        refine Prod.ext ?_ rfl
        have hk : ((o.kind.toNat : Nat) : Int) = o.kind := by omega
        rw [hk]
        cases o
        simp only at hn
        subst hn
        rfl
      have hp := numL_pos o.kind.toNat
      unfold getOp
      rw [hN]
      dsimp only
      rw [hd, cutT_text hs (by decide), if_neg (by omega), if_neg (by simp)]
      dsimp only
      rw [hR, if_pos ⟨rfl, hm⟩]
    · cases h
theorem getIds_ids : ∀ (ps : List ID) (r : List UInt8), getIds ps.length (idsL ps ++ r) = some (ps, r)
  | [], r => rfl
  | p :: ps, r => by
    have e0 : idsL (p :: ps) ++ r = p.1 ++ (idsL ps ++ r) := by simp [idsL]
    have hl : 32 ≤ (idsL (p :: ps) ++ r).length := by rw [e0, List.length_append, p.2]; omega
    have hd : (idsL (p :: ps) ++ r).drop 32 = idsL ps ++ r := by rw [e0]; exact List.drop_left' p.2
    show getIds (ps.length + 1) _ = _
    rw [getIds, dif_pos hl, hd, getIds_ids ps r]
    have ht : takeID (idsL (p :: ps) ++ r) hl = p := Subtype.ext (by show List.take 32 _ = _; rw [e0]; exact List.take_left' p.2)
    rw [ht]
    rfl
theorem uptoO_put {n m : Nat} (h : n ≤ m) (hm : m ≤ 1048576) (r : List UInt8) : uptoO m (numL n ++ r) = some (n, r) := by
  have := numL_pos n
  unfold uptoO
  rw [getN_append (by omega)]
  dsimp only
  rw [if_neg (by omega), List.drop_left' rfl]
theorem numO_put {n : Nat} (h : n < 18446744073709551616) (r : List UInt8) : numO (numL n ++ r) = some (n, r) := by
  have := numL_pos n
  unfold numO
  rw [getN_append h]
  dsimp only
  rw [if_neg (by omega), List.drop_left' rfl]
theorem getC_put {c : Commit} (h : may c = true) (r : List UInt8) : getC (commitPut c ++ r) = some (c, r) := by
  have hc := may_spec h
  have hnd := hc.node; have hsq := hc.seq; have hgn := hc.gen; have hpr := hc.par
  obtain ⟨X, hX⟩ : ∃ X, X = (if c.ev.node = -1 then r else opPut c.op ++ r) := ⟨_, rfl⟩
  have e0 : commitPut c ++ r = numL (foldN c.ev.node) ++ (numL c.ev.seq.toNat ++ (numL c.gen.toNat ++ (numL c.parents.length ++ (idsL c.parents ++ X)))) := by
    unfold commitPut headL
    rw [hX]
    split <;> simp
  have hf : -1099511627776 ≤ c.ev.node ∧ c.ev.node ≤ 1099511627776 := by omega
  unfold getC
  rw [e0, numO_put (foldN_lt hf), Option.bind_some]
  dsimp only
  rw [uptoO_put (by omega) (by decide), Option.bind_some]
  dsimp only
  rw [uptoO_put (by omega) (by decide), Option.bind_some]
  dsimp only
  rw [uptoO_put (by omega) (by decide), Option.bind_some]
  dsimp only
  rw [getIds_ids, Option.bind_some]
  dsimp only
  rw [unfold_fold hf]
  have hsn : ((c.ev.seq.toNat : Nat) : Int) = c.ev.seq := by omega
  have hgg : ((c.gen.toNat : Nat) : Int) = c.gen := by omega
  have hev : (⟨c.ev.node, c.ev.seq⟩ : Ev_) = c.ev := rfl
  unfold opC
  rw [hsn, hgg]
  by_cases hn : c.ev.node = -1
  · rw [if_pos hn, hX, if_pos hn]
    have hop : c.op = op0 := by
      have := h
      unfold may at this
      split at this
      · cases this
      · simp only [Bool.and_eq_true, decide_eq_true_eq] at this
        exact this.2
    have hcc : (⟨⟨c.ev.node, c.ev.seq⟩, c.gen, c.parents, op0⟩ : Commit) = c := by
      rw [← hop, hev]
    rw [hcc]
    unfold finC
    rw [if_pos h]
  · rw [if_neg hn, hX, if_neg hn, getOp_put (hc.op hn)]
    dsimp only
    rw [if_pos rfl]
    have hcc : (⟨⟨c.ev.node, c.ev.seq⟩, c.gen, c.parents, c.op⟩ : Commit) = c := by
      rw [hev]
    rw [hcc]
    unfold finC
    rw [if_pos h]
end Ab
end Go.Proofs.YtglclakhjmogiaaGreat

/- Contracts: store.Open, store.Last, law15's Disk. Plain words of disks. -/
namespace Go.Proofs.YtglclakhjmogiaaGreat
namespace Ab
open Go Go.RowKit
set_option linter.unusedVariables false
set_option linter.unusedSimpArgs false
set_option synthInstance.maxSize 4000
set_option synthInstance.maxHeartbeats 400000
attribute [local irreducible] JC JO JR JQ andThen inBlock OpV Gives retTo JM JS

attribute [local irreducible] hashC
theorem loadL_pre (b : List UInt8) : ∃ k, k ≤ (decL (readL b)).length ∧ loadL b = (decL (readL b)).take k := by
  obtain ⟨k, hk, h⟩ := closeF_pre (decL (readL b)) []
  exact ⟨k, hk, h⟩
theorem loadEnd_le (b : List UInt8) : loadEnd b ≤ b.length := by
  have h1 := framesL_take_le (readL b) (loadL b).length
  have h2 : (framesL (readL b)).length ≤ b.length := (readF_pre _ _ : framesL (readL b) <+: b).length_le
  unfold loadEnd; omega
theorem open_store (w : World) (F : Nat → Prop) (a : Option Addr) (c : Nat) (b : List UInt8) (h : (sl a c b).holds F w) (hb : b.length ≤ 1048576) :
    GivesBuf Tryz.prog 46 [.slice a b.length c] w F 5 (b.take (loadEnd b)) := by
  have hle := loadEnd_le b
  refine gives_of Tryz.func46 rfl Tryz.ntmps46 rfl rfl [.st (sl a c b)] (.start1 h) ?_
  repeat (first|refine Wa ?_|refine Wb ?_|refine Wc ?_|refine Wd ?_|refine We rfl ?_|refine Wf (by first|exact Va|exact Vb|exact Vc|exact Vd|exact Ve|exact Vf|exact Vg|exact Vh|exact Vi|exact Vj|exact Vk (by omega)|exact Vl|exact Vm|exact Vn|exact Vo|exact Vp|exact Vq|exact Vr|exact Vs (by omega)|exact Vt (by omega)|exact Vu (by omega)|exact Vv (by omega)|exact Vw|exact Vx|exact Vy|exact Vz|exact VA|exact VB|exact VC|exact VD|exact VE|exact VF) rfl ?_|(refine Wg rfl ?_; intro _)|(refine Wh rfl ?_; intro _)|refine Wi ?_|refine Wj ?_|refine Wk ?_|refine Wl ?_|refine Wm ?_|refine Wn ?_|refine Wo ?_|refine Wp ?_|refine Wq rfl ?_|refine Wr ?_|refine Ws ?_|refine Wt ?_|refine Wu ?_|refine Wv rfl rfl ?_|(refine Ww rfl ⟨rfl, by decide, by decide, by decide⟩ ?_; intro _))
  refine JR.callSlT rfl (fun w1 hw => load_store w1 _ a c b hw.get hb) ?_
  intro a3 c3
  repeat (first|refine Wa ?_|refine Wb ?_|refine Wc ?_|refine Wd ?_|refine We rfl ?_|refine Wf (by first|exact Va|exact Vb|exact Vc|exact Vd|exact Ve|exact Vf|exact Vg|exact Vh|exact Vi|exact Vj|exact Vk (by omega)|exact Vl|exact Vm|exact Vn|exact Vo|exact Vp|exact Vq|exact Vr|exact Vs (by omega)|exact Vt (by omega)|exact Vu (by omega)|exact Vv (by omega)|exact Vw|exact Vx|exact Vy|exact Vz|exact VA|exact VB|exact VC|exact VD|exact VE|exact VF) rfl ?_|(refine Wg rfl ?_; intro _)|(refine Wh rfl ?_; intro _)|refine Wi ?_|refine Wj ?_|refine Wk ?_|refine Wl ?_|refine Wm ?_|refine Wn ?_|refine Wo ?_|refine Wp ?_|refine Wq rfl ?_|refine Wr ?_|refine Ws ?_|refine Wt ?_|refine Wu ?_|refine Wv rfl rfl ?_|(refine Ww rfl ⟨rfl, by decide, by decide, by decide⟩ ?_; intro _))
  refine JR.sliceTo (L := b) (k := loadEnd b) rfl rfl hle ?_
  intro a4 c4
  repeat (first|refine Wa ?_|refine Wb ?_|refine Wc ?_|refine Wd ?_|refine We rfl ?_|refine Wf (by first|exact Va|exact Vb|exact Vc|exact Vd|exact Ve|exact Vf|exact Vg|exact Vh|exact Vi|exact Vj|exact Vk (by omega)|exact Vl|exact Vm|exact Vn|exact Vo|exact Vp|exact Vq|exact Vr|exact Vs (by omega)|exact Vt (by omega)|exact Vu (by omega)|exact Vv (by omega)|exact Vw|exact Vx|exact Vy|exact Vz|exact VA|exact VB|exact VC|exact VD|exact VE|exact VF) rfl ?_|(refine Wg rfl ?_; intro _)|(refine Wh rfl ?_; intro _)|refine Wi ?_|refine Wj ?_|refine Wk ?_|refine Wl ?_|refine Wm ?_|refine Wn ?_|refine Wo ?_|refine Wp ?_|refine Wq rfl ?_|refine Wr ?_|refine Ws ?_|refine Wt ?_|refine Wu ?_|refine Wv rfl rfl ?_|(refine Ww rfl ⟨rfl, by decide, by decide, by decide⟩ ?_; intro _))
  refine JR.callBuf rfl (fun w1 hw => clone_bytes w1 _ a4 c4 (b.take (loadEnd b)) (hw.get (A := sl a4 c4 (b.take (loadEnd b)))) (by rw [List.length_take]; omega)) ?_
  intro a5 c5
  repeat (first|refine Wa ?_|refine Wb ?_|refine Wc ?_|refine Wd ?_|refine We rfl ?_|refine Wf (by first|exact Va|exact Vb|exact Vc|exact Vd|exact Ve|exact Vf|exact Vg|exact Vh|exact Vi|exact Vj|exact Vk (by omega)|exact Vl|exact Vm|exact Vn|exact Vo|exact Vp|exact Vq|exact Vr|exact Vs (by omega)|exact Vt (by omega)|exact Vu (by omega)|exact Vv (by omega)|exact Vw|exact Vx|exact Vy|exact Vz|exact VA|exact VB|exact VC|exact VD|exact VE|exact VF) rfl ?_|(refine Wg rfl ?_; intro _)|(refine Wh rfl ?_; intro _)|refine Wi ?_|refine Wj ?_|refine Wk ?_|refine Wl ?_|refine Wm ?_|refine Wn ?_|refine Wo ?_|refine Wp ?_|refine Wq rfl ?_|refine Wr ?_|refine Ws ?_|refine Wt ?_|refine Wu ?_|refine Wv rfl rfl ?_|(refine Ww rfl ⟨rfl, by decide, by decide, by decide⟩ ?_; intro _))
  exact CT.done (a5, c5) rfl (fun w ho => ho.ent)
def lastF (l : List Commit) (node : Int) : Int := l.foldl (fun n c => if c.ev.node = node then max n c.ev.seq else n) 0
theorem lastF_next (l : List Commit) (node : Int) (i : Nat) (h : i < l.length) : lastF (l.take (i + 1)) node = if l[i].ev.node = node then max (lastF (l.take i) node) l[i].ev.seq else lastF (l.take i) node := by
  unfold lastF
  rw [List.take_succ_eq_append_getElem h, List.foldl_append]
  rfl
set_option maxHeartbeats 1000000 in
theorem last_store (w : World) (F : Nat → Prop) (a : Option Addr) (c : Nat) (l : List Commit) (node : Int) (h : (sl a c l).holds F w) :
    GivesV Tryz.prog 48 [.slice a l.length c, .int .i64 node] w F (.int .i64 (lastF l node)) := by
  have hl : l.length < 9223372036854775807 := by have := h.2.2.1; simp only [lim] at this; omega
  refine gives_of Tryz.func48 rfl Tryz.ntmps48 rfl rfl [.st (sl a c l)] (.start1 h) ?_
  repeat (first|refine Wa ?_|refine Wb ?_|refine Wc ?_|refine Wd ?_|refine We rfl ?_|refine Wf (by first|exact Va|exact Vb|exact Vc|exact Vd|exact Ve|exact Vf|exact Vg|exact Vh|exact Vi|exact Vj|exact Vk (by omega)|exact Vl|exact Vm|exact Vn|exact Vo|exact Vp|exact Vq|exact Vr|exact Vs (by omega)|exact Vt (by omega)|exact Vu (by omega)|exact Vv (by omega)|exact Vw|exact Vx|exact Vy|exact Vz|exact VA|exact VB|exact VC|exact VD|exact VE|exact VF) rfl ?_|(refine Wg rfl ?_; intro _)|(refine Wh rfl ?_; intro _)|refine Wi ?_|refine Wj ?_|refine Wk ?_|refine Wl ?_|refine Wm ?_|refine Wn ?_|refine Wo ?_|refine Wp ?_|refine Wq rfl ?_|refine Wr ?_|refine Ws ?_|refine Wt ?_|refine Wu ?_|refine Wv rfl rfl ?_|(refine Ww rfl ⟨rfl, by decide, by decide, by decide⟩ ?_; intro _))
  refine JC.reslot 5 (.int .i64 (lastF (l.take 0) node)) rfl ?_
  refine JC.loop1 (fun (i : Nat) => [(1, .int .i64 node), (5, .int .i64 (lastF (l.take i) node)), (8, .slice a l.length c), (9, .int .i64 (l.length : Int)), (10, .int .i64 (i : Int))])
    (fun i => [.st (sl a c l)]) (fun i => i ≤ l.length) (fun i => l.length - i) 0 (Nat.zero_le _) inferInstance ?_
  intro i hi
  repeat (first|refine Wa ?_|refine Wb ?_|refine Wc ?_|refine Wd ?_|refine We rfl ?_|refine Wf (by first|exact Va|exact Vb|exact Vc|exact Vd|exact Ve|exact Vf|exact Vg|exact Vh|exact Vi|exact Vj|exact Vk (by omega)|exact Vl|exact Vm|exact Vn|exact Vo|exact Vp|exact Vq|exact Vr|exact Vs (by omega)|exact Vt (by omega)|exact Vu (by omega)|exact Vv (by omega)|exact Vw|exact Vx|exact Vy|exact Vz|exact VA|exact VB|exact VC|exact VD|exact VE|exact VF) rfl ?_|(refine Wg rfl ?_; intro _)|(refine Wh rfl ?_; intro _)|refine Wi ?_|refine Wj ?_|refine Wk ?_|refine Wl ?_|refine Wm ?_|refine Wn ?_|refine Wo ?_|refine Wp ?_|refine Wq rfl ?_|refine Wr ?_|refine Ws ?_|refine Wt ?_|refine Wu ?_|refine Wv rfl rfl ?_|(refine Ww rfl ⟨rfl, by decide, by decide, by decide⟩ ?_; intro _))
  refine JC.test (fun h1 => ?_) (fun h1 => ?_)
  · have hlt : i < l.length := by omega
    have hn := lastF_next l node i hlt
    repeat (first|refine Wa ?_|refine Wb ?_|refine Wc ?_|refine Wd ?_|refine We rfl ?_|refine Wf (by first|exact Va|exact Vb|exact Vc|exact Vd|exact Ve|exact Vf|exact Vg|exact Vh|exact Vi|exact Vj|exact Vk (by omega)|exact Vl|exact Vm|exact Vn|exact Vo|exact Vp|exact Vq|exact Vr|exact Vs (by omega)|exact Vt (by omega)|exact Vu (by omega)|exact Vv (by omega)|exact Vw|exact Vx|exact Vy|exact Vz|exact VA|exact VB|exact VC|exact VD|exact VE|exact VF) rfl ?_|(refine Wg rfl ?_; intro _)|(refine Wh rfl ?_; intro _)|refine Wi ?_|refine Wj ?_|refine Wk ?_|refine Wl ?_|refine Wm ?_|refine Wn ?_|refine Wo ?_|refine Wp ?_|refine Wq rfl ?_|refine Wr ?_|refine Ws ?_|refine Wt ?_|refine Wu ?_|refine Wv rfl rfl ?_|(refine Ww rfl ⟨rfl, by decide, by decide, by decide⟩ ?_; intro _))
    refine JR.indexCommit (k := i) rfl hlt ?_
    intro b5 o5 p5 q5
    repeat (first|refine Wa ?_|refine Wb ?_|refine Wc ?_|refine Wd ?_|refine We rfl ?_|refine Wf (by first|exact Va|exact Vb|exact Vc|exact Vd|exact Ve|exact Vf|exact Vg|exact Vh|exact Vi|exact Vj|exact Vk (by omega)|exact Vl|exact Vm|exact Vn|exact Vo|exact Vp|exact Vq|exact Vr|exact Vs (by omega)|exact Vt (by omega)|exact Vu (by omega)|exact Vv (by omega)|exact Vw|exact Vx|exact Vy|exact Vz|exact VA|exact VB|exact VC|exact VD|exact VE|exact VF) rfl ?_|(refine Wg rfl ?_; intro _)|(refine Wh rfl ?_; intro _)|refine Wi ?_|refine Wj ?_|refine Wk ?_|refine Wl ?_|refine Wm ?_|refine Wn ?_|refine Wo ?_|refine Wp ?_|refine Wq rfl ?_|refine Wr ?_|refine Ws ?_|refine Wt ?_|refine Wu ?_|refine Wv rfl rfl ?_|(refine Ww rfl ⟨rfl, by decide, by decide, by decide⟩ ?_; intro _))
    refine JC.test (fun h2 => ?_) (fun h2 => ?_)
    · rw [if_pos h2] at hn
      repeat (first|refine Wa ?_|refine Wb ?_|refine Wc ?_|refine Wd ?_|refine We rfl ?_|refine Wf (by first|exact Va|exact Vb|exact Vc|exact Vd|exact Ve|exact Vf|exact Vg|exact Vh|exact Vi|exact Vj|exact Vk (by omega)|exact Vl|exact Vm|exact Vn|exact Vo|exact Vp|exact Vq|exact Vr|exact Vs (by omega)|exact Vt (by omega)|exact Vu (by omega)|exact Vv (by omega)|exact Vw|exact Vx|exact Vy|exact Vz|exact VA|exact VB|exact VC|exact VD|exact VE|exact VF) rfl ?_|(refine Wg rfl ?_; intro _)|(refine Wh rfl ?_; intro _)|refine Wi ?_|refine Wj ?_|refine Wk ?_|refine Wl ?_|refine Wm ?_|refine Wn ?_|refine Wo ?_|refine Wp ?_|refine Wq rfl ?_|refine Wr ?_|refine Ws ?_|refine Wt ?_|refine Wu ?_|refine Wv rfl rfl ?_|(refine Ww rfl ⟨rfl, by decide, by decide, by decide⟩ ?_; intro _))
      refine Wf OpV.max rfl ?_
      rw [← hn]
      repeat (first|refine Wa ?_|refine Wb ?_|refine Wc ?_|refine Wd ?_|refine We rfl ?_|refine Wf (by first|exact Va|exact Vb|exact Vc|exact Vd|exact Ve|exact Vf|exact Vg|exact Vh|exact Vi|exact Vj|exact Vk (by omega)|exact Vl|exact Vm|exact Vn|exact Vo|exact Vp|exact Vq|exact Vr|exact Vs (by omega)|exact Vt (by omega)|exact Vu (by omega)|exact Vv (by omega)|exact Vw|exact Vx|exact Vy|exact Vz|exact VA|exact VB|exact VC|exact VD|exact VE|exact VF) rfl ?_|(refine Wg rfl ?_; intro _)|(refine Wh rfl ?_; intro _)|refine Wi ?_|refine Wj ?_|refine Wk ?_|refine Wl ?_|refine Wm ?_|refine Wn ?_|refine Wo ?_|refine Wp ?_|refine Wq rfl ?_|refine Wr ?_|refine Ws ?_|refine Wt ?_|refine Wu ?_|refine Wv rfl rfl ?_|(refine Ww rfl ⟨rfl, by decide, by decide, by decide⟩ ?_; intro _))
      exact ⟨i + 1, by omega, by omega, inferInstance⟩
    · rw [if_neg h2] at hn
      repeat (first|refine Wa ?_|refine Wb ?_|refine Wc ?_|refine Wd ?_|refine We rfl ?_|refine Wf (by first|exact Va|exact Vb|exact Vc|exact Vd|exact Ve|exact Vf|exact Vg|exact Vh|exact Vi|exact Vj|exact Vk (by omega)|exact Vl|exact Vm|exact Vn|exact Vo|exact Vp|exact Vq|exact Vr|exact Vs (by omega)|exact Vt (by omega)|exact Vu (by omega)|exact Vv (by omega)|exact Vw|exact Vx|exact Vy|exact Vz|exact VA|exact VB|exact VC|exact VD|exact VE|exact VF) rfl ?_|(refine Wg rfl ?_; intro _)|(refine Wh rfl ?_; intro _)|refine Wi ?_|refine Wj ?_|refine Wk ?_|refine Wl ?_|refine Wm ?_|refine Wn ?_|refine Wo ?_|refine Wp ?_|refine Wq rfl ?_|refine Wr ?_|refine Ws ?_|refine Wt ?_|refine Wu ?_|refine Wv rfl rfl ?_|(refine Ww rfl ⟨rfl, by decide, by decide, by decide⟩ ?_; intro _))
      exact ⟨i + 1, by omega, by omega, by rw [hn]; infer_instance⟩
  · obtain rfl : i = l.length := by omega
    rw [List.take_length]
    repeat (first|refine Wa ?_|refine Wb ?_|refine Wc ?_|refine Wd ?_|refine We rfl ?_|refine Wf (by first|exact Va|exact Vb|exact Vc|exact Vd|exact Ve|exact Vf|exact Vg|exact Vh|exact Vi|exact Vj|exact Vk (by omega)|exact Vl|exact Vm|exact Vn|exact Vo|exact Vp|exact Vq|exact Vr|exact Vs (by omega)|exact Vt (by omega)|exact Vu (by omega)|exact Vv (by omega)|exact Vw|exact Vx|exact Vy|exact Vz|exact VA|exact VB|exact VC|exact VD|exact VE|exact VF) rfl ?_|(refine Wg rfl ?_; intro _)|(refine Wh rfl ?_; intro _)|refine Wi ?_|refine Wj ?_|refine Wk ?_|refine Wl ?_|refine Wm ?_|refine Wn ?_|refine Wo ?_|refine Wp ?_|refine Wq rfl ?_|refine Wr ?_|refine Ws ?_|refine Wt ?_|refine Wu ?_|refine Wv rfl rfl ?_|(refine Ww rfl ⟨rfl, by decide, by decide, by decide⟩ ?_; intro _))
    exact CT.done () rfl (fun w ho => ho.ent)
end Ab
end Go.Proofs.YtglclakhjmogiaaGreat

/- Disks of commits: plain words; contract: law15's Disk. -/
namespace Go.Proofs.YtglclakhjmogiaaGreat
namespace Ab
open Go Go.RowKit
set_option linter.unusedVariables false
set_option linter.unusedSimpArgs false
set_option synthInstance.maxSize 4000
set_option synthInstance.maxHeartbeats 400000
attribute [local irreducible] JC JO JR JQ andThen inBlock OpV Gives retTo JM JS

attribute [local irreducible] hashC
def diskL (l : List Commit) : List UInt8 := framesL (l.map commitPut)
def endsL (l : List Commit) : List Int := (List.range l.length).map fun i => ((diskL (l.take (i + 1))).length : Int)
theorem diskL_next {l : List Commit} {i : Nat} (h : i < l.length) : diskL (l.take (i + 1)) = diskL (l.take i) ++ frameL (commitPut l[i]) := by
  unfold diskL
  rw [List.take_succ_eq_append_getElem h, List.map_append, framesL_append]
  simp [framesL]
theorem diskL_le {l : List Commit} (h : ∀ c ∈ l, may c = true) : (diskL l).length ≤ 414 * l.length := by
  induction l with
  | nil => simp [diskL, framesL]
  | cons c l ih =>
    have h1 := commitPut_length (h c (by simp))
    have h2 := ih fun d hd => h d (by simp [hd])
    have h3 := numL_length (commitPut c).length
    have e : diskL (c :: l) = frameL (commitPut c) ++ diskL l := by simp [diskL, framesL]
    rw [e, List.length_append, frameL_length, List.length_cons]
    omega
theorem endsL_next {l : List Commit} {i : Nat} (h : i < l.length) : endsL (l.take (i + 1)) = endsL (l.take i) ++ [((diskL (l.take (i + 1))).length : Int)] := by
  have h1 : (l.take (i + 1)).length = i + 1 := by rw [List.length_take]; omega
  have h2 : (l.take i).length = i := by rw [List.length_take]; omega
  unfold endsL
  rw [h1, h2, List.range_succ, List.map_append]
  congr 1
  · refine List.map_congr_left fun j hj => ?_
    rw [List.mem_range] at hj
    rw [List.take_take, List.take_take, Nat.min_eq_left (by omega), Nat.min_eq_left (by omega)]
  · simp [List.take_take]
theorem endsL_length (l : List Commit) : (endsL l).length = l.length := by simp [endsL]
theorem storeT_next {l : List Commit} {i : Nat} (h : i < l.length) (hm : ∀ c ∈ l, may c = true) (hl : l.length ≤ 1000) : storeT (diskL (l.take i)) 1048576 l[i] = (diskL (l.take (i + 1)), 0) := by
  have hc := hm l[i] (List.getElem_mem h)
  have h1 := commitPut_length hc
  have h2 := diskL_le (l := l.take (i + 1)) fun d hd => hm d (List.mem_of_mem_take hd)
  have hp : putCommit l[i] = (commitPut l[i], 0) := by unfold putCommit; rw [hc]; rfl
  have h3 : (l.take (i + 1)).length = i + 1 := by rw [List.length_take]; omega
  rw [diskL_next h, List.length_append] at h2
  unfold storeT
  rw [hp]
  dsimp only
  rw [if_pos rfl]
  unfold writeT
  rw [if_neg (by omega), if_neg (by omega), diskL_next h]
set_option maxHeartbeats 2000000 in
theorem disk_law (w : World) (F : Nat → Prop) (a : Option Addr) (c : Nat) (l : List Commit) (h : (sl a c l).holds F w) (hm : ∀ x ∈ l, may x = true) (ht : ∀ x ∈ l, fine x) (hl : l.length ≤ 1000) :
    Gives Tryz.prog 51 [.slice a l.length c] w F (fun y : (Option Addr × Nat) × (Option Addr × Nat) => .tuple ⟨[.slice y.1.1 (diskL l).length y.1.2, .slice y.2.1 (endsL l).length y.2.2, .bool true]⟩)
      (fun y => [.res (buf y.1.1 y.1.2 5 (diskL l)), .st (sl y.2.1 y.2.2 (endsL l))]) := by
  refine gives_of Tryz.func51 rfl Tryz.ntmps51 rfl rfl [.st (sl a c l)] (.start1 h) ?_
  repeat (first|refine Wa ?_|refine Wb ?_|refine Wc ?_|refine Wd ?_|refine We rfl ?_|refine Wf (by first|exact Va|exact Vb|exact Vc|exact Vd|exact Ve|exact Vf|exact Vg|exact Vh|exact Vi|exact Vj|exact Vk (by omega)|exact Vl|exact Vm|exact Vn|exact Vo|exact Vp|exact Vq|exact Vr|exact Vs (by omega)|exact Vt (by omega)|exact Vu (by omega)|exact Vv (by omega)|exact Vw|exact Vx|exact Vy|exact Vz|exact VA|exact VB|exact VC|exact VD|exact VE|exact VF) rfl ?_|(refine Wg rfl ?_; intro _)|(refine Wh rfl ?_; intro _)|refine Wi ?_|refine Wj ?_|refine Wk ?_|refine Wl ?_|refine Wm ?_|refine Wn ?_|refine Wo ?_|refine Wp ?_|refine Wq rfl ?_|refine Wr ?_|refine Ws ?_|refine Wt ?_|refine Wu ?_|refine Wv rfl rfl ?_|(refine Ww rfl ⟨rfl, by decide, by decide, by decide⟩ ?_; intro _))
  refine JC.more (Γ' := .res (buf (α := UInt8) none 0 5 []) :: .res (buf (α := Int) none 0 3 []) :: [.st (sl a c l)]) (fun w ho => ((ho.bufNil : Hold _ _ (.res (buf (α := Int) none 0 3 []) :: [.st (sl a c l)]) w).bufNil)) ?_
  refine JC.loop3 (fun (i : Nat) (p q : Option Addr × Nat) => [(0, .slice a l.length c), (5, .slice p.1 (diskL (l.take i)).length p.2), (6, .slice q.1 (endsL (l.take i)).length q.2), (7, .int .i64 (i : Int))])
    (fun i p q => [.st (sl a c l), .res (buf p.1 p.2 5 (diskL (l.take i))), .res (buf q.1 q.2 3 (endsL (l.take i)))]) (fun i _ _ => i ≤ l.length) (fun i _ _ => l.length - i) 0 (none, 0) (none, 0) (Nat.zero_le _)
    (show Ent _ _ [(0, .slice a l.length c), (5, .slice none 0 0), (6, .slice none 0 0), (7, .int .i64 0)] [.st (sl a c l), .res (buf (α := UInt8) none 0 5 []), .res (buf (α := Int) none 0 3 [])] from inferInstance) ?_
  rintro i ⟨p, pq⟩ ⟨q, qq⟩ hi
  dsimp only
  repeat (first|refine Wa ?_|refine Wb ?_|refine Wc ?_|refine Wd ?_|refine We rfl ?_|refine Wf (by first|exact Va|exact Vb|exact Vc|exact Vd|exact Ve|exact Vf|exact Vg|exact Vh|exact Vi|exact Vj|exact Vk (by omega)|exact Vl|exact Vm|exact Vn|exact Vo|exact Vp|exact Vq|exact Vr|exact Vs (by omega)|exact Vt (by omega)|exact Vu (by omega)|exact Vv (by omega)|exact Vw|exact Vx|exact Vy|exact Vz|exact VA|exact VB|exact VC|exact VD|exact VE|exact VF) rfl ?_|(refine Wg rfl ?_; intro _)|(refine Wh rfl ?_; intro _)|refine Wi ?_|refine Wj ?_|refine Wk ?_|refine Wl ?_|refine Wm ?_|refine Wn ?_|refine Wo ?_|refine Wp ?_|refine Wq rfl ?_|refine Wr ?_|refine Ws ?_|refine Wt ?_|refine Wu ?_|refine Wv rfl rfl ?_|(refine Ww rfl ⟨rfl, by decide, by decide, by decide⟩ ?_; intro _))
  refine JC.test (fun h1 => ?_) (fun h1 => ?_)
  · have hlt : i < l.length := by omega
    have hdl := diskL_le (l := l.take i) fun d hd => hm d (List.mem_of_mem_take hd)
    have hti : (l.take i).length = i := by rw [List.length_take]; omega
    have hst := storeT_next hlt hm hl
    repeat (first|refine Wa ?_|refine Wb ?_|refine Wc ?_|refine Wd ?_|refine We rfl ?_|refine Wf (by first|exact Va|exact Vb|exact Vc|exact Vd|exact Ve|exact Vf|exact Vg|exact Vh|exact Vi|exact Vj|exact Vk (by omega)|exact Vl|exact Vm|exact Vn|exact Vo|exact Vp|exact Vq|exact Vr|exact Vs (by omega)|exact Vt (by omega)|exact Vu (by omega)|exact Vv (by omega)|exact Vw|exact Vx|exact Vy|exact Vz|exact VA|exact VB|exact VC|exact VD|exact VE|exact VF) rfl ?_|(refine Wg rfl ?_; intro _)|(refine Wh rfl ?_; intro _)|refine Wi ?_|refine Wj ?_|refine Wk ?_|refine Wl ?_|refine Wm ?_|refine Wn ?_|refine Wo ?_|refine Wp ?_|refine Wq rfl ?_|refine Wr ?_|refine Ws ?_|refine Wt ?_|refine Wu ?_|refine Wv rfl rfl ?_|(refine Ww rfl ⟨rfl, by decide, by decide, by decide⟩ ?_; intro _))
    refine JR.indexCommit (k := i) rfl hlt ?_
    intro b5 o5 p5 q5
    repeat (first|refine Wa ?_|refine Wb ?_|refine Wc ?_|refine Wd ?_|refine We rfl ?_|refine Wf (by first|exact Va|exact Vb|exact Vc|exact Vd|exact Ve|exact Vf|exact Vg|exact Vh|exact Vi|exact Vj|exact Vk (by omega)|exact Vl|exact Vm|exact Vn|exact Vo|exact Vp|exact Vq|exact Vr|exact Vs (by omega)|exact Vt (by omega)|exact Vu (by omega)|exact Vv (by omega)|exact Vw|exact Vx|exact Vy|exact Vz|exact VA|exact VB|exact VC|exact VD|exact VE|exact VF) rfl ?_|(refine Wg rfl ?_; intro _)|(refine Wh rfl ?_; intro _)|refine Wi ?_|refine Wj ?_|refine Wk ?_|refine Wl ?_|refine Wm ?_|refine Wn ?_|refine Wo ?_|refine Wp ?_|refine Wq rfl ?_|refine Wr ?_|refine Ws ?_|refine Wt ?_|refine Wu ?_|refine Wv rfl rfl ?_|(refine Ww rfl ⟨rfl, by decide, by decide, by decide⟩ ?_; intro _))
    refine JR.more (Γ' := .st (sl p pq (diskL (l.take i))) :: .st (sl p5 q5 l[i].parents) :: [.st (sl a c l), .res (buf q qq 3 (endsL (l.take i)))]) (fun w ho => (ho.ent : Hold _ _ (.res (buf p pq 5 (diskL (l.take i))) :: .st (sl p5 q5 l[i].parents) :: [.st (sl a c l), .res (buf q qq 3 (endsL (l.take i)))]) w).pub) ?_
    refine JR.call1 (B := fun y : Option Addr × Nat => .res (buf y.1 y.2 5 (storeT (diskL (l.take i)) 1048576 l[i]).1)) rfl (fun w1 hw => put_store w1 _ p p5 pq q5 (diskL (l.take i)) 1048576 l[i] (hw.get (A := sl p pq (diskL (l.take i)))) (hw.get (A := sl p5 q5 l[i].parents)) (ht l[i] (List.getElem_mem hlt)).1 (by omega)) ?_
    rintro ⟨p6, q6⟩
    rw [hst]
    dsimp only
    repeat (first|refine Wa ?_|refine Wb ?_|refine Wc ?_|refine Wd ?_|refine We rfl ?_|refine Wf (by first|exact Va|exact Vb|exact Vc|exact Vd|exact Ve|exact Vf|exact Vg|exact Vh|exact Vi|exact Vj|exact Vk (by omega)|exact Vl|exact Vm|exact Vn|exact Vo|exact Vp|exact Vq|exact Vr|exact Vs (by omega)|exact Vt (by omega)|exact Vu (by omega)|exact Vv (by omega)|exact Vw|exact Vx|exact Vy|exact Vz|exact VA|exact VB|exact VC|exact VD|exact VE|exact VF) rfl ?_|(refine Wg rfl ?_; intro _)|(refine Wh rfl ?_; intro _)|refine Wi ?_|refine Wj ?_|refine Wk ?_|refine Wl ?_|refine Wm ?_|refine Wn ?_|refine Wo ?_|refine Wp ?_|refine Wq rfl ?_|refine Wr ?_|refine Ws ?_|refine Wt ?_|refine Wu ?_|refine Wv rfl rfl ?_|(refine Ww rfl ⟨rfl, by decide, by decide, by decide⟩ ?_; intro _))
    refine JR.append1 (L := endsL (l.take i)) (u := ((diskL (l.take (i + 1))).length : Int)) rfl (by exact ⟨rfl, rfl, by decide⟩) (by rw [endsL_length]; omega) ?_
    intro a7 c7
    rw [← endsL_next hlt]
    repeat (first|refine Wa ?_|refine Wb ?_|refine Wc ?_|refine Wd ?_|refine We rfl ?_|refine Wf (by first|exact Va|exact Vb|exact Vc|exact Vd|exact Ve|exact Vf|exact Vg|exact Vh|exact Vi|exact Vj|exact Vk (by omega)|exact Vl|exact Vm|exact Vn|exact Vo|exact Vp|exact Vq|exact Vr|exact Vs (by omega)|exact Vt (by omega)|exact Vu (by omega)|exact Vv (by omega)|exact Vw|exact Vx|exact Vy|exact Vz|exact VA|exact VB|exact VC|exact VD|exact VE|exact VF) rfl ?_|(refine Wg rfl ?_; intro _)|(refine Wh rfl ?_; intro _)|refine Wi ?_|refine Wj ?_|refine Wk ?_|refine Wl ?_|refine Wm ?_|refine Wn ?_|refine Wo ?_|refine Wp ?_|refine Wq rfl ?_|refine Wr ?_|refine Ws ?_|refine Wt ?_|refine Wu ?_|refine Wv rfl rfl ?_|(refine Ww rfl ⟨rfl, by decide, by decide, by decide⟩ ?_; intro _))
    exact ⟨i + 1, (p6, q6), (a7, c7), by omega, by omega, inferInstance⟩
  · obtain rfl : i = l.length := by omega
    rw [List.take_length]
    repeat (first|refine Wa ?_|refine Wb ?_|refine Wc ?_|refine Wd ?_|refine We rfl ?_|refine Wf (by first|exact Va|exact Vb|exact Vc|exact Vd|exact Ve|exact Vf|exact Vg|exact Vh|exact Vi|exact Vj|exact Vk (by omega)|exact Vl|exact Vm|exact Vn|exact Vo|exact Vp|exact Vq|exact Vr|exact Vs (by omega)|exact Vt (by omega)|exact Vu (by omega)|exact Vv (by omega)|exact Vw|exact Vx|exact Vy|exact Vz|exact VA|exact VB|exact VC|exact VD|exact VE|exact VF) rfl ?_|(refine Wg rfl ?_; intro _)|(refine Wh rfl ?_; intro _)|refine Wi ?_|refine Wj ?_|refine Wk ?_|refine Wl ?_|refine Wm ?_|refine Wn ?_|refine Wo ?_|refine Wp ?_|refine Wq rfl ?_|refine Wr ?_|refine Ws ?_|refine Wt ?_|refine Wu ?_|refine Wv rfl rfl ?_|(refine Ww rfl ⟨rfl, by decide, by decide, by decide⟩ ?_; intro _))
    exact CT.done ((p, pq), (q, qq)) rfl (fun w ho => (ho.ent : Hold _ _ (.res (buf q qq 3 (endsL l)) :: [.res (buf p pq 5 (diskL l))]) w).pub.ent)
end Ab
end Go.Proofs.YtglclakhjmogiaaGreat

/- Disks of commits, whole, cut and spoilt: plain words. -/
namespace Go.Proofs.YtglclakhjmogiaaGreat
namespace Ab
open Go Go.RowKit
set_option linter.unusedVariables false
set_option linter.unusedSimpArgs false
set_option synthInstance.maxSize 4000
set_option synthInstance.maxHeartbeats 400000
attribute [local irreducible] JC JO JR JQ andThen inBlock OpV Gives retTo JM JS

attribute [local irreducible] hashC
theorem readL_frames : ∀ (xs : List (List UInt8)), (∀ x ∈ xs, x.length ≤ 4000) → ∀ r, readL (framesL xs ++ r) = xs ++ readL r
  | [], _, r => rfl
  | x :: xs, h, r => by
    have h1 : readStep (framesL (x :: xs) ++ r) = some (x, framesL xs ++ r) := by
      rw [framesL_cons, List.append_assoc]; exact readStep_frame (h x (by simp)) _
    rw [readL_some h1, readL_frames xs (fun y hy => h y (by simp [hy])) r]
    rfl
theorem readL_nil : readL [] = [] := rfl
/-- Less than a record is none. -/
theorem readStep_partial {x t : List UInt8} (hx : x.length ≤ 4000) (hp : t <+: frameL x) (hl : t.length < (frameL x).length) : readStep t = none := by
  cases h : readStep t with
  | none => rfl
  | some q =>
    obtain ⟨y, r⟩ := q
    obtain ⟨hy, ht⟩ := readStep_some h
    obtain ⟨u, hu⟩ := hp
    have h1 := readStep_frame hx []
    rw [List.append_nil, ← hu, ht, List.append_assoc, readStep_frame hy] at h1
    injection h1 with h1
    injection h1 with h2 h3
    subst h2
    have h4 := congrArg List.length h3
    have h5 := congrArg List.length ht
    rw [List.length_append] at h4 h5
    simp at h4
    omega
theorem decL_map : ∀ (l : List Commit), (∀ c ∈ l, may c = true) → ∀ m, decL (l.map commitPut ++ m) = l ++ decL m
  | [], _, m => rfl
  | c :: l, h, m => by
    have h1 := getC_put (h c (by simp)) []
    rw [List.append_nil] at h1
    show decL (commitPut c :: (l.map commitPut ++ m)) = _
    rcases decL_cons (commitPut c) (l.map commitPut ++ m) with ⟨d, hd, he⟩ | ⟨hn, _⟩
    · rw [h1] at hd
      cases hd
      rw [he, decL_map l (fun d hd => h d (by simp [hd])) m]
      rfl
    · exact (hn ⟨c, h1⟩).elim
theorem closeF_all : ∀ (l acc : List Commit), (∀ j, j < l.length → Closed (acc ++ l.take (j + 1))) → ∀ m, closeF acc (l ++ m) = closeF (acc ++ l) m
  | [], acc, _, m => by simp
  | c :: l, acc, h, m => by
    have h0 := h 0 (by simp)
    show closeF acc (c :: (l ++ m)) = _
    rw [closeF, if_pos (by simpa using h0), closeF_all l (acc ++ [c]) (fun j hj => by simpa using h (j + 1) (by simpa using hj)) m]
    simp
theorem closeF_takes : ∀ (l acc : List Commit), ∃ k, k ≤ l.length ∧ closeF acc l = acc ++ l.take k ∧ ∀ j, j < k → Closed (acc ++ l.take (j + 1))
  | [], acc => ⟨0, Nat.le_refl _, by simp [closeF], fun j hj => absurd hj (by omega)⟩
  | c :: l, acc => by
    rw [closeF]
    split
    · rename_i h0
      obtain ⟨k, hk, h1, h2⟩ := closeF_takes l (acc ++ [c])
      refine ⟨k + 1, by simpa using hk, by rw [h1]; simp, fun j hj => ?_⟩
      cases j with
      | zero => simpa using h0
      | succ j => simpa using h2 j (by omega)
    · exact ⟨0, Nat.zero_le _, by simp, fun j hj => absurd hj (by omega)⟩
theorem le_fold (L : List Commit) : ∀ (ps : List ID) (g : Int), g ≤ ps.foldl (fun g p => max g (genAt L p)) g ∧ ∀ p ∈ ps, genAt L p ≤ ps.foldl (fun g p => max g (genAt L p)) g
  | [], g => ⟨Int.le_refl _, by simp⟩
  | q :: ps, g => by
    obtain ⟨h1, h2⟩ := le_fold L ps (max g (genAt L q))
    refine ⟨by simp only [List.foldl_cons]; omega, fun p hp => ?_⟩
    simp only [List.foldl_cons]
    rcases List.mem_cons.1 hp with rfl | hp
    · omega
    · exact h2 p hp
theorem le_maxGen {L : List Commit} {p : ID} {ps : List ID} (h : p ∈ ps) : genAt L p ≤ maxGen L ps := (le_fold L ps 0).2 p h
/-- What stands in an order of generations, each ahead of what knows it: its beginnings are closed. -/
theorem Closed.take {s : List Commit} (h : Closed s) (hs : s.Pairwise leS) (k : Nat) : Closed (s.take k) := by
  refine h.sub (fun c hc => List.mem_of_mem_take hc) (nodup_sub h.nodup (List.take_sublist k s)) fun c hc p hp => ?_
  obtain ⟨i, hi, rfl⟩ := List.getElem_of_mem hc
  rw [List.length_take] at hi
  rw [List.getElem_take] at hp
  have hm : s[i] ∈ s := List.getElem_mem _
  have hf := h.fine s[i] hm
  obtain ⟨d, hd, rfl⟩ := mem_cids.1 (hf.here p hp)
  obtain ⟨j, hj, rfl⟩ := List.getElem_of_mem hd
  have hg : genAt s (idC s[j]) ≤ maxGen s s[i].parents := le_maxGen hp
  rw [genAt_of h.nodup hd] at hg
  have hg2 := hf.gen
  have hji : j < i := by
    rcases Nat.lt_trichotomy j i with h1 | h1 | h1
    · exact h1
    · subst h1; omega
    · have := List.pairwise_iff_getElem.1 hs i j (by omega) hj h1
      rcases this with h2 | ⟨h2, _⟩ <;> omega
  exact mem_cids.2 ⟨s[j], List.mem_of_getElem? (i := j) (by rw [List.getElem?_take_of_lt (by omega), List.getElem?_eq_getElem hj]), rfl⟩
theorem small_puts {l : List Commit} (h : ∀ c ∈ l, may c = true) : ∀ x ∈ l.map commitPut, x.length ≤ 4000 := by
  intro x hx
  obtain ⟨c, hc, rfl⟩ := List.mem_map.1 hx
  have := commitPut_length (h c hc)
  omega
/-- What is loaded of a disk, whatever stands behind it that is no record. -/
theorem loadL_disk {l : List Commit} (h : ∀ c ∈ l, may c = true) {r : List UInt8} (hr : readL r = []) : readL (diskL l ++ r) = l.map commitPut ∧ loadL (diskL l ++ r) = closeF [] l := by
  have h1 : readL (diskL l ++ r) = l.map commitPut := by unfold diskL; rw [readL_frames _ (small_puts h), hr, List.append_nil]
  refine ⟨h1, ?_⟩
  unfold loadL
  rw [h1]
  have := decL_map l h []
  rw [List.append_nil] at this
  rw [this]
  have e : decL [] = [] := rfl
  rw [e, List.append_nil]
theorem loadL_closed {l : List Commit} (h : ∀ c ∈ l, may c = true) (hc : ∀ j, j < l.length → Closed (l.take (j + 1))) {r : List UInt8} (hr : readL r = []) : loadL (diskL l ++ r) = l ∧ loadEnd (diskL l ++ r) = (diskL l).length := by
  obtain ⟨h1, h2⟩ := loadL_disk h hr
  have h3 : closeF [] l = l := by
    have := closeF_all l [] (fun j hj => by simpa using hc j hj) []
    simpa [closeF] using this
  rw [h3] at h2
  refine ⟨h2, ?_⟩
  unfold loadEnd
  rw [h1, h2, ← List.map_take, List.take_length]
  rfl
end Ab
end Go.Proofs.YtglclakhjmogiaaGreat

/- Contract: law15's awake. -/
namespace Go.Proofs.YtglclakhjmogiaaGreat
namespace Ab
open Go Go.RowKit
set_option linter.unusedVariables false
set_option linter.unusedSimpArgs false
set_option synthInstance.maxSize 4000
set_option synthInstance.maxHeartbeats 400000
attribute [local irreducible] JC JO JR JQ andThen inBlock OpV Gives retTo JM JS

attribute [local irreducible] hashC
theorem closed_l0 : Closed [l0] := closed_two.sub (by simp) (by simp [cids]) (by simp [l0])
theorem mays_l0 : ∀ c ∈ [l0], may c = true := fun c hc => closed_l0.may c hc
theorem disk_l0 : diskL [l0] = frameL (commitPut l0) := by simp [diskL, framesL]
theorem put_l0 : storeT [] 100 l0 = (diskL [l0], 0) := by
  have hp : putCommit l0 = (commitPut l0, 0) := by unfold putCommit; rw [mays_l0 l0 (by simp)]; rfl
  have hl : (commitPut l0).length ≤ 60 := by decide +kernel
  have hn := numL_length (commitPut l0).length
  unfold storeT
  rw [hp]
  dsimp only
  rw [if_pos rfl]
  unfold writeT
  rw [if_neg (by omega), if_neg (by rw [frameL_length]; simp; omega), disk_l0]
  rfl
theorem load_l0 : loadL (diskL [l0]) = [l0] ∧ loadEnd (diskL [l0]) = (diskL [l0]).length := by
  have := loadL_closed mays_l0 (fun j hj => by
    have : j = 0 := by simpa using hj
    subst this
    exact closed_l0) (r := []) readL_nil
  rwa [List.append_nil] at this
theorem load_nil : loadL [] = [] ∧ loadEnd [] = 0 := ⟨rfl, rfl⟩
theorem load_five : loadEnd ((diskL [l0]).take 5) = 0 := by
  have hl : (commitPut l0).length ≤ 60 := by decide +kernel
  have h0 : 5 ≤ (commitPut l0).length := by decide +kernel
  have h1 : readL ((diskL [l0]).take 5) = [] := by
    refine readL_none (readStep_partial (x := commitPut l0) (by omega) ?_ ?_)
    · rw [disk_l0]; exact List.take_prefix 5 _
    · rw [disk_l0, List.length_take, frameL_length]; omega
  unfold loadEnd loadL
  rw [h1]
  rfl
set_option maxHeartbeats 2000000 in
theorem awake_store (w : World) (F : Nat → Prop) : GivesV Tryz.prog 39 [] w F (.bool true) := by
  have htx : texts l0 := by unfold texts; constructor <;> decide
  have hdl : 5 ≤ (diskL [l0]).length ∧ (diskL [l0]).length ≤ 1000 := by
    have hl : (commitPut l0).length ≤ 60 := by decide +kernel
    have h0 : 5 ≤ (commitPut l0).length := by decide +kernel
    have hn := numL_length (commitPut l0).length
    rw [disk_l0, frameL_length]; omega
  obtain ⟨hld, hle⟩ := load_l0
  have h5 := load_five
  have hp := put_l0
  generalize diskL [l0] = D at hdl hld hle h5 hp
  refine gives_of Tryz.func39 rfl Tryz.ntmps39 rfl rfl [] (.start w F) ?_
  repeat (first|refine Wa ?_|refine Wb ?_|refine Wc ?_|refine Wd ?_|refine We rfl ?_|refine Wf (by first|exact Va|exact Vb|exact Vc|exact Vd|exact Ve|exact Vf|exact Vg|exact Vh|exact Vi|exact Vj|exact Vk (by omega)|exact Vl|exact Vm|exact Vn|exact Vo|exact Vp|exact Vq|exact Vr|exact Vs (by omega)|exact Vt (by omega)|exact Vu (by omega)|exact Vv (by omega)|exact Vw|exact Vx|exact Vy|exact Vz|exact VA|exact VB|exact VC|exact VD|exact VE|exact VF) rfl ?_|(refine Wg rfl ?_; intro _)|(refine Wh rfl ?_; intro _)|refine Wi ?_|refine Wj ?_|refine Wk ?_|refine Wl ?_|refine Wm ?_|refine Wn ?_|refine Wo ?_|refine Wp ?_|refine Wq rfl ?_|refine Wr ?_|refine Ws ?_|refine Wt ?_|refine Wu ?_|refine Wv rfl rfl ?_|(refine Ww rfl ⟨rfl, by decide, by decide, by decide⟩ ?_; intro _))
  refine JR.callV rfl (fun w1 hw => some_law w1 _) ?_
  repeat (first|refine Wa ?_|refine Wb ?_|refine Wc ?_|refine Wd ?_|refine We rfl ?_|refine Wf (by first|exact Va|exact Vb|exact Vc|exact Vd|exact Ve|exact Vf|exact Vg|exact Vh|exact Vi|exact Vj|exact Vk (by omega)|exact Vl|exact Vm|exact Vn|exact Vo|exact Vp|exact Vq|exact Vr|exact Vs (by omega)|exact Vt (by omega)|exact Vu (by omega)|exact Vv (by omega)|exact Vw|exact Vx|exact Vy|exact Vz|exact VA|exact VB|exact VC|exact VD|exact VE|exact VF) rfl ?_|(refine Wg rfl ?_; intro _)|(refine Wh rfl ?_; intro _)|refine Wi ?_|refine Wj ?_|refine Wk ?_|refine Wl ?_|refine Wm ?_|refine Wn ?_|refine Wo ?_|refine Wp ?_|refine Wq rfl ?_|refine Wr ?_|refine Ws ?_|refine Wt ?_|refine Wu ?_|refine Wv rfl rfl ?_|(refine Ww rfl ⟨rfl, by decide, by decide, by decide⟩ ?_; intro _))
  refine JR.call1 (B := fun y : Option Addr × Nat => .res (buf y.1 y.2 5 (storeT [] 100 l0).1)) rfl (fun w1 hw => put_store w1 _ none none 0 0 [] 100 l0 sl_nil sl_nil htx (by decide)) ?_
  rintro ⟨a1, c1⟩
  rw [hp]
  dsimp only
  refine JO.more (fun w ho => ho.pub) ?_
  repeat (first|refine Wa ?_|refine Wb ?_|refine Wc ?_|refine Wd ?_|refine We rfl ?_|refine Wf (by first|exact Va|exact Vb|exact Vc|exact Vd|exact Ve|exact Vf|exact Vg|exact Vh|exact Vi|exact Vj|exact Vk (by omega)|exact Vl|exact Vm|exact Vn|exact Vo|exact Vp|exact Vq|exact Vr|exact Vs (by omega)|exact Vt (by omega)|exact Vu (by omega)|exact Vv (by omega)|exact Vw|exact Vx|exact Vy|exact Vz|exact VA|exact VB|exact VC|exact VD|exact VE|exact VF) rfl ?_|(refine Wg rfl ?_; intro _)|(refine Wh rfl ?_; intro _)|refine Wi ?_|refine Wj ?_|refine Wk ?_|refine Wl ?_|refine Wm ?_|refine Wn ?_|refine Wo ?_|refine Wp ?_|refine Wq rfl ?_|refine Wr ?_|refine Ws ?_|refine Wt ?_|refine Wu ?_|refine Wv rfl rfl ?_|(refine Ww rfl ⟨rfl, by decide, by decide, by decide⟩ ?_; intro _))
  refine JR.callSlT rfl (fun w1 hw => load_store w1 _ a1 c1 D (hw.get (A := sl a1 c1 D)) (by omega)) ?_
  rw [hld, hle]
  intro a2 c2
  repeat (first|refine Wa ?_|refine Wb ?_|refine Wc ?_|refine Wd ?_|refine We rfl ?_|refine Wf (by first|exact Va|exact Vb|exact Vc|exact Vd|exact Ve|exact Vf|exact Vg|exact Vh|exact Vi|exact Vj|exact Vk (by omega)|exact Vl|exact Vm|exact Vn|exact Vo|exact Vp|exact Vq|exact Vr|exact Vs (by omega)|exact Vt (by omega)|exact Vu (by omega)|exact Vv (by omega)|exact Vw|exact Vx|exact Vy|exact Vz|exact VA|exact VB|exact VC|exact VD|exact VE|exact VF) rfl ?_|(refine Wg rfl ?_; intro _)|(refine Wh rfl ?_; intro _)|refine Wi ?_|refine Wj ?_|refine Wk ?_|refine Wl ?_|refine Wm ?_|refine Wn ?_|refine Wo ?_|refine Wp ?_|refine Wq rfl ?_|refine Wr ?_|refine Ws ?_|refine Wt ?_|refine Wu ?_|refine Wv rfl rfl ?_|(refine Ww rfl ⟨rfl, by decide, by decide, by decide⟩ ?_; intro _))
  refine JR.callSlT rfl (fun w1 hw => load_store w1 _ none 0 [] sl_nil (by decide)) ?_
  rw [load_nil.1, load_nil.2]
  intro a3 c3
  repeat (first|refine Wa ?_|refine Wb ?_|refine Wc ?_|refine Wd ?_|refine We rfl ?_|refine Wf (by first|exact Va|exact Vb|exact Vc|exact Vd|exact Ve|exact Vf|exact Vg|exact Vh|exact Vi|exact Vj|exact Vk (by omega)|exact Vl|exact Vm|exact Vn|exact Vo|exact Vp|exact Vq|exact Vr|exact Vs (by omega)|exact Vt (by omega)|exact Vu (by omega)|exact Vv (by omega)|exact Vw|exact Vx|exact Vy|exact Vz|exact VA|exact VB|exact VC|exact VD|exact VE|exact VF) rfl ?_|(refine Wg rfl ?_; intro _)|(refine Wh rfl ?_; intro _)|refine Wi ?_|refine Wj ?_|refine Wk ?_|refine Wl ?_|refine Wm ?_|refine Wn ?_|refine Wo ?_|refine Wp ?_|refine Wq rfl ?_|refine Wr ?_|refine Ws ?_|refine Wt ?_|refine Wu ?_|refine Wv rfl rfl ?_|(refine Ww rfl ⟨rfl, by decide, by decide, by decide⟩ ?_; intro _)|refine Wx rfl rfl ?_)
  refine JO.test 34 (fun _ => ?_) (fun h => absurd rfl h)
  repeat (first|refine Wa ?_|refine Wb ?_|refine Wc ?_|refine Wd ?_|refine We rfl ?_|refine Wf (by first|exact Va|exact Vb|exact Vc|exact Vd|exact Ve|exact Vf|exact Vg|exact Vh|exact Vi|exact Vj|exact Vk (by omega)|exact Vl|exact Vm|exact Vn|exact Vo|exact Vp|exact Vq|exact Vr|exact Vs (by omega)|exact Vt (by omega)|exact Vu (by omega)|exact Vv (by omega)|exact Vw|exact Vx|exact Vy|exact Vz|exact VA|exact VB|exact VC|exact VD|exact VE|exact VF) rfl ?_|(refine Wg rfl ?_; intro _)|(refine Wh rfl ?_; intro _)|refine Wi ?_|refine Wj ?_|refine Wk ?_|refine Wl ?_|refine Wm ?_|refine Wn ?_|refine Wo ?_|refine Wp ?_|refine Wq rfl ?_|refine Wr ?_|refine Ws ?_|refine Wt ?_|refine Wu ?_|refine Wv rfl rfl ?_|(refine Ww rfl ⟨rfl, by decide, by decide, by decide⟩ ?_; intro _)|refine Wx rfl rfl ?_)
  refine JR.callV rfl (fun w1 hw => last_store w1 _ a2 c2 [l0] 0 (hw.get (A := sl a2 c2 [l0]))) ?_
  rw [show lastF [l0] 0 = 1 from by decide]
  repeat (first|refine Wa ?_|refine Wb ?_|refine Wc ?_|refine Wd ?_|refine We rfl ?_|refine Wf (by first|exact Va|exact Vb|exact Vc|exact Vd|exact Ve|exact Vf|exact Vg|exact Vh|exact Vi|exact Vj|exact Vk (by omega)|exact Vl|exact Vm|exact Vn|exact Vo|exact Vp|exact Vq|exact Vr|exact Vs (by omega)|exact Vt (by omega)|exact Vu (by omega)|exact Vv (by omega)|exact Vw|exact Vx|exact Vy|exact Vz|exact VA|exact VB|exact VC|exact VD|exact VE|exact VF) rfl ?_|(refine Wg rfl ?_; intro _)|(refine Wh rfl ?_; intro _)|refine Wi ?_|refine Wj ?_|refine Wk ?_|refine Wl ?_|refine Wm ?_|refine Wn ?_|refine Wo ?_|refine Wp ?_|refine Wq rfl ?_|refine Wr ?_|refine Ws ?_|refine Wt ?_|refine Wu ?_|refine Wv rfl rfl ?_|(refine Ww rfl ⟨rfl, by decide, by decide, by decide⟩ ?_; intro _)|refine Wx rfl rfl ?_)
  refine JR.callV rfl (fun w1 hw => last_store w1 _ a2 c2 [l0] 1 (hw.get (A := sl a2 c2 [l0]))) ?_
  rw [show lastF [l0] 1 = 0 from by decide]
  repeat (first|refine Wa ?_|refine Wb ?_|refine Wc ?_|refine Wd ?_|refine We rfl ?_|refine Wf (by first|exact Va|exact Vb|exact Vc|exact Vd|exact Ve|exact Vf|exact Vg|exact Vh|exact Vi|exact Vj|exact Vk (by omega)|exact Vl|exact Vm|exact Vn|exact Vo|exact Vp|exact Vq|exact Vr|exact Vs (by omega)|exact Vt (by omega)|exact Vu (by omega)|exact Vv (by omega)|exact Vw|exact Vx|exact Vy|exact Vz|exact VA|exact VB|exact VC|exact VD|exact VE|exact VF) rfl ?_|(refine Wg rfl ?_; intro _)|(refine Wh rfl ?_; intro _)|refine Wi ?_|refine Wj ?_|refine Wk ?_|refine Wl ?_|refine Wm ?_|refine Wn ?_|refine Wo ?_|refine Wp ?_|refine Wq rfl ?_|refine Wr ?_|refine Ws ?_|refine Wt ?_|refine Wu ?_|refine Wv rfl rfl ?_|(refine Ww rfl ⟨rfl, by decide, by decide, by decide⟩ ?_; intro _)|refine Wx rfl rfl ?_)
  refine JR.sliceTo (L := D) (k := 5) rfl rfl hdl.1 ?_
  intro a5 c5
  repeat (first|refine Wa ?_|refine Wb ?_|refine Wc ?_|refine Wd ?_|refine We rfl ?_|refine Wf (by first|exact Va|exact Vb|exact Vc|exact Vd|exact Ve|exact Vf|exact Vg|exact Vh|exact Vi|exact Vj|exact Vk (by omega)|exact Vl|exact Vm|exact Vn|exact Vo|exact Vp|exact Vq|exact Vr|exact Vs (by omega)|exact Vt (by omega)|exact Vu (by omega)|exact Vv (by omega)|exact Vw|exact Vx|exact Vy|exact Vz|exact VA|exact VB|exact VC|exact VD|exact VE|exact VF) rfl ?_|(refine Wg rfl ?_; intro _)|(refine Wh rfl ?_; intro _)|refine Wi ?_|refine Wj ?_|refine Wk ?_|refine Wl ?_|refine Wm ?_|refine Wn ?_|refine Wo ?_|refine Wp ?_|refine Wq rfl ?_|refine Wr ?_|refine Ws ?_|refine Wt ?_|refine Wu ?_|refine Wv rfl rfl ?_|(refine Ww rfl ⟨rfl, by decide, by decide, by decide⟩ ?_; intro _)|refine Wx rfl rfl ?_)
  refine JR.callBuf rfl (fun w1 hw => open_store w1 _ a5 c5 (D.take 5) (hw.get (A := sl a5 c5 (D.take 5))) (by rw [List.length_take]; omega)) ?_
  rw [h5, List.take_zero]
  intro a6 c6
  repeat (first|refine Wa ?_|refine Wb ?_|refine Wc ?_|refine Wd ?_|refine We rfl ?_|refine Wf (by first|exact Va|exact Vb|exact Vc|exact Vd|exact Ve|exact Vf|exact Vg|exact Vh|exact Vi|exact Vj|exact Vk (by omega)|exact Vl|exact Vm|exact Vn|exact Vo|exact Vp|exact Vq|exact Vr|exact Vs (by omega)|exact Vt (by omega)|exact Vu (by omega)|exact Vv (by omega)|exact Vw|exact Vx|exact Vy|exact Vz|exact VA|exact VB|exact VC|exact VD|exact VE|exact VF) rfl ?_|(refine Wg rfl ?_; intro _)|(refine Wh rfl ?_; intro _)|refine Wi ?_|refine Wj ?_|refine Wk ?_|refine Wl ?_|refine Wm ?_|refine Wn ?_|refine Wo ?_|refine Wp ?_|refine Wq rfl ?_|refine Wr ?_|refine Ws ?_|refine Wt ?_|refine Wu ?_|refine Wv rfl rfl ?_|(refine Ww rfl ⟨rfl, by decide, by decide, by decide⟩ ?_; intro _)|refine Wx rfl rfl ?_)
  exact CT.done () rfl (fun w ho => ho.ent)
end Ab
end Go.Proofs.YtglclakhjmogiaaGreat

/- The law StoreFull returns true. -/
namespace Go.Proofs.YtglclakhjmogiaaGreat
namespace Ab
open Go Go.RowKit
set_option linter.unusedVariables false
set_option linter.unusedSimpArgs false
set_option synthInstance.maxSize 4000
set_option synthInstance.maxHeartbeats 400000
attribute [local irreducible] JC JO JR JQ andThen inBlock OpV Gives retTo JM JS

attribute [local irreducible] hashC
theorem decL_take : ∀ (l : List (List UInt8)) (k : Nat), k ≤ (decL l).length → decL (l.take k) = (decL l).take k
  | [], k, h => by simp [decL]
  | b :: l, 0, h => by simp [decL]
  | b :: l, k + 1, h => by
    show decL (b :: l.take k) = _
    rcases decL_cons b l with ⟨c, hc, hd⟩ | ⟨_, hd⟩
    · rw [hd] at h ⊢
      rcases decL_cons b (l.take k) with ⟨c', hc', hd'⟩ | ⟨hn, _⟩
      · rw [hc] at hc'
        cases hc'
        rw [hd', decL_take l k (by simpa using h)]
        rfl
      · exact (hn ⟨c, hc⟩).elim
    · rw [hd] at h; simp at h
/-- A disk that is opened has the same commits. -/
theorem reopen (b : List UInt8) : loadL (b.take (loadEnd b)) = loadL b ∧ loadEnd (b.take (loadEnd b)) = loadEnd b ∧ (b.take (loadEnd b)).length = loadEnd b := by
  obtain ⟨k, hk, h1, h2⟩ := closeF_takes (decL (readL b)) []
  rw [List.nil_append] at h1
  have hL : loadL b = (decL (readL b)).take k := h1
  have hlen : (loadL b).length = k := by rw [hL, List.length_take]; omega
  have hpre : framesL (readL b) <+: b := readF_pre _ _
  have hE : loadEnd b = (framesL ((readL b).take k)).length := by unfold loadEnd; rw [hlen]
  have ho : b.take (loadEnd b) = framesL ((readL b).take k) := by
    obtain ⟨t, ht⟩ := hpre
    have hb2 : framesL (readL b) ++ t = framesL ((readL b).take k) ++ (framesL ((readL b).drop k) ++ t) := by rw [← List.append_assoc, ← framesL_append, List.take_append_drop]
    have h3 : (framesL (readL b) ++ t).take (loadEnd b) = framesL ((readL b).take k) := by rw [hb2, hE]; exact List.take_left' rfl
    rw [ht] at h3
    exact h3
  have hR : readL (b.take (loadEnd b)) = (readL b).take k := by
    rw [ho]
    have := readL_frames ((readL b).take k) (fun x hx => readL_small _ _ x (List.mem_of_mem_take hx)) []
    rwa [List.append_nil, readL_nil, List.append_nil] at this
  have hL2 : loadL (b.take (loadEnd b)) = loadL b := by
    rw [hL]
    unfold loadL
    rw [hR, decL_take _ _ hk]
    have hj : ∀ j, j < ((decL (readL b)).take k).length → Closed ([] ++ ((decL (readL b)).take k).take (j + 1)) := fun j hj => by
      rw [List.length_take] at hj
      rw [List.take_take, Nat.min_eq_left (by omega)]
      exact h2 j (by omega)
    have h3 := closeF_all ((decL (readL b)).take k) [] hj []
    rw [List.append_nil, List.nil_append] at h3
    exact h3
  refine ⟨hL2, ?_, by rw [ho]; exact hE.symm⟩
  show (framesL ((readL (b.take (loadEnd b))).take (loadL (b.take (loadEnd b))).length)).length = _
  rw [hL2, hR, hlen, List.take_take, Nat.min_self]
  exact hE.symm
theorem loadL_isClosed (b : List UInt8) : Closed (loadL b) := closeF_closed _ _ closed_nil
theorem loadL_fine (b : List UInt8) : ∀ x ∈ loadL b, fine x := by
  obtain ⟨k, _, h⟩ := loadL_pre b
  rw [h]
  exact fun x hx => dec_fine (List.mem_of_mem_take hx)
theorem loadL_few (b : List UInt8) (hb : b.length ≤ 1048576) : (loadL b).length ≤ 1000000 := by
  obtain ⟨k, hk, h⟩ := loadL_pre b
  have h1 := decL_le (readL b)
  have h2 := length_framesL (readL b)
  have h3 : (framesL (readL b)).length ≤ b.length := (readF_pre _ _ : framesL (readL b) <+: b).length_le
  rw [h, List.length_take]; omega
/-- A commit is put just where there is room. -/
theorem put_cases (b : List UInt8) (room : Int) (c : Commit) (hb : b.length ≤ 1500) :
    (storeT b room c = ([], 1) ∧ storeT b 1048576 c = ([], 1)) ∨ ∃ D : List UInt8, D.length ≤ 2000 ∧ 0 < D.length ∧ storeT b 1048576 c = (D, 0) ∧ ((room < D.length ∧ storeT b room c = ([], 4)) ∨ ((D.length : Int) ≤ room ∧ storeT b room c = (D, 0))) := by
  cases hm : may c with
  | false =>
    have hp : putCommit c = ([], 1) := by unfold putCommit; rw [hm]; rfl
    left
    unfold storeT
    rw [hp]
    exact ⟨if_neg (by decide), if_neg (by decide)⟩
  | true =>
    have hp : putCommit c = (commitPut c, 0) := by unfold putCommit; rw [hm]; rfl
    have hl := commitPut_length hm
    have hn := numL_length (commitPut c).length
    have hfl := frameL_length (commitPut c)
    right
    refine ⟨b ++ frameL (commitPut c), by rw [List.length_append]; omega, by rw [List.length_append]; omega, ?_, ?_⟩
    · unfold storeT
      rw [hp]
      dsimp only
      rw [if_pos rfl]
      unfold writeT
      rw [if_neg (by omega), if_neg (by omega)]
    · rw [List.length_append]
      by_cases hr : room < (b.length + (frameL (commitPut c)).length : Nat)
      · refine .inl ⟨hr, ?_⟩
        unfold storeT
        rw [hp]
        dsimp only
        rw [if_pos rfl]
        unfold writeT
        rw [if_neg (by omega), if_pos hr]
      · refine .inr ⟨by omega, ?_⟩
        unfold storeT
        rw [hp]
        dsimp only
        rw [if_pos rfl]
        unfold writeT
        rw [if_neg (by omega), if_neg hr]
set_option maxHeartbeats 4000000 in
theorem law_storefull (w : World) (F : Nat → Prop) (a a2 : Option Addr) (k k2 : Nat) (b : List UInt8) (room : Int) (c : Commit) (h : (sl a k b).holds F w) (h2 : (sl a2 k2 c.parents).holds F w) :
    GivesV Tryz.prog 11 [.slice a b.length k, .int .i64 room, commitV c a2 k2] w F (.bool true) := by
  refine gives_of Tryz.func11 rfl Tryz.ntmps11 rfl rfl [.st (sl a k b), .st (sl a2 k2 c.parents)] (.start2 h h2) ?_
  repeat (first|refine Wa ?_|refine Wb ?_|refine Wc ?_|refine Wd ?_|refine We rfl ?_|refine Wf (by first|exact Va|exact Vb|exact Vc|exact Vd|exact Ve|exact Vf|exact Vg|exact Vh|exact Vi|exact Vj|exact Vk (by omega)|exact Vl|exact Vm|exact Vn|exact Vo|exact Vp|exact Vq|exact Vr|exact Vs (by omega)|exact Vt (by omega)|exact Vu (by omega)|exact Vv (by omega)|exact Vw|exact Vx|exact Vy|exact Vz|exact VA|exact VB|exact VC|exact VD|exact VE|exact VF) rfl ?_|(refine Wg rfl ?_; intro _)|(refine Wh rfl ?_; intro _)|refine Wi ?_|refine Wj ?_|refine Wk ?_|refine Wl ?_|refine Wm ?_|refine Wn ?_|refine Wo ?_|refine Wp ?_|refine Wq rfl ?_|refine Wr ?_|refine Ws ?_|refine Wt ?_|refine Wu ?_|refine Wv rfl rfl ?_|(refine Ww rfl ⟨rfl, by decide, by decide, by decide⟩ ?_; intro _))
  refine JR.callV rfl (fun w1 hw => awake_store w1 _) ?_
  repeat (first|refine Wa ?_|refine Wb ?_|refine Wc ?_|refine Wd ?_|refine We rfl ?_|refine Wf (by first|exact Va|exact Vb|exact Vc|exact Vd|exact Ve|exact Vf|exact Vg|exact Vh|exact Vi|exact Vj|exact Vk (by omega)|exact Vl|exact Vm|exact Vn|exact Vo|exact Vp|exact Vq|exact Vr|exact Vs (by omega)|exact Vt (by omega)|exact Vu (by omega)|exact Vv (by omega)|exact Vw|exact Vx|exact Vy|exact Vz|exact VA|exact VB|exact VC|exact VD|exact VE|exact VF) rfl ?_|(refine Wg rfl ?_; intro _)|(refine Wh rfl ?_; intro _)|refine Wi ?_|refine Wj ?_|refine Wk ?_|refine Wl ?_|refine Wm ?_|refine Wn ?_|refine Wo ?_|refine Wp ?_|refine Wq rfl ?_|refine Wr ?_|refine Ws ?_|refine Wt ?_|refine Wu ?_|refine Wv rfl rfl ?_|(refine Ww rfl ⟨rfl, by decide, by decide, by decide⟩ ?_; intro _))
  refine JR.callV rfl (fun w1 hw => few_one w1 _ c a2 k2) ?_
  cases hfew : fewC c with
  | false =>
    repeat (first|refine Wa ?_|refine Wb ?_|refine Wc ?_|refine Wd ?_|refine We rfl ?_|refine Wf (by first|exact Va|exact Vb|exact Vc|exact Vd|exact Ve|exact Vf|exact Vg|exact Vh|exact Vi|exact Vj|exact Vk (by omega)|exact Vl|exact Vm|exact Vn|exact Vo|exact Vp|exact Vq|exact Vr|exact Vs (by omega)|exact Vt (by omega)|exact Vu (by omega)|exact Vv (by omega)|exact Vw|exact Vx|exact Vy|exact Vz|exact VA|exact VB|exact VC|exact VD|exact VE|exact VF) rfl ?_|(refine Wg rfl ?_; intro _)|(refine Wh rfl ?_; intro _)|refine Wi ?_|refine Wj ?_|refine Wk ?_|refine Wl ?_|refine Wm ?_|refine Wn ?_|refine Wo ?_|refine Wp ?_|refine Wq rfl ?_|refine Wr ?_|refine Ws ?_|refine Wt ?_|refine Wu ?_|refine Wv rfl rfl ?_|(refine Ww rfl ⟨rfl, by decide, by decide, by decide⟩ ?_; intro _)|refine Wx rfl rfl ?_)
    exact CT.done () rfl (fun w ho => ho.ent)
  | true =>
  have hf := fine_few hfew
  repeat (first|refine Wa ?_|refine Wb ?_|refine Wc ?_|refine Wd ?_|refine We rfl ?_|refine Wf (by first|exact Va|exact Vb|exact Vc|exact Vd|exact Ve|exact Vf|exact Vg|exact Vh|exact Vi|exact Vj|exact Vk (by omega)|exact Vl|exact Vm|exact Vn|exact Vo|exact Vp|exact Vq|exact Vr|exact Vs (by omega)|exact Vt (by omega)|exact Vu (by omega)|exact Vv (by omega)|exact Vw|exact Vx|exact Vy|exact Vz|exact VA|exact VB|exact VC|exact VD|exact VE|exact VF) rfl ?_|(refine Wg rfl ?_; intro _)|(refine Wh rfl ?_; intro _)|refine Wi ?_|refine Wj ?_|refine Wk ?_|refine Wl ?_|refine Wm ?_|refine Wn ?_|refine Wo ?_|refine Wp ?_|refine Wq rfl ?_|refine Wr ?_|refine Ws ?_|refine Wt ?_|refine Wu ?_|refine Wv rfl rfl ?_|(refine Ww rfl ⟨rfl, by decide, by decide, by decide⟩ ?_; intro _)|refine Wx rfl rfl ?_)
  refine JC.test (fun h15 => ?_) (fun h15 => ?_)
  · repeat (first|refine Wa ?_|refine Wb ?_|refine Wc ?_|refine Wd ?_|refine We rfl ?_|refine Wf (by first|exact Va|exact Vb|exact Vc|exact Vd|exact Ve|exact Vf|exact Vg|exact Vh|exact Vi|exact Vj|exact Vk (by omega)|exact Vl|exact Vm|exact Vn|exact Vo|exact Vp|exact Vq|exact Vr|exact Vs (by omega)|exact Vt (by omega)|exact Vu (by omega)|exact Vv (by omega)|exact Vw|exact Vx|exact Vy|exact Vz|exact VA|exact VB|exact VC|exact VD|exact VE|exact VF) rfl ?_|(refine Wg rfl ?_; intro _)|(refine Wh rfl ?_; intro _)|refine Wi ?_|refine Wj ?_|refine Wk ?_|refine Wl ?_|refine Wm ?_|refine Wn ?_|refine Wo ?_|refine Wp ?_|refine Wq rfl ?_|refine Wr ?_|refine Ws ?_|refine Wt ?_|refine Wu ?_|refine Wv rfl rfl ?_|(refine Ww rfl ⟨rfl, by decide, by decide, by decide⟩ ?_; intro _)|refine Wx rfl rfl ?_)
    exact CT.done () rfl (fun w ho => ho.ent)
  have hb : b.length ≤ 1500 := by omega
  repeat (first|refine Wa ?_|refine Wb ?_|refine Wc ?_|refine Wd ?_|refine We rfl ?_|refine Wf (by first|exact Va|exact Vb|exact Vc|exact Vd|exact Ve|exact Vf|exact Vg|exact Vh|exact Vi|exact Vj|exact Vk (by omega)|exact Vl|exact Vm|exact Vn|exact Vo|exact Vp|exact Vq|exact Vr|exact Vs (by omega)|exact Vt (by omega)|exact Vu (by omega)|exact Vv (by omega)|exact Vw|exact Vx|exact Vy|exact Vz|exact VA|exact VB|exact VC|exact VD|exact VE|exact VF) rfl ?_|(refine Wg rfl ?_; intro _)|(refine Wh rfl ?_; intro _)|refine Wi ?_|refine Wj ?_|refine Wk ?_|refine Wl ?_|refine Wm ?_|refine Wn ?_|refine Wo ?_|refine Wp ?_|refine Wq rfl ?_|refine Wr ?_|refine Ws ?_|refine Wt ?_|refine Wu ?_|refine Wv rfl rfl ?_|(refine Ww rfl ⟨rfl, by decide, by decide, by decide⟩ ?_; intro _)|refine Wx rfl rfl ?_)
  refine JR.call1 (B := fun y : Option Addr × Nat => .res (buf y.1 y.2 5 (storeT b room c).1)) rfl (fun w1 hw => put_store w1 _ a a2 k k2 b room c (hw.get (A := sl a k b)) (hw.get (A := sl a2 k2 c.parents)) hf.1 (by omega)) ?_
  rintro ⟨a3, c3⟩
  dsimp only
  refine JO.more (fun w ho => ho.pub) ?_
  repeat (first|refine Wa ?_|refine Wb ?_|refine Wc ?_|refine Wd ?_|refine We rfl ?_|refine Wf (by first|exact Va|exact Vb|exact Vc|exact Vd|exact Ve|exact Vf|exact Vg|exact Vh|exact Vi|exact Vj|exact Vk (by omega)|exact Vl|exact Vm|exact Vn|exact Vo|exact Vp|exact Vq|exact Vr|exact Vs (by omega)|exact Vt (by omega)|exact Vu (by omega)|exact Vv (by omega)|exact Vw|exact Vx|exact Vy|exact Vz|exact VA|exact VB|exact VC|exact VD|exact VE|exact VF) rfl ?_|(refine Wg rfl ?_; intro _)|(refine Wh rfl ?_; intro _)|refine Wi ?_|refine Wj ?_|refine Wk ?_|refine Wl ?_|refine Wm ?_|refine Wn ?_|refine Wo ?_|refine Wp ?_|refine Wq rfl ?_|refine Wr ?_|refine Ws ?_|refine Wt ?_|refine Wu ?_|refine Wv rfl rfl ?_|(refine Ww rfl ⟨rfl, by decide, by decide, by decide⟩ ?_; intro _)|refine Wx rfl rfl ?_)
  refine JR.call1 (B := fun y : Option Addr × Nat => .res (buf y.1 y.2 5 (storeT b 1048576 c).1)) rfl (fun w1 hw => put_store w1 _ a a2 k k2 b 1048576 c (hw.get (A := sl a k b)) (hw.get (A := sl a2 k2 c.parents)) hf.1 (by omega)) ?_
  rintro ⟨a4, c4⟩
  dsimp only
  refine JO.more (fun w ho => ho.pub) ?_
  obtain ⟨o, ho⟩ : ∃ o, b.take (loadEnd b) = o := ⟨_, rfl⟩
  obtain ⟨hL2, hE2, hlo⟩ := reopen b
  rw [ho] at hL2 hE2 hlo
  have hle := loadEnd_le b
  rcases put_cases b room c hb with ⟨e1, e2⟩ | ⟨D, hD, hD0, e2, ⟨hr, e1⟩ | ⟨hr, e1⟩⟩
  · rw [e1, e2]
    dsimp only
    repeat (first|refine Wa ?_|refine Wb ?_|refine Wc ?_|refine Wd ?_|refine We rfl ?_|refine Wf (by first|exact Va|exact Vb|exact Vc|exact Vd|exact Ve|exact Vf|exact Vg|exact Vh|exact Vi|exact Vj|exact Vk (by omega)|exact Vl|exact Vm|exact Vn|exact Vo|exact Vp|exact Vq|exact Vr|exact Vs (by omega)|exact Vt (by omega)|exact Vu (by omega)|exact Vv (by omega)|exact Vw|exact Vx|exact Vy|exact Vz|exact VA|exact VB|exact VC|exact VD|exact VE|exact VF) rfl ?_|(refine Wg rfl ?_; intro _)|(refine Wh rfl ?_; intro _)|refine Wi ?_|refine Wj ?_|refine Wk ?_|refine Wl ?_|refine Wm ?_|refine Wn ?_|refine Wo ?_|refine Wp ?_|refine Wq rfl ?_|refine Wr ?_|refine Ws ?_|refine Wt ?_|refine Wu ?_|refine Wv rfl rfl ?_|(refine Ww rfl ⟨rfl, by decide, by decide, by decide⟩ ?_; intro _)|refine Wx rfl rfl ?_)
    refine JR.callSlT rfl (fun w1 hw => load_store w1 _ a k b (hw.get (A := sl a k b)) (by omega)) ?_
    intro a7 c7
    repeat (first|refine Wa ?_|refine Wb ?_|refine Wc ?_|refine Wd ?_|refine We rfl ?_|refine Wf (by first|exact Va|exact Vb|exact Vc|exact Vd|exact Ve|exact Vf|exact Vg|exact Vh|exact Vi|exact Vj|exact Vk (by omega)|exact Vl|exact Vm|exact Vn|exact Vo|exact Vp|exact Vq|exact Vr|exact Vs (by omega)|exact Vt (by omega)|exact Vu (by omega)|exact Vv (by omega)|exact Vw|exact Vx|exact Vy|exact Vz|exact VA|exact VB|exact VC|exact VD|exact VE|exact VF) rfl ?_|(refine Wg rfl ?_; intro _)|(refine Wh rfl ?_; intro _)|refine Wi ?_|refine Wj ?_|refine Wk ?_|refine Wl ?_|refine Wm ?_|refine Wn ?_|refine Wo ?_|refine Wp ?_|refine Wq rfl ?_|refine Wr ?_|refine Ws ?_|refine Wt ?_|refine Wu ?_|refine Wv rfl rfl ?_|(refine Ww rfl ⟨rfl, by decide, by decide, by decide⟩ ?_; intro _)|refine Wx rfl rfl ?_)
    refine JR.callBuf rfl (fun w1 hw => open_store w1 _ a k b (hw.get (A := sl a k b)) (by omega)) ?_
    intro a8 c8
    rw [ho]
    refine JO.more (fun w ho => ho.pub) ?_
    repeat (first|refine Wa ?_|refine Wb ?_|refine Wc ?_|refine Wd ?_|refine We rfl ?_|refine Wf (by first|exact Va|exact Vb|exact Vc|exact Vd|exact Ve|exact Vf|exact Vg|exact Vh|exact Vi|exact Vj|exact Vk (by omega)|exact Vl|exact Vm|exact Vn|exact Vo|exact Vp|exact Vq|exact Vr|exact Vs (by omega)|exact Vt (by omega)|exact Vu (by omega)|exact Vv (by omega)|exact Vw|exact Vx|exact Vy|exact Vz|exact VA|exact VB|exact VC|exact VD|exact VE|exact VF) rfl ?_|(refine Wg rfl ?_; intro _)|(refine Wh rfl ?_; intro _)|refine Wi ?_|refine Wj ?_|refine Wk ?_|refine Wl ?_|refine Wm ?_|refine Wn ?_|refine Wo ?_|refine Wp ?_|refine Wq rfl ?_|refine Wr ?_|refine Ws ?_|refine Wt ?_|refine Wu ?_|refine Wv rfl rfl ?_|(refine Ww rfl ⟨rfl, by decide, by decide, by decide⟩ ?_; intro _)|refine Wx rfl rfl ?_)
    refine JR.callSlT rfl (fun w1 hw => load_store w1 _ a8 c8 o (hw.get (A := sl a8 c8 o)) (by omega)) ?_
    rw [hL2, hE2]
    intro a9 c9
    repeat (first|refine Wa ?_|refine Wb ?_|refine Wc ?_|refine Wd ?_|refine We rfl ?_|refine Wf (by first|exact Va|exact Vb|exact Vc|exact Vd|exact Ve|exact Vf|exact Vg|exact Vh|exact Vi|exact Vj|exact Vk (by omega)|exact Vl|exact Vm|exact Vn|exact Vo|exact Vp|exact Vq|exact Vr|exact Vs (by omega)|exact Vt (by omega)|exact Vu (by omega)|exact Vv (by omega)|exact Vw|exact Vx|exact Vy|exact Vz|exact VA|exact VB|exact VC|exact VD|exact VE|exact VF) rfl ?_|(refine Wg rfl ?_; intro _)|(refine Wh rfl ?_; intro _)|refine Wi ?_|refine Wj ?_|refine Wk ?_|refine Wl ?_|refine Wm ?_|refine Wn ?_|refine Wo ?_|refine Wp ?_|refine Wq rfl ?_|refine Wr ?_|refine Ws ?_|refine Wt ?_|refine Wu ?_|refine Wv rfl rfl ?_|(refine Ww rfl ⟨rfl, by decide, by decide, by decide⟩ ?_; intro _)|refine Wx rfl rfl ?_)
    refine JR.callV rfl (fun w1 hw => list_ref w1 _ a7 a9 c7 c9 (loadL b) (loadL b) (hw.get (A := sl a7 c7 (loadL b))) (hw.get (A := sl a9 c9 (loadL b)))) ?_
    repeat (first|refine Wa ?_|refine Wb ?_|refine Wc ?_|refine Wd ?_|refine We rfl ?_|refine Wf (by first|exact Va|exact Vb|exact Vc|exact Vd|exact Ve|exact Vf|exact Vg|exact Vh|exact Vi|exact Vj|exact Vk (by omega)|exact Vl|exact Vm|exact Vn|exact Vo|exact Vp|exact Vq|exact Vr|exact Vs (by omega)|exact Vt (by omega)|exact Vu (by omega)|exact Vv (by omega)|exact Vw|exact Vx|exact Vy|exact Vz|exact VA|exact VB|exact VC|exact VD|exact VE|exact VF) rfl ?_|(refine Wg rfl ?_; intro _)|(refine Wh rfl ?_; intro _)|refine Wi ?_|refine Wj ?_|refine Wk ?_|refine Wl ?_|refine Wm ?_|refine Wn ?_|refine Wo ?_|refine Wp ?_|refine Wq rfl ?_|refine Wr ?_|refine Ws ?_|refine Wt ?_|refine Wu ?_|refine Wv rfl rfl ?_|(refine Ww rfl ⟨rfl, by decide, by decide, by decide⟩ ?_; intro _)|refine Wx rfl rfl ?_)
    refine JC.reslot 18 (.bool true) (by simp) ?_
    refine JC.drawP mixed ?_
    refine JP.pure 0 rfl (by kernel_rfl) rfl (fun _ => Va) rfl rfl ?_
    refine JP.pure 1 rfl (by kernel_rfl) rfl (fun _ => Va) rfl rfl ?_
    refine JP.pure 2 rfl (by kernel_rfl) rfl (fun _ => Va) rfl rfl ?_
    refine JP.pure 3 rfl (by kernel_rfl) rfl (fun _ => Va) rfl rfl ?_
    refine JP.pure 4 rfl (by kernel_rfl) rfl (fun _ => Vl) rfl rfl ?_
    refine JP.reslot 99 (.bool true) (by simp) ?_
    refine JP.pure 5 rfl (by kernel_rfl) rfl (fun _ => Vi) rfl rfl ?_
    refine JP.pure 6 rfl (by kernel_rfl) rfl (fun _ => Va) rfl rfl ?_
    refine JP.pure 7 rfl (by kernel_rfl) rfl (fun _ => Va) rfl rfl ?_
    refine JP.pure 8 rfl (by kernel_rfl) rfl (fun _ => Va) rfl rfl ?_
    refine JP.pure 9 rfl (by kernel_rfl) rfl (fun _ => Vf) rfl rfl ?_
    refine JP.pure 10 rfl (by kernel_rfl) rfl (fun _ => Vl) rfl rfl ?_
    refine JP.reslot 105 (.bool true) (by congr 1; exact decide_eq_true (by omega)) ?_
    refine JP.pure 11 rfl (by kernel_rfl) rfl (fun _ => Vi) rfl rfl ?_
    refine JP.pure 12 rfl (by kernel_rfl) rfl (fun _ => Va) rfl rfl ?_
    refine JP.pure 13 rfl (by kernel_rfl) rfl (fun _ => Va) rfl rfl ?_
    refine JP.takeCall 14 [.st (sl a7 c7 (loadL b))] rfl (by kernel_rfl) rfl (fun w1 hw => closed_yes w1 _ a7 c7 (loadL b) hw.get (loadL_few b (by omega)) (loadL_fine b) (loadL_isClosed b)) rfl rfl ?_
    refine JP.pure 15 rfl (by kernel_rfl) rfl (fun _ => Vi) rfl rfl ?_
    refine JP.pure 16 rfl (by kernel_rfl) rfl (fun _ => Va) rfl rfl ?_
    refine JP.pure 17 rfl (by kernel_rfl) rfl (fun _ => Va) rfl rfl ?_
    refine JP.pure 20 rfl (by kernel_rfl) rfl (fun _ => Va) rfl rfl ?_
    refine JP.take 21 [.st (sl a8 c8 o)] rfl (by kernel_rfl) rfl OpV.bytesStr rfl rfl ?_
    refine JP.op 18 (by kernel_rfl) rfl rfl (JR.callBuf rfl (fun w1 hw => open_store w1 _ a8 c8 o (hw.get (A := sl a8 c8 o)) (by omega)) fun a5 c5 => Wd ⟨rfl, (by repeat (first|exact Obs.nil|refine Obs.keep ?_|refine Obs.skip (by kernel_rfl) ?_)), ?_⟩)
    rw [hE2, List.take_of_length_le (by omega : o.length ≤ loadEnd b)]
    refine JP.more (fun w ho => ho.pub) ?_
    refine JP.take 19 [.st (sl a5 c5 o)] rfl (by kernel_rfl) rfl OpV.bytesStr rfl rfl ?_
    refine JP.pure 22 rfl (by kernel_rfl) rfl (fun _ => VB) rfl rfl ?_
    refine JP.reslot 117 (.bool true) (by simp) ?_
    refine JP.pure 23 rfl (by kernel_rfl) rfl (fun _ => Vi) rfl rfl ?_
    refine JP.pure 24 rfl (by kernel_rfl) rfl (fun _ => Vb) rfl rfl ?_
    refine JP.nil (by kernel_rfl) ?_
    repeat (first|refine Wa ?_|refine Wb ?_|refine Wc ?_|refine Wd ?_|refine We rfl ?_|refine Wf (by first|exact Va|exact Vb|exact Vc|exact Vd|exact Ve|exact Vf|exact Vg|exact Vh|exact Vi|exact Vj|exact Vk (by omega)|exact Vl|exact Vm|exact Vn|exact Vo|exact Vp|exact Vq|exact Vr|exact Vs (by omega)|exact Vt (by omega)|exact Vu (by omega)|exact Vv (by omega)|exact Vw|exact Vx|exact Vy|exact Vz|exact VA|exact VB|exact VC|exact VD|exact VE|exact VF) rfl ?_|(refine Wg rfl ?_; intro _)|(refine Wh rfl ?_; intro _)|refine Wi ?_|refine Wj ?_|refine Wk ?_|refine Wl ?_|refine Wm ?_|refine Wn ?_|refine Wo ?_|refine Wp ?_|refine Wq rfl ?_|refine Wr ?_|refine Ws ?_|refine Wt ?_|refine Wu ?_|refine Wv rfl rfl ?_|(refine Ww rfl ⟨rfl, by decide, by decide, by decide⟩ ?_; intro _))
    exact CT.done () rfl (fun w ho => ho.ent)
  · rw [e1, e2]
    dsimp only
    repeat (first|refine Wa ?_|refine Wb ?_|refine Wc ?_|refine Wd ?_|refine We rfl ?_|refine Wf (by first|exact Va|exact Vb|exact Vc|exact Vd|exact Ve|exact Vf|exact Vg|exact Vh|exact Vi|exact Vj|exact Vk (by omega)|exact Vl|exact Vm|exact Vn|exact Vo|exact Vp|exact Vq|exact Vr|exact Vs (by omega)|exact Vt (by omega)|exact Vu (by omega)|exact Vv (by omega)|exact Vw|exact Vx|exact Vy|exact Vz|exact VA|exact VB|exact VC|exact VD|exact VE|exact VF) rfl ?_|(refine Wg rfl ?_; intro _)|(refine Wh rfl ?_; intro _)|refine Wi ?_|refine Wj ?_|refine Wk ?_|refine Wl ?_|refine Wm ?_|refine Wn ?_|refine Wo ?_|refine Wp ?_|refine Wq rfl ?_|refine Wr ?_|refine Ws ?_|refine Wt ?_|refine Wu ?_|refine Wv rfl rfl ?_|(refine Ww rfl ⟨rfl, by decide, by decide, by decide⟩ ?_; intro _)|refine Wx rfl rfl ?_)
    have hnr : ¬ ((D.length : Int) ≤ room) := by omega
    refine JO.reslot 58 (.bool false) (by congr 1; simp [hnr]) ?_
    repeat (first|refine Wa ?_|refine Wb ?_|refine Wc ?_|refine Wd ?_|refine We rfl ?_|refine Wf (by first|exact Va|exact Vb|exact Vc|exact Vd|exact Ve|exact Vf|exact Vg|exact Vh|exact Vi|exact Vj|exact Vk (by omega)|exact Vl|exact Vm|exact Vn|exact Vo|exact Vp|exact Vq|exact Vr|exact Vs (by omega)|exact Vt (by omega)|exact Vu (by omega)|exact Vv (by omega)|exact Vw|exact Vx|exact Vy|exact Vz|exact VA|exact VB|exact VC|exact VD|exact VE|exact VF) rfl ?_|(refine Wg rfl ?_; intro _)|(refine Wh rfl ?_; intro _)|refine Wi ?_|refine Wj ?_|refine Wk ?_|refine Wl ?_|refine Wm ?_|refine Wn ?_|refine Wo ?_|refine Wp ?_|refine Wq rfl ?_|refine Wr ?_|refine Ws ?_|refine Wt ?_|refine Wu ?_|refine Wv rfl rfl ?_|(refine Ww rfl ⟨rfl, by decide, by decide, by decide⟩ ?_; intro _)|refine Wx rfl rfl ?_)
    refine JR.callSlT rfl (fun w1 hw => load_store w1 _ a k b (hw.get (A := sl a k b)) (by omega)) ?_
    intro a7 c7
    repeat (first|refine Wa ?_|refine Wb ?_|refine Wc ?_|refine Wd ?_|refine We rfl ?_|refine Wf (by first|exact Va|exact Vb|exact Vc|exact Vd|exact Ve|exact Vf|exact Vg|exact Vh|exact Vi|exact Vj|exact Vk (by omega)|exact Vl|exact Vm|exact Vn|exact Vo|exact Vp|exact Vq|exact Vr|exact Vs (by omega)|exact Vt (by omega)|exact Vu (by omega)|exact Vv (by omega)|exact Vw|exact Vx|exact Vy|exact Vz|exact VA|exact VB|exact VC|exact VD|exact VE|exact VF) rfl ?_|(refine Wg rfl ?_; intro _)|(refine Wh rfl ?_; intro _)|refine Wi ?_|refine Wj ?_|refine Wk ?_|refine Wl ?_|refine Wm ?_|refine Wn ?_|refine Wo ?_|refine Wp ?_|refine Wq rfl ?_|refine Wr ?_|refine Ws ?_|refine Wt ?_|refine Wu ?_|refine Wv rfl rfl ?_|(refine Ww rfl ⟨rfl, by decide, by decide, by decide⟩ ?_; intro _)|refine Wx rfl rfl ?_)
    refine JR.callBuf rfl (fun w1 hw => open_store w1 _ a k b (hw.get (A := sl a k b)) (by omega)) ?_
    intro a8 c8
    rw [ho]
    refine JO.more (fun w ho => ho.pub) ?_
    repeat (first|refine Wa ?_|refine Wb ?_|refine Wc ?_|refine Wd ?_|refine We rfl ?_|refine Wf (by first|exact Va|exact Vb|exact Vc|exact Vd|exact Ve|exact Vf|exact Vg|exact Vh|exact Vi|exact Vj|exact Vk (by omega)|exact Vl|exact Vm|exact Vn|exact Vo|exact Vp|exact Vq|exact Vr|exact Vs (by omega)|exact Vt (by omega)|exact Vu (by omega)|exact Vv (by omega)|exact Vw|exact Vx|exact Vy|exact Vz|exact VA|exact VB|exact VC|exact VD|exact VE|exact VF) rfl ?_|(refine Wg rfl ?_; intro _)|(refine Wh rfl ?_; intro _)|refine Wi ?_|refine Wj ?_|refine Wk ?_|refine Wl ?_|refine Wm ?_|refine Wn ?_|refine Wo ?_|refine Wp ?_|refine Wq rfl ?_|refine Wr ?_|refine Ws ?_|refine Wt ?_|refine Wu ?_|refine Wv rfl rfl ?_|(refine Ww rfl ⟨rfl, by decide, by decide, by decide⟩ ?_; intro _)|refine Wx rfl rfl ?_)
    refine JR.callSlT rfl (fun w1 hw => load_store w1 _ a8 c8 o (hw.get (A := sl a8 c8 o)) (by omega)) ?_
    rw [hL2, hE2]
    intro a9 c9
    repeat (first|refine Wa ?_|refine Wb ?_|refine Wc ?_|refine Wd ?_|refine We rfl ?_|refine Wf (by first|exact Va|exact Vb|exact Vc|exact Vd|exact Ve|exact Vf|exact Vg|exact Vh|exact Vi|exact Vj|exact Vk (by omega)|exact Vl|exact Vm|exact Vn|exact Vo|exact Vp|exact Vq|exact Vr|exact Vs (by omega)|exact Vt (by omega)|exact Vu (by omega)|exact Vv (by omega)|exact Vw|exact Vx|exact Vy|exact Vz|exact VA|exact VB|exact VC|exact VD|exact VE|exact VF) rfl ?_|(refine Wg rfl ?_; intro _)|(refine Wh rfl ?_; intro _)|refine Wi ?_|refine Wj ?_|refine Wk ?_|refine Wl ?_|refine Wm ?_|refine Wn ?_|refine Wo ?_|refine Wp ?_|refine Wq rfl ?_|refine Wr ?_|refine Ws ?_|refine Wt ?_|refine Wu ?_|refine Wv rfl rfl ?_|(refine Ww rfl ⟨rfl, by decide, by decide, by decide⟩ ?_; intro _)|refine Wx rfl rfl ?_)
    refine JR.callV rfl (fun w1 hw => list_ref w1 _ a7 a9 c7 c9 (loadL b) (loadL b) (hw.get (A := sl a7 c7 (loadL b))) (hw.get (A := sl a9 c9 (loadL b)))) ?_
    repeat (first|refine Wa ?_|refine Wb ?_|refine Wc ?_|refine Wd ?_|refine We rfl ?_|refine Wf (by first|exact Va|exact Vb|exact Vc|exact Vd|exact Ve|exact Vf|exact Vg|exact Vh|exact Vi|exact Vj|exact Vk (by omega)|exact Vl|exact Vm|exact Vn|exact Vo|exact Vp|exact Vq|exact Vr|exact Vs (by omega)|exact Vt (by omega)|exact Vu (by omega)|exact Vv (by omega)|exact Vw|exact Vx|exact Vy|exact Vz|exact VA|exact VB|exact VC|exact VD|exact VE|exact VF) rfl ?_|(refine Wg rfl ?_; intro _)|(refine Wh rfl ?_; intro _)|refine Wi ?_|refine Wj ?_|refine Wk ?_|refine Wl ?_|refine Wm ?_|refine Wn ?_|refine Wo ?_|refine Wp ?_|refine Wq rfl ?_|refine Wr ?_|refine Ws ?_|refine Wt ?_|refine Wu ?_|refine Wv rfl rfl ?_|(refine Ww rfl ⟨rfl, by decide, by decide, by decide⟩ ?_; intro _)|refine Wx rfl rfl ?_)
    refine JC.reslot 18 (.bool true) (by simp) ?_
    refine JC.drawP mixed ?_
    refine JP.pure 0 rfl (by kernel_rfl) rfl (fun _ => Va) rfl rfl ?_
    refine JP.pure 1 rfl (by kernel_rfl) rfl (fun _ => Va) rfl rfl ?_
    refine JP.pure 2 rfl (by kernel_rfl) rfl (fun _ => Va) rfl rfl ?_
    refine JP.pure 3 rfl (by kernel_rfl) rfl (fun _ => Va) rfl rfl ?_
    refine JP.pure 4 rfl (by kernel_rfl) rfl (fun _ => Vl) rfl rfl ?_
    refine JP.reslot 99 (.bool true) (by simp) ?_
    refine JP.pure 5 rfl (by kernel_rfl) rfl (fun _ => Vi) rfl rfl ?_
    refine JP.pure 6 rfl (by kernel_rfl) rfl (fun _ => Va) rfl rfl ?_
    refine JP.pure 7 rfl (by kernel_rfl) rfl (fun _ => Va) rfl rfl ?_
    refine JP.pure 8 rfl (by kernel_rfl) rfl (fun _ => Va) rfl rfl ?_
    refine JP.pure 9 rfl (by kernel_rfl) rfl (fun _ => Vf) rfl rfl ?_
    refine JP.pure 10 rfl (by kernel_rfl) rfl (fun _ => Vl) rfl rfl ?_
    refine JP.reslot 105 (.bool true) (by congr 1; exact decide_eq_true (by omega)) ?_
    refine JP.pure 11 rfl (by kernel_rfl) rfl (fun _ => Vi) rfl rfl ?_
    refine JP.pure 12 rfl (by kernel_rfl) rfl (fun _ => Va) rfl rfl ?_
    refine JP.pure 13 rfl (by kernel_rfl) rfl (fun _ => Va) rfl rfl ?_
    refine JP.takeCall 14 [.st (sl a7 c7 (loadL b))] rfl (by kernel_rfl) rfl (fun w1 hw => closed_yes w1 _ a7 c7 (loadL b) hw.get (loadL_few b (by omega)) (loadL_fine b) (loadL_isClosed b)) rfl rfl ?_
    refine JP.pure 15 rfl (by kernel_rfl) rfl (fun _ => Vi) rfl rfl ?_
    refine JP.pure 16 rfl (by kernel_rfl) rfl (fun _ => Va) rfl rfl ?_
    refine JP.pure 17 rfl (by kernel_rfl) rfl (fun _ => Va) rfl rfl ?_
    refine JP.pure 20 rfl (by kernel_rfl) rfl (fun _ => Va) rfl rfl ?_
    refine JP.take 21 [.st (sl a8 c8 o)] rfl (by kernel_rfl) rfl OpV.bytesStr rfl rfl ?_
    refine JP.op 18 (by kernel_rfl) rfl rfl (JR.callBuf rfl (fun w1 hw => open_store w1 _ a8 c8 o (hw.get (A := sl a8 c8 o)) (by omega)) fun a5 c5 => Wd ⟨rfl, (by repeat (first|exact Obs.nil|refine Obs.keep ?_|refine Obs.skip (by kernel_rfl) ?_)), ?_⟩)
    rw [hE2, List.take_of_length_le (by omega : o.length ≤ loadEnd b)]
    refine JP.more (fun w ho => ho.pub) ?_
    refine JP.take 19 [.st (sl a5 c5 o)] rfl (by kernel_rfl) rfl OpV.bytesStr rfl rfl ?_
    refine JP.pure 22 rfl (by kernel_rfl) rfl (fun _ => VB) rfl rfl ?_
    refine JP.reslot 117 (.bool true) (by simp) ?_
    refine JP.pure 23 rfl (by kernel_rfl) rfl (fun _ => Vi) rfl rfl ?_
    refine JP.pure 24 rfl (by kernel_rfl) rfl (fun _ => Vb) rfl rfl ?_
    refine JP.nil (by kernel_rfl) ?_
    repeat (first|refine Wa ?_|refine Wb ?_|refine Wc ?_|refine Wd ?_|refine We rfl ?_|refine Wf (by first|exact Va|exact Vb|exact Vc|exact Vd|exact Ve|exact Vf|exact Vg|exact Vh|exact Vi|exact Vj|exact Vk (by omega)|exact Vl|exact Vm|exact Vn|exact Vo|exact Vp|exact Vq|exact Vr|exact Vs (by omega)|exact Vt (by omega)|exact Vu (by omega)|exact Vv (by omega)|exact Vw|exact Vx|exact Vy|exact Vz|exact VA|exact VB|exact VC|exact VD|exact VE|exact VF) rfl ?_|(refine Wg rfl ?_; intro _)|(refine Wh rfl ?_; intro _)|refine Wi ?_|refine Wj ?_|refine Wk ?_|refine Wl ?_|refine Wm ?_|refine Wn ?_|refine Wo ?_|refine Wp ?_|refine Wq rfl ?_|refine Wr ?_|refine Ws ?_|refine Wt ?_|refine Wu ?_|refine Wv rfl rfl ?_|(refine Ww rfl ⟨rfl, by decide, by decide, by decide⟩ ?_; intro _))
    exact CT.done () rfl (fun w ho => ho.ent)
  · rw [e1, e2]
    dsimp only
    repeat (first|refine Wa ?_|refine Wb ?_|refine Wc ?_|refine Wd ?_|refine We rfl ?_|refine Wf (by first|exact Va|exact Vb|exact Vc|exact Vd|exact Ve|exact Vf|exact Vg|exact Vh|exact Vi|exact Vj|exact Vk (by omega)|exact Vl|exact Vm|exact Vn|exact Vo|exact Vp|exact Vq|exact Vr|exact Vs (by omega)|exact Vt (by omega)|exact Vu (by omega)|exact Vv (by omega)|exact Vw|exact Vx|exact Vy|exact Vz|exact VA|exact VB|exact VC|exact VD|exact VE|exact VF) rfl ?_|(refine Wg rfl ?_; intro _)|(refine Wh rfl ?_; intro _)|refine Wi ?_|refine Wj ?_|refine Wk ?_|refine Wl ?_|refine Wm ?_|refine Wn ?_|refine Wo ?_|refine Wp ?_|refine Wq rfl ?_|refine Wr ?_|refine Ws ?_|refine Wt ?_|refine Wu ?_|refine Wv rfl rfl ?_|(refine Ww rfl ⟨rfl, by decide, by decide, by decide⟩ ?_; intro _)|refine Wx rfl rfl ?_)
    refine JO.reslot 58 (.bool false) (by congr 1; simp [hr]) ?_
    repeat (first|refine Wa ?_|refine Wb ?_|refine Wc ?_|refine Wd ?_|refine We rfl ?_|refine Wf (by first|exact Va|exact Vb|exact Vc|exact Vd|exact Ve|exact Vf|exact Vg|exact Vh|exact Vi|exact Vj|exact Vk (by omega)|exact Vl|exact Vm|exact Vn|exact Vo|exact Vp|exact Vq|exact Vr|exact Vs (by omega)|exact Vt (by omega)|exact Vu (by omega)|exact Vv (by omega)|exact Vw|exact Vx|exact Vy|exact Vz|exact VA|exact VB|exact VC|exact VD|exact VE|exact VF) rfl ?_|(refine Wg rfl ?_; intro _)|(refine Wh rfl ?_; intro _)|refine Wi ?_|refine Wj ?_|refine Wk ?_|refine Wl ?_|refine Wm ?_|refine Wn ?_|refine Wo ?_|refine Wp ?_|refine Wq rfl ?_|refine Wr ?_|refine Ws ?_|refine Wt ?_|refine Wu ?_|refine Wv rfl rfl ?_|(refine Ww rfl ⟨rfl, by decide, by decide, by decide⟩ ?_; intro _)|refine Wx rfl rfl ?_)
    refine Wf OpV.bytesStr rfl ?_
    repeat (first|refine Wa ?_|refine Wb ?_|refine Wc ?_|refine Wd ?_|refine We rfl ?_|refine Wf (by first|exact Va|exact Vb|exact Vc|exact Vd|exact Ve|exact Vf|exact Vg|exact Vh|exact Vi|exact Vj|exact Vk (by omega)|exact Vl|exact Vm|exact Vn|exact Vo|exact Vp|exact Vq|exact Vr|exact Vs (by omega)|exact Vt (by omega)|exact Vu (by omega)|exact Vv (by omega)|exact Vw|exact Vx|exact Vy|exact Vz|exact VA|exact VB|exact VC|exact VD|exact VE|exact VF) rfl ?_|(refine Wg rfl ?_; intro _)|(refine Wh rfl ?_; intro _)|refine Wi ?_|refine Wj ?_|refine Wk ?_|refine Wl ?_|refine Wm ?_|refine Wn ?_|refine Wo ?_|refine Wp ?_|refine Wq rfl ?_|refine Wr ?_|refine Ws ?_|refine Wt ?_|refine Wu ?_|refine Wv rfl rfl ?_|(refine Ww rfl ⟨rfl, by decide, by decide, by decide⟩ ?_; intro _)|refine Wx rfl rfl ?_)
    refine Wf OpV.bytesStr rfl ?_
    repeat (first|refine Wa ?_|refine Wb ?_|refine Wc ?_|refine Wd ?_|refine We rfl ?_|refine Wf (by first|exact Va|exact Vb|exact Vc|exact Vd|exact Ve|exact Vf|exact Vg|exact Vh|exact Vi|exact Vj|exact Vk (by omega)|exact Vl|exact Vm|exact Vn|exact Vo|exact Vp|exact Vq|exact Vr|exact Vs (by omega)|exact Vt (by omega)|exact Vu (by omega)|exact Vv (by omega)|exact Vw|exact Vx|exact Vy|exact Vz|exact VA|exact VB|exact VC|exact VD|exact VE|exact VF) rfl ?_|(refine Wg rfl ?_; intro _)|(refine Wh rfl ?_; intro _)|refine Wi ?_|refine Wj ?_|refine Wk ?_|refine Wl ?_|refine Wm ?_|refine Wn ?_|refine Wo ?_|refine Wp ?_|refine Wq rfl ?_|refine Wr ?_|refine Ws ?_|refine Wt ?_|refine Wu ?_|refine Wv rfl rfl ?_|(refine Ww rfl ⟨rfl, by decide, by decide, by decide⟩ ?_; intro _)|refine Wx rfl rfl ?_)
    refine JO.reslot 69 (.bool false) (by simp) ?_
    repeat (first|refine Wa ?_|refine Wb ?_|refine Wc ?_|refine Wd ?_|refine We rfl ?_|refine Wf (by first|exact Va|exact Vb|exact Vc|exact Vd|exact Ve|exact Vf|exact Vg|exact Vh|exact Vi|exact Vj|exact Vk (by omega)|exact Vl|exact Vm|exact Vn|exact Vo|exact Vp|exact Vq|exact Vr|exact Vs (by omega)|exact Vt (by omega)|exact Vu (by omega)|exact Vv (by omega)|exact Vw|exact Vx|exact Vy|exact Vz|exact VA|exact VB|exact VC|exact VD|exact VE|exact VF) rfl ?_|(refine Wg rfl ?_; intro _)|(refine Wh rfl ?_; intro _)|refine Wi ?_|refine Wj ?_|refine Wk ?_|refine Wl ?_|refine Wm ?_|refine Wn ?_|refine Wo ?_|refine Wp ?_|refine Wq rfl ?_|refine Wr ?_|refine Ws ?_|refine Wt ?_|refine Wu ?_|refine Wv rfl rfl ?_|(refine Ww rfl ⟨rfl, by decide, by decide, by decide⟩ ?_; intro _)|refine Wx rfl rfl ?_)
    refine JO.test 73 (fun _ => ?_) (fun h => absurd h (by omega))
    repeat (first|refine Wa ?_|refine Wb ?_|refine Wc ?_|refine Wd ?_|refine We rfl ?_|refine Wf (by first|exact Va|exact Vb|exact Vc|exact Vd|exact Ve|exact Vf|exact Vg|exact Vh|exact Vi|exact Vj|exact Vk (by omega)|exact Vl|exact Vm|exact Vn|exact Vo|exact Vp|exact Vq|exact Vr|exact Vs (by omega)|exact Vt (by omega)|exact Vu (by omega)|exact Vv (by omega)|exact Vw|exact Vx|exact Vy|exact Vz|exact VA|exact VB|exact VC|exact VD|exact VE|exact VF) rfl ?_|(refine Wg rfl ?_; intro _)|(refine Wh rfl ?_; intro _)|refine Wi ?_|refine Wj ?_|refine Wk ?_|refine Wl ?_|refine Wm ?_|refine Wn ?_|refine Wo ?_|refine Wp ?_|refine Wq rfl ?_|refine Wr ?_|refine Ws ?_|refine Wt ?_|refine Wu ?_|refine Wv rfl rfl ?_|(refine Ww rfl ⟨rfl, by decide, by decide, by decide⟩ ?_; intro _)|refine Wx rfl rfl ?_)
    refine JC.reslot 79 (.bool false) (by congr 1; exact decide_eq_false (by omega)) ?_
    repeat (first|refine Wa ?_|refine Wb ?_|refine Wc ?_|refine Wd ?_|refine We rfl ?_|refine Wf (by first|exact Va|exact Vb|exact Vc|exact Vd|exact Ve|exact Vf|exact Vg|exact Vh|exact Vi|exact Vj|exact Vk (by omega)|exact Vl|exact Vm|exact Vn|exact Vo|exact Vp|exact Vq|exact Vr|exact Vs (by omega)|exact Vt (by omega)|exact Vu (by omega)|exact Vv (by omega)|exact Vw|exact Vx|exact Vy|exact Vz|exact VA|exact VB|exact VC|exact VD|exact VE|exact VF) rfl ?_|(refine Wg rfl ?_; intro _)|(refine Wh rfl ?_; intro _)|refine Wi ?_|refine Wj ?_|refine Wk ?_|refine Wl ?_|refine Wm ?_|refine Wn ?_|refine Wo ?_|refine Wp ?_|refine Wq rfl ?_|refine Wr ?_|refine Ws ?_|refine Wt ?_|refine Wu ?_|refine Wv rfl rfl ?_|(refine Ww rfl ⟨rfl, by decide, by decide, by decide⟩ ?_; intro _)|refine Wx rfl rfl ?_)
    refine JR.callSlT rfl (fun w1 hw => load_store w1 _ a k b (hw.get (A := sl a k b)) (by omega)) ?_
    intro a7 c7
    repeat (first|refine Wa ?_|refine Wb ?_|refine Wc ?_|refine Wd ?_|refine We rfl ?_|refine Wf (by first|exact Va|exact Vb|exact Vc|exact Vd|exact Ve|exact Vf|exact Vg|exact Vh|exact Vi|exact Vj|exact Vk (by omega)|exact Vl|exact Vm|exact Vn|exact Vo|exact Vp|exact Vq|exact Vr|exact Vs (by omega)|exact Vt (by omega)|exact Vu (by omega)|exact Vv (by omega)|exact Vw|exact Vx|exact Vy|exact Vz|exact VA|exact VB|exact VC|exact VD|exact VE|exact VF) rfl ?_|(refine Wg rfl ?_; intro _)|(refine Wh rfl ?_; intro _)|refine Wi ?_|refine Wj ?_|refine Wk ?_|refine Wl ?_|refine Wm ?_|refine Wn ?_|refine Wo ?_|refine Wp ?_|refine Wq rfl ?_|refine Wr ?_|refine Ws ?_|refine Wt ?_|refine Wu ?_|refine Wv rfl rfl ?_|(refine Ww rfl ⟨rfl, by decide, by decide, by decide⟩ ?_; intro _)|refine Wx rfl rfl ?_)
    refine JR.callBuf rfl (fun w1 hw => open_store w1 _ a k b (hw.get (A := sl a k b)) (by omega)) ?_
    intro a8 c8
    rw [ho]
    refine JO.more (fun w ho => ho.pub) ?_
    repeat (first|refine Wa ?_|refine Wb ?_|refine Wc ?_|refine Wd ?_|refine We rfl ?_|refine Wf (by first|exact Va|exact Vb|exact Vc|exact Vd|exact Ve|exact Vf|exact Vg|exact Vh|exact Vi|exact Vj|exact Vk (by omega)|exact Vl|exact Vm|exact Vn|exact Vo|exact Vp|exact Vq|exact Vr|exact Vs (by omega)|exact Vt (by omega)|exact Vu (by omega)|exact Vv (by omega)|exact Vw|exact Vx|exact Vy|exact Vz|exact VA|exact VB|exact VC|exact VD|exact VE|exact VF) rfl ?_|(refine Wg rfl ?_; intro _)|(refine Wh rfl ?_; intro _)|refine Wi ?_|refine Wj ?_|refine Wk ?_|refine Wl ?_|refine Wm ?_|refine Wn ?_|refine Wo ?_|refine Wp ?_|refine Wq rfl ?_|refine Wr ?_|refine Ws ?_|refine Wt ?_|refine Wu ?_|refine Wv rfl rfl ?_|(refine Ww rfl ⟨rfl, by decide, by decide, by decide⟩ ?_; intro _)|refine Wx rfl rfl ?_)
    refine JR.callSlT rfl (fun w1 hw => load_store w1 _ a8 c8 o (hw.get (A := sl a8 c8 o)) (by omega)) ?_
    rw [hL2, hE2]
    intro a9 c9
    repeat (first|refine Wa ?_|refine Wb ?_|refine Wc ?_|refine Wd ?_|refine We rfl ?_|refine Wf (by first|exact Va|exact Vb|exact Vc|exact Vd|exact Ve|exact Vf|exact Vg|exact Vh|exact Vi|exact Vj|exact Vk (by omega)|exact Vl|exact Vm|exact Vn|exact Vo|exact Vp|exact Vq|exact Vr|exact Vs (by omega)|exact Vt (by omega)|exact Vu (by omega)|exact Vv (by omega)|exact Vw|exact Vx|exact Vy|exact Vz|exact VA|exact VB|exact VC|exact VD|exact VE|exact VF) rfl ?_|(refine Wg rfl ?_; intro _)|(refine Wh rfl ?_; intro _)|refine Wi ?_|refine Wj ?_|refine Wk ?_|refine Wl ?_|refine Wm ?_|refine Wn ?_|refine Wo ?_|refine Wp ?_|refine Wq rfl ?_|refine Wr ?_|refine Ws ?_|refine Wt ?_|refine Wu ?_|refine Wv rfl rfl ?_|(refine Ww rfl ⟨rfl, by decide, by decide, by decide⟩ ?_; intro _)|refine Wx rfl rfl ?_)
    refine JR.callV rfl (fun w1 hw => list_ref w1 _ a7 a9 c7 c9 (loadL b) (loadL b) (hw.get (A := sl a7 c7 (loadL b))) (hw.get (A := sl a9 c9 (loadL b)))) ?_
    repeat (first|refine Wa ?_|refine Wb ?_|refine Wc ?_|refine Wd ?_|refine We rfl ?_|refine Wf (by first|exact Va|exact Vb|exact Vc|exact Vd|exact Ve|exact Vf|exact Vg|exact Vh|exact Vi|exact Vj|exact Vk (by omega)|exact Vl|exact Vm|exact Vn|exact Vo|exact Vp|exact Vq|exact Vr|exact Vs (by omega)|exact Vt (by omega)|exact Vu (by omega)|exact Vv (by omega)|exact Vw|exact Vx|exact Vy|exact Vz|exact VA|exact VB|exact VC|exact VD|exact VE|exact VF) rfl ?_|(refine Wg rfl ?_; intro _)|(refine Wh rfl ?_; intro _)|refine Wi ?_|refine Wj ?_|refine Wk ?_|refine Wl ?_|refine Wm ?_|refine Wn ?_|refine Wo ?_|refine Wp ?_|refine Wq rfl ?_|refine Wr ?_|refine Ws ?_|refine Wt ?_|refine Wu ?_|refine Wv rfl rfl ?_|(refine Ww rfl ⟨rfl, by decide, by decide, by decide⟩ ?_; intro _)|refine Wx rfl rfl ?_)
    refine JC.reslot 18 (.bool true) (by simp) ?_
    refine JC.drawP mixed ?_
    refine JP.pure 0 rfl (by kernel_rfl) rfl (fun _ => Va) rfl rfl ?_
    refine JP.pure 1 rfl (by kernel_rfl) rfl (fun _ => Va) rfl rfl ?_
    refine JP.pure 2 rfl (by kernel_rfl) rfl (fun _ => Va) rfl rfl ?_
    refine JP.pure 3 rfl (by kernel_rfl) rfl (fun _ => Va) rfl rfl ?_
    refine JP.pure 4 rfl (by kernel_rfl) rfl (fun _ => Vl) rfl rfl ?_
    refine JP.reslot 99 (.bool true) (by simp) ?_
    refine JP.pure 5 rfl (by kernel_rfl) rfl (fun _ => Vi) rfl rfl ?_
    refine JP.pure 6 rfl (by kernel_rfl) rfl (fun _ => Va) rfl rfl ?_
    refine JP.pure 7 rfl (by kernel_rfl) rfl (fun _ => Va) rfl rfl ?_
    refine JP.pure 8 rfl (by kernel_rfl) rfl (fun _ => Va) rfl rfl ?_
    refine JP.pure 9 rfl (by kernel_rfl) rfl (fun _ => Vf) rfl rfl ?_
    refine JP.pure 10 rfl (by kernel_rfl) rfl (fun _ => Vl) rfl rfl ?_
    refine JP.reslot 105 (.bool true) (by congr 1; exact decide_eq_true (by omega)) ?_
    refine JP.pure 11 rfl (by kernel_rfl) rfl (fun _ => Vi) rfl rfl ?_
    refine JP.pure 12 rfl (by kernel_rfl) rfl (fun _ => Va) rfl rfl ?_
    refine JP.pure 13 rfl (by kernel_rfl) rfl (fun _ => Va) rfl rfl ?_
    refine JP.takeCall 14 [.st (sl a7 c7 (loadL b))] rfl (by kernel_rfl) rfl (fun w1 hw => closed_yes w1 _ a7 c7 (loadL b) hw.get (loadL_few b (by omega)) (loadL_fine b) (loadL_isClosed b)) rfl rfl ?_
    refine JP.pure 15 rfl (by kernel_rfl) rfl (fun _ => Vi) rfl rfl ?_
    refine JP.pure 16 rfl (by kernel_rfl) rfl (fun _ => Va) rfl rfl ?_
    refine JP.pure 17 rfl (by kernel_rfl) rfl (fun _ => Va) rfl rfl ?_
    refine JP.pure 20 rfl (by kernel_rfl) rfl (fun _ => Va) rfl rfl ?_
    refine JP.take 21 [.st (sl a8 c8 o)] rfl (by kernel_rfl) rfl OpV.bytesStr rfl rfl ?_
    refine JP.op 18 (by kernel_rfl) rfl rfl (JR.callBuf rfl (fun w1 hw => open_store w1 _ a8 c8 o (hw.get (A := sl a8 c8 o)) (by omega)) fun a5 c5 => Wd ⟨rfl, (by repeat (first|exact Obs.nil|refine Obs.keep ?_|refine Obs.skip (by kernel_rfl) ?_)), ?_⟩)
    rw [hE2, List.take_of_length_le (by omega : o.length ≤ loadEnd b)]
    refine JP.more (fun w ho => ho.pub) ?_
    refine JP.take 19 [.st (sl a5 c5 o)] rfl (by kernel_rfl) rfl OpV.bytesStr rfl rfl ?_
    refine JP.pure 22 rfl (by kernel_rfl) rfl (fun _ => VB) rfl rfl ?_
    refine JP.reslot 117 (.bool true) (by simp) ?_
    refine JP.pure 23 rfl (by kernel_rfl) rfl (fun _ => Vi) rfl rfl ?_
    refine JP.pure 24 rfl (by kernel_rfl) rfl (fun _ => Vb) rfl rfl ?_
    refine JP.nil (by kernel_rfl) ?_
    repeat (first|refine Wa ?_|refine Wb ?_|refine Wc ?_|refine Wd ?_|refine We rfl ?_|refine Wf (by first|exact Va|exact Vb|exact Vc|exact Vd|exact Ve|exact Vf|exact Vg|exact Vh|exact Vi|exact Vj|exact Vk (by omega)|exact Vl|exact Vm|exact Vn|exact Vo|exact Vp|exact Vq|exact Vr|exact Vs (by omega)|exact Vt (by omega)|exact Vu (by omega)|exact Vv (by omega)|exact Vw|exact Vx|exact Vy|exact Vz|exact VA|exact VB|exact VC|exact VD|exact VE|exact VF) rfl ?_|(refine Wg rfl ?_; intro _)|(refine Wh rfl ?_; intro _)|refine Wi ?_|refine Wj ?_|refine Wk ?_|refine Wl ?_|refine Wm ?_|refine Wn ?_|refine Wo ?_|refine Wp ?_|refine Wq rfl ?_|refine Wr ?_|refine Ws ?_|refine Wt ?_|refine Wu ?_|refine Wv rfl rfl ?_|(refine Ww rfl ⟨rfl, by decide, by decide, by decide⟩ ?_; intro _))
    exact CT.done () rfl (fun w ho => ho.ent)
end Ab
end Go.Proofs.YtglclakhjmogiaaGreat

/- Arguments that read as data, told as the layer tells memory. -/
namespace Go.Proofs.YtglclakhjmogiaaGreat
namespace Ab
open Go Go.RowKit
set_option linter.unusedVariables false
set_option linter.unusedSimpArgs false

/-- Cells of type t that read as data are those of some element. -/
structure OpenT (P : Program) (α : Type) [Cell α] (t : TypeId) : Prop where
  ok : ∀ {H : Type} {enc : TypeId × Value → H} {w : World} {sp : Nat → Bool} {held : Bool} {fuel : Nat} {cs : List Value} {x : DataW H × List MemPlace},
    DataW.trod enc P w 0 sp held fuel t cs = some x → (∀ n ∈ x.1.weights P t, n ≤ reachBytes) → ∃ (u : α) (y : Cell.Ix α), cs = Cell.cells u y ∧ ∀ A ∈ Cell.facts u y, A.holds (fun _ => True) w

theorem weightsAll_mem {H : Type} {P : Program} {e : TypeId} {d : DataW H} {n : Nat} (hn : n ∈ d.weights P e) : ∀ {ds : List (DataW H)}, d ∈ ds → n ∈ DataW.weightsAll P e ds
  | [], h => by cases h
  | d' :: ds, h => by
    simp only [DataW.weightsAll, List.mem_append]
    rcases List.mem_cons.1 h with rfl | h
    · exact .inl hn
    · exact .inr (weightsAll_mem hn h)

theorem add_zero_addr (a : Addr) : (a.add 0).add 0 = a := by simp [Addr.add]
theorem cells_get {w : World} {a : Addr} {n : Nat} {ci : List Value} (h : w.cells? 0 a n = some ci) (j : Nat) (v : Value) (hv : ci[j]? = some v) : w.cell? (a.add j) = some v := by
  unfold World.cells? at h
  rw [if_pos (Nat.zero_le _)] at h
  have hl := mapM_some_length h
  have hj : j < n := by
    have := (List.getElem?_eq_some_iff.1 hv).1
    rw [hl, List.length_range] at this
    exact this
  have := mapM_some_get h j j (by simp [hj])
  rw [this, hv]

theorem OpenT.slice {P : Program} {α : Type} [Cell α] {t e : TypeId} (hO : OpenT P α e) (ht : P.underlying t = some (.slice e)) (hc : P.cellsOf e = Cell.sz α) (hb : 1 ≤ P.bytesOf e)
    {H : Type} {enc : TypeId × Value → H} {w : World} {sp : Nat → Bool} {held : Bool} {fuel : Nat} {cs : List Value} {x : DataW H × List MemPlace}
    (h : DataW.trod enc P w 0 sp held fuel t cs = some x) (hw : ∀ n ∈ x.1.weights P t, n ≤ reachBytes) :
    ∃ (a : Option Addr) (c : Nat) (L : List α), cs = [.slice a L.length c] ∧ (sl a c L).holds (fun _ => True) w := by
  rcases DataW.trod_slice ht h with ⟨rfl, rfl⟩ | ⟨a, len, cap, elems, rest, n, _, rfl, rfl, _, hlc, hcm, hlen, helems, _, _⟩
  · exact ⟨none, 0, [], rfl, sl_nil⟩
  · simp only [DataW.weights, ht] at hw
    have hw1 : len ≤ reachBytes := by
      have := hw _ (List.mem_cons_self ..)
      simp only [List.length_map] at this
      have h2 : (elems.length + rest.length) * 1 ≤ (elems.length + rest.length) * P.bytesOf e := Nat.mul_le_mul_left _ hb
      omega
    have key : ∀ i (hi : i < len), ∃ (u : α), ∃ (y : Cell.Ix α), (∀ j v, (Cell.cells u y)[j]? = some v → w.cell? ((a.add (i * Cell.sz α)).add j) = some v) ∧ ∀ A ∈ Cell.facts u y, A.holds (fun _ => True) w := by
      intro i hi
      have h1 := helems i hi
      have hi' : i < elems.length := by omega
      rw [List.getElem?_eq_getElem hi', hc] at h1
      obtain ⟨ci, hci, hd⟩ := Option.bind_eq_some_iff.1 h1
      obtain ⟨u, y, rfl, hf⟩ := hO.ok hd (fun n hn => hw n (List.mem_cons_of_mem _ (List.mem_append_left _ (weightsAll_mem hn (List.mem_map_of_mem (List.getElem_mem hi'))))))
      exact ⟨u, y, fun j v hv => cells_get hci j v hv, hf⟩
    obtain ⟨f, hf⟩ := Classical.axiomOfChoice (fun i : Fin len => key i.1 i.2)
    refine ⟨some a, cap, List.ofFn f, by simp, ?_⟩
    have hR : reachBytes = 140737488351232 := rfl
    refine ⟨by simpa using hlc, hcm, by simp only [List.length_ofFn, lim]; omega, fun hne => ?_⟩
    have h0 : 0 < len := by
      have := List.length_pos_iff.2 hne
      simpa using this
    obtain ⟨y0, hy0, _⟩ := hf ⟨0, h0⟩
    have hpos : 0 < (Cell.cells (f ⟨0, h0⟩) y0).length := by rw [Cell.len]; exact Cell.pos
    have hc0 := hy0 0 _ (List.getElem?_eq_getElem hpos)
    simp only [Nat.zero_mul, add_zero_addr] at hc0
    obtain ⟨b, off, spot⟩ := a
    have hspot : spot = none := by
      cases spot with
      | none => rfl
      | some s =>
        unfold World.cell? at hc0
        split at hc0
        · simp at hc0
        · cases hc0
    subst hspot
    refine ⟨b, off, rfl, trivial, ?_, fun i hi => ?_⟩
    · rcases Nat.lt_or_ge b w.heap.size with h | h
      · exact h
      · unfold World.cell? at hc0
        simp [Array.getElem?_eq_none h] at hc0
    · have hi' : i < len := by simpa using hi
      obtain ⟨y, hy, hfa⟩ := hf ⟨i, hi'⟩
      refine ⟨y, fun j v hv => ?_, fun A hA => ?_⟩
      · simp only [List.getElem_ofFn] at hv
        have := hy j v hv
        rw [Addr.add_mid, Addr.add_mid] at this
        exact this
      · simp only [List.getElem_ofFn] at hA
        exact hfa A hA

theorem open_byte : OpenT Tryz.prog UInt8 5 := ⟨fun h _ => by
  obtain ⟨n, rfl, _, hw⟩ := DataW.trod_int Tryz.underlying5 h
  have hb : 0 ≤ n ∧ n ≤ 255 := by simpa [Lit.wf, IntKind.min, IntKind.max, IntKind.signed, IntKind.bits] using hw
  refine ⟨UInt8.ofNat n.toNat, (), ?_, by simp [Cell.facts]⟩
  show _ = [byteV _]
  simp only [byteV, List.cons.injEq, and_true, Value.int.injEq, true_and]
  rw [UInt8.toNat_ofNat']
  omega⟩

def byteOfV : Value → UInt8
  | .int _ n => UInt8.ofNat n.toNat
  | _ => 0
set_option maxRecDepth 100000 in
theorem open_id : OpenT Tryz.prog ID 47 := ⟨fun {H enc w sp held fuel cs x} h _ => by
  have hcell : Tryz.prog.cellsOf 5 = 1 := by kernel_rfl
  have hcell2 : Tryz.prog.cellsOf 47 = 32 := by kernel_rfl
  obtain ⟨xs, m, rfl, rfl, hl, hlx, hx⟩ := DataW.trod_array Tryz.underlying47 h
  rw [hcell2] at hl
  have key : ∀ i (hi : i < cs.length), cs[i] = byteV (byteOfV cs[i]) := by
    intro i hi
    have h1 := hx i (by omega)
    rw [hcell, Nat.mul_one, List.getElem?_eq_getElem (by omega)] at h1
    have h2 : (cs.drop i).take 1 = [cs[i]] := by
      rw [List.drop_eq_getElem_cons hi]; rfl
    rw [h2] at h1
    obtain ⟨n, hn, _, hw⟩ := DataW.trod_int Tryz.underlying5 h1
    injection hn with hn
    have hb : 0 ≤ n ∧ n ≤ 255 := by simpa [Lit.wf, IntKind.min, IntKind.max, IntKind.signed, IntKind.bits] using hw
    rw [hn]
    simp only [byteOfV, byteV, Value.int.injEq, true_and]
    rw [UInt8.toNat_ofNat']
    omega
  refine ⟨⟨cs.map byteOfV, by rw [List.length_map]; exact hl⟩, (), ?_, by simp [Cell.facts]⟩
  show cs = (cs.map byteOfV).map byteV
  apply List.ext_getElem
  · simp
  · intro i h1 h2
    simp only [List.getElem_map]
    exact key i h1⟩

set_option maxRecDepth 100000 in
theorem open_commit : OpenT Tryz.prog Commit 34 := ⟨fun {H enc w sp held fuel cs x} h hw => by
  have c24 : Tryz.prog.cellsOf 25 = 2 := by kernel_rfl
  have c27 : Tryz.prog.cellsOf 27 = 4 := by kernel_rfl
  have c29 : Tryz.prog.cellsOf 34 = 8 := by kernel_rfl
  have c25 : Tryz.prog.cellsOf 23 = 1 := by kernel_rfl
  have c3 : Tryz.prog.cellsOf 3 = 1 := by kernel_rfl
  have c9 : Tryz.prog.cellsOf 9 = 1 := by kernel_rfl
  obtain ⟨xs, m, rfl, rfl, hl, hlx, hx⟩ := DataW.trod_struct Tryz.underlying34 h
  rw [c29] at hl
  match cs, hl with
  | [v0, v1, v2, v3, v4, v5, v6, v7], _ =>
  match xs, hlx with
  | [x0, x1, x2, x3], _ =>
  have h0 := hx 0 _ rfl
  have h1 := hx 1 _ rfl
  have h2 := hx 2 _ rfl
  have h3 := hx 3 _ rfl
  simp only [List.getElem_toArray, List.getElem_cons_zero, List.getElem_cons_succ, c24, c3, c25, c27, List.drop_zero, List.drop_succ_cons, List.take_succ_cons, List.take_zero, List.getElem?_cons_zero, List.getElem?_cons_succ] at h0 h1 h2 h3
  obtain ⟨ys, m', rfl, rfl, _, hly, hy⟩ := DataW.trod_struct Tryz.underlying25 h0
  match ys, hly with
  | [y0, y1], _ =>
  have e0 := hy 0 _ rfl
  have e1 := hy 1 _ rfl
  simp only [List.getElem_toArray, List.getElem_cons_zero, List.getElem_cons_succ, c3, List.drop_zero, List.drop_succ_cons, List.take_succ_cons, List.take_zero, List.getElem?_cons_zero, List.getElem?_cons_succ] at e0 e1
  obtain ⟨n0, q0, _, _⟩ := DataW.trod_int Tryz.underlying3 e0
  obtain ⟨n1, q1, _, _⟩ := DataW.trod_int Tryz.underlying3 e1
  obtain ⟨n2, q2, _, _⟩ := DataW.trod_int Tryz.underlying3 h1
  obtain ⟨zs, m2, hm2, rfl, _, hlz, hz⟩ := DataW.trod_struct Tryz.underlying27 h3
  match zs, hlz with
  | [z0, z1, z2, z3], _ =>
  have g0 := hz 0 _ rfl
  have g1 := hz 1 _ rfl
  have g2 := hz 2 _ rfl
  have g3 := hz 3 _ rfl
  simp only [List.getElem_toArray, List.getElem_cons_zero, List.getElem_cons_succ, c3, c9, List.drop_zero, List.drop_succ_cons, List.take_succ_cons, List.take_zero, List.getElem?_cons_zero, List.getElem?_cons_succ] at g0 g1 g2 g3
  obtain ⟨k0, r0, _, _⟩ := DataW.trod_int Tryz.underlying3 g0
  obtain ⟨s1, r1, r1x, _⟩ := DataW.trod_string Tryz.underlying9 g1
  obtain ⟨s2, r2, r2x, _⟩ := DataW.trod_string Tryz.underlying9 g2
  obtain ⟨k3, r3, _, _⟩ := DataW.trod_int Tryz.underlying3 g3
  simp only [DataW.weights, Tryz.underlying34, List.map_cons, List.map_nil, DataW.weightsEach, List.append_nil, List.mem_append, List.map_toArray] at hw
  obtain ⟨pa, pc, L, q3, hsl⟩ := open_id.slice Tryz.underlying23 (by kernel_rfl) (by rw [show Tryz.prog.bytesOf 47 = 32 by kernel_rfl]; decide) h2 (fun n hn => hw n (by simp [hn]))
  injection q0 with q0
  injection q1 with q1
  injection q2 with q2
  injection q3 with q3
  injection r0 with r0
  injection r1 with r1
  injection r2 with r2
  injection r3 with r3
  subst q0 q1 q2 q3 r0 r1 r2 r3
  exact ⟨⟨⟨n0, n1⟩, n2, L, ⟨k0, s1, s2, k3⟩⟩, (pa, pc), rfl, fun A hA => by simp only [Cell.facts, List.mem_singleton] at hA; subst hA; exact hsl⟩⟩
end Ab
end Go.Proofs.YtglclakhjmogiaaGreat

/- Arguments of the laws, opened. -/
namespace Go.Proofs.YtglclakhjmogiaaGreat
open Go Go.ChangeShapes Go.WideShapes Go.ChangeAt Go.RowKit
set_option linter.unusedVariables false

theorem knobs : ownKnob Tryz.prog.godebug = none := by kernel_rfl
theorem laid : laidOutB Tryz.prog = true := by kernel_rfl

theorem arg_sl {P : Program} {H : Type} {enc : TypeId × Value → H} {W : World} {α : Type} [Ab.Cell α] {t e : TypeId} (hO : Ab.OpenT P α e) (ht : P.underlying t = some (.slice e)) (hc : P.cellsOf e = Ab.Cell.sz α) (hb : 1 ≤ P.bytesOf e)
    {r : Reach} {base : Nat} {v : Value} {d : DataW H} {p : List MemPlace} (hv : Value.okWide P W r base t v) (h : DataW.Trod enc P W 0 (fun _ => true) true t v d p) (hw : ∀ n ∈ d.weights P t, n ≤ reachBytes) :
    ∃ (a : Option Addr) (c : Nat) (L : List α), v = .slice a L.length c ∧ (Ab.sl a c L).holds (fun _ => True) W := by
  obtain ⟨a, len, cap, rfl⟩ := okWide_slice ht hv
  obtain ⟨fuel, hf⟩ := h
  obtain ⟨a', c', L, hcs, hsl⟩ := hO.slice ht hc hb hf hw
  simp [Value.cells] at hcs
  obtain ⟨rfl, rfl, rfl⟩ := hcs
  exact ⟨_, _, L, rfl, hsl⟩

theorem bytes_commit : Tryz.prog.bytesOf 34 = 96 := by kernel_rfl
section
variable {H : Type} {enc : TypeId × Value → H} {W : World} {r : Reach} {base : Nat} {v : Value} {d : DataW H} {p : List MemPlace}
set_option maxRecDepth 100000 in
theorem arg_commits (hv : Value.okWide Tryz.prog W r base 22 v) (h : DataW.Trod enc Tryz.prog W 0 (fun _ => true) true 22 v d p) (hw : ∀ n ∈ d.weights Tryz.prog 22, n ≤ reachBytes) :
    ∃ (a : Option Addr) (c : Nat) (L : List Ab.Commit), v = .slice a L.length c ∧ (Ab.sl a c L).holds (fun _ => True) W :=
  arg_sl Ab.open_commit Tryz.underlying22 (by kernel_rfl) (by rw [bytes_commit]; decide) hv h hw
set_option maxRecDepth 100000 in
theorem arg_bytes (hv : Value.okWide Tryz.prog W r base 50 v) (h : DataW.Trod enc Tryz.prog W 0 (fun _ => true) true 50 v d p) (hw : ∀ n ∈ d.weights Tryz.prog 50, n ≤ reachBytes) :
    ∃ (a : Option Addr) (c : Nat) (L : List UInt8), v = .slice a L.length c ∧ (Ab.sl a c L).holds (fun _ => True) W :=
  arg_sl Ab.open_byte Tryz.underlying50 (by kernel_rfl) (by decide +kernel) hv h hw
set_option maxRecDepth 100000 in
theorem arg_commit (hv : Value.okWide Tryz.prog W r base 34 v) (h : DataW.Trod enc Tryz.prog W 0 (fun _ => true) true 34 v d p) (hw : ∀ n ∈ d.weights Tryz.prog 34, n ≤ reachBytes) :
    ∃ (c : Ab.Commit) (a : Option Addr) (k : Nat), v = Ab.commitV c a k ∧ (Ab.sl a k c.parents).holds (fun _ => True) W := by
  unfold Value.okWide at hv
  rw [Tryz.underlying34] at hv
  obtain ⟨cs, rfl, _, _⟩ := hv
  obtain ⟨fuel, hf⟩ := h
  obtain ⟨u, y, hcs, hfa⟩ := Ab.open_commit.ok hf hw
  have hcs' : cs.toList = Ab.Cell.cells u y := hcs
  refine ⟨u, y.1, y.2, ?_, hfa _ (by simp [Ab.Cell.facts])⟩
  show Value.agg cs = .agg ⟨Ab.Cell.cells u y⟩
  rw [← hcs']
end
section
variable {H : Type} {enc : TypeId × Value → H} {P : Program} {w : World} {base : Nat} {spare : Nat → Bool} {held : Bool}
end
end Go.Proofs.YtglclakhjmogiaaGreat

/- The law StoreCuts returns true. -/
namespace Go.Proofs.YtglclakhjmogiaaGreat
namespace Ab
open Go Go.RowKit
set_option linter.unusedVariables false
set_option linter.unusedSimpArgs false
set_option synthInstance.maxSize 4000
set_option synthInstance.maxHeartbeats 400000
attribute [local irreducible] JC JO JR JQ andThen inBlock OpV Gives retTo JM JS

attribute [local irreducible] hashC
/-- k commits of s stand whole in at bytes, of the first i. -/
structure Cut (s : List Commit) (at_ : Int) (i k : Nat) : Prop where
  le : k ≤ i
  fits : ((diskL (s.take k)).length : Int) ≤ at_
  next : k < i → at_ < ((diskL (s.take (k + 1))).length : Int)
theorem Cut.yes {s : List Commit} {at_ : Int} {i k : Nat} (h : Cut s at_ i k) (hn : ((diskL (s.take (i + 1))).length : Int) ≤ at_) : Cut s at_ (i + 1) (i + 1) :=
  ⟨Nat.le_refl _, hn, fun hlt => absurd hlt (by omega)⟩
theorem Cut.no {s : List Commit} {at_ : Int} {i k : Nat} (h : Cut s at_ i k) (hn : ¬ ((diskL (s.take (i + 1))).length : Int) ≤ at_) : Cut s at_ (i + 1) k := by
  refine ⟨by have := h.le; omega, h.fits, fun hlt => ?_⟩
  by_cases hk : k < i
  · exact h.next hk
  · have : k = i := by have := h.le; omega
    subst this; omega
theorem cut_load {s : List Commit} (hc : Closed s) (hs : s.Pairwise leS) {at_ k : Nat} (ha : at_ ≤ (diskL s).length) (h : Cut s (at_ : Int) s.length k) :
    loadL ((diskL s).take at_) = s.take k ∧ loadEnd ((diskL s).take at_) = (diskL (s.take k)).length := by
  have hk := h.le
  have hf := h.fits
  have e2 : diskL s = diskL (s.take k) ++ diskL (s.drop k) := by unfold diskL; rw [← framesL_append, ← List.map_append, List.take_append_drop]
  have e3 : (diskL s).take at_ = diskL (s.take k) ++ (diskL (s.drop k)).take (at_ - (diskL (s.take k)).length) := by
    conv => lhs; rw [e2, List.take_append]
    rw [List.take_of_length_le (by omega)]
  have hr : readL ((diskL (s.drop k)).take (at_ - (diskL (s.take k)).length)) = [] := by
    by_cases hlt : k < s.length
    · have hn := h.next hlt
      rw [diskL_next hlt, List.length_append] at hn
      have e4 : diskL (s.drop k) = frameL (commitPut s[k]) ++ diskL (s.drop (k + 1)) := by rw [List.drop_eq_getElem_cons hlt]; exact framesL_cons _ _
      have hm := hc.may s[k] (List.getElem_mem hlt)
      refine readL_none (readStep_partial (x := commitPut s[k]) (by have := commitPut_length hm; omega) ?_ ?_)
      · rw [e4, List.take_append_of_le_length (by omega)]
        exact List.take_prefix _ _
      · rw [List.length_take]; omega
    · have : s.drop k = [] := List.drop_eq_nil_of_le (by omega)
      rw [this]; simp [diskL, framesL, readL_nil]
  rw [e3]
  refine loadL_closed (fun c hc' => hc.may c (List.mem_of_mem_take hc')) (fun j hj => ?_) hr
  rw [List.take_take]
  exact hc.take hs _
set_option maxHeartbeats 4000000 in
theorem law_storecuts (w : World) (F : Nat → Prop) (a : Option Addr) (k : Nat) (L : List Commit) (at_ : Int) (h : (sl a k L).holds F w) :
    GivesV Tryz.prog 12 [.slice a L.length k, .int .i64 at_] w F (.bool true) := by
  refine gives_of Tryz.func12 rfl Tryz.ntmps12 rfl rfl [.st (sl a k L)] (.start1 h) ?_
  repeat (first|refine Wa ?_|refine Wb ?_|refine Wc ?_|refine Wd ?_|refine We rfl ?_|refine Wf (by first|exact Va|exact Vb|exact Vc|exact Vd|exact Ve|exact Vf|exact Vg|exact Vh|exact Vi|exact Vj|exact Vk (by omega)|exact Vl|exact Vm|exact Vn|exact Vo|exact Vp|exact Vq|exact Vr|exact Vs (by omega)|exact Vt (by omega)|exact Vu (by omega)|exact Vv (by omega)|exact Vw|exact Vx|exact Vy|exact Vz|exact VA|exact VB|exact VC|exact VD|exact VE|exact VF) rfl ?_|(refine Wg rfl ?_; intro _)|(refine Wh rfl ?_; intro _)|refine Wi ?_|refine Wj ?_|refine Wk ?_|refine Wl ?_|refine Wm ?_|refine Wn ?_|refine Wo ?_|refine Wp ?_|refine Wq rfl ?_|refine Wr ?_|refine Ws ?_|refine Wt ?_|refine Wu ?_|refine Wv rfl rfl ?_|(refine Ww rfl ⟨rfl, by decide, by decide, by decide⟩ ?_; intro _))
  refine JR.callV rfl (fun w1 hw => awake_store w1 _) ?_
  repeat (first|refine Wa ?_|refine Wb ?_|refine Wc ?_|refine Wd ?_|refine We rfl ?_|refine Wf (by first|exact Va|exact Vb|exact Vc|exact Vd|exact Ve|exact Vf|exact Vg|exact Vh|exact Vi|exact Vj|exact Vk (by omega)|exact Vl|exact Vm|exact Vn|exact Vo|exact Vp|exact Vq|exact Vr|exact Vs (by omega)|exact Vt (by omega)|exact Vu (by omega)|exact Vv (by omega)|exact Vw|exact Vx|exact Vy|exact Vz|exact VA|exact VB|exact VC|exact VD|exact VE|exact VF) rfl ?_|(refine Wg rfl ?_; intro _)|(refine Wh rfl ?_; intro _)|refine Wi ?_|refine Wj ?_|refine Wk ?_|refine Wl ?_|refine Wm ?_|refine Wn ?_|refine Wo ?_|refine Wp ?_|refine Wq rfl ?_|refine Wr ?_|refine Ws ?_|refine Wt ?_|refine Wu ?_|refine Wv rfl rfl ?_|(refine Ww rfl ⟨rfl, by decide, by decide, by decide⟩ ?_; intro _))
  refine JR.callV rfl (fun w1 hw => few_all w1 _ a k L 8 hw.get) ?_
  cases hfew : fewL L 8 with
  | false =>
    repeat (first|refine Wa ?_|refine Wb ?_|refine Wc ?_|refine Wd ?_|refine We rfl ?_|refine Wf (by first|exact Va|exact Vb|exact Vc|exact Vd|exact Ve|exact Vf|exact Vg|exact Vh|exact Vi|exact Vj|exact Vk (by omega)|exact Vl|exact Vm|exact Vn|exact Vo|exact Vp|exact Vq|exact Vr|exact Vs (by omega)|exact Vt (by omega)|exact Vu (by omega)|exact Vv (by omega)|exact Vw|exact Vx|exact Vy|exact Vz|exact VA|exact VB|exact VC|exact VD|exact VE|exact VF) rfl ?_|(refine Wg rfl ?_; intro _)|(refine Wh rfl ?_; intro _)|refine Wi ?_|refine Wj ?_|refine Wk ?_|refine Wl ?_|refine Wm ?_|refine Wn ?_|refine Wo ?_|refine Wp ?_|refine Wq rfl ?_|refine Wr ?_|refine Ws ?_|refine Wt ?_|refine Wu ?_|refine Wv rfl rfl ?_|(refine Ww rfl ⟨rfl, by decide, by decide, by decide⟩ ?_; intro _)|refine Wx rfl rfl ?_)
    exact CT.done () rfl (fun w ho => ho.ent)
  | true =>
  obtain ⟨hL, hf⟩ := few_fine hfew
  repeat (first|refine Wa ?_|refine Wb ?_|refine Wc ?_|refine Wd ?_|refine We rfl ?_|refine Wf (by first|exact Va|exact Vb|exact Vc|exact Vd|exact Ve|exact Vf|exact Vg|exact Vh|exact Vi|exact Vj|exact Vk (by omega)|exact Vl|exact Vm|exact Vn|exact Vo|exact Vp|exact Vq|exact Vr|exact Vs (by omega)|exact Vt (by omega)|exact Vu (by omega)|exact Vv (by omega)|exact Vw|exact Vx|exact Vy|exact Vz|exact VA|exact VB|exact VC|exact VD|exact VE|exact VF) rfl ?_|(refine Wg rfl ?_; intro _)|(refine Wh rfl ?_; intro _)|refine Wi ?_|refine Wj ?_|refine Wk ?_|refine Wl ?_|refine Wm ?_|refine Wn ?_|refine Wo ?_|refine Wp ?_|refine Wq rfl ?_|refine Wr ?_|refine Ws ?_|refine Wt ?_|refine Wu ?_|refine Wv rfl rfl ?_|(refine Ww rfl ⟨rfl, by decide, by decide, by decide⟩ ?_; intro _)|refine Wx rfl rfl ?_)
  by_cases hc : ¬ Closed L
  · refine JR.callV rfl (fun w1 hw => closed_no w1 _ a k L hw.get (by omega) hf hc) ?_
    repeat (first|refine Wa ?_|refine Wb ?_|refine Wc ?_|refine Wd ?_|refine We rfl ?_|refine Wf (by first|exact Va|exact Vb|exact Vc|exact Vd|exact Ve|exact Vf|exact Vg|exact Vh|exact Vi|exact Vj|exact Vk (by omega)|exact Vl|exact Vm|exact Vn|exact Vo|exact Vp|exact Vq|exact Vr|exact Vs (by omega)|exact Vt (by omega)|exact Vu (by omega)|exact Vv (by omega)|exact Vw|exact Vx|exact Vy|exact Vz|exact VA|exact VB|exact VC|exact VD|exact VE|exact VF) rfl ?_|(refine Wg rfl ?_; intro _)|(refine Wh rfl ?_; intro _)|refine Wi ?_|refine Wj ?_|refine Wk ?_|refine Wl ?_|refine Wm ?_|refine Wn ?_|refine Wo ?_|refine Wp ?_|refine Wq rfl ?_|refine Wr ?_|refine Ws ?_|refine Wt ?_|refine Wu ?_|refine Wv rfl rfl ?_|(refine Ww rfl ⟨rfl, by decide, by decide, by decide⟩ ?_; intro _)|refine Wx rfl rfl ?_)
    exact CT.done () rfl (fun w ho => ho.ent)
  replace hc : Closed L := Classical.not_not.1 hc
  refine JR.callV rfl (fun w1 hw => closed_yes w1 _ a k L hw.get (by omega) hf hc) ?_
  repeat (first|refine Wa ?_|refine Wb ?_|refine Wc ?_|refine Wd ?_|refine We rfl ?_|refine Wf (by first|exact Va|exact Vb|exact Vc|exact Vd|exact Ve|exact Vf|exact Vg|exact Vh|exact Vi|exact Vj|exact Vk (by omega)|exact Vl|exact Vm|exact Vn|exact Vo|exact Vp|exact Vq|exact Vr|exact Vs (by omega)|exact Vt (by omega)|exact Vu (by omega)|exact Vv (by omega)|exact Vw|exact Vx|exact Vy|exact Vz|exact VA|exact VB|exact VC|exact VD|exact VE|exact VF) rfl ?_|(refine Wg rfl ?_; intro _)|(refine Wh rfl ?_; intro _)|refine Wi ?_|refine Wj ?_|refine Wk ?_|refine Wl ?_|refine Wm ?_|refine Wn ?_|refine Wo ?_|refine Wp ?_|refine Wq rfl ?_|refine Wr ?_|refine Ws ?_|refine Wt ?_|refine Wu ?_|refine Wv rfl rfl ?_|(refine Ww rfl ⟨rfl, by decide, by decide, by decide⟩ ?_; intro _)|refine Wx rfl rfl ?_)
  refine JR.call1 (v := fun y : SortY L => .slice y.1.2.1 y.1.1.length y.1.2.2) (B := fun y => .st (sl y.1.2.1 y.1.2.2 y.1.1)) rfl (fun w1 hw => sorted_dag w1 _ a k L hw.get (by omega) hf) ?_
  rintro ⟨⟨s, sa, sk⟩, hs⟩
  dsimp only
  have hperm : s.Perm L := hs.perm hc
  have hpw : s.Pairwise leS := hs.sorted hc
  have hsc : Closed s := hc.perm hperm.symm
  have hsl : s.length = L.length := hperm.length_eq
  have hsf : ∀ x ∈ s, fine x := fun x hx => hf x (hperm.mem_iff.1 hx)
  repeat (first|refine Wa ?_|refine Wb ?_|refine Wc ?_|refine Wd ?_|refine We rfl ?_|refine Wf (by first|exact Va|exact Vb|exact Vc|exact Vd|exact Ve|exact Vf|exact Vg|exact Vh|exact Vi|exact Vj|exact Vk (by omega)|exact Vl|exact Vm|exact Vn|exact Vo|exact Vp|exact Vq|exact Vr|exact Vs (by omega)|exact Vt (by omega)|exact Vu (by omega)|exact Vv (by omega)|exact Vw|exact Vx|exact Vy|exact Vz|exact VA|exact VB|exact VC|exact VD|exact VE|exact VF) rfl ?_|(refine Wg rfl ?_; intro _)|(refine Wh rfl ?_; intro _)|refine Wi ?_|refine Wj ?_|refine Wk ?_|refine Wl ?_|refine Wm ?_|refine Wn ?_|refine Wo ?_|refine Wp ?_|refine Wq rfl ?_|refine Wr ?_|refine Ws ?_|refine Wt ?_|refine Wu ?_|refine Wv rfl rfl ?_|(refine Ww rfl ⟨rfl, by decide, by decide, by decide⟩ ?_; intro _)|refine Wx rfl rfl ?_)
  refine JR.call2 (v := fun y : (Option Addr × Nat) × (Option Addr × Nat) => .tuple ⟨[.slice y.1.1 (diskL s).length y.1.2, .slice y.2.1 (endsL s).length y.2.2, .bool true]⟩) (B := fun y => .res (buf y.1.1 y.1.2 5 (diskL s))) (C := fun y => .st (sl y.2.1 y.2.2 (endsL s))) rfl (fun w1 hw => disk_law w1 _ sa sk s (hw.get (A := sl sa sk s)) hsc.may hsf (by omega)) ?_
  rintro ⟨⟨p, pq⟩, ⟨q, qq⟩⟩
  dsimp only
  refine JO.more (fun w ho => ho.pub) ?_
  have hdl := diskL_le hsc.may
  have hel := endsL_length s
  repeat (first|refine Wa ?_|refine Wb ?_|refine Wc ?_|refine Wd ?_|refine We rfl ?_|refine Wf (by first|exact Va|exact Vb|exact Vc|exact Vd|exact Ve|exact Vf|exact Vg|exact Vh|exact Vi|exact Vj|exact Vk (by omega)|exact Vl|exact Vm|exact Vn|exact Vo|exact Vp|exact Vq|exact Vr|exact Vs (by omega)|exact Vt (by omega)|exact Vu (by omega)|exact Vv (by omega)|exact Vw|exact Vx|exact Vy|exact Vz|exact VA|exact VB|exact VC|exact VD|exact VE|exact VF) rfl ?_|(refine Wg rfl ?_; intro _)|(refine Wh rfl ?_; intro _)|refine Wi ?_|refine Wj ?_|refine Wk ?_|refine Wl ?_|refine Wm ?_|refine Wn ?_|refine Wo ?_|refine Wp ?_|refine Wq rfl ?_|refine Wr ?_|refine Ws ?_|refine Wt ?_|refine Wu ?_|refine Wv rfl rfl ?_|(refine Ww rfl ⟨rfl, by decide, by decide, by decide⟩ ?_; intro _)|refine Wx rfl rfl ?_)
  refine JO.test 46 (fun h0 => ?_) (fun h0 => ?_)
  · repeat (first|refine Wa ?_|refine Wb ?_|refine Wc ?_|refine Wd ?_|refine We rfl ?_|refine Wf (by first|exact Va|exact Vb|exact Vc|exact Vd|exact Ve|exact Vf|exact Vg|exact Vh|exact Vi|exact Vj|exact Vk (by omega)|exact Vl|exact Vm|exact Vn|exact Vo|exact Vp|exact Vq|exact Vr|exact Vs (by omega)|exact Vt (by omega)|exact Vu (by omega)|exact Vv (by omega)|exact Vw|exact Vx|exact Vy|exact Vz|exact VA|exact VB|exact VC|exact VD|exact VE|exact VF) rfl ?_|(refine Wg rfl ?_; intro _)|(refine Wh rfl ?_; intro _)|refine Wi ?_|refine Wj ?_|refine Wk ?_|refine Wl ?_|refine Wm ?_|refine Wn ?_|refine Wo ?_|refine Wp ?_|refine Wq rfl ?_|refine Wr ?_|refine Ws ?_|refine Wt ?_|refine Wu ?_|refine Wv rfl rfl ?_|(refine Ww rfl ⟨rfl, by decide, by decide, by decide⟩ ?_; intro _)|refine Wx rfl rfl ?_)
    exact CT.done () rfl (fun w ho => ho.ent)
  repeat (first|refine Wa ?_|refine Wb ?_|refine Wc ?_|refine Wd ?_|refine We rfl ?_|refine Wf (by first|exact Va|exact Vb|exact Vc|exact Vd|exact Ve|exact Vf|exact Vg|exact Vh|exact Vi|exact Vj|exact Vk (by omega)|exact Vl|exact Vm|exact Vn|exact Vo|exact Vp|exact Vq|exact Vr|exact Vs (by omega)|exact Vt (by omega)|exact Vu (by omega)|exact Vv (by omega)|exact Vw|exact Vx|exact Vy|exact Vz|exact VA|exact VB|exact VC|exact VD|exact VE|exact VF) rfl ?_|(refine Wg rfl ?_; intro _)|(refine Wh rfl ?_; intro _)|refine Wi ?_|refine Wj ?_|refine Wk ?_|refine Wl ?_|refine Wm ?_|refine Wn ?_|refine Wo ?_|refine Wp ?_|refine Wq rfl ?_|refine Wr ?_|refine Ws ?_|refine Wt ?_|refine Wu ?_|refine Wv rfl rfl ?_|(refine Ww rfl ⟨rfl, by decide, by decide, by decide⟩ ?_; intro _)|refine Wx rfl rfl ?_)
  refine JC.test (fun h1 => ?_) (fun h1 => ?_)
  · repeat (first|refine Wa ?_|refine Wb ?_|refine Wc ?_|refine Wd ?_|refine We rfl ?_|refine Wf (by first|exact Va|exact Vb|exact Vc|exact Vd|exact Ve|exact Vf|exact Vg|exact Vh|exact Vi|exact Vj|exact Vk (by omega)|exact Vl|exact Vm|exact Vn|exact Vo|exact Vp|exact Vq|exact Vr|exact Vs (by omega)|exact Vt (by omega)|exact Vu (by omega)|exact Vv (by omega)|exact Vw|exact Vx|exact Vy|exact Vz|exact VA|exact VB|exact VC|exact VD|exact VE|exact VF) rfl ?_|(refine Wg rfl ?_; intro _)|(refine Wh rfl ?_; intro _)|refine Wi ?_|refine Wj ?_|refine Wk ?_|refine Wl ?_|refine Wm ?_|refine Wn ?_|refine Wo ?_|refine Wp ?_|refine Wq rfl ?_|refine Wr ?_|refine Ws ?_|refine Wt ?_|refine Wu ?_|refine Wv rfl rfl ?_|(refine Ww rfl ⟨rfl, by decide, by decide, by decide⟩ ?_; intro _)|refine Wx rfl rfl ?_)
    exact CT.done () rfl (fun w ho => ho.ent)
  obtain ⟨at_, rfl⟩ : ∃ n : Nat, at_ = (n : Int) := ⟨at_.toNat, by omega⟩
  have hat : at_ ≤ (diskL s).length := by omega
  repeat (first|refine Wa ?_|refine Wb ?_|refine Wc ?_|refine Wd ?_|refine We rfl ?_|refine Wf (by first|exact Va|exact Vb|exact Vc|exact Vd|exact Ve|exact Vf|exact Vg|exact Vh|exact Vi|exact Vj|exact Vk (by omega)|exact Vl|exact Vm|exact Vn|exact Vo|exact Vp|exact Vq|exact Vr|exact Vs (by omega)|exact Vt (by omega)|exact Vu (by omega)|exact Vv (by omega)|exact Vw|exact Vx|exact Vy|exact Vz|exact VA|exact VB|exact VC|exact VD|exact VE|exact VF) rfl ?_|(refine Wg rfl ?_; intro _)|(refine Wh rfl ?_; intro _)|refine Wi ?_|refine Wj ?_|refine Wk ?_|refine Wl ?_|refine Wm ?_|refine Wn ?_|refine Wo ?_|refine Wp ?_|refine Wq rfl ?_|refine Wr ?_|refine Ws ?_|refine Wt ?_|refine Wu ?_|refine Wv rfl rfl ?_|(refine Ww rfl ⟨rfl, by decide, by decide, by decide⟩ ?_; intro _)|refine Wx rfl rfl ?_)
  refine JC.loop2 (fun (i kk : Nat) => [(1, .int .i64 (at_ : Int)), (7, .slice sa s.length sk), (8, .slice p (diskL s).length pq), (9, .slice q (endsL s).length qq), (11, .int .i64 (kk : Int)), (12, .int .i64 ((diskL (s.take kk)).length : Int)), (13, .int .i64 (i : Int))])
    (fun _ _ => [.st (sl p pq (diskL s)), .st (sl q qq (endsL s)), .st (sl sa sk s)]) (fun i kk => i ≤ s.length ∧ Cut s (at_ : Int) i kk) (fun i _ => s.length - i) 0 0 ⟨Nat.zero_le _, ⟨Nat.le_refl _, by show ((diskL []).length : Int) ≤ _; simp [diskL, framesL], fun hlt => absurd hlt (by omega)⟩⟩
    (show Ent _ _ [(1, .int .i64 (at_ : Int)), (7, .slice sa s.length sk), (8, .slice p (diskL s).length pq), (9, .slice q (endsL s).length qq), (11, .int .i64 0), (12, .int .i64 0), (13, .int .i64 0)] [.st (sl p pq (diskL s)), .st (sl q qq (endsL s)), .st (sl sa sk s)] from inferInstance) ?_
  rintro i kk ⟨hi, hcut⟩
  repeat (first|refine Wa ?_|refine Wb ?_|refine Wc ?_|refine Wd ?_|refine We rfl ?_|refine Wf (by first|exact Va|exact Vb|exact Vc|exact Vd|exact Ve|exact Vf|exact Vg|exact Vh|exact Vi|exact Vj|exact Vk (by omega)|exact Vl|exact Vm|exact Vn|exact Vo|exact Vp|exact Vq|exact Vr|exact Vs (by omega)|exact Vt (by omega)|exact Vu (by omega)|exact Vv (by omega)|exact Vw|exact Vx|exact Vy|exact Vz|exact VA|exact VB|exact VC|exact VD|exact VE|exact VF) rfl ?_|(refine Wg rfl ?_; intro _)|(refine Wh rfl ?_; intro _)|refine Wi ?_|refine Wj ?_|refine Wk ?_|refine Wl ?_|refine Wm ?_|refine Wn ?_|refine Wo ?_|refine Wp ?_|refine Wq rfl ?_|refine Wr ?_|refine Ws ?_|refine Wt ?_|refine Wu ?_|refine Wv rfl rfl ?_|(refine Ww rfl ⟨rfl, by decide, by decide, by decide⟩ ?_; intro _)|refine Wx rfl rfl ?_)
  refine JC.test (fun h2 => ?_) (fun h2 => ?_)
  · have hlt : i < s.length := by omega
    have hei : (endsL s)[i]'(by omega) = ((diskL (s.take (i + 1))).length : Int) := by simp [endsL]
    repeat (first|refine Wa ?_|refine Wb ?_|refine Wc ?_|refine Wd ?_|refine We rfl ?_|refine Wf (by first|exact Va|exact Vb|exact Vc|exact Vd|exact Ve|exact Vf|exact Vg|exact Vh|exact Vi|exact Vj|exact Vk (by omega)|exact Vl|exact Vm|exact Vn|exact Vo|exact Vp|exact Vq|exact Vr|exact Vs (by omega)|exact Vt (by omega)|exact Vu (by omega)|exact Vv (by omega)|exact Vw|exact Vx|exact Vy|exact Vz|exact VA|exact VB|exact VC|exact VD|exact VE|exact VF) rfl ?_|(refine Wg rfl ?_; intro _)|(refine Wh rfl ?_; intro _)|refine Wi ?_|refine Wj ?_|refine Wk ?_|refine Wl ?_|refine Wm ?_|refine Wn ?_|refine Wo ?_|refine Wp ?_|refine Wq rfl ?_|refine Wr ?_|refine Ws ?_|refine Wt ?_|refine Wu ?_|refine Wv rfl rfl ?_|(refine Ww rfl ⟨rfl, by decide, by decide, by decide⟩ ?_; intro _)|refine Wx rfl rfl ?_)
    refine JR.indexInt (k := i) rfl (by omega) ?_
    rw [hei]
    intro b5 o5
    repeat (first|refine Wa ?_|refine Wb ?_|refine Wc ?_|refine Wd ?_|refine We rfl ?_|refine Wf (by first|exact Va|exact Vb|exact Vc|exact Vd|exact Ve|exact Vf|exact Vg|exact Vh|exact Vi|exact Vj|exact Vk (by omega)|exact Vl|exact Vm|exact Vn|exact Vo|exact Vp|exact Vq|exact Vr|exact Vs (by omega)|exact Vt (by omega)|exact Vu (by omega)|exact Vv (by omega)|exact Vw|exact Vx|exact Vy|exact Vz|exact VA|exact VB|exact VC|exact VD|exact VE|exact VF) rfl ?_|(refine Wg rfl ?_; intro _)|(refine Wh rfl ?_; intro _)|refine Wi ?_|refine Wj ?_|refine Wk ?_|refine Wl ?_|refine Wm ?_|refine Wn ?_|refine Wo ?_|refine Wp ?_|refine Wq rfl ?_|refine Wr ?_|refine Ws ?_|refine Wt ?_|refine Wu ?_|refine Wv rfl rfl ?_|(refine Ww rfl ⟨rfl, by decide, by decide, by decide⟩ ?_; intro _)|refine Wx rfl rfl ?_)
    refine JC.test (fun h3 => ?_) (fun h3 => ?_)
    · repeat (first|refine Wa ?_|refine Wb ?_|refine Wc ?_|refine Wd ?_|refine We rfl ?_|refine Wf (by first|exact Va|exact Vb|exact Vc|exact Vd|exact Ve|exact Vf|exact Vg|exact Vh|exact Vi|exact Vj|exact Vk (by omega)|exact Vl|exact Vm|exact Vn|exact Vo|exact Vp|exact Vq|exact Vr|exact Vs (by omega)|exact Vt (by omega)|exact Vu (by omega)|exact Vv (by omega)|exact Vw|exact Vx|exact Vy|exact Vz|exact VA|exact VB|exact VC|exact VD|exact VE|exact VF) rfl ?_|(refine Wg rfl ?_; intro _)|(refine Wh rfl ?_; intro _)|refine Wi ?_|refine Wj ?_|refine Wk ?_|refine Wl ?_|refine Wm ?_|refine Wn ?_|refine Wo ?_|refine Wp ?_|refine Wq rfl ?_|refine Wr ?_|refine Ws ?_|refine Wt ?_|refine Wu ?_|refine Wv rfl rfl ?_|(refine Ww rfl ⟨rfl, by decide, by decide, by decide⟩ ?_; intro _)|refine Wx rfl rfl ?_)
      refine JR.indexInt (k := i) rfl (by omega) ?_
      rw [hei]
      intro b6 o6
      repeat (first|refine Wa ?_|refine Wb ?_|refine Wc ?_|refine Wd ?_|refine We rfl ?_|refine Wf (by first|exact Va|exact Vb|exact Vc|exact Vd|exact Ve|exact Vf|exact Vg|exact Vh|exact Vi|exact Vj|exact Vk (by omega)|exact Vl|exact Vm|exact Vn|exact Vo|exact Vp|exact Vq|exact Vr|exact Vs (by omega)|exact Vt (by omega)|exact Vu (by omega)|exact Vv (by omega)|exact Vw|exact Vx|exact Vy|exact Vz|exact VA|exact VB|exact VC|exact VD|exact VE|exact VF) rfl ?_|(refine Wg rfl ?_; intro _)|(refine Wh rfl ?_; intro _)|refine Wi ?_|refine Wj ?_|refine Wk ?_|refine Wl ?_|refine Wm ?_|refine Wn ?_|refine Wo ?_|refine Wp ?_|refine Wq rfl ?_|refine Wr ?_|refine Ws ?_|refine Wt ?_|refine Wu ?_|refine Wv rfl rfl ?_|(refine Ww rfl ⟨rfl, by decide, by decide, by decide⟩ ?_; intro _)|refine Wx rfl rfl ?_)
      exact ⟨i + 1, i + 1, ⟨by omega, hcut.yes h3⟩, by omega, inferInstance⟩
    · repeat (first|refine Wa ?_|refine Wb ?_|refine Wc ?_|refine Wd ?_|refine We rfl ?_|refine Wf (by first|exact Va|exact Vb|exact Vc|exact Vd|exact Ve|exact Vf|exact Vg|exact Vh|exact Vi|exact Vj|exact Vk (by omega)|exact Vl|exact Vm|exact Vn|exact Vo|exact Vp|exact Vq|exact Vr|exact Vs (by omega)|exact Vt (by omega)|exact Vu (by omega)|exact Vv (by omega)|exact Vw|exact Vx|exact Vy|exact Vz|exact VA|exact VB|exact VC|exact VD|exact VE|exact VF) rfl ?_|(refine Wg rfl ?_; intro _)|(refine Wh rfl ?_; intro _)|refine Wi ?_|refine Wj ?_|refine Wk ?_|refine Wl ?_|refine Wm ?_|refine Wn ?_|refine Wo ?_|refine Wp ?_|refine Wq rfl ?_|refine Wr ?_|refine Ws ?_|refine Wt ?_|refine Wu ?_|refine Wv rfl rfl ?_|(refine Ww rfl ⟨rfl, by decide, by decide, by decide⟩ ?_; intro _)|refine Wx rfl rfl ?_)
      exact ⟨i + 1, kk, ⟨by omega, hcut.no h3⟩, by omega, inferInstance⟩
  · obtain rfl : i = s.length := by omega
    obtain ⟨hl1, hl2⟩ := cut_load hsc hpw hat hcut
    have hkk := hcut.le
    have hclk : Closed (s.take kk) := hsc.take hpw kk
    repeat (first|refine Wa ?_|refine Wb ?_|refine Wc ?_|refine Wd ?_|refine We rfl ?_|refine Wf (by first|exact Va|exact Vb|exact Vc|exact Vd|exact Ve|exact Vf|exact Vg|exact Vh|exact Vi|exact Vj|exact Vk (by omega)|exact Vl|exact Vm|exact Vn|exact Vo|exact Vp|exact Vq|exact Vr|exact Vs (by omega)|exact Vt (by omega)|exact Vu (by omega)|exact Vv (by omega)|exact Vw|exact Vx|exact Vy|exact Vz|exact VA|exact VB|exact VC|exact VD|exact VE|exact VF) rfl ?_|(refine Wg rfl ?_; intro _)|(refine Wh rfl ?_; intro _)|refine Wi ?_|refine Wj ?_|refine Wk ?_|refine Wl ?_|refine Wm ?_|refine Wn ?_|refine Wo ?_|refine Wp ?_|refine Wq rfl ?_|refine Wr ?_|refine Ws ?_|refine Wt ?_|refine Wu ?_|refine Wv rfl rfl ?_|(refine Ww rfl ⟨rfl, by decide, by decide, by decide⟩ ?_; intro _)|refine Wx rfl rfl ?_)
    refine JR.sliceTo (L := diskL s) (k := at_) rfl rfl hat ?_
    intro a5 c5
    repeat (first|refine Wa ?_|refine Wb ?_|refine Wc ?_|refine Wd ?_|refine We rfl ?_|refine Wf (by first|exact Va|exact Vb|exact Vc|exact Vd|exact Ve|exact Vf|exact Vg|exact Vh|exact Vi|exact Vj|exact Vk (by omega)|exact Vl|exact Vm|exact Vn|exact Vo|exact Vp|exact Vq|exact Vr|exact Vs (by omega)|exact Vt (by omega)|exact Vu (by omega)|exact Vv (by omega)|exact Vw|exact Vx|exact Vy|exact Vz|exact VA|exact VB|exact VC|exact VD|exact VE|exact VF) rfl ?_|(refine Wg rfl ?_; intro _)|(refine Wh rfl ?_; intro _)|refine Wi ?_|refine Wj ?_|refine Wk ?_|refine Wl ?_|refine Wm ?_|refine Wn ?_|refine Wo ?_|refine Wp ?_|refine Wq rfl ?_|refine Wr ?_|refine Ws ?_|refine Wt ?_|refine Wu ?_|refine Wv rfl rfl ?_|(refine Ww rfl ⟨rfl, by decide, by decide, by decide⟩ ?_; intro _)|refine Wx rfl rfl ?_)
    refine JR.callSlT rfl (fun w1 hw => load_store w1 _ a5 c5 ((diskL s).take at_) (hw.get (A := sl a5 c5 ((diskL s).take at_))) (by rw [List.length_take]; omega)) ?_
    rw [hl1, hl2]
    intro a6 c6
    repeat (first|refine Wa ?_|refine Wb ?_|refine Wc ?_|refine Wd ?_|refine We rfl ?_|refine Wf (by first|exact Va|exact Vb|exact Vc|exact Vd|exact Ve|exact Vf|exact Vg|exact Vh|exact Vi|exact Vj|exact Vk (by omega)|exact Vl|exact Vm|exact Vn|exact Vo|exact Vp|exact Vq|exact Vr|exact Vs (by omega)|exact Vt (by omega)|exact Vu (by omega)|exact Vv (by omega)|exact Vw|exact Vx|exact Vy|exact Vz|exact VA|exact VB|exact VC|exact VD|exact VE|exact VF) rfl ?_|(refine Wg rfl ?_; intro _)|(refine Wh rfl ?_; intro _)|refine Wi ?_|refine Wj ?_|refine Wk ?_|refine Wl ?_|refine Wm ?_|refine Wn ?_|refine Wo ?_|refine Wp ?_|refine Wq rfl ?_|refine Wr ?_|refine Ws ?_|refine Wt ?_|refine Wu ?_|refine Wv rfl rfl ?_|(refine Ww rfl ⟨rfl, by decide, by decide, by decide⟩ ?_; intro _)|refine Wx rfl rfl ?_)
    refine JR.sliceTo (L := s) (k := kk) rfl rfl hkk ?_
    intro a7 c7
    repeat (first|refine Wa ?_|refine Wb ?_|refine Wc ?_|refine Wd ?_|refine We rfl ?_|refine Wf (by first|exact Va|exact Vb|exact Vc|exact Vd|exact Ve|exact Vf|exact Vg|exact Vh|exact Vi|exact Vj|exact Vk (by omega)|exact Vl|exact Vm|exact Vn|exact Vo|exact Vp|exact Vq|exact Vr|exact Vs (by omega)|exact Vt (by omega)|exact Vu (by omega)|exact Vv (by omega)|exact Vw|exact Vx|exact Vy|exact Vz|exact VA|exact VB|exact VC|exact VD|exact VE|exact VF) rfl ?_|(refine Wg rfl ?_; intro _)|(refine Wh rfl ?_; intro _)|refine Wi ?_|refine Wj ?_|refine Wk ?_|refine Wl ?_|refine Wm ?_|refine Wn ?_|refine Wo ?_|refine Wp ?_|refine Wq rfl ?_|refine Wr ?_|refine Ws ?_|refine Wt ?_|refine Wu ?_|refine Wv rfl rfl ?_|(refine Ww rfl ⟨rfl, by decide, by decide, by decide⟩ ?_; intro _)|refine Wx rfl rfl ?_)
    refine JR.callV rfl (fun w1 hw => list_ref w1 _ a6 a7 c6 c7 (s.take kk) (s.take kk) (hw.get (A := sl a6 c6 (s.take kk))) (hw.get (A := sl a7 c7 (s.take kk)))) ?_
    refine JO.reslot 82 (.bool true) (by simp) ?_
    repeat (first|refine Wa ?_|refine Wb ?_|refine Wc ?_|refine Wd ?_|refine We rfl ?_|refine Wf (by first|exact Va|exact Vb|exact Vc|exact Vd|exact Ve|exact Vf|exact Vg|exact Vh|exact Vi|exact Vj|exact Vk (by omega)|exact Vl|exact Vm|exact Vn|exact Vo|exact Vp|exact Vq|exact Vr|exact Vs (by omega)|exact Vt (by omega)|exact Vu (by omega)|exact Vv (by omega)|exact Vw|exact Vx|exact Vy|exact Vz|exact VA|exact VB|exact VC|exact VD|exact VE|exact VF) rfl ?_|(refine Wg rfl ?_; intro _)|(refine Wh rfl ?_; intro _)|refine Wi ?_|refine Wj ?_|refine Wk ?_|refine Wl ?_|refine Wm ?_|refine Wn ?_|refine Wo ?_|refine Wp ?_|refine Wq rfl ?_|refine Wr ?_|refine Ws ?_|refine Wt ?_|refine Wu ?_|refine Wv rfl rfl ?_|(refine Ww rfl ⟨rfl, by decide, by decide, by decide⟩ ?_; intro _)|refine Wx rfl rfl ?_)
    refine JO.test 89 (fun _ => ?_) (fun h => absurd rfl h)
    repeat (first|refine Wa ?_|refine Wb ?_|refine Wc ?_|refine Wd ?_|refine We rfl ?_|refine Wf (by first|exact Va|exact Vb|exact Vc|exact Vd|exact Ve|exact Vf|exact Vg|exact Vh|exact Vi|exact Vj|exact Vk (by omega)|exact Vl|exact Vm|exact Vn|exact Vo|exact Vp|exact Vq|exact Vr|exact Vs (by omega)|exact Vt (by omega)|exact Vu (by omega)|exact Vv (by omega)|exact Vw|exact Vx|exact Vy|exact Vz|exact VA|exact VB|exact VC|exact VD|exact VE|exact VF) rfl ?_|(refine Wg rfl ?_; intro _)|(refine Wh rfl ?_; intro _)|refine Wi ?_|refine Wj ?_|refine Wk ?_|refine Wl ?_|refine Wm ?_|refine Wn ?_|refine Wo ?_|refine Wp ?_|refine Wq rfl ?_|refine Wr ?_|refine Ws ?_|refine Wt ?_|refine Wu ?_|refine Wv rfl rfl ?_|(refine Ww rfl ⟨rfl, by decide, by decide, by decide⟩ ?_; intro _)|refine Wx rfl rfl ?_)
    refine JR.callV rfl (fun w1 hw => closed_yes w1 _ a6 c6 (s.take kk) (hw.get (A := sl a6 c6 (s.take kk))) (by rw [List.length_take]; omega) (fun x hx => hsf x (List.mem_of_mem_take hx)) hclk) ?_
    repeat (first|refine Wa ?_|refine Wb ?_|refine Wc ?_|refine Wd ?_|refine We rfl ?_|refine Wf (by first|exact Va|exact Vb|exact Vc|exact Vd|exact Ve|exact Vf|exact Vg|exact Vh|exact Vi|exact Vj|exact Vk (by omega)|exact Vl|exact Vm|exact Vn|exact Vo|exact Vp|exact Vq|exact Vr|exact Vs (by omega)|exact Vt (by omega)|exact Vu (by omega)|exact Vv (by omega)|exact Vw|exact Vx|exact Vy|exact Vz|exact VA|exact VB|exact VC|exact VD|exact VE|exact VF) rfl ?_|(refine Wg rfl ?_; intro _)|(refine Wh rfl ?_; intro _)|refine Wi ?_|refine Wj ?_|refine Wk ?_|refine Wl ?_|refine Wm ?_|refine Wn ?_|refine Wo ?_|refine Wp ?_|refine Wq rfl ?_|refine Wr ?_|refine Ws ?_|refine Wt ?_|refine Wu ?_|refine Wv rfl rfl ?_|(refine Ww rfl ⟨rfl, by decide, by decide, by decide⟩ ?_; intro _)|refine Wx rfl rfl ?_)
    exact CT.done () rfl (fun w ho => ho.ent)
end Ab
end Go.Proofs.YtglclakhjmogiaaGreat
