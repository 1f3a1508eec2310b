/- Lemmas for the walks, part 2 of 7: Maps, More4, More5, More6, Words, Arr, More7, More8, Makers, More9, Range, Seat, Num, Spec. -/
import Derived.Test.YtcmfemfndadfmaaWb1
import Derived.WideKeyArr2
import Derived.MapKept
import Derived.Deep.AppendSrc
import Derived.Lib.AppendZeros
import Derived.Laws.MakeOwn
import Derived.Laws.CopyRow
import Derived.RangeFuncBox
import Derived.RangeFuncKeeps
import Derived.ControlIn
import Derived.Test.YtcmfemfndadfmaaChecked
import Derived.KernelRfl
import Derived.RangeFuncNested
import Derived.RangeFuncBound
import Derived.RangeFuncCalls
import Derived.RangeFuncLeaves
import Derived.Shelf.Abstract
import Derived.WalkKit
import Derived.OwnWalkIn
import Derived.TacticsInMore
import Derived.LoopNIn
import Derived.LoopIn
import Derived.Maps.AppendAt
import Derived.Lib.Bytealg
/- Maps of the call's own, without deletions: made, written, looked up, ranged over. Program-independent. -/
namespace Go.Proofs.Ytcmfemfndadfmaa
namespace Ab
open Go Go.RowKit
set_option linter.unusedVariables false
set_option linter.unusedSimpArgs false

/-- Keys of a map's type: kv lays them as values. -/
class MKey (P : Program) (kt : TypeId) {K : outParam Type} (kv : outParam (K → Value)) : Prop where
  inj : ∀ a b : K, kv a = kv b → a = b
  check : ∀ (w : World) (em : Bool) (a : K), (Instr.checkKey em 10000 kt (kv a)).run P w = .ok () w
  find : ∀ (w : World) (a : K) (es : List MapEntry), (∀ x ∈ es, ∃ c, x.key = kv c) →
    ((Instr.findKey kt (kv a) es).run P w = .ok none w ∧ ∀ x ∈ es, x.key ≠ kv a) ∨ ∃ j x, (Instr.findKey kt (kv a) es).run P w = .ok (some (j, x.val)) w ∧ es[j]? = some x ∧ x.key = kv a
  stays : ∀ (w : World) (a : K), (Instr.keyThatStays (kv a) (kv a)).run P w = .ok (kv a) w

def ents {K : Type} (kv : K → Value) (M : List (K × Value)) : List MapEntry := M.zipIdx.map fun p => ⟨kv p.1.1, p.1.2, p.2⟩

/-- A set: a map of keys, each with true. -/
def sety {K : Type} (L : List K) : List (K × Value) := L.map fun k => (k, .bool true)
theorem ents_length {K : Type} (kv : K → Value) (M : List (K × Value)) : (ents kv M).length = M.length := by simp [ents]
theorem ents_get {K : Type} (kv : K → Value) (M : List (K × Value)) (i : Nat) (h : i < M.length) : (ents kv M)[i]? = some ⟨kv M[i].1, M[i].2, i⟩ := by
  simp [ents, h]
theorem ents_append {K : Type} (kv : K → Value) (M : List (K × Value)) (k : K) (v : Value) : ents kv (M ++ [(k, v)]) = ents kv M ++ [⟨kv k, v, M.length⟩] := by
  simp [ents, List.zipIdx_append]
theorem ents_nil {K : Type} (kv : K → Value) : ents kv [] = [] := rfl

theorem run_getMap {P : Program} {w : World} {r : Nat} {es : Array MapEntry} {clock : Nat} (hb : w.heap[r]? = some (.map es clock)) : (getObj r).run P w = .ok (.map es clock) w := by
  simp [getObj, Sem.run, hb]
theorem run_setMap {P : Program} {w : World} {r : Nat} {o' : Obj} (o : Obj) (hb : w.heap[r]? = some o') (hn : match o' with | .cells .. => False | _ => True) : (setObj r o).run P w = .ok () { w with heap := w.heap.setIfInBounds r o } := by
  cases o' <;> first | exact hn.elim | simp [setObj, Sem.run, hb]
theorem set_heap {w : World} {r : Nat} {o o' : Obj} (hb : w.heap[r]? = some o) : (w.heap.setIfInBounds r o')[r]? = some o' ∧ ∀ r', r' ≠ r → (w.heap.setIfInBounds r o')[r']? = w.heap[r']? := by
  have hlt : r < w.heap.size := (Array.getElem?_eq_some_iff.1 hb).1
  exact ⟨by simp [hlt], fun r' hne => by simp [Ne.symm hne]⟩

/-- A key's place; its value; a key laid. -/
def plc {K : Type} [DecidableEq K] (M : List (K × Value)) (k : K) : Option Nat := M.findIdx? (fun p => decide (p.1 = k))
def upd {K : Type} [DecidableEq K] (M : List (K × Value)) (k : K) (v : Value) : List (K × Value) :=
  match plc M k with
  | some i => M.modify i fun _ => (k, v)
  | none => M ++ [(k, v)]
def gotten {K : Type} [DecidableEq K] (M : List (K × Value)) (k : K) : Option Value := (M.find? (fun p => decide (p.1 = k))).map (·.2)

theorem ents_modify {K : Type} (kv : K → Value) (M : List (K × Value)) (i : Nat) (k : K) (v : Value) (h : i < M.length) :
    (ents kv M).toArray.modify i (fun e => { e with key := kv k, val := v }) = (ents kv (M.modify i fun _ => (k, v))).toArray := by
  apply Array.ext'
  simp only [Array.toList_modify]
  apply List.ext_getElem?
  intro j
  rw [List.getElem?_modify]
  simp only [ents, List.getElem?_map, List.getElem?_zipIdx, List.getElem?_modify]
  by_cases hij : i = j
  · subst hij
    simp [h]
  · simp only [hij, if_false]
    cases M[j]? <;> simp

section
variable {P : Program} {kt : TypeId} {K : Type} [DecidableEq K] {kv : K → Value}

theorem run_find (h : MKey P kt kv) (w : World) (M : List (K × Value)) (hnd : (M.map (·.1)).Nodup) (k : K) :
    (Instr.findKey kt (kv k) (ents kv M)).run P w = .ok ((plc M k).bind fun i => M[i]?.map fun p => (i, p.2)) w := by
  have hk : ∀ x ∈ ents kv M, ∃ c, x.key = kv c := by
    intro x hx
    obtain ⟨i, hi, rfl⟩ := List.getElem_of_mem hx
    have hi' : i < M.length := by simpa [ents_length] using hi
    have := ents_get kv M i hi'
    rw [List.getElem?_eq_getElem hi] at this
    injection this with this
    exact ⟨_, by rw [this]⟩
  rcases h.find w k (ents kv M) hk with ⟨h1, h2⟩ | ⟨j, x, h1, h2, h3⟩
  · have : plc M k = none := by
      simp only [plc, List.findIdx?_eq_none_iff, decide_eq_false_iff_not]
      intro p hp hpk
      obtain ⟨i, hi, rfl⟩ := List.getElem_of_mem hp
      have := ents_get kv M i hi
      exact h2 _ (List.mem_of_getElem? this) (by simp [hpk])
    rw [h1, this]; rfl
  · have hj : j < M.length := by
      have := (List.getElem?_eq_some_iff.1 h2).1
      simpa [ents_length] using this
    have e1 := ents_get kv M j hj
    rw [h2] at e1
    injection e1 with e1
    subst e1
    have hjk : M[j].1 = k := h.inj _ _ h3
    have : plc M k = some j := by
      simp only [plc, List.findIdx?_eq_some_iff_getElem]
      refine ⟨hj, by simpa using hjk, fun i hij => ?_⟩
      simp only [decide_eq_true_eq]
      intro hik
      have := (List.pairwise_iff_getElem.1 hnd) i j (by simp; omega) (by simpa using hj) hij
      simp at this
      exact this (hik.trans hjk.symm)
    rw [h1, this]
    simp [hj]

theorem plc_lt {M : List (K × Value)} {k : K} {i : Nat} (h : plc M k = some i) : i < M.length := (List.findIdx?_eq_some_iff_getElem.1 h).1

theorem run_mapUpdate (h : MKey P kt kv) {t e : TypeId} {w : World} {b : Nat} {M : List (K × Value)} (hu : P.underlying t = some (.map kt e)) (hb : w.heap[b]? = some (.map (ents kv M).toArray M.length)) (hnd : (M.map (·.1)).Nodup) (k : K) (v : Value) :
    (Instr.mapUpdate t (.map (some b)) (kv k) v).run P w = .ok () { w with heap := w.heap.setIfInBounds b (.map (ents kv (upd M k v)).toArray (upd M k v).length) } := by
  have h1 := run_find h w M hnd k
  have h2 := h.check w false k
  have h3 := run_getMap (P := P) hb
  unfold Instr.mapUpdate
  simp only [Sem.run_bind, run_underlying hu, Result.andThen_ok, h3, h2, h1]
  cases hp : plc M k with
  | none =>
    simp only [Option.bind_none, upd, hp, run_setMap _ hb trivial]
    simp [ents_append]
  | some i =>
    have hi := plc_lt hp
    have h4 : (((ents kv M).toArray[i]?.map (·.key)).getD (kv k)) = kv k := by
      have hik : M[i].1 = k := by
        have := (List.findIdx?_eq_some_iff_getElem.1 hp).2.1
        simpa using this
      simp [ents_get kv M i hi, hik]
    simp only [Option.bind_some, hi, List.getElem?_eq_getElem, Option.map_some, Sem.run_bind, h4, h.stays, Result.andThen_ok, upd, hp, run_setMap _ hb trivial]
    rw [ents_modify kv M i k v hi]
    simp

theorem run_lookup (h : MKey P kt kv) {t e : TypeId} {w : World} {b : Nat} {M : List (K × Value)} {z : Value} (hu : P.underlying t = some (.map kt e)) (hz : (zeroValue e).run P w = .ok z w) (hb : w.heap[b]? = some (.map (ents kv M).toArray M.length)) (hnd : (M.map (·.1)).Nodup) (k : K) (c : Bool) :
    (Instr.lookup t (.map (some b)) (kv k) c).run P w = .ok (if c then .tuple #[(gotten M k).getD z, .bool (gotten M k).isSome] else (gotten M k).getD z) w := by
  have h1 := run_find h w M hnd k
  have h3 := run_getMap (P := P) hb
  have hg : ((plc M k).bind fun i => M[i]?.map fun p => (i, p.2)).map (·.2) = gotten M k := by
    unfold gotten
    cases hp : plc M k with
    | none =>
      have : M.find? (fun p => decide (p.1 = k)) = none := by
        rw [List.find?_eq_none]
        intro p hpm
        have := List.findIdx?_eq_none_iff.1 hp p hpm
        simpa using this
      simp [this]
    | some i =>
      have hi := plc_lt hp
      have : M.find? (fun p => decide (p.1 = k)) = some M[i] := by
        rw [List.find?_eq_some_iff_getElem]
        obtain ⟨_, h5, h6⟩ := List.findIdx?_eq_some_iff_getElem.1 hp
        exact ⟨h5, i, hi, rfl, fun j hj => by simpa using h6 j hj⟩
      simp [this, hi]
  unfold Instr.lookup
  simp only [Sem.run_bind, run_underlying hu, Result.andThen_ok, h3, h.check, Sem.run_pure, h1]
  revert hg
  cases ((plc M k).bind fun i => M[i]?.map fun p => (i, p.2)) with
  | none =>
    intro hg
    rw [← hg]
    simp only [Option.map_none, Sem.run_bind, hz, Result.andThen_ok, Sem.run_pure]
    cases c <;> simp
  | some q =>
    intro hg
    rw [← hg]
    simp only [Option.map_some, Sem.run_pure, Result.andThen_ok]
    cases c <;> simp
end

/-- Block b is a map of the call's own. -/
class OwnM (Γ : List Fact) (b : Nat) (es : outParam (List MapEntry)) (c : outParam Nat) (Δ : outParam (List Fact)) : Prop where
  ok : Γ.Perm (.omap b es c :: Δ)
instance (priority := 100) OwnM.miss {Γ : List Fact} {g : Fact} {b : Nat} {es : List MapEntry} {c : Nat} {Δ : List Fact} [h : OwnM Γ b es c Δ] : OwnM (g :: Γ) b es c (g :: Δ) :=
  ⟨(h.ok.cons g).trans (List.Perm.swap _ g Δ)⟩
instance (priority := 1000) OwnM.hit {Γ : List Fact} {b : Nat} {es : List MapEntry} {c : Nat} : OwnM (.omap b es c :: Γ) b es c Γ := ⟨List.Perm.refl _⟩

/-- A map that is read. -/
def rmap (b : Nat) (es : List MapEntry) (c : Nat) : Asn where
  holds F w := F b ∧ w.heap[b]? = some (.map es.toArray c)
  mono F G w h hh := ⟨h b hh.1, hh.2⟩
  frame F w w' hk h := ⟨h.1, (hk b h.1).trans h.2⟩
  within F w h := ⟨⟨h.1, (Array.getElem?_eq_some_iff.1 h.2).1⟩, h.2⟩

/-- Block b reads as a map. -/
class RdM (Γ : List Fact) (b : Nat) (es : outParam (List MapEntry)) (c : outParam Nat) : Prop where
  ok : ∀ w0 F w, Hold w0 F Γ w → w.heap[b]? = some (.map es.toArray c)
instance (priority := 100) RdM.miss {Γ : List Fact} {g : Fact} {b : Nat} {es : List MapEntry} {c : Nat} [h : RdM Γ b es c] : RdM (g :: Γ) b es c := ⟨fun w0 F w hw => h.ok w0 F w hw.tail⟩
instance (priority := 1000) RdM.own {Γ : List Fact} {b : Nat} {es : List MapEntry} {c : Nat} : RdM (.omap b es c :: Γ) b es c := ⟨fun w0 F w hw => hw.sat (.omap b es c) (by simp)⟩
instance (priority := 1000) RdM.st {Γ : List Fact} {b : Nat} {es : List MapEntry} {c : Nat} : RdM (.st (rmap b es c) :: Γ) b es c := ⟨fun w0 F w hw => (hw.sat (.st (rmap b es c)) (by simp)).2⟩

/-- A map of the call's own is read from now on. -/
theorem Hold.pubMap {w0 w : World} {F : Nat → Prop} {Γ : List Fact} {b c : Nat} {es : List MapEntry} (h : Hold w0 F (.omap b es c :: Γ) w) : Hold w0 F (.st (rmap b es c) :: Γ) w :=
  h.publish fun hk => ⟨hk b (.inr rfl), h.sat (.omap b es c) (by simp)⟩

/-- Block r is an object of the call's own. -/
class OwnO (Γ : List Fact) (b : Nat) (o : outParam Obj) (Δ : outParam (List Fact)) : Prop where
  ok : Γ.Perm (.obj b o :: Δ)
instance (priority := 100) OwnO.miss {Γ : List Fact} {g : Fact} {b : Nat} {o : Obj} {Δ : List Fact} [h : OwnO Γ b o Δ] : OwnO (g :: Γ) b o (g :: Δ) :=
  ⟨(h.ok.cons g).trans (List.Perm.swap _ g Δ)⟩
instance (priority := 1000) OwnO.hit {Γ : List Fact} {b : Nat} {o : Obj} : OwnO (.obj b o :: Γ) b o Γ := ⟨List.Perm.refl _⟩

section
variable {P : Program} {n : Nat} {w0 : World} {F : Nat → Prop} {ops : Array Oper} {i d : Nat} {t : TypeId} {pos : String} {aft : Array Edge} {g : Option (Nat × Bool)} {os : List Oper} {Q : Cont} {e : E} {Γ : List Fact}

theorem JR.makeMap {K : Type} (kv : K → Value) {ty : TypeId} (hd : Nat.blt d n = true)
    (k : ∀ b, JO P n w0 F ops (i + 1) os Q ((d, .map (some b)) :: e) (.omap b (ents kv ([] : List (K × Value))) ([] : List (K × Value)).length :: Γ)) : JR P n w0 F ops i ⟨some d, .makeMap ty none, t, pos, aft, g⟩ os Q e Γ :=
  JR.value hd fun a w fr ho => ⟨_, w.alloc (.map #[] 0), _, by
    simp only [execOp, Instr.makeMap, Option.map_none, Sem.run_bind, Result.andThen_ok, run_newObj, Sem.run_pure]
    rfl, ho.push (f := .omap w.heap.size [] 0) (o := .map #[] 0) (fun _ => Iff.rfl) (fun _ _ h => h), k w.heap.size⟩

theorem JR.makeSet {K : Type} (kv : K → Value) {ty : TypeId} (hd : Nat.blt d n = true)
    (k : ∀ b, JO P n w0 F ops (i + 1) os Q ((d, .map (some b)) :: e) (.omap b (ents kv (sety ([] : List K))) ([] : List K).length :: Γ)) : JR P n w0 F ops i ⟨some d, .makeMap ty none, t, pos, aft, g⟩ os Q e Γ :=
  JR.makeMap kv hd k

theorem Hold.setMap {w : World} {b : Nat} {es es' : List MapEntry} {c c' : Nat} {Δ : List Fact} (h : Hold w0 F (.omap b es c :: Δ) w) : Hold w0 F (.omap b es' c' :: Δ) { w with heap := w.heap.setIfInBounds b (.map es'.toArray c') } := by
  have hw : w.heap[b]? = some (.map es.toArray c) := h.sat (.omap b es c) (by simp)
  have e1 := set_heap (o' := .map es'.toArray c') hw
  exact h.swap (b := b) (fun _ => Iff.rfl) (fun _ => Iff.rfl) rfl rfl rfl (by simp) e1.2 e1.1

theorem JR.mapUpdate_ {K : Type} [DecidableEq K] {kv : K → Value} {x y z : Operand} {ty kt el : TypeId} {sz by_ b : Nat} {zz v : Value} {M : List (K × Value)} {k : K} {Δ : List Fact} {op : Op}
    (hop : op = .mapUpdate ty x y z ∨ op = .insert ty x y z) [hx : Ev e x (.map (some b))] [hy : Ev e y (kv k)] [hz : Ev e z v] [hT : Ty P ty (.map kt el) sz by_ zz] [hK : MKey P kt kv] [hM : OwnM Γ b (ents kv M) M.length Δ]
    (hnd : (M.map (·.1)).Nodup) (kk : JO P n w0 F ops (i + 1) os Q e (.omap b (ents kv (upd M k v)) (upd M k v).length :: Δ)) : JR P n w0 F ops i ⟨none, op, t, pos, aft, g⟩ os Q e Γ :=
  JR.effect fun a w fr ho => by
    have ho' := ho.perm hM.ok
    have hw : w.heap[b]? = some (.map (ents kv M).toArray M.length) := ho'.sat (.omap b (ents kv M) M.length) (by simp)
    have hr := run_mapUpdate hK hT.und hw hnd k v
    refine ⟨.skip, _, _, .inl rfl, ?_, ho'.setMap, kk⟩
    rcases hop with rfl | rfl <;> simp only [execOp, hx.ok n a fr, hy.ok n a fr, hz.ok n a fr, Sem.run_bind, hr, Result.andThen_ok, Sem.run_pure]

theorem OpV.lookup_ {K : Type} [DecidableEq K] {kv : K → Value} {x y : Operand} {ty kt el : TypeId} {ed : TypeDesc} {sz by_ b s2 b2 : Nat} {zz z : Value} {M : List (K × Value)} {k : K} {c : Bool} {d : Option Nat}
    [hx : Ev e x (.map (some b))] [hy : Ev e y (kv k)] [hT : Ty P ty (.map kt el) sz by_ zz] [hE : Ty P el ed s2 b2 z] [hK : MKey P kt kv] [hM : RdM Γ b (ents kv M) M.length]
    (hnd : (M.map (·.1)).Nodup) : OpV P n w0 F ⟨d, .lookup ty x y c, t, pos, aft, g⟩ e Γ (if c then .tuple #[(gotten M k).getD z, .bool (gotten M k).isSome] else (gotten M k).getD z) :=
  fun a w fr ho => by
    have hw : w.heap[b]? = some (.map (ents kv M).toArray M.length) := hM.ok w0 F w ho
    have hr := run_lookup hK hT.und (run_zero (P := P) (t := el) w) hw hnd k c
    simp only [execOp, hx.ok n a fr, hy.ok n a fr, Sem.run_bind, hr, Result.andThen_ok, Sem.run_pure]

/-- A range over a map of the call's own; what is seen so far (by number). -/
theorem JR.range {K : Type} {kv : K → Value} {x : Operand} {ty kt el : TypeId} {sz by_ b : Nat} {zz : Value} {M : List (K × Value)}
    [hx : Ev e x (.map (some b))] [hT : Ty P ty (.map kt el) sz by_ zz] [hM : RdM Γ b (ents kv M) M.length] (hd : Nat.blt d n = true)
    (k : ∀ r, JO P n w0 F ops (i + 1) os Q ((d, .pointer (some ⟨r, 0, none⟩)) :: e) (.obj r (.mapIter (some b) M.length ([] : List Nat).toArray M.length) :: Γ)) : JR P n w0 F ops i ⟨some d, .range ty x, t, pos, aft, g⟩ os Q e Γ :=
  JR.value hd fun a w fr ho => by
    have hw : w.heap[b]? = some (.map (ents kv M).toArray M.length) := hM.ok w0 F w ho
    have h1 := run_und (P := P) (t := ty) w
    have h2 := run_getMap (P := P) hw
    refine ⟨_, w.alloc (.mapIter (some b) M.length #[] M.length), _, ?_, ho.push (f := .obj w.heap.size (.mapIter (some b) M.length #[] M.length)) (fun _ => Iff.rfl) (fun _ _ h => h), k w.heap.size⟩
    simp only [execOp, hx.ok n a fr, Instr.range, Sem.run_bind, h1, h2, Result.andThen_ok, Sem.run_pure, run_newObj]
    rfl

theorem setMapIter {w : World} {r : Nat} {o o' : Obj} {Δ : List Fact} (h : Hold w0 F (.obj r o :: Δ) w) : Hold w0 F (.obj r o' :: Δ) { w with heap := w.heap.setIfInBounds r o' } := by
  have hw : w.heap[r]? = some o := h.sat (.obj r o) (by simp)
  have e1 := set_heap (o' := o') hw
  exact h.swap (b := r) (fun _ => Iff.rfl) (fun _ => Iff.rfl) rfl rfl rfl (by simp) e1.2 e1.1

theorem left_mem {K : Type} (kv : K → Value) (M : List (K × Value)) (S : List Nat) (x : MapEntry) (h : x ∈ ((ents kv M).toArray.filter fun e => !S.toArray.contains e.born)) : ∃ i, ∃ h : i < M.length, i ∉ S ∧ x = ⟨kv M[i].1, M[i].2, i⟩ := by
  rw [Array.mem_filter] at h
  obtain ⟨h1, h2⟩ := h
  rw [List.mem_toArray] at h1
  obtain ⟨i, hi, rfl⟩ := List.getElem_of_mem h1
  have hi' : i < M.length := by simpa [ents_length] using hi
  have := ents_get kv M i hi'
  rw [List.getElem?_eq_getElem hi] at this
  injection this with this
  rw [this] at h2 ⊢
  exact ⟨i, hi', by simpa using h2, rfl⟩

def unseen {K : Type} (kv : K → Value) (M : List (K × Value)) (S : List Nat) : Array MapEntry := (ents kv M).toArray.filter fun e => !S.toArray.contains e.born
def cands (l : Array MapEntry) : Array (Option MapEntry) := (if l.isEmpty then #[none] else #[]) ++ (l ++ #[]).map some
theorem cands_get (l : Array MapEntry) (m : Nat) (hm : 0 < (cands l).size → m < (cands l).size) : (l = #[] ∧ (cands l)[m]? = some none) ∨ ∃ y ∈ l, (cands l)[m]? = some (some y) := by
  by_cases h : l = #[]
  · subst h
    have e1 : cands #[] = #[none] := by simp [cands]
    rw [e1] at hm ⊢
    have : m < 1 := hm (by simp)
    have : m = 0 := by omega
    subst this
    exact .inl ⟨rfl, by simp⟩
  · have h1 : l.isEmpty = false := by simpa using h
    have h2 : cands l = l.map some := by simp [cands, h1]
    have h3 : 0 < l.size := Array.size_pos_iff.2 h
    rw [h2] at hm ⊢
    have hml : m < l.size := by have := hm (by simpa using h3); simpa using this
    exact .inr ⟨l[m], Array.getElem_mem hml, by simp [hml]⟩
theorem run_mapNext (sz : Nat) (w : World) : ∃ m w', (choose (.mapNext sz)).run P w = .ok m w' ∧ (w' = w ∨ w' = w.drew) ∧ (0 < sz → m < sz) := by
  rw [run_choose_drew]
  by_cases hf : (Question.mapNext sz).forced = true
  · rw [if_pos hf]; exact ⟨0, w, rfl, .inl rfl, fun h => h⟩
  · rw [if_neg hf]; exact ⟨_, w.drew, rfl, .inr rfl, fun h => Nat.mod_lt _ h⟩

/-- A step of a range over a map: it is over where all is seen; else one that was not seen comes. -/
theorem JR.next {K : Type} {kv : K → Value} {x : Operand} {b r : Nat} {M : List (K × Value)} {S : List Nat} {Δ : List Fact}
    [hx : Ev e x (.pointer (some ⟨r, 0, none⟩))] [hO : OwnO Γ r (.mapIter (some b) M.length S.toArray M.length) Δ] [hM : RdM Δ b (ents kv M) M.length] (hd : Nat.blt d n = true) (hS : ∀ i ∈ S, i < M.length)
    (k1 : (∀ i, i < M.length → i ∈ S) → JO P n w0 F ops (i + 1) os Q ((d, .tuple ⟨[.bool false]⟩) :: e) Γ)
    (k2 : ∀ j, (h : j < M.length) → j ∉ S → JO P n w0 F ops (i + 1) os Q ((d, .tuple ⟨[.bool true, kv M[j].1, M[j].2]⟩) :: e) (.obj r (.mapIter (some b) M.length (S ++ [j]).toArray M.length) :: Δ)) :
    JR P n w0 F ops i ⟨some d, .next x false, t, pos, aft, g⟩ os Q e Γ :=
  JR.value hd fun a w fr ho => by
    have ho1 := ho.perm hO.ok
    have hr : w.heap[r]? = some (.mapIter (some b) M.length S.toArray M.length) := ho1.sat (.obj r _) (by simp)
    have hw : w.heap[b]? = some (.map (ents kv M).toArray M.length) := hM.ok w0 F w ho1.tail
    have g1 : (getObj r).run P w = .ok (.mapIter (some b) M.length S.toArray M.length) w := by simp [getObj, Sem.run, hr]
    have g2 := run_getMap (P := P) hw
    have hstale : (!S.toArray.isEmpty && !(ents kv M).toArray.isEmpty && (ents kv M).toArray.all (·.born ≥ M.length)) = false := by
      by_cases hS0 : S = []
      · subst hS0; rfl
      · by_cases hM0 : M = []
        · subst hM0; simp [ents]
        · have hpos : 0 < M.length := List.length_pos_iff.2 hM0
          have : (ents kv M).toArray.all (·.born ≥ M.length) = false := by
            rw [← Bool.not_eq_true, Array.all_eq_true]
            intro h
            have := h 0 (by simpa [ents_length] using hpos)
            have e0 := ents_get kv M 0 hpos
            have hl : 0 < (ents kv M).length := by rw [ents_length]; exact hpos
            rw [List.getElem?_eq_getElem hl] at e0
            injection e0 with e0
            have h0 := of_decide_eq_true this
            have e1 : ((ents kv M).toArray[0]'(by simpa using hl)).born = 0 := by
              rw [List.getElem_toArray, e0]
            omega
          rw [this, Bool.and_false]
    have hold : (((ents kv M).toArray.filter fun e => !S.toArray.contains e.born).filter (·.born < M.length)) = (ents kv M).toArray.filter fun e => !S.toArray.contains e.born := by
      rw [Array.filter_eq_self]
      intro x hx
      obtain ⟨i, hi, _, rfl⟩ := left_mem kv M S x hx
      simpa using hi
    have hnew : (((ents kv M).toArray.filter fun e => !S.toArray.contains e.born).filter (·.born ≥ M.length)) = #[] := by
      rw [Array.filter_eq_empty_iff]
      intro x hx
      obtain ⟨i, hi, _, rfl⟩ := left_mem kv M S x hx
      simpa using hi
    obtain ⟨m, w', hrun, hw', hm⟩ := run_mapNext (P := P) (cands (unseen kv M S)).size w
    have key : (execOp a.eval ⟨some d, .next x false, t, pos, aft, g⟩).run P w = (match ((cands (unseen kv M S))[m]? : Option (Option MapEntry)) with
        | some (some e) => ((do setObj r (.mapIter (some b) M.length (S.toArray.push e.born) M.length); pure (Value.tuple #[.bool true, e.key, e.val])) : Sem Value).run P w'
        | some none => .ok (.tuple #[.bool false]) w'
        | none => ((stuck "Next: no such candidate") : Sem Value).run P w').andThen fun v w' => .ok (.value v) w' := by
      simp only [execOp, hx.ok n a fr, Instr.next, Sem.run_bind, g1, g2, Result.andThen_ok, hstale, hold, hnew, Bool.false_eq_true, if_false]
      change ((((choose (.mapNext (cands (unseen kv M S)).size)).run P w).andThen _).andThen _) = _
      rw [hrun]
      simp only [Result.andThen_ok]
      congr 1
      change Sem.run P (match ((cands (unseen kv M S))[m]? : Option (Option MapEntry)) with | some (some e) => _ | some none => _ | none => _) w' = _
      split <;> first | exact Sem.run_bind .. | rfl
    have hho : Hold w0 F Γ w' := by rcases hw' with rfl | rfl; exact ho; exact ho.drew
    rcases cands_get (unseen kv M S) m hm with ⟨h1, h2⟩ | ⟨y, h1, h2⟩
    · refine ⟨_, w', Γ, ?_, hho, k1 fun i hi => ?_⟩
      · rw [key, h2]; rfl
      · apply Classical.byContradiction
        intro hiS
        have : (⟨kv M[i].1, M[i].2, i⟩ : MapEntry) ∈ unseen kv M S := by
          unfold unseen
          rw [Array.mem_filter]
          exact ⟨by rw [List.mem_toArray]; exact List.mem_of_getElem? (ents_get kv M i hi), by simpa using hiS⟩
        rw [h1] at this
        simp at this
    · obtain ⟨j, hj, hjS, rfl⟩ := left_mem kv M S y h1
      have hr' : w'.heap[r]? = some (.mapIter (some b) M.length S.toArray M.length) := by rcases hw' with rfl | rfl <;> exact hr
      refine ⟨_, { w' with heap := w'.heap.setIfInBounds r (.mapIter (some b) M.length (S ++ [j]).toArray M.length) }, _, ?_, setMapIter (hho.perm hO.ok), k2 j hj hjS⟩
      rw [key, h2]
      simp only [Sem.run_bind, run_setMap _ hr' trivial, Result.andThen_ok, Sem.run_pure]
      simp

/-- The entry that a range has come to. -/
theorem OpV.entry {K : Type} {kv : K → Value} {x : Operand} {b r j : Nat} {M : List (K × Value)} {S : List Nat} {Δ : List Fact} {d : Option Nat}
    [hx : Ev e x (.pointer (some ⟨r, 0, none⟩))] [hO : OwnO Γ r (.mapIter (some b) M.length (S ++ [j]).toArray M.length) Δ] [hM : RdM Δ b (ents kv M) M.length] (hj : j < M.length) :
    OpV P n w0 F ⟨d, .entry x, t, pos, aft, g⟩ e Γ (.tuple ⟨[kv M[j].1, M[j].2]⟩) :=
  fun a w fr ho => by
    have ho1 := ho.perm hO.ok
    have hr : w.heap[r]? = some (.mapIter (some b) M.length (S ++ [j]).toArray M.length) := ho1.sat (.obj r _) (by simp)
    have hw : w.heap[b]? = some (.map (ents kv M).toArray M.length) := hM.ok w0 F w ho1.tail
    have g1 : (getObj r).run P w = .ok (.mapIter (some b) M.length (S ++ [j]).toArray M.length) w := by simp [getObj, Sem.run, hr]
    have g2 := run_getMap (P := P) hw
    have hback : (S ++ [j]).toArray.back? = some j := by simp
    have hfind : (ents kv M).toArray.find? (·.born == j) = some ⟨kv M[j].1, M[j].2, j⟩ := by
      rw [List.find?_toArray, List.find?_eq_some_iff_getElem]
      refine ⟨by simp, j, by rw [ents_length]; exact hj, ?_, fun i hi => ?_⟩
      · have := ents_get kv M j hj
        exact (List.getElem?_eq_some_iff.1 this).2
      · have := ents_get kv M i (by omega)
        have := (List.getElem?_eq_some_iff.1 this).2
        rw [this]
        simp; omega
    simp only [execOp, hx.ok n a fr, Instr.entry, Sem.run_bind, g1, g2, Result.andThen_ok, hback, bne_self_eq_false, Bool.false_eq_true, if_false, hfind, Sem.run_pure]
end

/- ids as keys, numbers as keys -/
theorem mapM_some {α β : Type} (f : α → Option β) : ∀ (l : List α), (∀ x ∈ l, ∃ y, f x = some y) → ∃ ys, l.mapM f = some ys
  | [], _ => ⟨[], rfl⟩
  | x :: l, h => by
    obtain ⟨y, hy⟩ := h x (by simp)
    obtain ⟨ys, hys⟩ := mapM_some f l (fun z hz => h z (by simp [hz]))
    exact ⟨y :: ys, by rw [List.mapM_cons, hy, hys]; rfl⟩

abbrev idV (a : ID) : Value := .agg ⟨idc a⟩
abbrev intV (n : Int) : Value := .int .i64 n

theorem byteV_inj {a b : UInt8} (h : byteV a = byteV b) : a = b := by
  simp only [byteV, Value.int.injEq, true_and] at h
  exact UInt8.toNat_inj.1 (by omega)
theorem idc_inj {a b : ID} (h : idc a = idc b) : a = b := Subtype.ext (List.map_inj_right (fun _ _ => byteV_inj) |>.1 h)

open Go.WideMaps in
theorem MKey.id {P : Program} {k e : TypeId} (A : ArrKey P k e 32) (he : P.underlying e = some (.int .u8)) (hsz : ∃ m, P.types.size = m + 1) : MKey P k idV := by
  have key : ∀ a : ID, ∃ l, keyOf P k (idV a) = some l := by
    intro a
    have hkt := A.keyType hsz
    obtain ⟨m0, hm0⟩ := hsz
    unfold keyOf idV
    simp only [A.hu]
    have hf : (Value.agg ⟨idc a⟩).formed P k = true := by simp [Value.formed, A.hu, A.size, idc_length]
    rw [if_pos (by simp [hkt, hf]), hm0]
    unfold Program.keyLits
    simp only [A.hu, Value.cells]
    rw [if_pos (by rw [A.size]; simp [idc_length])]
    obtain ⟨ys, hys⟩ := mapM_some (fun i => P.keyLits (m0 + 1) e (((idc a).drop (i * P.cellsOf e)).take (P.cellsOf e))) (List.range 32) (by
      intro i hi
      have hi' : i < 32 := List.mem_range.1 hi
      have hlt : i < (idc a).length := by rw [idc_length]; exact hi'
      have ha : i < a.1.length := by rw [a.2]; exact hi'
      rw [A.one, Nat.mul_one, List.drop_eq_getElem_cons hlt]
      have hb : (idc a)[i] = byteV (a.1[i]) := by simp [idc]
      simp only [List.take_succ_cons, List.take_zero, hb]
      unfold Program.keyLits
      simp only [he, byteV]
      rw [if_pos ⟨trivial, by
          have := (a.1[i]).toNat_lt
          simp [Lit.wf, IntKind.min, IntKind.max, IntKind.signed, IntKind.bits]
          omega⟩]
      exact ⟨_, rfl⟩)
    rw [hys]
    exact ⟨_, rfl⟩
  have L := A.law
  refine ⟨fun a b h => ?_, fun w em a => ?_, fun w a es hes => ?_, fun w a => ?_⟩
  · simp only [idV, Value.agg.injEq, Array.mk.injEq] at h
    exact idc_inj h
  · obtain ⟨l, hl⟩ := key a
    exact L.check w em hl
  · obtain ⟨l, hl⟩ := key a
    exact L.find w hl es (fun x hx => by obtain ⟨c, hc⟩ := hes x hx; rw [hc]; exact key c)
  · obtain ⟨l, hl⟩ := key a
    exact L.stays w hl

open Go.MapKept in
theorem MKey.int {P : Program} {k : TypeId} (hu : P.underlying k = some (.int .i64)) : MKey P k intV := by
  refine ⟨fun a b h => ?_, fun w em a => ?_, fun w a es hes => ?_, fun w a => ?_⟩
  · simpa [intV] using h
  · exact run_checkKey hu (by simp [IsKey, intV]) em 9999
  · have hk : IsKey (.int .i64) (intV a) := by simp [IsKey, intV]
    have := findNow_spec hk es 0 (fun x hx => by obtain ⟨c, hc⟩ := hes x hx; rw [hc]; simp [IsKey, intV])
    rcases this with ⟨h1, h2⟩ | ⟨j, x, h1, h2, h3⟩
    · exact .inl ⟨run_findKey hu h1, h2⟩
    · exact .inr ⟨j, x, by simpa using run_findKey hu h1, h2, h3⟩
  · simp [Instr.keyThatStays, Instr.sameBits, intV]

theorem sety_keys {K : Type} (L : List K) : (sety L).map (·.1) = L := by simp [sety, Function.comp_def]
theorem sety_length {K : Type} (L : List K) : (sety L).length = L.length := by simp [sety]
theorem sety_get {K : Type} (L : List K) (i : Nat) (h : i < (sety L).length) : (sety L)[i] = (L[i]'(by rwa [sety_length] at h), .bool true) := by simp [sety]
def addK {K : Type} [DecidableEq K] (L : List K) (k : K) : List K := if k ∈ L then L else L ++ [k]
theorem addK_nodup {K : Type} [DecidableEq K] {L : List K} (h : L.Nodup) (k : K) : (addK L k).Nodup := by
  unfold addK
  split
  · exact h
  · rename_i hk
    exact List.nodup_append.2 ⟨h, by simp, fun a ha b hb => by simp at hb; subst hb; exact fun e => hk (e ▸ ha)⟩
theorem mem_addK {K : Type} [DecidableEq K] {L : List K} {k x : K} : x ∈ addK L k ↔ x ∈ L ∨ x = k := by
  unfold addK
  split
  · rename_i hk
    exact ⟨.inl, fun h => h.elim id (fun e => e ▸ hk)⟩
  · simp

theorem plc_sety {K : Type} [DecidableEq K] (L : List K) (k : K) : plc (sety L) k = L.findIdx? (fun x => decide (x = k)) := by
  simp [plc, sety, List.findIdx?_map, Function.comp_def]

theorem upd_sety {K : Type} [DecidableEq K] (L : List K) (k : K) : upd (sety L) k (.bool true) = sety (addK L k) := by
  unfold upd addK
  rw [plc_sety]
  cases h : L.findIdx? (fun x => decide (x = k)) with
  | none =>
    have : k ∉ L := by
      intro hk
      have := List.findIdx?_eq_none_iff.1 h k hk
      simp at this
    simp [this, sety]
  | some i =>
    obtain ⟨h1, h2, _⟩ := List.findIdx?_eq_some_iff_getElem.1 h
    have h2 : L[i] = k := by simpa using h2
    have hk : k ∈ L := by rw [← h2]; exact List.getElem_mem _
    simp only [hk, if_true]
    apply List.ext_getElem?
    intro j
    simp only [sety, List.getElem?_modify, List.getElem?_map]
    by_cases hij : i = j
    · subst hij
      simp [h1, h2]
    · simp only [hij, if_false]
      cases L[j]? <;> rfl

theorem gotten_sety {K : Type} [DecidableEq K] (L : List K) (k : K) : gotten (sety L) k = if k ∈ L then some (.bool true) else none := by
  unfold gotten sety
  induction L with
  | nil => rfl
  | cons a L ih =>
    simp only [List.map_cons, List.find?_cons]
    by_cases h : a = k
    · simp [h]
    · have h' : ¬ k = a := fun e => h e.symm
      simp only [h, decide_false, List.mem_cons, h', false_or]
      exact ih

section
variable {P : Program} {n : Nat} {w0 : World} {F : Nat → Prop} {ops : Array Oper} {i d : Nat} {t : TypeId} {pos : String} {aft : Array Edge} {g : Option (Nat × Bool)} {os : List Oper} {Q : Cont} {e : E} {Γ : List Fact}

/-- A set's element laid. -/
theorem JR.setAdd {K : Type} [DecidableEq K] {kv : K → Value} {x y z : Operand} {ty kt el : TypeId} {sz by_ b : Nat} {zz : Value} {L : List K} (k : K) {Δ : List Fact}
    [hT : Ty P ty (.map kt el) sz by_ zz] [hK : MKey P kt kv] [hx : Ev e x (.map (some b))] [hy : Ev e y (kv k)] [hz : Ev e z (.bool true)] [hM : OwnM Γ b (ents kv (sety L)) L.length Δ]
    (hnd : L.Nodup) (kk : JO P n w0 F ops (i + 1) os Q e (.omap b (ents kv (sety (addK L k))) (addK L k).length :: Δ)) : JR P n w0 F ops i ⟨none, .mapUpdate ty x y z, t, pos, aft, g⟩ os Q e Γ := by
  have hM' : OwnM Γ b (ents kv (sety L)) (sety L).length Δ := by rw [sety_length]; exact hM
  refine JR.mapUpdate_ (M := sety L) (k := k) (v := .bool true) (.inl rfl) (by rw [sety_keys]; exact hnd) ?_
  rw [upd_sety, sety_length]
  exact kk

/-- Is it in the set? -/
theorem OpV.setHas {K : Type} [DecidableEq K] {kv : K → Value} {x y : Operand} {ty kt el : TypeId} {ed : TypeDesc} {sz by_ b s2 b2 : Nat} {zz : Value} {L : List K} (k : K) {d : Option Nat}
    [hT : Ty P ty (.map kt el) sz by_ zz] [hE : Ty P el ed s2 b2 (.bool false)] [hK : MKey P kt kv] [hx : Ev e x (.map (some b))] [hy : Ev e y (kv k)] [hM : RdM Γ b (ents kv (sety L)) L.length]
    (hnd : L.Nodup) : OpV P n w0 F ⟨d, .lookup ty x y false, t, pos, aft, g⟩ e Γ (.bool (decide (k ∈ L))) := by
  have hM' : RdM Γ b (ents kv (sety L)) (sety L).length := by rw [sety_length]; exact hM
  have := OpV.lookup_ (P := P) (n := n) (w0 := w0) (F := F) (t := t) (pos := pos) (aft := aft) (g := g) (e := e) (Γ := Γ) (x := x) (y := y) (ty := ty) (M := sety L) (k := k) (c := false) (d := d) (by rw [sety_keys]; exact hnd)
  rw [gotten_sety] at this
  by_cases hk : k ∈ L <;> simpa [hk] using this

/-- The same, over a set. -/
theorem JR.nextS {K : Type} {kv : K → Value} {x : Operand} {b r : Nat} {L : List K} {S : List Nat} {Δ : List Fact}
    [hx : Ev e x (.pointer (some ⟨r, 0, none⟩))] [hO : OwnO Γ r (.mapIter (some b) L.length S.toArray L.length) Δ] [hM : RdM Δ b (ents kv (sety L)) L.length] (hd : Nat.blt d n = true) (hS : ∀ i ∈ S, i < L.length)
    (k1 : (∀ i, i < L.length → i ∈ S) → JO P n w0 F ops (i + 1) os Q ((d, .tuple ⟨[.bool false]⟩) :: e) Γ)
    (k2 : ∀ j, (h : j < L.length) → j ∉ S → JO P n w0 F ops (i + 1) os Q ((d, .tuple ⟨[.bool true, kv L[j], .bool true]⟩) :: e) (.obj r (.mapIter (some b) L.length (S ++ [j]).toArray L.length) :: Δ)) :
    JR P n w0 F ops i ⟨some d, .next x false, t, pos, aft, g⟩ os Q e Γ := by
  have hO' : OwnO Γ r (.mapIter (some b) (sety L).length S.toArray (sety L).length) Δ := by rw [sety_length]; exact hO
  have hM' : RdM Δ b (ents kv (sety L)) (sety L).length := by rw [sety_length]; exact hM
  refine JR.next (M := sety L) (b := b) (r := r) (S := S) hd (by rw [sety_length]; exact hS) (fun h => k1 (by rw [sety_length] at h; exact h)) (fun j hj hjS => ?_)
  have := k2 j (by rwa [sety_length] at hj) hjS
  rw [sety_get L j hj]
  simp only [sety_length]
  exact this

theorem JR.rangeS {K : Type} {kv : K → Value} {x : Operand} {ty kt el : TypeId} {sz by_ b : Nat} {zz : Value} {L : List K}
    [hx : Ev e x (.map (some b))] [hT : Ty P ty (.map kt el) sz by_ zz] [hM : RdM Γ b (ents kv (sety L)) L.length] (hd : Nat.blt d n = true)
    (k : ∀ r, JO P n w0 F ops (i + 1) os Q ((d, .pointer (some ⟨r, 0, none⟩)) :: e) (.obj r (.mapIter (some b) L.length ([] : List Nat).toArray L.length) :: Γ)) : JR P n w0 F ops i ⟨some d, .range ty x, t, pos, aft, g⟩ os Q e Γ := by
  have hM' : RdM Γ b (ents kv (sety L)) (sety L).length := by rw [sety_length]; exact hM
  refine JR.range (M := sety L) (b := b) (kv := kv) (kt := kt) (el := el) hd (fun r => ?_)
  rw [sety_length]
  exact k r

theorem OpV.entryS {K : Type} {kv : K → Value} {x : Operand} {b r j : Nat} {L : List K} {S : List Nat} {Δ : List Fact} {d : Option Nat}
    [hx : Ev e x (.pointer (some ⟨r, 0, none⟩))] [hO : OwnO Γ r (.mapIter (some b) L.length (S ++ [j]).toArray L.length) Δ] [hM : RdM Δ b (ents kv (sety L)) L.length] (hj : j < L.length) :
    OpV P n w0 F ⟨d, .entry x, t, pos, aft, g⟩ e Γ (.tuple ⟨[kv L[j], .bool true]⟩) := by
  have hO' : OwnO Γ r (.mapIter (some b) (sety L).length (S ++ [j]).toArray (sety L).length) Δ := by rw [sety_length]; exact hO
  have hM' : RdM Δ b (ents kv (sety L)) (sety L).length := by rw [sety_length]; exact hM
  have := OpV.entry (P := P) (n := n) (w0 := w0) (F := F) (t := t) (pos := pos) (aft := aft) (g := g) (e := e) (Γ := Γ) (x := x) (b := b) (r := r) (j := j) (M := sety L) (S := S) (d := d) (Δ := Δ) (by rw [sety_length]; exact hj)
  rwa [sety_get L j (by rw [sety_length]; exact hj)] at this
end
end Ab
end Go.Proofs.Ytcmfemfndadfmaa

/- Literals of structs and arrays, max and min. Program-independent. -/
namespace Go.Proofs.Ytcmfemfndadfmaa
namespace Ab
open Go Go.RowKit
set_option linter.unusedVariables false
set_option linter.unusedSimpArgs false

/-- The parts of a literal, each with its number. -/
class Parts (e : E) (ps : List (Nat × Operand)) (vs : outParam (List (Nat × Value))) : Prop where
  ok : ∀ n a, Fr n e a → (ps.map fun p => (p.1, a.eval p.2)) = vs
instance {e : E} : Parts e [] [] := ⟨fun _ _ _ => rfl⟩
instance {e : E} {k : Nat} {x : Operand} {ps : List (Nat × Operand)} {v : Value} {vs : List (Nat × Value)} [h : Ev e x v] [h' : Parts e ps vs] : Parts e ((k, x) :: ps) ((k, v) :: vs) :=
  ⟨fun n a fr => by simp [h.ok n a fr, h'.ok n a fr]⟩

section
variable {P : Program} {n : Nat} {w0 : World} {F : Nat → Prop} {ops : Array Oper} {i : Nat} {d : Option Nat} {t : TypeId} {pos : String} {aft : Array Edge} {g : Option (Nat × Bool)} {os : List Oper} {Q : Cont} {e : E} {Γ : List Fact}

/-- A literal of a struct or an array, as the table of types lays it (by kernel_rfl). -/
theorem OpV.build {ty : TypeId} {ps : List (Nat × Operand)} {vs : List (Nat × Value)} (cs : List Value) [hp : Parts e ps vs] (h : P.built ty vs = some cs.toArray) : OpV P n w0 F ⟨d, .build ty ⟨ps⟩, t, pos, aft, g⟩ e Γ (.agg ⟨cs⟩) :=
  fun a w fr _ => by
    have hparts : ((⟨ps⟩ : Array (Nat × Operand)).map fun (i, x) => (i, a.eval x)) = ⟨vs⟩ := by
      apply Array.ext'
      simpa using hp.ok n a fr
    have h1 := run_build (P := P) w ty ⟨vs⟩ cs.toArray h
    simp only [execOp, hparts, Sem.run_bind, h1, Result.andThen_ok, Sem.run_pure]

/-- A literal without parts. -/
theorem OpV.build0 {ty : TypeId} {td : TypeDesc} {sz by_ : Nat} {cs : List Value} [hT : Ty P ty td sz by_ (.agg ⟨cs⟩)] (h : ∀ w, (Instr.build ty #[]).run P w = .ok (.agg ⟨cs⟩) w) : OpV P n w0 F ⟨d, .build ty ⟨[]⟩, t, pos, aft, g⟩ e Γ (.agg ⟨cs⟩) :=
  fun a w fr _ => by
    have := h w
    simp [execOp, this]

theorem OpV.max {x y : Operand} {ts : Array TypeId} {kk : IntKind} {p q : Int} [hx : Ev e x (.int kk p)] [hy : Ev e y (.int kk q)] : OpV P n w0 F ⟨d, .call ⟨.builtin .max, #[x, y], ts⟩, t, pos, aft, g⟩ e Γ (.int kk (Max.max p q)) :=
  fun a w fr _ => by
    have h1 := run_max_int2 (P := P) w ts t kk kk p q
    have h2 : (if q > p then q else p) = Max.max p q := by split <;> omega
    rw [h2] at h1
    simp [execOp, resolve_builtin, invoke, builtin, hx.ok n a fr, hy.ok n a fr, h1]
theorem OpV.min {x y : Operand} {ts : Array TypeId} {kk : IntKind} {p q : Int} [hx : Ev e x (.int kk p)] [hy : Ev e y (.int kk q)] : OpV P n w0 F ⟨d, .call ⟨.builtin .min, #[x, y], ts⟩, t, pos, aft, g⟩ e Γ (.int kk (Min.min p q)) :=
  fun a w fr _ => by
    have h1 := run_min_int2 (P := P) w ts t kk kk p q
    have h2 : (if q < p then q else p) = Min.min p q := by split <;> omega
    rw [h2] at h1
    simp [execOp, resolve_builtin, invoke, builtin, hx.ok n a fr, hy.ok n a fr, h1]

/-- A look into a map, with the sign whether it is there. -/
theorem OpV.lookupOk {K : Type} [DecidableEq K] {kv : K → Value} {x y : Operand} {ty kt el : TypeId} {ed : TypeDesc} {sz by_ b s2 b2 : Nat} {zz z v : Value} {M : List (K × Value)} (k : K) {is : Bool}
    [hT : Ty P ty (.map kt el) sz by_ zz] [hE : Ty P el ed s2 b2 z] [hK : MKey P kt kv] [hx : Ev e x (.map (some b))] [hy : Ev e y (kv k)] [hM : RdM Γ b (ents kv M) M.length]
    (hnd : (M.map (·.1)).Nodup) (h1 : (gotten M k).getD z = v) (h2 : (gotten M k).isSome = is) : OpV P n w0 F ⟨d, .lookup ty x y true, t, pos, aft, g⟩ e Γ (.tuple ⟨[v, .bool is]⟩) := by
  have := OpV.lookup_ (P := P) (n := n) (w0 := w0) (F := F) (t := t) (pos := pos) (aft := aft) (g := g) (e := e) (Γ := Γ) (x := x) (y := y) (ty := ty) (M := M) (k := k) (c := true) (d := d) hnd
  rw [h1, h2] at this
  exact this

/-- A slot's value, told in other words. -/
theorem JO.reslot {l : Array Oper} (s : Nat) {v : Value} (u : Value) [hs : Lk e s v] (h : v = u) (k : JO P n w0 F l i os Q ((s, u) :: e) Γ) : JO P n w0 F l i os Q e Γ :=
  fun hd a w fr ho => k hd a w (fr.again (by rw [← h]; exact hs.ok)) ho

/-- An entry laid (of a literal of a map). -/
theorem JR.insert {K : Type} [DecidableEq K] {kv : K → Value} {x y z : Operand} {ty kt el : TypeId} {sz by_ b : Nat} {zz v : Value} {M : List (K × Value)} (k : K) {Δ : List Fact}
    [hT : Ty P ty (.map kt el) sz by_ zz] [hK : MKey P kt kv] [hx : Ev e x (.map (some b))] [hy : Ev e y (kv k)] [hz : Ev e z v] [hM : OwnM Γ b (ents kv M) M.length Δ]
    (hnd : (M.map (·.1)).Nodup) (hnew : plc M k = none) (kk : JO P n w0 F ops (i + 1) os Q e (.omap b (ents kv (M ++ [(k, v)])) (M ++ [(k, v)]).length :: Δ)) : JR P n w0 F ops i ⟨none, .insert ty x y z, t, pos, aft, g⟩ os Q e Γ := by
  refine JR.mapUpdate_ (M := M) (k := k) (v := v) (.inr rfl) hnd ?_
  simp only [upd, hnew]
  exact kk
end
end Ab
end Go.Proofs.Ytcmfemfndadfmaa

/- Appending to a slice that has no room left: a new row. Slices as values. Program-independent. -/
namespace Go.Proofs.Ytcmfemfndadfmaa
namespace Ab
open Go Go.RowKit
set_option linter.unusedVariables false
set_option linter.unusedSimpArgs false

/-- A row that is read, with what lies at the hidden places. -/
theorem row_flat {α : Type} [Cell α] {F : Nat → Prop} {w : World} {b off : Nat} {L : List α} (h : rowAt F w b off L) :
    ∃ r : List (α × Cell.Ix α), r.map (·.1) = L ∧ (∀ j v, (flat r)[j]? = some v → w.cell? ⟨b, off + j, none⟩ = some v) ∧ ∀ p ∈ r, ∀ A ∈ Cell.facts p.1 p.2, A.holds F w := by
  induction L generalizing off with
  | nil => exact ⟨[], rfl, by simp [flat], by simp⟩
  | cons x L ih =>
    obtain ⟨y, hy1, hy2⟩ := h 0 (by simp)
    obtain ⟨r, h1, h2, h3⟩ := ih (off := off + Cell.sz α) (fun i hi => by
      obtain ⟨y, hy⟩ := h (i + 1) (by simpa using hi)
      refine ⟨y, ?_⟩
      rw [show off + Cell.sz α + i * Cell.sz α = off + (i + 1) * Cell.sz α by rw [Nat.add_mul]; omega]
      exact hy)
    refine ⟨(x, y) :: r, by simp [h1], fun j v hv => ?_, fun p hp A hA => ?_⟩
    · simp only [flat] at hv
      rcases Nat.lt_or_ge j (Cell.cells x y).length with hj | hj
      · rw [List.getElem?_append_left hj] at hv
        have := hy1 j v hv
        simpa using this
      · rw [List.getElem?_append_right hj] at hv
        have := h2 _ v hv
        rw [Cell.len] at this hj
        rwa [show off + Cell.sz α + (j - Cell.sz α) = off + j by omega] at this
    · rcases List.mem_cons.1 hp with rfl | hp
      · exact hy2 A hA
      · exact h3 p hp A hA

theorem sl_flat {α : Type} [Cell α] {F : Nat → Prop} {w : World} {a : Option Addr} {c : Nat} {L : List α} (h : (sl a c L).holds F w) :
    ∃ r : List (α × Cell.Ix α), r.map (·.1) = L ∧ (∀ ad, a = some ad → ∀ j v, (flat r)[j]? = some v → w.cell? (ad.add j) = some v) ∧ ∀ p ∈ r, ∀ A ∈ Cell.facts p.1 p.2, A.holds F w := by
  by_cases hL : L = []
  · subst hL
    exact ⟨[], rfl, by simp [flat], by simp⟩
  · obtain ⟨b, off, rfl, h1, h2, h3⟩ := h.2.2.2 hL
    obtain ⟨r, e1, e2, e3⟩ := row_flat h3
    refine ⟨r, e1, fun ad had j v hv => ?_, e3⟩
    injection had with had
    subst had
    rw [Addr.add_mid]
    exact e2 j v hv

section
variable {P : Program} {n : Nat} {w0 : World} {F : Nat → Prop} {ops : Array Oper} {i d : Nat} {t : TypeId} {pos : String} {aft : Array Edge} {g : Option (Nat × Bool)} {os : List Oper} {Q : Cont} {e : E} {Γ : List Fact}

set_option maxHeartbeats 400000 in
theorem append_full {α : Type} [Cell α] {w : World} {a0 : Option Addr} {el ty : TypeId} {L : List α} {ed : TypeDesc} {sz by_ es eb : Nat} {z ez : Value} {ecs : List Value} {ad : Addr} {m c1 : Nat}
    (ho : Hold w0 F Γ w) (hL : (sl a0 L.length L).holds (fp w0 F Γ) w) (r' : List (α × Cell.Ix α)) (hr' : ∀ j u, (flat r')[j]? = some u → w.cell? (ad.add j) = some u) (hone : ∀ u ∈ flat r', u.oneCell' = true) (hm : r'.length = m) (hm0 : 0 < m)
    (hfac : ∀ p ∈ r', ∀ A ∈ Cell.facts p.1 p.2, A.holds (fp w0 F Γ) w)
    [hT : Ty P ty (.slice el) sz by_ z] [hE : Ty P el ed es eb ez] [hz : Cel ez ecs] (hes : es = Cell.sz α ∧ ecs.length = es ∧ eb ≤ 4096) (hl : L.length + m ≤ 34359738368) :
    ∃ a1 k1 w', (Builtin.append_ #[ty, ty] t #[.slice a0 L.length L.length, .slice (some ad) m c1]).run P w = .ok (.slice a1 (L ++ r'.map (·.1)).length k1) w' ∧ Bel w.heap.size w w' ∧ Hold w0 F (.res (buf a1 k1 el (L ++ r'.map (·.1))) :: Γ) w' := by
  obtain ⟨q, hq, hrd, hfacts⟩ := sl_flat hL
  obtain ⟨ti, hti, hti1, hti2, hti3⟩ := hE.some
  have hqL : q.length = L.length := by rw [← hq]; simp
  have hlen : (L ++ r'.map (·.1)).length = L.length + m := by simp [hm]
  have hmap : (q ++ r').map (·.1) = L ++ r'.map (·.1) := by simp [hq]
  have hflat : flat (q ++ r') = flat q ++ flat r' := flat_append q r'
  have hfl : (flat r').length = m * ti.size := by rw [flat_length, hm, hti1, hes.1]
  have hflq : (flat q).length = L.length * ti.size := by rw [flat_length, hqL, hti1, hes.1]
  have hb48 : (L.length + m) * ti.bytes ≤ 140737488355328 := by rw [hti2]; have := Nat.mul_le_mul hl hes.2.2; omega
  have hzs : ez.cells.size = ti.size := by rw [cells_eq (v := ez) (cs := ecs), hti1]; simpa using hes.2.1
  have hsz1 : ti.size = Cell.sz α := by rw [hti1, hes.1]
  have hge := grownCap_ge w (L.length + m) L.length el
  have hcm : grownCap w (L.length + m) L.length el ≤ maxLen := grownCap_le_maxLen w (L.length + m) L.length el (by simp only [maxLen]; omega)
  have hbel : Bel w.heap.size w (w.drew.alloc (.cells ((flat q).toArray ++ (flat r').toArray ++ Builtin.zeroCells ez.cells (grownCap w (L.length + m) L.length el - (L.length + m))) el)) :=
    ((Bel.refl _ _).drew).alloc (Nat.le_refl _) _
  have grown : Hold w0 F (.res (buf (some ⟨w.heap.size, 0, none⟩) (grownCap w (L.length + m) L.length el) el (L ++ r'.map (·.1))) :: Γ)
      (w.drew.alloc (.cells ((flat q).toArray ++ (flat r').toArray ++ Builtin.zeroCells ez.cells (grownCap w (L.length + m) L.length el - (L.length + m))) el)) := by
    refine ho.call (B := [.res (buf (some ⟨w.heap.size, 0, none⟩) (grownCap w (L.length + m) L.length el) el (L ++ r'.map (·.1)))]) hbel ⟨fun f hf => ?_, by simp, fun f hf k hk => ?_⟩
    · simp only [List.mem_singleton] at hf; subst hf
      refine ⟨by rw [hlen]; simp only [lim]; omega, q ++ r', hmap, ⟨by rw [flat_length, hlen]; simp [hqL, hm], .inr ⟨w.heap.size, _, _, rfl, Nat.zero_le _, heap_alloc_new w.drew _, by rw [hlen]; exact hge, hcm, ?_, ?_⟩⟩, fun p hp A hA => ?_⟩
      · simp only [Array.size_append, List.size_toArray, size_zeroCells, hzs, hfl, hflq, ← Nat.add_mul, ← hsz1]
        congr 1
        omega
      · simp only [Array.toList_append, List.append_assoc, hflat]
        rw [← List.append_assoc, hlen]
        exact List.take_left' (by rw [List.length_append, hfl, hflq, ← Nat.add_mul, hsz1])
      · have hA' : A.holds (fp w0 F Γ) w := by
          rcases List.mem_append.1 hp with hp | hp
          · exact hfacts p hp A hA
          · exact hfac p hp A hA
        refine Fact.sat_keep (f := .st A) hA' (fun k hk hlt => ⟨.inl hk, fun f hf => ?_⟩) (fun k hlt _ => hbel.block k hlt)
        simp only [List.mem_singleton] at hf; subst hf
        rintro ⟨a', ha', rfl⟩
        injection ha' with ha'
        subst ha'
        simp at hlt
    · simp only [List.mem_singleton] at hf; subst hf
      obtain ⟨a', ha', rfl⟩ := hk
      injection ha' with ha'
      subst ha'
      exact Nat.le_refl _
  cases a0 with
  | none =>
    have hL0 : L = [] := by
      by_cases h : L = []
      · exact h
      · obtain ⟨b, off, h1, _⟩ := hL.2.2.2 h; cases h1
    subst hL0
    have hq0 : q = [] := List.eq_nil_of_length_eq_zero (by simpa using hqL)
    subst hq0
    have hr := run_append_nil (P := P) w ty t el ti ez hT.und hti hti3 ad m c1 (flat r') hfl hr' (by omega) (by omega) (by simp at hb48; omega)
    have e0 : ([] : List α).length + m = m := by simp
    rw [e0] at grown hbel
    refine ⟨some ⟨w.heap.size, 0, none⟩, grownCap w m 0 el, (w.drew.alloc (.cells ((flat r').toArray ++ Builtin.zeroCells ez.cells (grownCap w m 0 el - m)) el)), ?_, ((Bel.refl _ _).drew).alloc (Nat.le_refl _) _, ?_⟩
    · rw [show ([] ++ List.map (fun x => x.1) r' : List α).length = m by simp [hm]]; exact hr
    · simpa [flat] using grown
  | some a1 =>
    have hr := run_append_grow (P := P) w ty t el ti ez hT.und hti hti3 a1 L.length L.length (flat q) hflq (hrd a1 rfl) ad m c1 (flat r') hfl hr' (by omega) (by omega) (growslice_fits (by omega) hb48)
    refine ⟨some ⟨w.heap.size, 0, none⟩, grownCap w (L.length + m) L.length el, _, ?_, hbel, grown⟩
    rw [hlen]; exact hr

theorem appendFull_run {α : Type} [ic : Cell α] {x y : Operand} {a0 : Option Addr} {L : List α} {u : α} {el ty : TypeId} {ed : TypeDesc} {sz by_ es eb : Nat} {z ez : Value} {ecs : List Value} {b o o' r c1 : Nat} {vs cs : List Value}
    [hx : Ev e x (.slice a0 L.length L.length)] [hL : Mem (sl a0 L.length L) Γ] [hy : Ev e y (.slice (some ⟨b, o, none⟩) 1 c1)] [hA : At Γ b o' vs] [hS : Ab.Sum o o' r] [hT : Ty P ty (.slice el) sz by_ z] [hE : Ty P el ed es eb ez] [hz : Cel ez ecs]
    [hs : Seg vs r es cs] [hu : Typed Γ cs u] [h1 : One cs] (hes : es = Cell.sz α ∧ ecs.length = es ∧ eb ≤ 4096) (hl : L.length < 34359738368) {a : Act} {w : World} (fr : Fr n e a) (ho : Hold w0 F Γ w) {dst : Option Nat} :
    ∃ a1 k1 w', (execOp a.eval ⟨dst, .call ⟨.builtin .append, #[x, y], #[ty, ty]⟩, t, pos, aft, g⟩).run P w = .ok (.value (.slice a1 (L ++ [u]).length k1)) w' ∧ Bel w.heap.size w w' ∧ Hold w0 F (.res (buf a1 k1 el (L ++ [u])) :: Γ) w' := by
  obtain ⟨yy, hcs, hyy⟩ := hu.ok
  have hr1 := rangeAt_seg (hA.ok w0 F w ho) hs.ok.1
  rw [← hS.ok] at hr1
  have hfl : flat [(u, yy)] = cs := by simp [flat, hcs]
  obtain ⟨a1, k1, w', hrun, hb, hw'⟩ := append_full (P := P) (t := t) (ty := ty) (ad := ⟨b, o, none⟩) (m := 1) (c1 := c1) ho (ho.sat (.st (sl a0 L.length L)) hL.ok) [(u, yy)] (fun j v hv => by rw [Addr.add_mid]; exact hr1 j v (by rwa [hfl] at hv)) (by rw [hfl]; exact h1.ok) rfl (by omega)
    (fun p hp A hA => by simp only [List.mem_singleton] at hp; subst hp; exact ho.sat (.st A) (hyy A hA)) hes (by omega)
  refine ⟨a1, k1, w', ?_, hb, hw'⟩
  simp [execOp, resolve_builtin, invoke, builtin, hx.ok n a fr, hy.ok n a fr] at hrun ⊢
  simp [hrun]

theorem JR.appendFull {α : Type} [ic : Cell α] {x y : Operand} {a0 : Option Addr} {L : List α} {u : α} {el ty : TypeId} {ed : TypeDesc} {sz by_ es eb : Nat} {z ez : Value} {ecs : List Value} {b o o' r c1 : Nat} {vs cs : List Value}
    [hx : Ev e x (.slice a0 L.length L.length)] [hL : Mem (sl a0 L.length L) Γ] [hy : Ev e y (.slice (some ⟨b, o, none⟩) 1 c1)] [hA : At Γ b o' vs] [hS : Ab.Sum o o' r] [hT : Ty P ty (.slice el) sz by_ z] [hE : Ty P el ed es eb ez] [hz : Cel ez ecs]
    [hs : Seg vs r es cs] [hu : Typed Γ cs u] [h1 : One cs] (hd : Nat.blt d n = true) (hes : es = Cell.sz α ∧ ecs.length = es ∧ eb ≤ 4096) (hl : L.length < 34359738368)
    (K : ∀ a c, JO P n w0 F ops (i + 1) os Q ((d, .slice a (L ++ [u]).length c) :: e) (.res (buf a c el (L ++ [u])) :: Γ)) :
    JR P n w0 F ops i ⟨some d, .call ⟨.builtin .append, #[x, y], #[ty, ty]⟩, t, pos, aft, g⟩ os Q e Γ :=
  JR.value hd fun a w fr ho =>
    let ⟨a1, k1, w', h1, _, h3⟩ := appendFull_run hes hl fr ho
    ⟨_, w', _, h1, h3, K a1 k1⟩

theorem JS.appendFull {α : Type} [ic : Cell α] {x y : Operand} {a0 : Option Addr} {L : List α} {u : α} {el ty : TypeId} {ed : TypeDesc} {sz by_ es eb : Nat} {z ez : Value} {ecs : List Value} {b o o' r c1 : Nat} {vs cs : List Value} {K : E → List Fact → Prop}
    [hx : Ev e x (.slice a0 L.length L.length)] [hL : Mem (sl a0 L.length L) Γ] [hy : Ev e y (.slice (some ⟨b, o, none⟩) 1 c1)] [hA : At Γ b o' vs] [hS : Ab.Sum o o' r] [hT : Ty P ty (.slice el) sz by_ z] [hE : Ty P el ed es eb ez] [hz : Cel ez ecs]
    [hs : Seg vs r es cs] [hu : Typed Γ cs u] [h1 : One cs] (hd : Nat.blt d n = true) (hes : es = Cell.sz α ∧ ecs.length = es ∧ eb ≤ 4096) (hl : L.length < 34359738368)
    (k : ∀ a c, K ((d, .slice a (L ++ [u]).length c) :: e) (.res (buf a c el (L ++ [u])) :: Γ)) :
    JS P n w0 F ⟨some d, .call ⟨.builtin .append, #[x, y], #[ty, ty]⟩, t, pos, aft, g⟩ e Γ K :=
  JS.value hd fun a w fr ho =>
    let ⟨a1, k1, w', h1, h2, h3⟩ := appendFull_run hes hl fr ho
    ⟨_, w', _, h1, h2, h3, k a1 k1⟩

theorem JS.lit {len : Nat} {ps : List (Nat × Operand)} {vs : List Value} {ty el : TypeId} {ed : TypeDesc} {sz by_ es eb : Nat} {z ez : Value} {cs : List Value} {K : E → List Fact → Prop} [hp : PartVs e 0 ps vs] [hT : Ty P ty (.slice el) sz by_ z] [hE : Ty P el ed es eb ez] [hc : Cels vs es cs]
    (hd : Nat.blt d n = true) (hl : vs.length = len ∧ 0 < es ∧ 0 < len ∧ len * es ≤ 16777216)
    (k : ∀ b, K ((d, .slice (some ⟨b, 0, none⟩) len len) :: e) (.own b el cs :: Γ)) : JS P n w0 F ⟨some d, .buildSlice ty len ⟨ps⟩, t, pos, aft, g⟩ e Γ K :=
  JS.value hd fun a w fr ho => by
    obtain ⟨ti, hti, hti1, hti2, hti3⟩ := hE.some
    have hmul : 0 < len * es := Nat.mul_pos hl.2.2.1 hl.2.1
    have hfill := Go.Great.fill_whole hl.2.1 vs ((Array.range (len * es)).map (ez.cells[· % ez.cells.size]!)) hc.ok.1 (by simp [hl.1])
    have hparts : ((⟨ps⟩ : Array (Nat × Operand)).map fun (i, x) => (i, a.eval x)).toList = (vs.zipIdx 0).map fun x => (x.2, x.1) := by
      simpa using hp.ok n a fr
    have hrun := Go.run_buildSlice (P := P) w ty el len ((⟨ps⟩ : Array (Nat × Operand)).map fun (i, x) => (i, a.eval x)) ⟨cs⟩ ti ez hT.und hti hti3 (by rw [hti1]; omega) (by rw [hti1]; omega) (by rw [hti1, hparts, hfill, hc.ok.2])
    refine ⟨_, _, _, ?_, (Bel.refl _ _).alloc (Nat.le_refl _) _, ho.alloc el cs, k w.heap.size⟩
    simp only [execOp, Sem.run_bind, hrun, Result.andThen_ok]
    rfl

/-- x[:n:n] of a slice of n elements, as a value. -/
theorem OpV.slice3full {x hi' mx : Operand} {a0 : Option Addr} {m c : Nat} {kk k2 : IntKind} {j j2 : Int} {ty el : TypeId} {ed : TypeDesc} {sz by_ es eb : Nat} {z ez : Value} {d : Option Nat}
    [hx : Ev e x (.slice a0 m c)] [hi : Ev e hi' (.int kk j)] [hm : Ev e mx (.int k2 j2)] [hk : NatI j m] [hk2 : NatI j2 m] [hT : Ty P ty (.slice el) sz by_ z] [hE : Ty P el ed es eb ez] (h : ∀ w, Hold w0 F Γ w → m ≤ c) :
    OpV P n w0 F ⟨d, .slice ty x none (some hi') (some mx), t, pos, aft, g⟩ e Γ (.slice a0 m m) :=
  fun a w fr ho => by
    have hlc := h w ho
    have h1 := run_und (P := P) (t := ty) w
    have h2 := run_size (P := P) (t := el) w
    have hj := hk.ok
    have hj2 := hk2.ok
    subst hj hj2
    have hb : (Instr.sliceBound (.int k2 (m : Int)) c .slice3Acap).run P w = .ok m w := by
      simp [Instr.sliceBound, asIntOf]
      omega
    have hb2 : (Instr.sliceBound (.int kk (m : Int)) m .slice3B).run P w = .ok m w := by
      simp [Instr.sliceBound, asIntOf]
    simp [execOp, hx.ok n a fr, hi.ok n a fr, hm.ok n a fr, Instr.sliceAt, Instr.slice, h1, h2, Instr.sliceBounds, hb, hb2]
    by_cases hc0 : m = 0
    · simp [hc0]
    · cases a0 with
      | none => simp
      | some a1 => simp [Addr.add]

/-- What is owned is read from now on. -/
theorem Hold.pubOwn {w : World} {b : Nat} {bt : TypeId} {vs : List Value} (h : Hold w0 F (.own b bt vs :: Γ) w) : Hold w0 F (.st (ro b 0 vs) :: Γ) w :=
  h.publish fun hk => ⟨hk b (.inr rfl), Fact.owned_lt (f := .own b bt vs) (h.sat (.own b bt vs) (by simp)) rfl, own_range (h.sat (.own b bt vs) (by simp))⟩
theorem JC.pubOwn {c : Code} {bt : TypeId} {vs : List Value} {Δ : List Fact} (b : Nat) [h : Own Γ b bt vs Δ] (k : JC P n w0 F c Q e (.st (ro b 0 vs) :: Δ)) : JC P n w0 F c Q e Γ :=
  JC.more (fun w ho => (ho.perm h.ok).pubOwn) k
theorem JO.pubOwn {bt : TypeId} {vs : List Value} {Δ : List Fact} (b : Nat) [h : Own Γ b bt vs Δ] (k : JO P n w0 F ops i os Q e (.st (ro b 0 vs) :: Δ)) : JO P n w0 F ops i os Q e Γ :=
  JO.more (fun w ho => (ho.perm h.ok).pubOwn) k
theorem JR.more {o : Oper} {Γ' : List Fact} (h : ∀ w, Hold w0 F Γ w → Hold w0 F Γ' w) (k : JR P n w0 F ops i o os Q e Γ') : JR P n w0 F ops i o os Q e Γ :=
  fun hd a w fr ho => k hd a w fr (h w ho)
theorem JR.pubOwn {o : Oper} {bt : TypeId} {vs : List Value} {Δ : List Fact} (b : Nat) [h : Own Γ b bt vs Δ] (k : JR P n w0 F ops i o os Q e (.st (ro b 0 vs) :: Δ)) : JR P n w0 F ops i o os Q e Γ :=
  JR.more (fun w ho => (ho.perm h.ok).pubOwn) k
theorem JM.more {l : List Oper} {m fuel : Nat} {done : List Bool} {Γ' : List Fact} (h : ∀ w, Hold w0 F Γ w → Hold w0 F Γ' w) (k : JM P n w0 F l m fuel done Q e Γ') : JM P n w0 F l m fuel done Q e Γ :=
  fun a w fr ho => k a w fr (h w ho)
end
end Ab
end Go.Proofs.Ytcmfemfndadfmaa

/- A row of the call's own, written in its midst: an element taken out, the rest cleared. Program-independent. -/
namespace Go.Proofs.Ytcmfemfndadfmaa
namespace Ab
open Go Go.RowKit
set_option linter.unusedVariables false
set_option linter.unusedSimpArgs false

section
variable {P : Program} {n : Nat} {w0 : World} {F : Nat → Prop} {ops : Array Oper} {i d : Nat} {t : TypeId} {pos : String} {aft : Array Edge} {g : Option (Nat × Bool)} {os : List Oper} {Q : Cont} {e : E} {Γ : List Fact}

/-- What an owned row is. -/
theorem buf_some {α : Type} [Cell α] {b c : Nat} {el : TypeId} {L : List α} {w : World} {G : Nat → Prop} (h : (buf (some ⟨b, 0, none⟩) c el L).holds G w) :
    ∃ (q : List (α × Cell.Ix α)) (cur : Array Value), L.length ≤ lim ∧ q.map (·.1) = L ∧ (∀ p ∈ q, ∀ A ∈ Cell.facts p.1 p.2, A.holds G w) ∧ w.heap[b]? = some (.cells cur el (0, 0)) ∧ L.length ≤ c ∧ c ≤ maxLen ∧ cur.size = c * Cell.sz α ∧ cur.toList.take (L.length * Cell.sz α) = flat q := by
  obtain ⟨h0, q, h1, h2, h3⟩ := h
  rcases h2.2 with ⟨hv, hn⟩ | ⟨g, cap, cur, hv, _, hg, hnc, hcm, hcs, ht⟩
  · cases hv
  · injection hv with e1 e2 e3
    injection e1 with e1
    injection e1 with e1
    subst e1 e3
    exact ⟨q, cur, h0, h1, h3, hg, hnc, hcm, hcs, ht⟩

/-- The row written anew. -/
theorem Hold.rebuf {α : Type} [Cell α] {b c : Nat} {el : TypeId} {L : List α} {w : World} {Δ : List Fact} (ho : Hold w0 F (.res (buf (some ⟨b, 0, none⟩) c el L) :: Δ) w)
    (q' : List (α × Cell.Ix α)) (cur' : Array Value) (hq : ∀ p ∈ q', ∀ A ∈ Cell.facts p.1 p.2, A.holds (fp w0 F (.res (buf (some ⟨b, 0, none⟩) c el L) :: Δ)) w) (hc : q'.length ≤ c) (hs : cur'.size = c * Cell.sz α) (ht : cur'.toList.take (q'.length * Cell.sz α) = flat q') (hlim : q'.length ≤ lim) :
    Hold w0 F (.res (buf (some ⟨b, 0, none⟩) c el (q'.map (·.1))) :: Δ) (w.setRow b cur') := by
  obtain ⟨q, cur, h0, h1, h2, hg, hnc, hcm, hcs, htk⟩ := buf_some (ho.sat (.res (buf (some ⟨b, 0, none⟩) c el L)) (by simp))
  have howns : ∀ (X : List α) k, (buf (some ⟨b, 0, none⟩) c el X).owns k ↔ k = b := by
    intro X k
    constructor
    · rintro ⟨a', ha', rfl⟩; injection ha' with ha'; subst ha'; rfl
    · rintro rfl; exact ⟨_, rfl, rfl⟩
  have hheap : ∀ k, k ≠ b → (w.setRow b cur').heap[k]? = w.heap[k]? := fun k hk => by
    simp only [World.setRow, Array.getElem?_modify]; rw [if_neg (by omega)]
  refine ho.swap (b := b) (howns L) (howns _) rfl rfl rfl (by simp) hheap ?_
  refine ⟨by simpa using hlim, q', rfl, ⟨by rw [flat_length]; simp, .inr ⟨b, c, cur', rfl, Nat.zero_le _, setRow_heap w b cur cur' el _ hg, by simpa using hc, hcm, hs, by simpa using ht⟩⟩, fun p hp A hA => ?_⟩
  refine Fact.sat_keep (f := .st A) (hq p hp A hA) (fun k hk hlt => ⟨hk.1, fun f hf => ?_⟩) (fun k hlt hk => ?_)
  · rcases List.mem_cons.1 hf with rfl | hf
    · exact fun h => hk.2 (.res (buf (some ⟨b, 0, none⟩) c el L)) (by simp) ((howns L k).2 ((howns _ k).1 h))
    · exact hk.2 f (by simp [hf])
  · have hk' := hk.resolve_right (by simp [Fact.owns])
    exact hheap k (fun e => hk'.2 (.res (buf (some ⟨b, 0, none⟩) c el L)) (by simp) ((howns L k).2 e))

theorem flat_take {α : Type} [Cell α] (q : List (α × Cell.Ix α)) (k : Nat) : flat (q.take k) = (flat q).take (k * Cell.sz α) := by
  induction q generalizing k with
  | nil => simp [flat]
  | cons p q ih =>
    obtain ⟨x, y⟩ := p
    cases k with
    | zero => simp [flat]
    | succ k =>
      simp only [List.take_succ_cons, flat, ih]
      rw [List.take_append, List.take_of_length_le (l := Cell.cells x y) (by rw [Cell.len, Nat.add_mul]; omega), Cell.len, Nat.add_mul, Nat.one_mul, Nat.add_sub_cancel]
theorem flat_drop {α : Type} [Cell α] (q : List (α × Cell.Ix α)) (k : Nat) : flat (q.drop k) = (flat q).drop (k * Cell.sz α) := by
  induction q generalizing k with
  | nil => simp [flat]
  | cons p q ih =>
    obtain ⟨x, y⟩ := p
    cases k with
    | zero => simp [flat]
    | succ k =>
      simp only [List.drop_succ_cons, flat, ih]
      rw [List.drop_append, List.drop_of_length_le (l := Cell.cells x y) (by rw [Cell.len, Nat.add_mul]; omega), Cell.len, Nat.add_mul, Nat.one_mul, Nat.add_sub_cancel, List.nil_append]

/-- append(x[:k], x[j:]...) of an owned row. -/
theorem del_run {α : Type} [Cell α] {w : World} {Δ : List Fact} {b c : Nat} {el ty : TypeId} {L : List α} {ed : TypeDesc} {sz by_ es eb : Nat} {z ez : Value} {ecs : List Value} {ad : Addr} {k j m c1 : Nat}
    (ho : Hold w0 F (.res (buf (some ⟨b, 0, none⟩) c el L) :: Δ) w) [hT : Ty P ty (.slice el) sz by_ z] [hE : Ty P el ed es eb ez] (hes : es = Cell.sz α) (hk : k ≤ j) (hj : j + m = L.length) (had : m ≠ 0 → ad = ⟨b, j * es, none⟩) :
    ∃ w', (Builtin.append_ #[ty, ty] t #[.slice (some ⟨b, 0, none⟩) k c, .slice (some ad) m c1]).run P w = .ok (.slice (some ⟨b, 0, none⟩) (k + m) c) w' ∧ Hold w0 F (.res (buf (some ⟨b, 0, none⟩) c el (L.take k ++ L.drop j)) :: Δ) w' := by
  obtain ⟨q, cur, h0, h1, h2, hg, hnc, hcm, hcs, htk⟩ := buf_some (ho.sat (.res (buf (some ⟨b, 0, none⟩) c el L)) (by simp))
  obtain ⟨ti, hti, hti1, hti2, hti3⟩ := hE.some
  have hsz : ti.size = Cell.sz α := by rw [hti1, hes]
  have hqL : q.length = L.length := by rw [← h1]; simp
  have hlen : (flat (q.drop j)).length = m * ti.size := by rw [flat_length, hsz, List.length_drop, hqL]; congr 1 <;> omega
  have hcells : ∀ i v, (flat q)[i]? = some v → w.cell? ⟨b, i, none⟩ = some v := by
    intro i v hv
    rw [cell_of_row w b i cur el _ hg]
    rw [← htk, List.getElem?_take] at hv
    split at hv
    · simpa using hv
    · cases hv
  have hmul : (k + m) * ti.size ≤ cur.size := by rw [hcs, hsz]; exact Nat.mul_le_mul_right _ (by omega)
  have hr := run_append_room (P := P) w ty t el ti hT.und hti b k c cur hg ad m c1 (flat (q.drop j)) hlen (fun i u hu => by
    by_cases hm : m = 0
    · subst hm
      have : (flat (q.drop j)).length = 0 := by rw [hlen]; simp
      rw [List.eq_nil_of_length_eq_zero this] at hu
      cases hu
    · rw [had hm, Addr.add_mid]
      rw [flat_drop, List.getElem?_drop] at hu
      have := hcells _ u hu
      rwa [hes]) (flat_one _) (by omega) (by rw [hlen, ← Nat.add_mul]; exact hmul)
  refine ⟨_, hr, ?_⟩
  have hmap : (q.take k ++ q.drop j).map (·.1) = L.take k ++ L.drop j := by rw [List.map_append, List.map_take, List.map_drop, h1]
  have hql : (q.take k ++ q.drop j).length = k + m := by simp [hqL]; omega
  rw [← hmap]
  have hcl : cur.toList.length = cur.size := by simp
  refine ho.rebuf _ _ (fun p hp A hA => ?_) (by rw [hql]; omega) ?_ ?_ (by rw [hql]; omega)
  · rcases List.mem_append.1 hp with hp | hp
    · exact h2 p (List.mem_of_mem_take hp) A hA
    · exact h2 p (List.mem_of_mem_drop hp) A hA
  · simp only [List.size_toArray, List.length_append, List.length_take, List.length_drop, hcl, hlen, ← Nat.add_mul]
    rw [← hcs]
    have : k * ti.size ≤ (k + m) * ti.size := Nat.mul_le_mul_right _ (by omega)
    rw [Nat.add_mul] at *
    omega
  · rw [hql]
    have e1 : cur.toList.take (k * ti.size) = flat (q.take k) := by
      rw [flat_take, ← htk, List.take_take, hsz]
      congr 1
      exact (Nat.min_eq_left (Nat.mul_le_mul_right _ (by omega))).symm
    rw [e1, flat_append]
    refine List.take_left' ?_
    rw [List.length_append, flat_length, hlen, hsz, List.length_take, hqL, Nat.add_mul]
    congr 2
    omega

/-- clear(x[l:h]) of an owned row, behind all that counts. -/
theorem clear_run {α : Type} [Cell α] {w : World} {Δ : List Fact} {b c : Nat} {el ty : TypeId} {L : List α} {ed : TypeDesc} {sz by_ es eb : Nat} {z ez : Value} {ecs : List Value} {ad : Addr} {l m c1 : Nat}
    (ho : Hold w0 F (.res (buf (some ⟨b, 0, none⟩) c el L) :: Δ) w) [hT : Ty P ty (.slice el) sz by_ z] [hE : Ty P el ed es eb ez] [hz : Cel ez ecs] [h1c : One ecs] (hes : es = Cell.sz α ∧ ecs.length = es) (hl : L.length ≤ l) (hm : l + m ≤ c) (had : m ≠ 0 → ad = ⟨b, l * es, none⟩) :
    ∃ w', (Builtin.clear_ #[ty] t #[.slice (some ad) m c1]).run P w = .ok (.tuple #[]) w' ∧ Hold w0 F (.res (buf (some ⟨b, 0, none⟩) c el L) :: Δ) w' := by
  by_cases hm0 : m = 0
  · subst hm0
    refine ⟨w, ?_, ho⟩
    simp [Builtin.clear_, run_underlying hT.und]
  obtain ⟨q, cur, h0, h1, h2, hg, hnc, hcm, hcs, htk⟩ := buf_some (ho.sat (.res (buf (some ⟨b, 0, none⟩) c el L)) (by simp))
  have hqL : q.length = L.length := by rw [← h1]; simp
  have hzs : ez.cells.size = es := by rw [cells_eq (v := ez) (cs := ecs)]; simpa using hes.2
  have hzl : (Builtin.zeroCells ez.cells m).toList.length = m * es := by simp [size_zeroCells, hzs]
  have hfit : l * es + m * es ≤ cur.size := by rw [hcs, hes.1, ← Nat.add_mul]; exact Nat.mul_le_mul_right _ hm
  have hone : ∀ v ∈ (Builtin.zeroCells ez.cells m).toList, v.oneCell' = true := by
    intro v hv
    simp only [Builtin.zeroCells, Array.toList_map, List.mem_map] at hv
    obtain ⟨x, hx, rfl⟩ := hv
    have hpos : 0 < ez.cells.size := by rw [hzs, hes.1]; exact Cell.pos
    have hlt : x % ez.cells.size < ez.cells.size := Nat.mod_lt _ hpos
    rw [getElem!_pos ez.cells _ hlt]
    apply h1c.ok
    have : ez.cells = ecs.toArray := cells_eq
    simp [this]
  have hst := run_storeCells_at (P := P) b (l * es) el (Builtin.zeroCells ez.cells m).toList 0 cur w hg (by simpa [size_zeroCells, hzs] using hfit) hone
  obtain ⟨m', rfl⟩ : ∃ m', m = m' + 1 := ⟨m - 1, by omega⟩
  have hrun : (Builtin.clear_ #[ty] t #[.slice (some ad) (m' + 1) c1]).run P w = .ok (.tuple #[]) (w.setRow b (cur.toList.take (l * es + 0) ++ (Builtin.zeroCells ez.cells (m' + 1)).toList ++ cur.toList.drop (l * es + 0 + (Builtin.zeroCells ez.cells (m' + 1)).toList.length)).toArray) := by
    have hz0 := run_zero (P := P) (t := el) w
    rw [had hm0]
    simp [Builtin.clear_, run_underlying hT.und, hz0, hst]
  refine ⟨_, hrun, ?_⟩
  have hcl : cur.toList.length = cur.size := by simp
  have hle : L.length * Cell.sz α ≤ l * es := by rw [hes.1]; exact Nat.mul_le_mul_right _ hl
  have := ho.rebuf q (cur.toList.take (l * es + 0) ++ (Builtin.zeroCells ez.cells (m' + 1)).toList ++ cur.toList.drop (l * es + 0 + (Builtin.zeroCells ez.cells (m' + 1)).toList.length)).toArray h2 (by omega)
    (by simp only [List.size_toArray, List.length_append, List.length_take, List.length_drop, hcl, hzl]; rw [← hcs]; omega)
    (by
      rw [hqL, ← htk, List.append_assoc, List.take_append_of_le_length (by simp only [List.length_take, hcl]; omega), List.take_take]
      congr 1
      omega)
    (by omega)
  rwa [h1] at this

/-- x[:k] of a row, as a value. -/
theorem OpV.sliceToV {x hi' : Operand} {a0 : Option Addr} {m c k : Nat} {kk : IntKind} {j : Int} {ty el : TypeId} {ed : TypeDesc} {sz by_ es eb : Nat} {z ez : Value} {d : Option Nat}
    [hx : Ev e x (.slice a0 m c)] [hi : Ev e hi' (.int kk j)] [hk : NatI j k] [hT : Ty P ty (.slice el) sz by_ z] [hE : Ty P el ed es eb ez] (h : ∀ w, Hold w0 F Γ w → k ≤ c) :
    OpV P n w0 F ⟨d, .slice ty x none (some hi') none, t, pos, aft, g⟩ e Γ (.slice a0 k c) :=
  fun a w fr ho => by
    have hlc := h w ho
    have h1 := run_und (P := P) (t := ty) w
    have h2 := run_size (P := P) (t := el) w
    have hj := hk.ok
    subst hj
    have hb : (Instr.sliceBound (.int kk (k : Int)) c .sliceAcap).run P w = .ok k w := by
      simp [Instr.sliceBound, asIntOf]
      omega
    simp [execOp, hx.ok n a fr, hi.ok n a fr, Instr.sliceAt, Instr.slice, h1, h2, Instr.sliceBounds, hb]
    by_cases hc0 : c = 0
    · simp [hc0]
    · cases a0 with
      | none => simp
      | some a1 => simp [Addr.add]

/-- x[l:], x[l:h], x[l:h:m] of a row that begins its block, as values. -/
theorem OpV.sliceFromV {x lo : Operand} {b m c l : Nat} {kk : IntKind} {j : Int} {ty el : TypeId} {ed : TypeDesc} {sz by_ es eb : Nat} {z ez : Value} {d : Option Nat}
    [hx : Ev e x (.slice (some ⟨b, 0, none⟩) m c)] [hi : Ev e lo (.int kk j)] [hk : NatI j l] [hT : Ty P ty (.slice el) sz by_ z] [hE : Ty P el ed es eb ez] (h : ∀ w, Hold w0 F Γ w → l ≤ m ∧ m ≤ c) :
    OpV P n w0 F ⟨d, .slice ty x (some lo) none none, t, pos, aft, g⟩ e Γ (.slice (some (if c = l then ⟨b, 0, none⟩ else ⟨b, l * es, none⟩)) (m - l) (c - l)) :=
  fun a w fr ho => by
    have hlc := h w ho
    have h1 := run_und (P := P) (t := ty) w
    have h2 := run_size (P := P) (t := el) w
    have hj := hk.ok
    subst hj
    have hb : (Instr.sliceBound (.int kk (l : Int)) m .sliceB).run P w = .ok l w := by
      simp [Instr.sliceBound, asIntOf]
      omega
    simp [execOp, hx.ok n a fr, hi.ok n a fr, Instr.sliceAt, Instr.slice, h1, h2, Instr.sliceBounds, hb]
    by_cases hc0 : c = l
    · simp [hc0]
    · simp [hc0, Addr.add_mid]
theorem OpV.sliceMidV {x lo hi' : Operand} {b m c l k : Nat} {kk k2 : IntKind} {j j2 : Int} {ty el : TypeId} {ed : TypeDesc} {sz by_ es eb : Nat} {z ez : Value} {d : Option Nat}
    [hx : Ev e x (.slice (some ⟨b, 0, none⟩) m c)] [hi : Ev e lo (.int kk j)] [hk : NatI j l] [hi2 : Ev e hi' (.int k2 j2)] [hk2 : NatI j2 k] [hT : Ty P ty (.slice el) sz by_ z] [hE : Ty P el ed es eb ez] (h : ∀ w, Hold w0 F Γ w → l ≤ k ∧ k ≤ c) :
    OpV P n w0 F ⟨d, .slice ty x (some lo) (some hi') none, t, pos, aft, g⟩ e Γ (.slice (some (if c = l then ⟨b, 0, none⟩ else ⟨b, l * es, none⟩)) (k - l) (c - l)) :=
  fun a w fr ho => by
    have hlc := h w ho
    have h1 := run_und (P := P) (t := ty) w
    have h2 := run_size (P := P) (t := el) w
    have hj := hk.ok
    have hj2 := hk2.ok
    subst hj hj2
    have hb2 : (Instr.sliceBound (.int k2 (k : Int)) c .sliceAcap).run P w = .ok k w := by
      simp [Instr.sliceBound, asIntOf]
      omega
    have hb : (Instr.sliceBound (.int kk (l : Int)) k .sliceB).run P w = .ok l w := by
      simp [Instr.sliceBound, asIntOf]
      omega
    simp [execOp, hx.ok n a fr, hi.ok n a fr, hi2.ok n a fr, Instr.sliceAt, Instr.slice, h1, h2, Instr.sliceBounds, hb, hb2]
    by_cases hc0 : c = l
    · simp [hc0]
    · simp [hc0, Addr.add_mid]
theorem OpV.slice3V {x lo hi' mx : Operand} {b m c l k q : Nat} {kk k2 k3 : IntKind} {j j2 j3 : Int} {ty el : TypeId} {ed : TypeDesc} {sz by_ es eb : Nat} {z ez : Value} {d : Option Nat}
    [hx : Ev e x (.slice (some ⟨b, 0, none⟩) m c)] [hi : Ev e lo (.int kk j)] [hk : NatI j l] [hi2 : Ev e hi' (.int k2 j2)] [hk2 : NatI j2 k] [hi3 : Ev e mx (.int k3 j3)] [hk3 : NatI j3 q] [hT : Ty P ty (.slice el) sz by_ z] [hE : Ty P el ed es eb ez] (h : ∀ w, Hold w0 F Γ w → l ≤ k ∧ k ≤ q ∧ q ≤ c) :
    OpV P n w0 F ⟨d, .slice ty x (some lo) (some hi') (some mx), t, pos, aft, g⟩ e Γ (.slice (some (if q = l then ⟨b, 0, none⟩ else ⟨b, l * es, none⟩)) (k - l) (q - l)) :=
  fun a w fr ho => by
    have hlc := h w ho
    have h1 := run_und (P := P) (t := ty) w
    have h2 := run_size (P := P) (t := el) w
    have hj := hk.ok
    have hj2 := hk2.ok
    have hj3 := hk3.ok
    subst hj hj2 hj3
    have hb3 : (Instr.sliceBound (.int k3 (q : Int)) c .slice3Acap).run P w = .ok q w := by
      simp [Instr.sliceBound, asIntOf]
      omega
    have hb2 : (Instr.sliceBound (.int k2 (k : Int)) q .slice3B).run P w = .ok k w := by
      simp [Instr.sliceBound, asIntOf]
      omega
    have hb : (Instr.sliceBound (.int kk (l : Int)) k .slice3C).run P w = .ok l w := by
      simp [Instr.sliceBound, asIntOf]
      omega
    simp [execOp, hx.ok n a fr, hi.ok n a fr, hi2.ok n a fr, hi3.ok n a fr, Instr.sliceAt, Instr.slice, h1, h2, Instr.sliceBounds, hb, hb2, hb3]
    by_cases hc0 : q = l
    · simp [hc0]
    · simp [hc0, Addr.add_mid]

/-- append(x[:k], x[j:]...) -/
theorem JR.appendDel {α : Type} [ic : Cell α] {x y : Operand} {b c c1 k j m : Nat} {ad : Addr} {el ty : TypeId} {L : List α} {ed : TypeDesc} {sz by_ es eb : Nat} {z ez : Value} {Δ : List Fact}
    [hx : Ev e x (.slice (some ⟨b, 0, none⟩) k c)] [hy : Ev e y (.slice (some ad) m c1)] [hB : Rem Γ (.res (buf (some ⟨b, 0, none⟩) c el L)) Δ] [hT : Ty P ty (.slice el) sz by_ z] [hE : Ty P el ed es eb ez]
    (hd : Nat.blt d n = true) (hes : es = Cell.sz α) (hk : k ≤ j) (hj : j + m = L.length) (had : m ≠ 0 → ad = ⟨b, j * es, none⟩)
    (K : JO P n w0 F ops (i + 1) os Q ((d, .slice (some ⟨b, 0, none⟩) (k + m) c) :: e) (.res (buf (some ⟨b, 0, none⟩) c el (L.take k ++ L.drop j)) :: Δ)) :
    JR P n w0 F ops i ⟨some d, .call ⟨.builtin .append, #[x, y], #[ty, ty]⟩, t, pos, aft, g⟩ os Q e Γ :=
  JR.value hd fun a w fr ho => by
    obtain ⟨w', hrun, hw'⟩ := del_run (P := P) (t := t) (ty := ty) (ez := ez) (ecs := []) (ad := ad) (c1 := c1) (ho.perm hB.ok) hes hk hj had
    refine ⟨_, w', _, ?_, hw', K⟩
    simp [execOp, resolve_builtin, invoke, builtin, hx.ok n a fr, hy.ok n a fr, hrun]

theorem JR.clear {α : Type} [ic : Cell α] {x : Operand} {b c c1 l m : Nat} {ad : Addr} {el ty : TypeId} {L : List α} {ed : TypeDesc} {sz by_ es eb : Nat} {z ez : Value} {ecs : List Value} {Δ : List Fact}
    [hx : Ev e x (.slice (some ad) m c1)] [hB : Rem Γ (.res (buf (some ⟨b, 0, none⟩) c el L)) Δ] [hT : Ty P ty (.slice el) sz by_ z] [hE : Ty P el ed es eb ez] [hz : Cel ez ecs] [h1c : One ecs]
    (hes : es = Cell.sz α ∧ ecs.length = es) (hl : L.length ≤ l) (hm : l + m ≤ c) (had : m ≠ 0 → ad = ⟨b, l * es, none⟩)
    (K : JO P n w0 F ops (i + 1) os Q e (.res (buf (some ⟨b, 0, none⟩) c el L) :: Δ)) :
    JR P n w0 F ops i ⟨none, .call ⟨.builtin .clear, #[x], #[ty]⟩, t, pos, aft, g⟩ os Q e Γ :=
  JR.effect fun a w fr ho => by
    obtain ⟨w', hrun, hw'⟩ := clear_run (P := P) (t := t) (ty := ty) (ez := ez) (ecs := ecs) (ad := ad) (c1 := c1) (ho.perm hB.ok) hes hl hm had
    refine ⟨.value (.tuple #[]), w', _, .inr ⟨_, rfl⟩, ?_, hw', K⟩
    simp [execOp, resolve_builtin, invoke, builtin, hx.ok n a fr, hrun]

/-- A cut behind a piece of code: whatever came about is told by a few things. -/
theorem JC.cut {c : Code} {next : E → List Fact → Prop} {ι : Type} (St : ι → E) (Me : ι → List Fact) (h : JC P n w0 F c (fun x e' Γ' => x = .normal ∧ ∃ y, Ent e' Γ' (St y) (Me y)) e Γ)
    (k : ∀ y, next (St y) (Me y)) : JC P n w0 F c (andThen next Q) e Γ := by
  intro a w fr ho
  refine wp_mono (h a w fr ho) ?_
  rintro x a' w' ⟨e', Γ', ⟨rfl, y, hy⟩, fr', ho'⟩
  exact ⟨St y, Me y, k y, hy.slots n a' fr', hy.facts w0 F w' ho'⟩

/-- Block b is an owned row. -/
class BufAt {α : Type} [ic : Cell α] (Γ : List Fact) (b : Nat) (c : outParam Nat) (el : outParam TypeId) (L : outParam (List α)) (Δ : outParam (List Fact)) : Prop where
  ok : Γ.Perm (.res (buf (some ⟨b, 0, none⟩) c el L) :: Δ)
instance (priority := 100) BufAt.miss {α : Type} [ic : Cell α] {Γ : List Fact} {f : Fact} {b c : Nat} {el : TypeId} {L : List α} {Δ : List Fact} [h : BufAt Γ b c el L Δ] : BufAt (f :: Γ) b c el L (f :: Δ) :=
  ⟨(h.ok.cons f).trans (List.Perm.swap _ f Δ)⟩
instance (priority := 1000) BufAt.hit {α : Type} [ic : Cell α] {Γ : List Fact} {b c : Nat} {el : TypeId} {L : List α} : BufAt (.res (buf (some ⟨b, 0, none⟩) c el L) :: Γ) b c el L Γ := ⟨List.Perm.refl _⟩

/-- An owned row reads as a list (by whoever may read all). -/
theorem Hold.bufSl {α : Type} [Cell α] {w : World} {a : Option Addr} {c : Nat} {el : TypeId} {L : List α} {Δ : List Fact} (ho : Hold w0 F (.res (buf a c el L) :: Δ) w) : (sl a c L).holds (fun _ => True) w :=
  (sl a c L).mono _ _ _ (fun _ _ => trivial) (ho.pub.sat (.st (sl a c L)) (by simp))

theorem Hold.bufSlOf {α : Type} [ic : Cell α] {w : World} {a : Option Addr} {c : Nat} {el : TypeId} {L : List α} {Δ : List Fact} [h : HasBuf Γ (.slice a L.length c) α ic el L Δ] (ho : Hold w0 F Γ w) : (sl a c L).holds (fun _ => True) w := by
  obtain ⟨a', q, hv, hp⟩ := h.ok
  injection hv with e1 e2 e3
  subst e1 e3
  exact (ho.perm hp).bufSl

/-- What is known of the world, as a premise. -/
theorem JC.pure {c : Code} {φ : Prop} (h : ∀ w, Hold w0 F Γ w → φ) (k : φ → JC P n w0 F c Q e Γ) : JC P n w0 F c Q e Γ := fun a w fr ho => k (h w ho) a w fr ho
theorem JR.pure {o : Oper} {φ : Prop} (h : ∀ w, Hold w0 F Γ w → φ) (k : φ → JR P n w0 F ops i o os Q e Γ) : JR P n w0 F ops i o os Q e Γ := fun hd a w fr ho => k (h w ho) hd a w fr ho

theorem buf_addr {α : Type} [Cell α] {a : Option Addr} {c : Nat} {el : TypeId} {L : List α} {w : World} {G : Nat → Prop} (h : (buf a c el L).holds G w) (hL : L ≠ []) : ∃ b, a = some ⟨b, 0, none⟩ := by
  obtain ⟨_, q, h1, h2, _⟩ := h
  rcases h2.2 with ⟨hv, hn⟩ | ⟨g, cap, cur, hv, _⟩
  · exact (hL (List.eq_nil_of_length_eq_zero hn)).elim
  · injection hv with e1 e2 e3
    exact ⟨g, e1⟩

/-- The address of an element of a row that begins its block. -/
theorem OpV.indexBuf {x ix : Operand} {b m c k : Nat} {kk : IntKind} {j : Int} {ty el : TypeId} {ed : TypeDesc} {sz by_ es eb : Nat} {z ez : Value} {d : Option Nat}
    [hx : Ev e x (.slice (some ⟨b, 0, none⟩) m c)] [hi : Ev e ix (.int kk j)] [hk : NatI j k] [hT : Ty P ty (.slice el) sz by_ z] [hE : Ty P el ed es eb ez] (h : k < m) :
    OpV P n w0 F ⟨d, .indexAddr ty x ix, t, pos, aft, g⟩ e Γ (.pointer (some ⟨b, k * es, none⟩)) :=
  fun a w fr ho => by
    have e1 := run_und (P := P) (t := ty) w
    have e2 := run_size (P := P) (t := el) w
    have hj := hk.ok
    subst hj
    simp [execOp, hx.ok n a fr, hi.ok n a fr, Instr.indexAt, asIntOf, e1, e2, h, Addr.add_mid]

/-- An element of an owned row, loaded. -/
theorem JR.loadBuf {α : Type} [ic : Cell α] {x : Operand} {b c k o : Nat} {el : TypeId} {L : List α} {fs : List Field} {sz by_ : Nat} {z : Value} {Δ : List Fact}
    [hx : Ev e x (.pointer (some ⟨b, o, none⟩))] [hB : BufAt Γ b c el L Δ] [hT : Ty P el (.struct ⟨fs⟩) sz by_ z] (hd : Nat.blt d n = true) (hsz : sz = Cell.sz α) (h : k < L.length) (ho' : o = k * sz)
    (K : ∀ y, JO P n w0 F ops (i + 1) os Q ((d, .agg ⟨Cell.cells (L[k]'h) y⟩) :: e) ((Cell.facts (L[k]'h) y).map Fact.st ++ Γ)) :
    JR P n w0 F ops i ⟨some d, .load el x, t, pos, aft, g⟩ os Q e Γ :=
  JR.value hd fun a w fr ho => by
    have hp := ho.perm hB.ok
    obtain ⟨q, cur, h0, h1, h2, hg, hnc, hcm, hcs, htk⟩ := buf_some (hp.sat (.res (buf (some ⟨b, 0, none⟩) c el L)) (by simp))
    have hqL : q.length = L.length := by rw [← h1]; simp
    have hkq : k < q.length := by omega
    have hqk : q[k].1 = L[k] := by simp [← h1]
    have hrange : w.rangeAt b o (Cell.cells (L[k]'h) q[k].2) := by
      intro j v hv
      rw [← hqk] at hv
      have := flat_at q k hkq j v hv
      rw [cell_of_row w b _ cur el _ hg, ho', hsz]
      rw [← htk, List.getElem?_take] at this
      split at this
      · simpa using this
      · cases this
    have hload := run_load_at (P := P) (t := el) (v := .agg ⟨Cell.cells (L[k]'h) q[k].2⟩) hrange (by rw [Cell.len, hsz])
    refine ⟨_, w, _, ?_, ?_, K q[k].2⟩
    · simp [execOp, hx.ok n a fr, hload]
    · have key : ∀ (As : List Asn), (∀ A ∈ As, A.holds (fp w0 F Γ) w) → Hold w0 F (As.map Fact.st ++ Γ) w := by
        intro As
        induction As with
        | nil => exact fun _ => ho
        | cons A As ih =>
          intro hA
          refine (ih (fun B hB => hA B (by simp [hB]))).add (A.mono _ _ _ (fun k hk => ⟨hk.1, free_append.2 ⟨fun f hf => ?_, hk.2⟩⟩) (hA A (by simp)))
          simp only [List.mem_map] at hf
          obtain ⟨B, _, rfl⟩ := hf
          exact fun h => h
      refine key _ fun A hA => ?_
      have hA' := h2 q[k] (List.getElem_mem hkq) A (by rw [hqk]; exact hA)
      exact A.mono _ _ _ (fun j hj => ⟨hj.1, fun f hf => hj.2 f (hB.ok.mem_iff.1 hf)⟩) hA'
theorem JR.loadBufCommit {x : Operand} {b c k o : Nat} {el : TypeId} {L : List Commit} {fs : List Field} {by_ : Nat} {z : Value} {Δ : List Fact}
    [hx : Ev e x (.pointer (some ⟨b, o, none⟩))] [hB : BufAt Γ b c el L Δ] [hT : Ty P el (.struct ⟨fs⟩) 8 by_ z] (hd : Nat.blt d n = true) (h : k < L.length) (ho' : o = k * 8)
    (K : ∀ p q, JO P n w0 F ops (i + 1) os Q ((d, .agg ⟨[.int .i64 (L[k]'h).ev.node, .int .i64 (L[k]'h).ev.seq, .int .i64 (L[k]'h).gen, .slice p (L[k]'h).parents.length q, .int .i64 (L[k]'h).op.kind, .string (L[k]'h).op.key, .string (L[k]'h).op.elem, .int .i64 (L[k]'h).op.n]⟩) :: e) (.st (sl p q (L[k]'h).parents) :: Γ)) :
    JR P n w0 F ops i ⟨some d, .load el x, t, pos, aft, g⟩ os Q e Γ := JR.loadBuf (α := Commit) (L := L) hd rfl h ho' fun (y : Option Addr × Nat) => K y.1 y.2
end
end Ab
end Go.Proofs.Ytcmfemfndadfmaa

/- Words of 8, 32 and 64 bits as Lean's (written by genwords.py). Program-independent. -/
namespace Go.Proofs.Ytcmfemfndadfmaa
namespace Ab
open Go Go.RowKit
set_option linter.unusedVariables false
set_option linter.unusedSimpArgs false

abbrev w8 (x : UInt8) : Value := .int .u8 (x.toNat : Int)
theorem wrap8 (n : Nat) : IntKind.u8.wrap (n : Int) = ((n % 256 : Nat) : Int) := by simp [IntKind.wrap, IntKind.bits, IntKind.signed]
theorem wrapw8 (x : UInt8) : IntKind.u8.wrap (x.toNat : Int) = (x.toNat : Int) := by rw [wrap8, Nat.mod_eq_of_lt x.toNat_lt]
theorem bv8 (x : UInt8) : BitVec.ofInt 8 (x.toNat : Int) = x.toBitVec := by
  rw [BitVec.ofInt_natCast]; exact BitVec.ofNat_toNat .. |>.trans (by simp)
def shrN8 (a : UInt8) (k : Nat) : UInt8 := UInt8.ofNat (a.toNat / 2 ^ k)
def shlN8 (a : UInt8) (k : Nat) : UInt8 := UInt8.ofNat (a.toNat * 2 ^ k)
theorem xorw8 (a b : UInt8) : IntKind.u8.wrap ((BitVec.ofInt 8 (a.toNat : Int) ^^^ BitVec.ofInt 8 (b.toNat : Int)).toNat : Int) = ((a ^^^ b).toNat : Int) := by
  rw [bv8, bv8, wrap8]
  congr 1
  exact Nat.mod_eq_of_lt (a ^^^ b).toNat_lt
theorem andw8 (a b : UInt8) : IntKind.u8.wrap ((BitVec.ofInt 8 (a.toNat : Int) &&& BitVec.ofInt 8 (b.toNat : Int)).toNat : Int) = ((a &&& b).toNat : Int) := by
  rw [bv8, bv8, wrap8]
  congr 1
  exact Nat.mod_eq_of_lt (a &&& b).toNat_lt
theorem orw8 (a b : UInt8) : IntKind.u8.wrap ((BitVec.ofInt 8 (a.toNat : Int) ||| BitVec.ofInt 8 (b.toNat : Int)).toNat : Int) = ((a ||| b).toNat : Int) := by
  rw [bv8, bv8, wrap8]
  congr 1
  exact Nat.mod_eq_of_lt (a ||| b).toNat_lt
theorem andNotw8 (a b : UInt8) : IntKind.u8.wrap ((BitVec.ofInt 8 (a.toNat : Int) &&& ~~~ BitVec.ofInt 8 (b.toNat : Int)).toNat : Int) = ((a &&& ~~~ b).toNat : Int) := by
  rw [bv8, bv8, wrap8]
  congr 1
  exact Nat.mod_eq_of_lt (a &&& ~~~ b).toNat_lt
abbrev w32 (x : UInt32) : Value := .int .u32 (x.toNat : Int)
theorem wrap32 (n : Nat) : IntKind.u32.wrap (n : Int) = ((n % 4294967296 : Nat) : Int) := by simp [IntKind.wrap, IntKind.bits, IntKind.signed]
theorem wrapw32 (x : UInt32) : IntKind.u32.wrap (x.toNat : Int) = (x.toNat : Int) := by rw [wrap32, Nat.mod_eq_of_lt x.toNat_lt]
theorem bv32 (x : UInt32) : BitVec.ofInt 32 (x.toNat : Int) = x.toBitVec := by
  rw [BitVec.ofInt_natCast]; exact BitVec.ofNat_toNat .. |>.trans (by simp)
def shrN32 (a : UInt32) (k : Nat) : UInt32 := UInt32.ofNat (a.toNat / 2 ^ k)
def shlN32 (a : UInt32) (k : Nat) : UInt32 := UInt32.ofNat (a.toNat * 2 ^ k)
theorem xorw32 (a b : UInt32) : IntKind.u32.wrap ((BitVec.ofInt 32 (a.toNat : Int) ^^^ BitVec.ofInt 32 (b.toNat : Int)).toNat : Int) = ((a ^^^ b).toNat : Int) := by
  rw [bv32, bv32, wrap32]
  congr 1
  exact Nat.mod_eq_of_lt (a ^^^ b).toNat_lt
theorem andw32 (a b : UInt32) : IntKind.u32.wrap ((BitVec.ofInt 32 (a.toNat : Int) &&& BitVec.ofInt 32 (b.toNat : Int)).toNat : Int) = ((a &&& b).toNat : Int) := by
  rw [bv32, bv32, wrap32]
  congr 1
  exact Nat.mod_eq_of_lt (a &&& b).toNat_lt
theorem orw32 (a b : UInt32) : IntKind.u32.wrap ((BitVec.ofInt 32 (a.toNat : Int) ||| BitVec.ofInt 32 (b.toNat : Int)).toNat : Int) = ((a ||| b).toNat : Int) := by
  rw [bv32, bv32, wrap32]
  congr 1
  exact Nat.mod_eq_of_lt (a ||| b).toNat_lt
theorem andNotw32 (a b : UInt32) : IntKind.u32.wrap ((BitVec.ofInt 32 (a.toNat : Int) &&& ~~~ BitVec.ofInt 32 (b.toNat : Int)).toNat : Int) = ((a &&& ~~~ b).toNat : Int) := by
  rw [bv32, bv32, wrap32]
  congr 1
  exact Nat.mod_eq_of_lt (a &&& ~~~ b).toNat_lt
abbrev w64 (x : UInt64) : Value := .int .u64 (x.toNat : Int)
theorem wrap64 (n : Nat) : IntKind.u64.wrap (n : Int) = ((n % 18446744073709551616 : Nat) : Int) := by simp [IntKind.wrap, IntKind.bits, IntKind.signed]
theorem wrapw64 (x : UInt64) : IntKind.u64.wrap (x.toNat : Int) = (x.toNat : Int) := by rw [wrap64, Nat.mod_eq_of_lt x.toNat_lt]
theorem bv64 (x : UInt64) : BitVec.ofInt 64 (x.toNat : Int) = x.toBitVec := by
  rw [BitVec.ofInt_natCast]; exact BitVec.ofNat_toNat .. |>.trans (by simp)
def shrN64 (a : UInt64) (k : Nat) : UInt64 := UInt64.ofNat (a.toNat / 2 ^ k)
def shlN64 (a : UInt64) (k : Nat) : UInt64 := UInt64.ofNat (a.toNat * 2 ^ k)
theorem xorw64 (a b : UInt64) : IntKind.u64.wrap ((BitVec.ofInt 64 (a.toNat : Int) ^^^ BitVec.ofInt 64 (b.toNat : Int)).toNat : Int) = ((a ^^^ b).toNat : Int) := by
  rw [bv64, bv64, wrap64]
  congr 1
  exact Nat.mod_eq_of_lt (a ^^^ b).toNat_lt
theorem andw64 (a b : UInt64) : IntKind.u64.wrap ((BitVec.ofInt 64 (a.toNat : Int) &&& BitVec.ofInt 64 (b.toNat : Int)).toNat : Int) = ((a &&& b).toNat : Int) := by
  rw [bv64, bv64, wrap64]
  congr 1
  exact Nat.mod_eq_of_lt (a &&& b).toNat_lt
theorem orw64 (a b : UInt64) : IntKind.u64.wrap ((BitVec.ofInt 64 (a.toNat : Int) ||| BitVec.ofInt 64 (b.toNat : Int)).toNat : Int) = ((a ||| b).toNat : Int) := by
  rw [bv64, bv64, wrap64]
  congr 1
  exact Nat.mod_eq_of_lt (a ||| b).toNat_lt
theorem andNotw64 (a b : UInt64) : IntKind.u64.wrap ((BitVec.ofInt 64 (a.toNat : Int) &&& ~~~ BitVec.ofInt 64 (b.toNat : Int)).toNat : Int) = ((a &&& ~~~ b).toNat : Int) := by
  rw [bv64, bv64, wrap64]
  congr 1
  exact Nat.mod_eq_of_lt (a &&& ~~~ b).toNat_lt
section
variable {P : Program} {n : Nat} {w0 : World} {F : Nat → Prop} {d : Option Nat} {t : TypeId} {pos : String} {aft : Array Edge} {g : Option (Nat × Bool)} {e : E} {Γ : List Fact}
  {x y : Operand} {ty yt : TypeId}

theorem OpV.add8 {a b : UInt8} [hx : Ev e x (w8 a)] [hy : Ev e y (w8 b)] : OpV P n w0 F ⟨d, .binOp .add ty x y yt, t, pos, aft, g⟩ e Γ (w8 (a + b)) := by
  have := OpV.addw (P := P) (n := n) (w0 := w0) (F := F) (d := d) (t := t) (pos := pos) (aft := aft) (g := g) (e := e) (Γ := Γ) (x := x) (y := y) (ty := ty) (yt := yt) (kk := .u8) (p := a.toNat) (q := b.toNat)
  rwa [← Int.natCast_add, wrap8, ← show (a + b).toNat = (a.toNat + b.toNat) % 256 from UInt8.toNat_add a b] at this
theorem OpV.xor8 {a b : UInt8} [hx : Ev e x (w8 a)] [hy : Ev e y (w8 b)] : OpV P n w0 F ⟨d, .binOp .xor ty x y yt, t, pos, aft, g⟩ e Γ (w8 (a ^^^ b)) := by
  have := OpV.xor (P := P) (n := n) (w0 := w0) (F := F) (d := d) (t := t) (pos := pos) (aft := aft) (g := g) (e := e) (Γ := Γ) (x := x) (y := y) (ty := ty) (yt := yt) (kk := .u8) (p := a.toNat) (q := b.toNat)
  exact Eq.mp (congrArg (fun v => OpV P n w0 F ⟨d, .binOp .xor ty x y yt, t, pos, aft, g⟩ e Γ (Value.int .u8 v)) (xorw8 a b)) this
theorem OpV.and8 {a b : UInt8} [hx : Ev e x (w8 a)] [hy : Ev e y (w8 b)] : OpV P n w0 F ⟨d, .binOp .and ty x y yt, t, pos, aft, g⟩ e Γ (w8 (a &&& b)) := by
  have := OpV.and (P := P) (n := n) (w0 := w0) (F := F) (d := d) (t := t) (pos := pos) (aft := aft) (g := g) (e := e) (Γ := Γ) (x := x) (y := y) (ty := ty) (yt := yt) (kk := .u8) (p := a.toNat) (q := b.toNat)
  exact Eq.mp (congrArg (fun v => OpV P n w0 F ⟨d, .binOp .and ty x y yt, t, pos, aft, g⟩ e Γ (Value.int .u8 v)) (andw8 a b)) this
theorem OpV.or8 {a b : UInt8} [hx : Ev e x (w8 a)] [hy : Ev e y (w8 b)] : OpV P n w0 F ⟨d, .binOp .or ty x y yt, t, pos, aft, g⟩ e Γ (w8 (a ||| b)) := by
  have := OpV.or (P := P) (n := n) (w0 := w0) (F := F) (d := d) (t := t) (pos := pos) (aft := aft) (g := g) (e := e) (Γ := Γ) (x := x) (y := y) (ty := ty) (yt := yt) (kk := .u8) (p := a.toNat) (q := b.toNat)
  exact Eq.mp (congrArg (fun v => OpV P n w0 F ⟨d, .binOp .or ty x y yt, t, pos, aft, g⟩ e Γ (Value.int .u8 v)) (orw8 a b)) this
theorem OpV.andNot8 {a b : UInt8} [hx : Ev e x (w8 a)] [hy : Ev e y (w8 b)] : OpV P n w0 F ⟨d, .binOp .andNot ty x y yt, t, pos, aft, g⟩ e Γ (w8 (a &&& ~~~ b)) := by
  have := OpV.andNot (P := P) (n := n) (w0 := w0) (F := F) (d := d) (t := t) (pos := pos) (aft := aft) (g := g) (e := e) (Γ := Γ) (x := x) (y := y) (ty := ty) (yt := yt) (kk := .u8) (p := a.toNat) (q := b.toNat)
  exact Eq.mp (congrArg (fun v => OpV P n w0 F ⟨d, .binOp .andNot ty x y yt, t, pos, aft, g⟩ e Γ (Value.int .u8 v)) (andNotw8 a b)) this
theorem OpV.add32 {a b : UInt32} [hx : Ev e x (w32 a)] [hy : Ev e y (w32 b)] : OpV P n w0 F ⟨d, .binOp .add ty x y yt, t, pos, aft, g⟩ e Γ (w32 (a + b)) := by
  have := OpV.addw (P := P) (n := n) (w0 := w0) (F := F) (d := d) (t := t) (pos := pos) (aft := aft) (g := g) (e := e) (Γ := Γ) (x := x) (y := y) (ty := ty) (yt := yt) (kk := .u32) (p := a.toNat) (q := b.toNat)
  rwa [← Int.natCast_add, wrap32, ← show (a + b).toNat = (a.toNat + b.toNat) % 4294967296 from UInt32.toNat_add a b] at this
theorem OpV.xor32 {a b : UInt32} [hx : Ev e x (w32 a)] [hy : Ev e y (w32 b)] : OpV P n w0 F ⟨d, .binOp .xor ty x y yt, t, pos, aft, g⟩ e Γ (w32 (a ^^^ b)) := by
  have := OpV.xor (P := P) (n := n) (w0 := w0) (F := F) (d := d) (t := t) (pos := pos) (aft := aft) (g := g) (e := e) (Γ := Γ) (x := x) (y := y) (ty := ty) (yt := yt) (kk := .u32) (p := a.toNat) (q := b.toNat)
  exact Eq.mp (congrArg (fun v => OpV P n w0 F ⟨d, .binOp .xor ty x y yt, t, pos, aft, g⟩ e Γ (Value.int .u32 v)) (xorw32 a b)) this
theorem OpV.and32 {a b : UInt32} [hx : Ev e x (w32 a)] [hy : Ev e y (w32 b)] : OpV P n w0 F ⟨d, .binOp .and ty x y yt, t, pos, aft, g⟩ e Γ (w32 (a &&& b)) := by
  have := OpV.and (P := P) (n := n) (w0 := w0) (F := F) (d := d) (t := t) (pos := pos) (aft := aft) (g := g) (e := e) (Γ := Γ) (x := x) (y := y) (ty := ty) (yt := yt) (kk := .u32) (p := a.toNat) (q := b.toNat)
  exact Eq.mp (congrArg (fun v => OpV P n w0 F ⟨d, .binOp .and ty x y yt, t, pos, aft, g⟩ e Γ (Value.int .u32 v)) (andw32 a b)) this
theorem OpV.or32 {a b : UInt32} [hx : Ev e x (w32 a)] [hy : Ev e y (w32 b)] : OpV P n w0 F ⟨d, .binOp .or ty x y yt, t, pos, aft, g⟩ e Γ (w32 (a ||| b)) := by
  have := OpV.or (P := P) (n := n) (w0 := w0) (F := F) (d := d) (t := t) (pos := pos) (aft := aft) (g := g) (e := e) (Γ := Γ) (x := x) (y := y) (ty := ty) (yt := yt) (kk := .u32) (p := a.toNat) (q := b.toNat)
  exact Eq.mp (congrArg (fun v => OpV P n w0 F ⟨d, .binOp .or ty x y yt, t, pos, aft, g⟩ e Γ (Value.int .u32 v)) (orw32 a b)) this
theorem OpV.andNot32 {a b : UInt32} [hx : Ev e x (w32 a)] [hy : Ev e y (w32 b)] : OpV P n w0 F ⟨d, .binOp .andNot ty x y yt, t, pos, aft, g⟩ e Γ (w32 (a &&& ~~~ b)) := by
  have := OpV.andNot (P := P) (n := n) (w0 := w0) (F := F) (d := d) (t := t) (pos := pos) (aft := aft) (g := g) (e := e) (Γ := Γ) (x := x) (y := y) (ty := ty) (yt := yt) (kk := .u32) (p := a.toNat) (q := b.toNat)
  exact Eq.mp (congrArg (fun v => OpV P n w0 F ⟨d, .binOp .andNot ty x y yt, t, pos, aft, g⟩ e Γ (Value.int .u32 v)) (andNotw32 a b)) this
theorem OpV.add64 {a b : UInt64} [hx : Ev e x (w64 a)] [hy : Ev e y (w64 b)] : OpV P n w0 F ⟨d, .binOp .add ty x y yt, t, pos, aft, g⟩ e Γ (w64 (a + b)) := by
  have := OpV.addw (P := P) (n := n) (w0 := w0) (F := F) (d := d) (t := t) (pos := pos) (aft := aft) (g := g) (e := e) (Γ := Γ) (x := x) (y := y) (ty := ty) (yt := yt) (kk := .u64) (p := a.toNat) (q := b.toNat)
  rwa [← Int.natCast_add, wrap64, ← show (a + b).toNat = (a.toNat + b.toNat) % 18446744073709551616 from UInt64.toNat_add a b] at this
theorem OpV.xor64 {a b : UInt64} [hx : Ev e x (w64 a)] [hy : Ev e y (w64 b)] : OpV P n w0 F ⟨d, .binOp .xor ty x y yt, t, pos, aft, g⟩ e Γ (w64 (a ^^^ b)) := by
  have := OpV.xor (P := P) (n := n) (w0 := w0) (F := F) (d := d) (t := t) (pos := pos) (aft := aft) (g := g) (e := e) (Γ := Γ) (x := x) (y := y) (ty := ty) (yt := yt) (kk := .u64) (p := a.toNat) (q := b.toNat)
  exact Eq.mp (congrArg (fun v => OpV P n w0 F ⟨d, .binOp .xor ty x y yt, t, pos, aft, g⟩ e Γ (Value.int .u64 v)) (xorw64 a b)) this
theorem OpV.and64 {a b : UInt64} [hx : Ev e x (w64 a)] [hy : Ev e y (w64 b)] : OpV P n w0 F ⟨d, .binOp .and ty x y yt, t, pos, aft, g⟩ e Γ (w64 (a &&& b)) := by
  have := OpV.and (P := P) (n := n) (w0 := w0) (F := F) (d := d) (t := t) (pos := pos) (aft := aft) (g := g) (e := e) (Γ := Γ) (x := x) (y := y) (ty := ty) (yt := yt) (kk := .u64) (p := a.toNat) (q := b.toNat)
  exact Eq.mp (congrArg (fun v => OpV P n w0 F ⟨d, .binOp .and ty x y yt, t, pos, aft, g⟩ e Γ (Value.int .u64 v)) (andw64 a b)) this
theorem OpV.or64 {a b : UInt64} [hx : Ev e x (w64 a)] [hy : Ev e y (w64 b)] : OpV P n w0 F ⟨d, .binOp .or ty x y yt, t, pos, aft, g⟩ e Γ (w64 (a ||| b)) := by
  have := OpV.or (P := P) (n := n) (w0 := w0) (F := F) (d := d) (t := t) (pos := pos) (aft := aft) (g := g) (e := e) (Γ := Γ) (x := x) (y := y) (ty := ty) (yt := yt) (kk := .u64) (p := a.toNat) (q := b.toNat)
  exact Eq.mp (congrArg (fun v => OpV P n w0 F ⟨d, .binOp .or ty x y yt, t, pos, aft, g⟩ e Γ (Value.int .u64 v)) (orw64 a b)) this
theorem OpV.andNot64 {a b : UInt64} [hx : Ev e x (w64 a)] [hy : Ev e y (w64 b)] : OpV P n w0 F ⟨d, .binOp .andNot ty x y yt, t, pos, aft, g⟩ e Γ (w64 (a &&& ~~~ b)) := by
  have := OpV.andNot (P := P) (n := n) (w0 := w0) (F := F) (d := d) (t := t) (pos := pos) (aft := aft) (g := g) (e := e) (Γ := Γ) (x := x) (y := y) (ty := ty) (yt := yt) (kk := .u64) (p := a.toNat) (q := b.toNat)
  exact Eq.mp (congrArg (fun v => OpV P n w0 F ⟨d, .binOp .andNot ty x y yt, t, pos, aft, g⟩ e Γ (Value.int .u64 v)) (andNotw64 a b)) this
theorem OpV.shr32 {a : UInt32} {kk : IntKind} {j : Int} {k : Nat} [hx : Ev e x (w32 a)] [hy : Ev e y (.int kk j)] [hk : NatI j k] (h : k ≤ 32) : OpV P n w0 F ⟨d, .binOp .shr ty x y yt, t, pos, aft, g⟩ e Γ (w32 (shrN32 a k)) := by
  have hj := hk.ok
  subst hj
  have := OpV.shr (P := P) (n := n) (w0 := w0) (F := F) (d := d) (t := t) (pos := pos) (aft := aft) (g := g) (e := e) (Γ := Γ) (x := x) (y := y) (ty := ty) (yt := yt) (kk := .u32) (yk := kk) (p := a.toNat) (q := (k : Int)) (by omega)
  refine Eq.mp (congrArg (fun v => OpV P n w0 F ⟨d, .binOp .shr ty x y yt, t, pos, aft, g⟩ e Γ (Value.int .u32 v)) ?_) this
  have e1 : Min.min (Int.toNat (k : Int)) (IntKind.bits .u32) = k := Nat.min_eq_left h
  have e2 : ((2 : Int) ^ k) = ((2 ^ k : Nat) : Int) := by simp
  rw [e1, e2, Int.fdiv_eq_ediv_of_nonneg _ (Int.natCast_nonneg _), ← Int.natCast_ediv, shrN32, UInt32.toNat_ofNat', Nat.mod_eq_of_lt (Nat.lt_of_le_of_lt (Nat.div_le_self _ _) a.toNat_lt)]
theorem OpV.shl32 {a : UInt32} {kk : IntKind} {j : Int} {k : Nat} [hx : Ev e x (w32 a)] [hy : Ev e y (.int kk j)] [hk : NatI j k] (h : k ≤ 32) : OpV P n w0 F ⟨d, .binOp .shl ty x y yt, t, pos, aft, g⟩ e Γ (w32 (shlN32 a k)) := by
  have hj := hk.ok
  subst hj
  have := OpV.shl (P := P) (n := n) (w0 := w0) (F := F) (d := d) (t := t) (pos := pos) (aft := aft) (g := g) (e := e) (Γ := Γ) (x := x) (y := y) (ty := ty) (yt := yt) (kk := .u32) (yk := kk) (p := a.toNat) (q := (k : Int)) (by omega)
  refine Eq.mp (congrArg (fun v => OpV P n w0 F ⟨d, .binOp .shl ty x y yt, t, pos, aft, g⟩ e Γ (Value.int .u32 v)) ?_) this
  have e1 : Min.min (Int.toNat (k : Int)) (IntKind.bits .u32) = k := Nat.min_eq_left h
  have e2 : ((2 : Int) ^ k) = ((2 ^ k : Nat) : Int) := by simp
  rw [e1, e2, ← Int.natCast_mul, wrap32, shlN32, UInt32.toNat_ofNat']
theorem OpV.shr64 {a : UInt64} {kk : IntKind} {j : Int} {k : Nat} [hx : Ev e x (w64 a)] [hy : Ev e y (.int kk j)] [hk : NatI j k] (h : k ≤ 64) : OpV P n w0 F ⟨d, .binOp .shr ty x y yt, t, pos, aft, g⟩ e Γ (w64 (shrN64 a k)) := by
  have hj := hk.ok
  subst hj
  have := OpV.shr (P := P) (n := n) (w0 := w0) (F := F) (d := d) (t := t) (pos := pos) (aft := aft) (g := g) (e := e) (Γ := Γ) (x := x) (y := y) (ty := ty) (yt := yt) (kk := .u64) (yk := kk) (p := a.toNat) (q := (k : Int)) (by omega)
  refine Eq.mp (congrArg (fun v => OpV P n w0 F ⟨d, .binOp .shr ty x y yt, t, pos, aft, g⟩ e Γ (Value.int .u64 v)) ?_) this
  have e1 : Min.min (Int.toNat (k : Int)) (IntKind.bits .u64) = k := Nat.min_eq_left h
  have e2 : ((2 : Int) ^ k) = ((2 ^ k : Nat) : Int) := by simp
  rw [e1, e2, Int.fdiv_eq_ediv_of_nonneg _ (Int.natCast_nonneg _), ← Int.natCast_ediv, shrN64, UInt64.toNat_ofNat', Nat.mod_eq_of_lt (Nat.lt_of_le_of_lt (Nat.div_le_self _ _) a.toNat_lt)]
theorem OpV.shl64 {a : UInt64} {kk : IntKind} {j : Int} {k : Nat} [hx : Ev e x (w64 a)] [hy : Ev e y (.int kk j)] [hk : NatI j k] (h : k ≤ 64) : OpV P n w0 F ⟨d, .binOp .shl ty x y yt, t, pos, aft, g⟩ e Γ (w64 (shlN64 a k)) := by
  have hj := hk.ok
  subst hj
  have := OpV.shl (P := P) (n := n) (w0 := w0) (F := F) (d := d) (t := t) (pos := pos) (aft := aft) (g := g) (e := e) (Γ := Γ) (x := x) (y := y) (ty := ty) (yt := yt) (kk := .u64) (yk := kk) (p := a.toNat) (q := (k : Int)) (by omega)
  refine Eq.mp (congrArg (fun v => OpV P n w0 F ⟨d, .binOp .shl ty x y yt, t, pos, aft, g⟩ e Γ (Value.int .u64 v)) ?_) this
  have e1 : Min.min (Int.toNat (k : Int)) (IntKind.bits .u64) = k := Nat.min_eq_left h
  have e2 : ((2 : Int) ^ k) = ((2 ^ k : Nat) : Int) := by simp
  rw [e1, e2, ← Int.natCast_mul, wrap64, shlN64, UInt64.toNat_ofNat']
end
end Ab
end Go.Proofs.Ytcmfemfndadfmaa

/- Arrays of one-cell elements in blocks of the call's own: an element read, an element written, whatever the index. Program-independent. -/
namespace Go.Proofs.Ytcmfemfndadfmaa
namespace Ab
open Go Go.RowKit
set_option linter.unusedVariables false
set_option linter.unusedSimpArgs false

/-- A row of a known length. -/
abbrev Vec (α : Type) (n : Nat) := { l : List α // l.length = n }
def Vec.set {α : Type} {n : Nat} (v : Vec α n) (k : Nat) (x : α) : Vec α n := ⟨v.1.set k x, by rw [List.length_set]; exact v.2⟩
instance {α : Type} {n : Nat} {v : Vec α n} {f : α → Value} : Len (v.1.map f) n := ⟨by simp [v.2]⟩
instance {v : Vec UInt8 4} : One (v.1.map byteV) := ⟨fun u hu => by simp only [List.mem_map] at hu; obtain ⟨b, _, rfl⟩ := hu; rfl⟩
theorem one_bytes {l : List UInt8} : One (l.map byteV) := ⟨fun u hu => by simp only [List.mem_map] at hu; obtain ⟨b, _, rfl⟩ := hu; rfl⟩
theorem one_words {l : List UInt32} : One (l.map w32) := ⟨fun u hu => by simp only [List.mem_map] at hu; obtain ⟨b, _, rfl⟩ := hu; rfl⟩
instance {b : UInt8} : Cel (byteV b) [byteV b] := ⟨rfl⟩
instance {l : List UInt8} : One (l.map byteV) := one_bytes
instance {l : List UInt32} : One (l.map w32) := one_words

section
variable {P : Program} {n : Nat} {w0 : World} {F : Nat → Prop} {ops : Array Oper} {i d : Nat} {t : TypeId} {pos : String} {aft : Array Edge} {g : Option (Nat × Bool)} {os : List Oper} {Q : Cont} {e : E} {Γ : List Fact}

/-- An element of an array of the call's own, loaded. -/
theorem OpV.getW {α : Type} {f : α → Value} {x : Operand} {ty : TypeId} {td : TypeDesc} {sz by_ b o : Nat} {z : Value} {L : List α} {Δ : List Fact} {bt : TypeId} {d : Option Nat} (k : Nat)
    [hx : Ev e x (.pointer (some ⟨b, o, none⟩))] [hO : Own Γ b bt (L.map f) Δ] [hT : Ty P ty td sz by_ z] (h : k < L.length) (ho' : o = k) (hsz : sz = 1) [hv : Val td [f (L[k]'h)] (f (L[k]'h))] :
    OpV P n w0 F ⟨d, .load ty x, t, pos, aft, g⟩ e Γ (f (L[k]'h)) :=
  fun a w fr ho => by
    have hw : w.heap[b]? = some (.cells (L.map f).toArray bt (0, 0)) := (ho.perm hO.ok).sat (.own b bt (L.map f)) (by simp)
    have hr : w.rangeAt b o [f (L[k]'h)] := by
      intro j v hj
      cases j with
      | zero =>
        simp only [List.getElem?_cons_zero, Option.some.injEq] at hj
        subst hj
        rw [Nat.add_zero, cell_of_row w b _ _ _ _ hw, ho']
        simp [h]
      | succ j => simp at hj
    have hload := run_load_at (P := P) (t := ty) (v := f (L[k]'h)) hr (by simp [hsz])
    simp [execOp, hx.ok n a fr, hload]

/-- An element of an array of the call's own, written. -/
theorem JR.setW {α : Type} {f : α → Value} {x y : Operand} {ty : TypeId} {td : TypeDesc} {sz by_ b o : Nat} {z : Value} {L : List α} {Δ : List Fact} {bt : TypeId} (k : Nat) (u : α)
    [hx : Ev e x (.pointer (some ⟨b, o, none⟩))] [hO : Own Γ b bt (L.map f) Δ] [hy : Ev e y (f u)] [hT : Ty P ty td sz by_ z] [hc : Cel (f u) [f u]] [h1 : One [f u]] (h : k < L.length) (ho' : o = k) (hsz : sz = 1)
    (K : JO P n w0 F ops (i + 1) os Q e (.own b bt ((L.set k u).map f) :: Δ)) : JR P n w0 F ops i ⟨none, .store ty x y, t, pos, aft, g⟩ os Q e Γ :=
  JR.effect fun a w fr ho => by
    have hp := ho.perm hO.ok
    have hw : w.heap[b]? = some (.cells (L.map f).toArray bt (0, 0)) := hp.sat (.own b bt (L.map f)) (by simp)
    have hlay : o + [f u].length ≤ (L.map f).length ∧ (L.map f).take o ++ [f u] ++ (L.map f).drop (o + [f u].length) = (L.set k u).map f := by
      refine ⟨by simp; omega, ?_⟩
      rw [ho', List.map_set, List.set_eq_take_append_cons_drop, if_pos (by simpa using h)]
      simp
    refine ⟨.skip, w.setRow b ((L.set k u).map f).toArray, _, .inl rfl, ?_, hp.setRow, K⟩
    simp [execOp, hx.ok n a fr, hy.ok n a fr, run_store_own (P := P) (ty := ty) (cs := [f u]) (r := (L.set k u).map f) hw (by simp [hsz]) hlay]
/-- A block's content, told in other words. -/
theorem JC.reown {c : Code} {bt : TypeId} {vs : List Value} {Δ : List Fact} (b : Nat) (vs' : List Value) [hO : Own Γ b bt vs Δ] (h : vs = vs') (k : JC P n w0 F c Q e (.own b bt vs' :: Δ)) : JC P n w0 F c Q e Γ :=
  JC.more (fun w ho => by rw [← h]; exact ho.perm hO.ok) k
end
end Ab
end Go.Proofs.Ytcmfemfndadfmaa

/- x[l:h] of a row that is read; an array's address out of a slice. Program-independent. -/
namespace Go.Proofs.Ytcmfemfndadfmaa
namespace Ab
open Go Go.RowKit
set_option linter.unusedVariables false
set_option linter.unusedSimpArgs false

instance : NatI (2 : Int) 2 := ⟨rfl⟩
instance : NatI (3 : Int) 3 := ⟨rfl⟩
instance : NatI (4 : Int) 4 := ⟨rfl⟩
instance : NatI (5 : Int) 5 := ⟨rfl⟩
instance : NatI (6 : Int) 6 := ⟨rfl⟩
instance : NatI (7 : Int) 7 := ⟨rfl⟩
instance : NatI (8 : Int) 8 := ⟨rfl⟩
instance : NatI (15 : Int) 15 := ⟨rfl⟩
instance : NatI (16 : Int) 16 := ⟨rfl⟩
instance : NatI (32 : Int) 32 := ⟨rfl⟩
instance : NatI (56 : Int) 56 := ⟨rfl⟩
instance : NatI (63 : Int) 63 := ⟨rfl⟩
instance : NatI (64 : Int) 64 := ⟨rfl⟩

section
variable {P : Program} {n : Nat} {w0 : World} {F : Nat → Prop} {ops : Array Oper} {i d : Nat} {t : TypeId} {pos : String} {aft : Array Edge} {g : Option (Nat × Bool)} {os : List Oper} {Q : Cont} {e : E} {Γ : List Fact}

/-- x[l:h] -/
theorem JR.sliceMid {α : Type} [ic : Cell α] {x lo hi' : Operand} {v : Value} {L : List α} {kk k2 : IntKind} {j j2 : Int} {l k : Nat} {ty el : TypeId} {ed : TypeDesc} {sz by_ es eb : Nat} {z ez : Value}
    [hx : Ev e x v] [hL : HasSl Γ v α ic L] [hi : Ev e lo (.int kk j)] [hk : NatI j l] [hi2 : Ev e hi' (.int k2 j2)] [hk2 : NatI j2 k] [hT : Ty P ty (.slice el) sz by_ z] [hE : Ty P el ed es eb ez] (hd : Nat.blt d n = true) (hes : es = Cell.sz α) (h : l ≤ k ∧ k ≤ L.length)
    (K : ∀ a c, JO P n w0 F ops (i + 1) os Q ((d, .slice a ((L.drop l).take (k - l)).length c) :: e) (.st (sl a c ((L.drop l).take (k - l))) :: Γ)) : JR P n w0 F ops i ⟨some d, .slice ty x (some lo) (some hi') none, t, pos, aft, g⟩ os Q e Γ :=
  JR.value hd fun a w fr ho => by
    obtain ⟨a0, c, rfl, hsl⟩ := hL.holds ho
    have hlc : L.length ≤ c := hsl.1
    have h1 := run_und (P := P) (t := ty) w
    have h2 := run_size (P := P) (t := el) w
    have hj := hk.ok
    have hj2 := hk2.ok
    subst hj hj2
    have hd1 := sl_drop hsl (show l ≤ L.length by omega)
    have hd2 := sl_take hd1 (k := k - l) (c' := c - l) (by rw [List.length_drop]; omega) ⟨by omega, Nat.le_refl _⟩
    have hlen : ((L.drop l).take (k - l)).length = k - l := by rw [List.length_take, List.length_drop]; omega
    refine ⟨_, w, _, ?_, ho.addSl hd2, K _ _⟩
    have hb2 : (Instr.sliceBound (.int k2 (k : Int)) c .sliceAcap).run P w = .ok k w := by
      simp [Instr.sliceBound, asIntOf]
      omega
    have hb : (Instr.sliceBound (.int kk (l : Int)) k .sliceB).run P w = .ok l w := by
      simp [Instr.sliceBound, asIntOf]
      omega
    rw [hlen]
    simp [execOp, hx.ok n a fr, hi.ok n a fr, hi2.ok n a fr, Instr.sliceAt, Instr.slice, h1, h2, Instr.sliceBounds, hb, hb2, hes]
    by_cases hck : c = l
    · simp [hck]
    · rw [if_neg hck, if_neg (by omega)]

/-- A slice of bytes as an array's address. -/
theorem JR.arrayPtr {x : Operand} {v : Value} {L : List UInt8} {ty el : TypeId} {m sz by_ : Nat} {z : Value}
    [hx : Ev e x v] [hL : HasSl Γ v UInt8 inferInstance L] [hT : Ty P ty (.array m el) sz by_ z] (hd : Nat.blt d n = true) (h : L.length = m ∧ 0 < m)
    (K : ∀ b o, JO P n w0 F ops (i + 1) os Q ((d, .pointer (some ⟨b, o, none⟩)) :: e) (.st (ro b o (L.map byteV)) :: Γ)) : JR P n w0 F ops i ⟨some d, .sliceToArrayPointer ty x, t, pos, aft, g⟩ os Q e Γ :=
  JR.value hd fun a w fr ho => by
    obtain ⟨a0, c, rfl, hsl⟩ := hL.holds ho
    have h1 := run_und (P := P) (t := ty) w
    have hne : L ≠ [] := by intro h0; subst h0; simp at h; omega
    obtain ⟨b, off, rfl, hb, hlt, hrow⟩ := hsl.2.2.2 hne
    refine ⟨.pointer (some ⟨b, off, none⟩), w, _, ?_, ho.add (A := ro b off (L.map byteV)) ⟨hb, hlt, ?_⟩, K b off⟩
    · have : ¬ L.length < m := by omega
      simp [execOp, hx.ok n a fr, Instr.arrayAt, h1, this]
    · intro j u hu
      rw [List.getElem?_map] at hu
      cases hq : L[j]? with
      | none => rw [hq] at hu; cases hu
      | some q =>
        rw [hq] at hu
        obtain ⟨hjl, hju⟩ := List.getElem?_eq_some_iff.1 hq
        injection hu with hu
        subst hu hju
        exact sl_byte hsl j hjl
end
end Ab
end Go.Proofs.Ytcmfemfndadfmaa

/- More operations on what the call owns: append of a text's bytes, of zeros; make; copy; parts of an array. Program-independent. -/
namespace Go.Proofs.Ytcmfemfndadfmaa
namespace Ab
open Go Go.RowKit
set_option linter.unusedVariables false
set_option linter.unusedSimpArgs false

section
variable {P : Program} {n : Nat} {w0 : World} {F : Nat → Prop} {ops : Array Oper} {i d : Nat} {t : TypeId} {pos : String} {aft : Array Edge} {g : Option (Nat × Bool)} {os : List Oper} {Q : Cont} {e : E} {Γ : List Fact}

theorem run_room_src {w : World} (t tx ty e : TypeId) (i : TypeInfo) (ht : P.underlying t = some (.slice e)) (hi : P.info? e = some i)
    (g sLen sCap : Nat) (cur : Array Value) (hg : w.heap[g]? = some (.cells cur e (0, 0))) (x : Value) (m : Nat) (news : List Value) (hs : Src P i.size tx x m news w)
    (hroom : sLen + m ≤ sCap) (hfit : sLen * i.size + news.length ≤ cur.size) :
    (Builtin.append_ #[t, tx] ty #[.slice (some ⟨g, 0, none⟩) sLen sCap, x]).run P w =
      .ok (.slice (some ⟨g, 0, none⟩) (sLen + m) sCap) (w.setRow g (cur.toList.take (sLen * i.size) ++ news ++ cur.toList.drop (sLen * i.size + news.length)).toArray) := by
  have hst := run_storeCells_at P g (sLen * i.size) e news 0 cur w hg (by simpa using hfit) hs.one
  simp only [Nat.add_zero] at hst
  rcases hs.kind with ⟨e', hk⟩ | hk <;> simp [Builtin.append_, run_underlying ht, run_underlying hk, sizeOf, typeInfo, hi, hs.len, hroom, hs.cells, Addr.add_lit, hst]

set_option maxHeartbeats 400000 in
/-- append of whatever yields the cells of r'. -/
theorem append_hold_src {α : Type} [Cell α] {w : World} {Δ : List Fact} {a0 : Option Addr} {c0 : Nat} {el ty tx : TypeId} {L : List α} {ed : TypeDesc} {sz by_ es eb : Nat} {z ez : Value} {ecs : List Value} {x : Value} {m : Nat}
    (ho : Hold w0 F (.res (buf a0 c0 el L) :: Δ) w) (r' : List (α × Cell.Ix α)) (hm : r'.length = m) (hS : Src P (Cell.sz α) tx x m (flat r') w)
    (hfac : ∀ p ∈ r', ∀ A ∈ Cell.facts p.1 p.2, A.holds (fp w0 F (.res (buf a0 c0 el L) :: Δ)) w)
    [hT : Ty P ty (.slice el) sz by_ z] [hE : Ty P el ed es eb ez] [hz : Cel ez ecs] (hes : es = Cell.sz α ∧ ecs.length = es ∧ eb ≤ 4096) (hl : L.length + m ≤ 34359738368) :
    ∃ a1 k1 w', (Builtin.append_ #[ty, tx] t #[.slice a0 L.length c0, x]).run P w = .ok (.slice a1 (L ++ r'.map (·.1)).length k1) w' ∧ Hold w0 F (.res (buf a1 k1 el (L ++ r'.map (·.1))) :: Δ) w' := by
  obtain ⟨h0, q, hq, hown, hfacts⟩ : (buf a0 c0 el L).holds _ w := ho.sat (.res (buf a0 c0 el L)) (by simp)
  obtain ⟨ti, hti, hti1, hti2, hti3⟩ := hE.some
  have hqL : q.length = L.length := by rw [← hq]; simp
  have hlen : (L ++ r'.map (·.1)).length = L.length + m := by simp [hm]
  have hmap : (q ++ r').map (·.1) = L ++ r'.map (·.1) := by simp [hq]
  have hflat : flat (q ++ r') = flat q ++ flat r' := flat_append q r'
  have hfl : (flat r').length = m * ti.size := by rw [flat_length, hm, hti1, hes.1]
  have hflq : (flat q).length = L.length * ti.size := by rw [flat_length, hqL, hti1, hes.1]
  have hb48 : (L.length + m) * ti.bytes ≤ 140737488355328 := by rw [hti2]; have := Nat.mul_le_mul hl hes.2.2; omega
  have hzs : ez.cells.size = ti.size := by rw [cells_eq (v := ez) (cs := ecs), hti1]; simpa using hes.2.1
  have hsz1 : ti.size = Cell.sz α := by rw [hti1, hes.1]
  have hS : Src P ti.size tx x m (flat r') w := by rw [hsz1]; exact hS
  -- a new block
  have grown : ∀ (old : Nat), old < L.length + m →
      Hold w0 F (.res (buf (some ⟨w.heap.size, 0, none⟩) (grownCap w (L.length + m) old el) el (L ++ r'.map (·.1))) :: Δ)
        (w.drew.alloc (.cells ((flat q ++ flat r').toArray ++ Builtin.zeroCells ez.cells (grownCap w (L.length + m) old el - (L.length + m))) el)) := by
    intro old hold
    have hge := grownCap_ge w (L.length + m) old el
    have hcm : grownCap w (L.length + m) old el ≤ maxLen := grownCap_le_maxLen w (L.length + m) old el (by simp only [maxLen]; omega)
    have hbel : Bel w.heap.size w (w.drew.alloc (.cells ((flat q ++ flat r').toArray ++ Builtin.zeroCells ez.cells (grownCap w (L.length + m) old el - (L.length + m))) el)) :=
      ((Bel.refl _ _).drew).alloc (Nat.le_refl _) _
    refine ho.tail.call (B := [.res (buf (some ⟨w.heap.size, 0, none⟩) (grownCap w (L.length + m) old el) el (L ++ r'.map (·.1)))]) hbel ⟨fun f hf => ?_, by simp, fun f hf k hk => ?_⟩
    · simp only [List.mem_singleton] at hf; subst hf
      refine ⟨by rw [hlen]; simp only [lim]; omega, q ++ r', hmap, ⟨by rw [flat_length, hlen]; simp [hqL, hm], .inr ⟨w.heap.size, _, _, rfl, Nat.zero_le _, heap_alloc_new w.drew _, by rw [hlen]; exact hge, hcm, ?_, ?_⟩⟩, fun p hp A hA => ?_⟩
      · simp only [Array.size_append, List.size_toArray, size_zeroCells, hzs, List.length_append, hfl, hflq, ← Nat.add_mul, ← hsz1]
        congr 1
        omega
      · simp only [Array.toList_append, hflat]
        rw [hlen]
        exact List.take_left' (by rw [List.length_append, hfl, hflq, ← Nat.add_mul, hsz1])
      · have hA' : A.holds (fp w0 F (.res (buf a0 c0 el L) :: Δ)) w := by
          rcases List.mem_append.1 hp with hp | hp
          · exact hfacts p hp A hA
          · exact hfac p hp A hA
        refine Fact.sat_keep (f := .st A) hA' (fun k hk hlt => ⟨.inl ⟨hk.1, fun f hf => hk.2 f (by simp [hf])⟩, fun f hf => ?_⟩) (fun k hlt _ => hbel.block k hlt)
        simp only [List.mem_singleton] at hf; subst hf
        rintro ⟨a', ha', rfl⟩
        injection ha' with ha'
        subst ha'
        simp at hlt
    · simp only [List.mem_singleton] at hf; subst hf
      obtain ⟨a', ha', rfl⟩ := hk
      injection ha' with ha'
      subst ha'
      exact Nat.le_refl _
  rcases hown.2 with ⟨hv, hn⟩ | ⟨gb, cap, cur, hv, _, hg, hnc, hcm, hcs, htake⟩
  · injection hv with e1 e2 e3
    subst e1 e3
    have hL0 : L = [] := List.eq_nil_of_length_eq_zero hn
    subst hL0
    have hq0 : q = [] := List.eq_nil_of_length_eq_zero (by simpa using hqL)
    subst hq0
    by_cases h0m : m = 0
    · subst h0m
      have hr0 : r' = [] := List.eq_nil_of_length_eq_zero hm
      subst hr0
      refine ⟨none, 0, w, ?_, ho⟩
      rcases hS.kind with ⟨e', hk⟩ | hk <;> simp [Builtin.append_, run_underlying hT.und, run_underlying hk, sizeOf, typeInfo, hti, hS.len, hS.cells]
    · have hr := run_append_grow_src (P := P) w ty tx t el ti ez hT.und hti hti3 none 0 0 [] (by simp [Builtin.firstCells]) x m (flat r') hS (by omega) (by omega) (growslice_fits (by omega) (by simpa using hb48))
      have hgr := grown 0 (by simp; omega)
      simp only [Nat.zero_add, List.nil_append] at hr
      refine ⟨some ⟨w.heap.size, 0, none⟩, grownCap w m 0 el, w.drew.alloc (.cells ((flat r').toArray ++ Builtin.zeroCells ez.cells (grownCap w m 0 el - m)) el), ?_, ?_⟩
      · rw [show ([] ++ List.map (fun x => x.1) r' : List α).length = m by simp [hm]]
        exact hr
      · simpa [flat] using hgr
  · injection hv with e1 e2 e3
    subst e1 e3
    by_cases hroom : L.length + m ≤ c0
    · have hfit : L.length * ti.size + (flat r').length ≤ cur.size := by rw [hfl, hcs, ← Nat.add_mul, hsz1]; exact Nat.mul_le_mul_right _ hroom
      have hr := run_room_src (P := P) (w := w) ty tx t el ti hT.und hti gb L.length c0 cur hg x m (flat r') hS hroom hfit
      refine ⟨some ⟨gb, 0, none⟩, c0, _, by rw [hlen]; exact hr, ?_⟩
      have howns : ∀ (X : List α) k, (buf (some ⟨gb, 0, none⟩) c0 el X).owns k ↔ k = gb := by
        intro X k
        constructor
        · rintro ⟨a', ha', rfl⟩; injection ha' with ha'; subst ha'; rfl
        · rintro rfl; exact ⟨_, rfl, rfl⟩
      have hheap : ∀ k, k ≠ gb → (w.setRow gb (cur.toList.take (L.length * ti.size) ++ flat r' ++ cur.toList.drop (L.length * ti.size + (flat r').length)).toArray).heap[k]? = w.heap[k]? := fun k hk => by
        simp only [World.setRow, Array.getElem?_modify]; rw [if_neg (by omega)]
      refine ho.swap (b := gb) (howns L) (howns _) rfl rfl rfl (by simp) hheap ?_
      refine ⟨by rw [hlen]; simp only [lim]; omega, q ++ r', hmap, ⟨by rw [flat_length, hlen]; simp [hqL, hm], .inr ⟨gb, c0, _, rfl, Nat.zero_le _, setRow_heap w gb cur _ el _ hg, by rw [hlen]; exact hroom, hcm, ?_, ?_⟩⟩, fun p hp A hA => ?_⟩
      · simp only [List.size_toArray, List.length_append, List.length_take, List.length_drop, Array.length_toList]
        omega
      · rw [hflat, ← htake, hlen, ← hsz1]
        simp only []
        refine List.take_left' ?_
        have e9 : cur.toList.length = cur.size := by simp
        rw [List.length_append, List.length_take, hfl, Nat.add_mul]
        omega
      · have hA' : A.holds (fp w0 F (.res (buf (some ⟨gb, 0, none⟩) c0 el L) :: Δ)) w := by
          rcases List.mem_append.1 hp with hp | hp
          · exact hfacts p hp A hA
          · exact hfac p hp A hA
        refine Fact.sat_keep (f := .st A) hA' (fun k hk hlt => ⟨hk.1, fun f hf => ?_⟩) (fun k hlt hk => ?_)
        · rcases List.mem_cons.1 hf with rfl | hf
          · exact fun h => hk.2 (.res (buf (some ⟨gb, 0, none⟩) c0 el L)) (by simp) ((howns L k).2 ((howns _ k).1 h))
          · exact hk.2 f (by simp [hf])
        · have hk' := hk.resolve_right (by simp [Fact.owns])
          exact hheap k (fun e => hk'.2 (.res (buf (some ⟨gb, 0, none⟩) c0 el L)) (by simp) ((howns L k).2 e))
    · have holds : ∀ j u, (flat q)[j]? = some u → w.cell? ((⟨gb, 0, none⟩ : Addr).add j) = some u := by
        intro j u hu
        rw [Addr.add_mid, Nat.zero_add, cell_of_row w gb j cur el _ hg]
        rw [← htake, List.getElem?_take] at hu
        split at hu
        · simpa using hu
        · cases hu
      have hold := run_firstCells_some (P := P) w.drew ti.size L.length ⟨gb, 0, none⟩ L.length c0 (flat q) hflq (by simpa using holds)
      have hr := run_append_grow_src (P := P) w ty tx t el ti ez hT.und hti hti3 (some ⟨gb, 0, none⟩) L.length c0 (flat q) hold x m (flat r') hS (by omega) (by omega) (growslice_fits (by omega) hb48)
      refine ⟨some ⟨w.heap.size, 0, none⟩, grownCap w (L.length + m) c0 el, _, ?_, grown c0 (by omega)⟩
      rw [hlen]; exact hr

/-- A text's bytes. -/
def bytesOf (s : ByteArray) : List UInt8 := s.data.toList
theorem bytesOf_length (s : ByteArray) : (bytesOf s).length = s.size := by simp [bytesOf]
def bytesIx (L : List UInt8) : List (UInt8 × Cell.Ix UInt8) := L.map (fun b => (b, ()))
theorem bytesIx_length (L : List UInt8) : (bytesIx L).length = L.length := by simp [bytesIx]
theorem flat_bytes (L : List UInt8) : flat (bytesIx L) = L.map byteV := by
  induction L with
  | nil => rfl
  | cons b L ih => simp only [bytesIx, List.map_cons, flat] at ih ⊢; rw [ih]; rfl
theorem map_bytes (L : List UInt8) : (bytesIx L).map (·.1) = L := by simp [bytesIx, Function.comp_def]

/-- append(x, text...) -/
theorem JR.appendStr {x y : Operand} {v : Value} {s : ByteArray} {L : List UInt8} {el ty tx : TypeId} {ed : TypeDesc} {sz by_ sz2 by2 es eb : Nat} {z z2 ez : Value} {ecs : List Value} {Δ : List Fact}
    [hx : Ev e x v] [hB : HasBuf Γ v UInt8 inferInstance el L Δ] [hy : Ev e y (.string s)] [hT : Ty P ty (.slice el) sz by_ z] [hU : Ty P tx .string sz2 by2 z2] [hE : Ty P el ed es eb ez] [hz : Cel ez ecs]
    (hd : Nat.blt d n = true) (hes : es = 1 ∧ ecs.length = es ∧ eb ≤ 4096) (hl : L.length + s.size ≤ 34359738368)
    (K : ∀ a c, JO P n w0 F ops (i + 1) os Q ((d, .slice a (L ++ bytesOf s).length c) :: e) (.res (buf a c el (L ++ bytesOf s)) :: Δ)) :
    JR P n w0 F ops i ⟨some d, .call ⟨.builtin .append, #[x, y], #[ty, tx]⟩, t, pos, aft, g⟩ os Q e Γ :=
  JR.value hd fun a w fr ho => by
    obtain ⟨a0, c0, rfl, hperm⟩ := hB.ok
    have hsrc : Src P (Cell.sz UInt8) tx (.string s) s.size (flat (bytesIx (bytesOf s))) w := by
      rw [flat_bytes]; exact Src.ofString w hU.und s
    obtain ⟨a1, k1, w', hrun, hw'⟩ := append_hold_src (P := P) (t := t) (ty := ty) (tx := tx) (ho.perm hperm) (bytesIx (bytesOf s)) (by rw [bytesIx_length, bytesOf_length]) hsrc (fun p hp A hA => by simp [Cell.facts] at hA) hes (by omega)
    rw [map_bytes] at hrun hw'
    refine ⟨_, w', _, ?_, hw', K a1 k1⟩
    simp [execOp, resolve_builtin, invoke, builtin, hx.ok n a fr, hy.ok n a fr] at hrun ⊢
    simp [hrun]

/-- append([]T(nil), make([]T, k)...): a new row of the call's own, of which nothing is told but its room. -/
theorem JR.appendZeros {α : Type} [ic : Cell α] {x y : Operand} {kk k2 : IntKind} {j : Int} {k : Nat} {ty tx el : TypeId} {ed : TypeDesc} {sz by_ sz2 by2 es eb : Nat} {z z2 ez : Value} {ecs : List Value}
    [hx : Ev e x (.slice none 0 0)] [hy : Ev e y (.int kk j)] [hk : NatI j k] [hT : Ty P ty (.slice el) sz by_ z] [hU : Ty P tx (.int k2) sz2 by2 z2] [hE : Ty P el ed es eb ez] [hz : Cel ez ecs]
    (hd : Nat.blt d n = true) (hes : es = Cell.sz α ∧ ecs.length = es ∧ eb ≤ 4096) (hl : 0 < k ∧ k ≤ 34359738368)
    (K : ∀ b c, k ≤ c → JO P n w0 F ops (i + 1) os Q ((d, .slice (some ⟨b, 0, none⟩) k c) :: e) (.res (buf (α := α) (some ⟨b, 0, none⟩) c el []) :: Γ)) :
    JR P n w0 F ops i ⟨some d, .call ⟨.builtin .append, #[x, y], #[ty, tx]⟩, t, pos, aft, g⟩ os Q e Γ :=
  JR.value hd fun a w fr ho => by
    obtain ⟨ti, hti, hti1, hti2, hti3⟩ := hE.some
    have hj := hk.ok
    subst hj
    have hb48 : k * ti.bytes ≤ 281474976710656 := by rw [hti2]; have := Nat.mul_le_mul hl.2 hes.2.2; omega
    have hr := Lib.run_append_nil_zeros (P := P) w ty tx t el ti ez kk k2 hT.und hU.und hti hti3 k hl.1 (by rw [hti1, hes.1]; exact Cell.pos) (by omega) hb48
    have hge := grownCap_ge w k 0 el
    have hcm : grownCap w k 0 el ≤ maxLen := grownCap_le_maxLen w k 0 el (by simp only [maxLen]; omega)
    have hzs : ez.cells.size = ti.size := by rw [cells_eq (v := ez) (cs := ecs), hti1]; simpa using hes.2.1
    have hsz1 : ti.size = Cell.sz α := by rw [hti1, hes.1]
    refine ⟨_, w.drew.alloc (.cells (Builtin.zeroCells ez.cells k ++ Builtin.zeroCells ez.cells (grownCap w k 0 el - k)) el), _, ?_, ?_, K w.heap.size (grownCap w k 0 el) hge⟩
    · simp [execOp, resolve_builtin, invoke, builtin, hx.ok n a fr, hy.ok n a fr] at hr ⊢
      simp [hr]
    · have hd' : Hold w0 F Γ w.drew := ho.drew
      refine hd'.push (f := .res (buf (α := α) (some ⟨w.heap.size, 0, none⟩) (grownCap w k 0 el) el [])) (o := .cells (Builtin.zeroCells ez.cells k ++ Builtin.zeroCells ez.cells (grownCap w k 0 el - k)) el) (fun k' => ⟨?_, ?_⟩) (fun F' w' hw => ?_)
      · rintro ⟨a', ha', rfl⟩; injection ha' with ha'; subst ha'; rfl
      · rintro rfl; exact ⟨_, rfl, rfl⟩
      · refine ⟨by simp [lim], [], rfl, ⟨by simp [flat], .inr ⟨w.heap.size, _, _, rfl, Nat.zero_le _, hw, Nat.zero_le _, hcm, ?_, by simp [flat]⟩⟩, by simp⟩
        simp only [Array.size_append, size_zeroCells, hzs, ← Nat.add_mul, ← hsz1]
        congr 1
        omega

theorem madeBytes (c : Nat) : (madeCells (Value.cells (byteV 0)) (c * 1)) = ((List.replicate c (0 : UInt8)).map byteV).toArray := by
  apply Array.ext
  · simp [size_madeCells]
  · intro i h1 h2
    simp [madeCells, Value.cells, byteV, Nat.mod_one]

/-- make([]byte, l, c) -/
theorem JR.makeBytes {x y : Operand} {kk k2 : IntKind} {j j2 : Int} {l c : Nat} {ty el : TypeId} {ed : TypeDesc} {sz by_ : Nat} {z : Value}
    [hx : Ev e x (.int kk j)] [hk : NatI j l] [hy : Ev e y (.int k2 j2)] [hk2 : NatI j2 c] [hT : Ty P ty (.slice el) sz by_ z] [hE : Ty P el ed 1 1 (byteV 0)]
    (hd : Nat.blt d n = true) (hl : l ≤ c ∧ c ≤ 34359738368)
    (K : ∀ b, JO P n w0 F ops (i + 1) os Q ((d, .slice (some ⟨b, 0, none⟩) (List.replicate l (0 : UInt8)).length c) :: e) (.res (buf (some ⟨b, 0, none⟩) c el (List.replicate l (0 : UInt8))) :: Γ)) :
    JR P n w0 F ops i ⟨some d, .makeSlice ty x y, t, pos, aft, g⟩ os Q e Γ :=
  JR.value hd fun a w fr ho => by
    obtain ⟨ti, hti, hti1, hti2, hti3⟩ := hE.some
    have hj := hk.ok
    have hj2 := hk2.ok
    subst hj hj2
    have hr := run_make (P := P) w ty el ti (byteV 0) hT.und hti hti3 kk k2 (l : Int) (c : Int) (by omega) (by omega) (by rw [hti2]; omega) (by omega)
    simp only [Int.toNat_natCast, hti1, madeBytes] at hr
    refine ⟨_, w.alloc (.cells ((List.replicate c (0 : UInt8)).map byteV).toArray el), _, ?_, ?_, K w.heap.size⟩
    · simp [execOp, hx.ok n a fr, hy.ok n a fr, hr]
    · refine ho.push (f := .res (buf (some ⟨w.heap.size, 0, none⟩) c el (List.replicate l (0 : UInt8)))) (o := .cells ((List.replicate c (0 : UInt8)).map byteV).toArray el) (fun k' => ⟨?_, ?_⟩) (fun F' w' hw => ?_)
      · rintro ⟨a', ha', rfl⟩; injection ha' with ha'; subst ha'; rfl
      · rintro rfl; exact ⟨_, rfl, rfl⟩
      · refine ⟨by simp [lim]; omega, bytesIx (List.replicate l (0 : UInt8)), map_bytes _, ⟨by rw [flat_bytes]; simp [Cell.sz], .inr ⟨w.heap.size, _, _, rfl, Nat.zero_le _, hw, by simp; omega, by simp [maxLen]; omega, by simp [Cell.sz], ?_⟩⟩, fun p hp A hA => by simp [Cell.facts] at hA⟩
        rw [flat_bytes]
        simp [Cell.sz, List.take_replicate]
        omega
/-- x[l:] of an array's address. -/
theorem OpV.sliceArrFrom {x lo : Operand} {ty el : TypeId} {b o m l sz by_ es eb : Nat} {z ez : Value} {ed : TypeDesc} {kk : IntKind} {j : Int} [hx : Ev e x (.pointer (some ⟨b, o, none⟩))] [hi : Ev e lo (.int kk j)] [hk : NatI j l]
    [hT : Ty P ty (.array m el) sz by_ z] [hE : Ty P el ed es eb ez] (hm : l < m) (hes : es = 1) : OpV P n w0 F ⟨d, .slice ty x (some lo) none none, t, pos, aft, g⟩ e Γ (.slice (some ⟨b, o + l, none⟩) (m - l) (m - l)) :=
  fun a w fr _ => by
    have h1 := run_und (P := P) (t := ty) w
    have h2 := run_size (P := P) (t := el) w
    have hj := hk.ok
    subst hj hes
    have h3 : (Instr.sliceBound (.int kk (l : Int)) m .sliceB).run P w = .ok l w := by
      simp [Instr.sliceBound, asIntOf]
      omega
    have h4 : ¬ m = l := by omega
    simp [execOp, hx.ok n a fr, hi.ok n a fr, Instr.sliceAt, h1, h2, Instr.sureAddr, Instr.sliceBounds, h3, h4, Addr.add_mid]
/-- x[:k] of an array's address. -/
theorem OpV.sliceArrTo {x hi' : Operand} {ty el : TypeId} {b o m k sz by_ es eb : Nat} {z ez : Value} {ed : TypeDesc} {kk : IntKind} {j : Int} [hx : Ev e x (.pointer (some ⟨b, o, none⟩))] [hi : Ev e hi' (.int kk j)] [hk : NatI j k]
    [hT : Ty P ty (.array m el) sz by_ z] [hE : Ty P el ed es eb ez] (hm : k ≤ m) : OpV P n w0 F ⟨d, .slice ty x none (some hi') none, t, pos, aft, g⟩ e Γ (.slice (some ⟨b, o, none⟩) k m) :=
  fun a w fr _ => by
    have h1 := run_und (P := P) (t := ty) w
    have h2 := run_size (P := P) (t := el) w
    have hj := hk.ok
    subst hj
    have h3 : (Instr.sliceBound (.int kk (k : Int)) m .sliceAlen).run P w = .ok k w := by
      simp [Instr.sliceBound, asIntOf]
      omega
    simp [execOp, hx.ok n a fr, hi.ok n a fr, Instr.sliceAt, h1, h2, Instr.sureAddr, Instr.sliceBounds, h3, Addr.add]

/-- copy(x, y): x lies in a block of the call's own; y's cells are known. -/
theorem copy_own_run {x y : Operand} {b o dl dc b2 o2 sl_ sc : Nat} {vs us cs : List Value} {bt ty ty2 el : TypeId} {ed : TypeDesc} {sz by_ eb p : Nat} {z ez : Value} {Δ : List Fact} {a : Act} {w : World} {d : Option Nat}
    [hx : Ev e x (.slice (some ⟨b, o, none⟩) dl dc)] [hO : Own Γ b bt vs Δ] [hy : Ev e y (.slice (some ⟨b2, o2, none⟩) sl_ sc)] [hA : At Γ b2 p us] [hT : Ty P ty (.slice el) sz by_ z] [hE : Ty P el ed 1 eb ez]
    (hcs : (us.drop (o2 - p)).take (Nat.min sl_ dl) = cs) (hp : p ≤ o2) (hlen : cs.length = Nat.min sl_ dl) (hfit : o + cs.length ≤ vs.length) (h1 : One cs) (fr : Fr n e a) (ho : Hold w0 F Γ w) :
    (execOp a.eval ⟨d, .call ⟨.builtin .copy, #[x, y], #[ty, ty2]⟩, t, pos, aft, g⟩).run P w = .ok (.value (goInt cs.length)) (w.setRow b (vs.take o ++ cs ++ vs.drop (o + cs.length)).toArray) ∧ Hold w0 F (.own b bt (vs.take o ++ cs ++ vs.drop (o + cs.length)) :: Δ) (w.setRow b (vs.take o ++ cs ++ vs.drop (o + cs.length)).toArray) := by
  have hpm := ho.perm hO.ok
  have hw : w.heap[b]? = some (.cells vs.toArray bt (0, 0)) := hpm.sat (.own b bt vs) (by simp)
  have hr := rangeAt_seg (hA.ok w0 F w ho) hcs
  rw [show p + (o2 - p) = o2 by omega] at hr
  obtain ⟨ti, hti, hti1, _, _⟩ := hE.some
  have hrun := run_copy_row (P := P) w ty ty2 t el b o dl dc ⟨b2, o2, none⟩ sl_ sc vs.toArray bt cs hT.und (by rw [hti]; simp [hti1]) hw hlen (fun j v hv => by rw [Addr.add_mid]; exact hr j v hv) (by simpa using hfit) h1.ok
  refine ⟨?_, hpm.setRow⟩
  simp [execOp, resolve_builtin, invoke, builtin, hx.ok n a fr, hy.ok n a fr] at hrun ⊢
  simp [hrun]
theorem JR.copyOwn {x y : Operand} {b o dl dc b2 o2 sl_ sc : Nat} {vs us cs : List Value} {bt ty ty2 el : TypeId} {ed : TypeDesc} {sz by_ eb p : Nat} {z ez : Value} {Δ : List Fact}
    [hx : Ev e x (.slice (some ⟨b, o, none⟩) dl dc)] [hO : Own Γ b bt vs Δ] [hy : Ev e y (.slice (some ⟨b2, o2, none⟩) sl_ sc)] [hA : At Γ b2 p us] [hT : Ty P ty (.slice el) sz by_ z] [hE : Ty P el ed 1 eb ez]
    (hd : Nat.blt d n = true) (hcs : (us.drop (o2 - p)).take (Nat.min sl_ dl) = cs) (hp : p ≤ o2) (hlen : cs.length = Nat.min sl_ dl) (hfit : o + cs.length ≤ vs.length) (h1 : One cs)
    (K : JO P n w0 F ops (i + 1) os Q ((d, goInt cs.length) :: e) (.own b bt (vs.take o ++ cs ++ vs.drop (o + cs.length)) :: Δ)) :
    JR P n w0 F ops i ⟨some d, .call ⟨.builtin .copy, #[x, y], #[ty, ty2]⟩, t, pos, aft, g⟩ os Q e Γ :=
  JR.value hd fun a w fr ho => by
    obtain ⟨hr, hh⟩ := copy_own_run (P := P) (x := x) (y := y) (b := b) (o := o) (b2 := b2) (o2 := o2) (us := us) (t := t) (pos := pos) (aft := aft) (g := g) (hT := hT) (hE := hE) (ty2 := ty2) (d := some d) hcs hp hlen hfit h1 fr ho
    exact ⟨_, _, _, hr, hh, K⟩

/-- A slot's value, told in other words. -/
theorem JM.reslot {ops : List Oper} {m fuel : Nat} {done : List Bool} (s : Nat) {v : Value} (u : Value) [hs : Lk e s v] (h : v = u) (k : JM P n w0 F ops m fuel done Q ((s, u) :: e) Γ) : JM P n w0 F ops m fuel done Q e Γ :=
  fun a w fr ho => k a w (fr.again (by rw [← h]; exact hs.ok)) ho
theorem JQ.reslot {ops os : List Oper} {K : E → Prop} (s : Nat) {v : Value} (u : Value) [hs : Lk e s v] (h : v = u) (k : JQ P n w0 F ops os K ((s, u) :: e) Γ) : JQ P n w0 F ops os K e Γ :=
  fun a fr => k a (fr.again (by rw [← h]; exact hs.ok))

/-- A block's content, told in other words. -/
theorem JO.reown {bt : TypeId} {vs : List Value} {Δ : List Fact} (b : Nat) (vs' : List Value) [hO : Own Γ b bt vs Δ] (h : vs = vs') (k : JO P n w0 F ops i os Q e (.own b bt vs' :: Δ)) : JO P n w0 F ops i os Q e Γ :=
  JO.more (fun w ho => by rw [← h]; exact ho.perm hO.ok) k

/-- copy(x, y): x is a buffer of the call's own, as long as y. -/
theorem JR.copyBuf {x y : Operand} {v u : Value} {L M : List UInt8} {el ty ty2 : TypeId} {ed : TypeDesc} {sz by_ eb : Nat} {z ez : Value} {Δ : List Fact}
    [hx : Ev e x v] [hB : HasBuf Γ v UInt8 inferInstance el L Δ] [hy : Ev e y u] [hS : HasSl Γ u UInt8 inferInstance M] [hT : Ty P ty (.slice el) sz by_ z] [hE : Ty P el ed 1 eb ez]
    (hd : Nat.blt d n = true) (hl : L.length = M.length)
    (K : ∀ a c, v = .slice a M.length c → JO P n w0 F ops (i + 1) os Q ((d, .int .i64 (M.length : Int)) :: e) (.res (buf a c el M) :: Δ)) :
    JR P n w0 F ops i ⟨some d, .call ⟨.builtin .copy, #[x, y], #[ty, ty2]⟩, t, pos, aft, g⟩ os Q e Γ :=
  JR.value hd fun a w fr ho => by
    obtain ⟨a0, c0, rfl, hperm⟩ := hB.ok
    obtain ⟨a1, c1, rfl, hsl⟩ := hS.holds ho
    obtain ⟨ti, hti, hti1, _, _⟩ := hE.some
    have hsz : (P.info? el).map (·.size) = some 1 := by rw [hti]; simp [hti1]
    have hp := ho.perm hperm
    obtain ⟨h0, q, hq, hown, _⟩ : (buf a0 c0 el L).holds _ w := hp.sat (.res (buf a0 c0 el L)) (by simp)
    by_cases hM : M = []
    · subst hM
      have hL : L = [] := List.eq_nil_of_length_eq_zero (by simpa using hl)
      subst hL
      have hrun := run_copy_none (P := P) w ty ty2 t el a0 a1 0 c0 0 c1 hT.und hsz rfl
      refine ⟨_, w, _, ?_, hp, K a0 c0 rfl⟩
      simp [execOp, resolve_builtin, invoke, builtin, hx.ok n a fr, hy.ok n a fr] at hrun ⊢
      simp [hrun]
      rfl
    · have hsl' := sl_perm hsl hperm
      obtain ⟨b1, o1, rfl, hF, hlt, hrow⟩ := hsl'.2.2.2 hM
      rcases hown.2 with ⟨hv, hn⟩ | ⟨gb, cap, cur, hv, _, hg, hnc, hcm, hcs, htake⟩
      · exact (hM (List.eq_nil_of_length_eq_zero (by omega))).elim
      · injection hv with e1 e2 e3
        subst e1 e3
        have hsrc : ∀ j v, (M.map byteV)[j]? = some v → w.cell? ((⟨b1, o1, none⟩ : Addr).add j) = some v := by
          intro j v hv
          rw [List.getElem?_map] at hv
          cases hq' : M[j]? with
          | none => rw [hq'] at hv; cases hv
          | some q' =>
            rw [hq'] at hv
            obtain ⟨hjl, hju⟩ := List.getElem?_eq_some_iff.1 hq'
            injection hv with hv
            subst hv hju
            rw [Addr.add_mid]
            exact sl_byte hsl' j hjl
        have hone : ∀ v ∈ M.map byteV, v.oneCell' = true := one_bytes.ok
        have hcur : cur.size = c0 := by simpa [Cell.sz] using hcs
        have hrun := run_copy_row (P := P) w ty ty2 t el gb 0 L.length c0 ⟨b1, o1, none⟩ M.length c1 cur el (M.map byteV) hT.und hsz hg (by simp [hl]) hsrc (by simp; omega) hone
        refine ⟨.int .i64 (M.length : Int), w.setRow gb ((M.map byteV) ++ cur.toList.drop M.length).toArray, _, ?_, ?_, K (some ⟨gb, 0, none⟩) c0 (by rw [hl])⟩
        · simp [execOp, resolve_builtin, invoke, builtin, hx.ok n a fr, hy.ok n a fr] at hrun ⊢
          simp [hrun, goInt]
        · have howns : ∀ (X : List UInt8) k, (buf (some ⟨gb, 0, none⟩) c0 el X).owns k ↔ k = gb := by
            intro X k
            constructor
            · rintro ⟨a', ha', rfl⟩; injection ha' with ha'; subst ha'; rfl
            · rintro rfl; exact ⟨_, rfl, rfl⟩
          refine hp.swap (b := gb) (howns L) (howns M) rfl rfl rfl (by simp) (fun k hk => by simp only [World.setRow, Array.getElem?_modify]; rw [if_neg (by omega)]) ?_
          refine ⟨by rw [← hl]; exact h0, bytesIx M, map_bytes _, ⟨by rw [flat_bytes]; simp [Cell.sz], .inr ⟨gb, c0, _, rfl, Nat.zero_le _, setRow_heap w gb cur _ el _ hg, by omega, hcm, ?_, ?_⟩⟩, fun p hp A hA => by simp [Cell.facts] at hA⟩
          · simp [Cell.sz]; omega
          · rw [flat_bytes]
            simp [Cell.sz]
end
end Ab
end Go.Proofs.Ytcmfemfndadfmaa

/- Operations of a region that may come in any order, each of which makes something new: walked once. Program-independent. -/
namespace Go.Proofs.Ytcmfemfndadfmaa
namespace Ab
open Go Go.RowKit
set_option linter.unusedVariables false
set_option linter.unusedSimpArgs false

abbrev MkY := Option Addr × Nat
structure Mk where
  i : Nat
  d : Nat
  o : Oper
  v : MkY → Value
  B : MkY → List Fact

def doneWith : List Bool → Nat → List Nat → List Bool
  | [], _, _ => []
  | b :: r, k, T => (b || T.contains k) :: doneWith r (k + 1) T

theorem doneWith_set (i : Nat) (T : List Nat) : ∀ (done : List Bool) (k : Nat), (doneWith done k T).set i true = doneWith done k ((k + i) :: T) := by
  have key : ∀ (done : List Bool) (k i : Nat), i < k → doneWith done k (i :: T) = doneWith done k T := by
    intro done
    induction done with
    | nil => intro k i _; rfl
    | cons b r ih =>
      intro k i h
      simp only [doneWith, ih (k + 1) i (by omega), List.contains_cons]
      congr 2
      rw [show (k == i) = false by simp; omega]
      simp
  intro done
  induction done generalizing i with
  | nil => intro k; rfl
  | cons b r ih =>
    intro k
    cases i with
    | zero => simp [doneWith, key r (k + 1) k (by omega)]
    | succ i =>
      simp only [doneWith, List.set_cons_succ, ih i (k + 1), List.contains_cons]
      rw [show (k == k + (i + 1)) = false by simp, show k + 1 + i = k + (i + 1) by omega]
      simp
theorem doneWith_congr {T T' : List Nat} (h : ∀ k, k ∈ T ↔ k ∈ T') : ∀ (done : List Bool) (k : Nat), doneWith done k T = doneWith done k T'
  | [], _ => rfl
  | b :: r, k => by
    simp only [doneWith, doneWith_congr h r (k + 1)]
    congr 2
    rw [Bool.eq_iff_iff, List.contains_iff_mem, List.contains_iff_mem]
    exact h k
theorem doneWith_nil : ∀ (done : List Bool) (k : Nat), doneWith done k [] = done
  | [], _ => rfl
  | b :: r, k => by simp [doneWith, doneWith_nil r (k + 1)]

def subs : List Nat → List (List Nat)
  | [] => [[]]
  | a :: l => subs l ++ (subs l).map (a :: ·)
theorem filter_subs (p : Nat → Bool) : ∀ l : List Nat, l.filter p ∈ subs l
  | [] => by simp [subs]
  | a :: l => by
    have ih := filter_subs p l
    simp only [subs, List.filter_cons, List.mem_append, List.mem_map]
    split
    · exact .inr ⟨_, ih, rfl⟩
    · exact .inl ih
theorem beq_ne {d i : Nat} (h : d ≠ i) : Nat.beq d i = false := by
  rw [← Bool.not_eq_true]
  exact fun e => h (Nat.eq_of_beq_eq_true e)

/-- Whatever of the operations 'is' is done, just the others may come next. -/
def anyOrder (ops : List Oper) (done : List Bool) (m : Nat) (is : List Nat) : Bool :=
  is.all (fun i => Nat.blt i m) && decide is.Nodup && ((subs is).all fun T => (is.filter (fun i => !T.contains i)).isEmpty || (Region.ready .any ⟨ops⟩ ⟨doneWith done 0 T⟩) == is.filter (fun i => !T.contains i))
/-- The same, but that more may come when only operation s is left. -/
def anyOrderBut (ops : List Oper) (done : List Bool) (m s : Nat) (is : List Nat) : Bool :=
  is.all (fun i => Nat.blt i m) && decide is.Nodup && ((subs is).all fun T => (is.filter (fun i => !T.contains i) == [s]) || ((is.filter (fun i => !T.contains i)).isEmpty || (Region.ready .any ⟨ops⟩ ⟨doneWith done 0 T⟩) == is.filter (fun i => !T.contains i)))
def slotsOk (e : E) (n : Nat) : List Nat → Bool
  | [] => true
  | d :: r => (look e d).isNone && Nat.blt d n && !r.contains d && slotsOk e n r

def slotsOf (S : List (Mk × MkY)) : E := S.map (fun p => (p.1.d, p.1.v p.2))
def factsOf (S : List (Mk × MkY)) : List Fact := S.flatMap (fun p => p.1.B p.2)

theorem look_append {S e : E} {i : Nat} {u : Value} (h : look (S ++ e) i = some u) : (i, u) ∈ S ∨ look e i = some u := by
  induction S with
  | nil => exact .inr h
  | cons p S ih =>
    obtain ⟨d, v⟩ := p
    simp only [List.cons_append, look] at h
    cases hb : Nat.beq d i with
    | true =>
      rw [hb] at h
      simp only [cond_true, Option.some.injEq] at h
      have := Nat.eq_of_beq_eq_true hb
      subst this h
      exact .inl (by simp)
    | false =>
      rw [hb] at h
      rcases ih h with h | h
      · exact .inl (by simp [h])
      · exact .inr h
theorem look_of_mem {S e : E} (hn : (S.map (·.1)).Nodup) {i : Nat} {u : Value} (h : (i, u) ∈ S) : look (S ++ e) i = some u := by
  induction S with
  | nil => cases h
  | cons p S ih =>
    obtain ⟨d, v⟩ := p
    simp only [List.map_cons, List.nodup_cons] at hn
    simp only [List.cons_append, look]
    rcases List.mem_cons.1 h with h | h
    · injection h with h1 h2
      subst h1 h2
      simp
    · have : Nat.beq d i = false := beq_ne (fun e => hn.1 (by subst e; exact List.mem_map.2 ⟨_, h, rfl⟩))
      rw [this]
      exact ih hn.2 h
theorem look_fresh {S e : E} {i : Nat} {u : Value} (hS : ∀ p ∈ S, look e p.1 = none) (h : look e i = some u) : look (S ++ e) i = some u := by
  induction S with
  | nil => exact h
  | cons p S ih =>
    obtain ⟨d, v⟩ := p
    simp only [List.cons_append, look]
    have : Nat.beq d i = false := beq_ne (fun e' => by subst e'; have := hS (d, v) (by simp); rw [h] at this; cases this)
    rw [this]
    exact ih (fun p hp => hS p (by simp [hp]))

theorem Fr.rest {n : Nat} {S e : E} {a : Act} (h : Fr n (S ++ e) a) (hS : ∀ p ∈ S, look e p.1 = none) : Fr n e a :=
  ⟨h.defers, h.size, fun i u hu => h.slot i u (look_fresh hS hu)⟩
theorem Fr.swapS {n : Nat} {S S' e : E} {a : Act} (h : Fr n (S ++ e) a) (hS : ∀ p ∈ S, look e p.1 = none) (hn : (S.map (·.1)).Nodup) (hp : S.Perm S') : Fr n (S' ++ e) a :=
  ⟨h.defers, h.size, fun i u hu => by
    rcases look_append hu with hu | hu
    · exact h.slot i u (look_of_mem hn (hp.mem_iff.2 hu))
    · exact h.slot i u (look_fresh hS hu)⟩

theorem perm_lift {α β : Type} {f : α → β} {l l' : List β} (h : l.Perm l') : ∀ (S : List α), S.map f = l → ∃ S', S.Perm S' ∧ S'.map f = l' := by
  induction h with
  | nil => intro S hS; exact ⟨S, .refl _, hS⟩
  | cons x _ ih =>
    intro S hS
    cases S with
    | nil => cases hS
    | cons s S =>
      simp only [List.map_cons, List.cons.injEq] at hS
      obtain ⟨S', h1, h2⟩ := ih S hS.2
      exact ⟨s :: S', h1.cons s, by simp [hS.1, h2]⟩
  | swap x y l =>
    intro S hS
    match S, hS with
    | s :: s' :: S, hS =>
      simp only [List.map_cons, List.cons.injEq] at hS
      exact ⟨s' :: s :: S, List.Perm.swap _ _ _, by simp [hS]⟩
  | trans _ _ ih1 ih2 =>
    intro S hS
    obtain ⟨S', h1, h2⟩ := ih1 S hS
    obtain ⟨S2, h3, h4⟩ := ih2 S' h2
    exact ⟨S2, h1.trans h3, h4⟩
theorem factsOf_perm {S S' : List (Mk × MkY)} (h : S.Perm S') : (factsOf S).Perm (factsOf S') := by
  induction h with
  | nil => exact .refl _
  | cons x _ ih => exact List.Perm.append_left _ ih
  | swap x y l =>
    simp only [factsOf, List.flatMap_cons, ← List.append_assoc]
    exact List.Perm.append_right _ List.perm_append_comm
  | trans _ _ ih1 ih2 => exact ih1.trans ih2

section
variable {P : Program} {n : Nat} {w0 : World} {F : Nat → Prop} {ops : List Oper} {m fuel i d : Nat} {done done' : List Bool} {t : TypeId} {pos : String} {aft : Array Edge} {g : Option (Nat × Bool)} {Q : Cont} {e : E} {Γ : List Fact}

/-- What is asked of one of them. -/
def Mk.ok (P : Program) (n : Nat) (w0 : World) (F : Nat → Prop) (ops : List Oper) (e : E) (Γ : List Fact) (k : Mk) : Prop :=
  ops[k.i]? = some k.o ∧ k.o.guard = none ∧ k.o.dst = some k.d ∧
    ∀ X a w, Fr n e a → Hold w0 F (X ++ Γ) w → k.o.wp P a w (fun a' w' => Bel w.heap.size w w' ∧ ∃ y, a' = a.put (some k.d) (k.v y) ∧ Fresh w.heap.size (fp w0 F (X ++ Γ)) (k.B y) w') noExit

theorem slotsOk_spec {ds : List Nat} (h : slotsOk e n ds = true) : ds.Nodup ∧ ∀ d ∈ ds, look e d = none ∧ Nat.blt d n = true := by
  induction ds with
  | nil => exact ⟨List.nodup_nil, by simp⟩
  | cons d r ih =>
    simp only [slotsOk, Bool.and_eq_true, Bool.not_eq_true'] at h
    obtain ⟨⟨⟨h1, h2⟩, h3⟩, h4⟩ := h
    obtain ⟨h5, h6⟩ := ih h4
    refine ⟨List.nodup_cons.2 ⟨by simpa using h3, h5⟩, fun d' hd' => ?_⟩
    rcases List.mem_cons.1 hd' with rfl | hd'
    · exact ⟨by simpa using h1, h2⟩
    · exact h6 d' hd'

theorem JM.makers (ms : List Mk) (hms : ∀ k ∈ ms, k.ok P n w0 F ops e Γ) (hord : anyOrder ops done m (ms.map (·.i)) = true) (hsl : slotsOk e n (ms.map (·.d)) = true)
    (K : ∀ S : List (Mk × MkY), S.map (·.1) = ms → JM P n w0 F ops m fuel (doneWith done 0 (ms.map (·.i))) Q (slotsOf S ++ e) (factsOf S ++ Γ)) :
    JM P n w0 F ops m (fuel + ms.length) done Q e Γ := by
  obtain ⟨hnd, hfr⟩ := slotsOk_spec hsl
  simp only [anyOrder, Bool.and_eq_true, List.all_eq_true] at hord
  obtain ⟨⟨hm, hnodup⟩, hord⟩ := hord
  have hnodup : (ms.map (·.i)).Nodup := of_decide_eq_true hnodup
  have core : ∀ (rem : List Mk) (S : List (Mk × MkY)), (S.map (·.1) ++ rem).Perm ms →
      JM P n w0 F ops m (fuel + rem.length) (doneWith done 0 (S.map (·.1.i))) Q (slotsOf S ++ e) (factsOf S ++ Γ) := by
    intro rem
    induction hk : rem.length generalizing rem with
    | zero =>
      intro S hp
      have hr : rem = [] := List.eq_nil_of_length_eq_zero hk
      subst hr
      rw [List.append_nil] at hp
      obtain ⟨S', h1, h2⟩ := perm_lift hp S rfl
      have hdone : doneWith done 0 (S.map (·.1.i)) = doneWith done 0 (ms.map (·.i)) := doneWith_congr (fun k => by
        have h3 : (S.map (·.1.i)).Perm (ms.map (·.i)) := by
          have := hp.map (·.i)
          simpa [Function.comp_def] using this
        exact h3.mem_iff) _ _
      rw [hdone]
      have hK := K S' h2
      intro a w fr ho
      have hd1 : ((slotsOf S).map (·.1)).Perm (ms.map (·.d)) := by
        have := hp.map (·.d)
        simpa [slotsOf, Function.comp_def] using this
      refine hK a w (fr.swapS (fun p hp' => ?_) (hd1.nodup_iff.2 hnd) (h1.map _)) (ho.perm ((factsOf_perm h1).append_right Γ))
      exact (hfr p.1 (hd1.mem_iff.1 (List.mem_map_of_mem hp'))).1
    | succ r ih =>
      intro S hp
      rw [show fuel + (r + 1) = (fuel + r) + 1 by omega]
      have hmem : ∀ k, k ∈ S.map (·.1) ++ rem → k ∈ ms := fun k hk => hp.mem_iff.1 hk
      -- what may come next
      have hT : doneWith done 0 (S.map (·.1.i)) = doneWith done 0 ((ms.map (·.i)).filter (fun i => (S.map (·.1.i)).contains i)) := doneWith_congr (fun k => by
        simp only [List.mem_filter, List.contains_iff_mem]
        refine ⟨fun h => ⟨?_, h⟩, fun h => h.2⟩
        obtain ⟨p, hp', rfl⟩ := List.mem_map.1 h
        exact List.mem_map_of_mem (hmem p.1 (List.mem_append_left _ (List.mem_map_of_mem hp')))) _ _
      have hready := hord _ (filter_subs (fun i => (S.map (·.1.i)).contains i) (ms.map (·.i)))
      have hperm : (S.map (·.1.i) ++ rem.map (·.i)).Perm (ms.map (·.i)) := by
        have := hp.map (·.i)
        simpa [Function.comp_def] using this
      have hnot : ∀ k ∈ rem, k.i ∉ S.map (·.1.i) := fun k hk hS =>
        (List.nodup_append.1 (hperm.nodup_iff.2 hnodup)).2.2 _ hS _ (List.mem_map_of_mem hk) rfl
      have hmemr : ∀ i, i ∈ (ms.map (·.i)).filter (fun i => !((ms.map (·.i)).filter (fun i => (S.map (·.1.i)).contains i)).contains i) ↔ ∃ k ∈ rem, k.i = i := by
        intro i
        simp only [List.mem_filter, Bool.not_eq_true', List.contains_eq_mem, decide_eq_false_iff_not, decide_eq_true_eq]
        constructor
        · rintro ⟨h1, h2⟩
          obtain ⟨k, hk, rfl⟩ := List.mem_map.1 h1
          rcases List.mem_append.1 (hp.mem_iff.2 hk) with h | h
          · obtain ⟨p, hp', rfl⟩ := List.mem_map.1 h
            exact (h2 ⟨h1, List.mem_map_of_mem (f := fun p => p.1.i) hp'⟩).elim
          · exact ⟨k, h, rfl⟩
        · rintro ⟨k, hk, rfl⟩
          exact ⟨List.mem_map_of_mem (hmem k (List.mem_append_right _ hk)), fun h => hnot k hk h.2⟩
      have hready : Region.ready .any ⟨ops⟩ ⟨doneWith done 0 (S.map (·.1.i))⟩ = (ms.map (·.i)).filter (fun i => !((ms.map (·.i)).filter (fun i => (S.map (·.1.i)).contains i)).contains i) := by
        rw [hT]
        rw [Bool.or_eq_true] at hready
        rcases hready with h | h
        · exfalso
          have h1 := (hmemr _).2 ⟨rem.head (by intro h0; rw [h0] at hk; cases hk), List.head_mem _, rfl⟩
          rw [List.isEmpty_iff.1 h] at h1
          cases h1
        · exact eq_of_beq h
      refine JM.all hready ?_ fun i hi => ?_
      · cases rem with
        | nil => cases hk
        | cons k rem =>
          rw [← Bool.not_eq_true]
          intro hemp
          have h1 := (hmemr k.i).2 ⟨k, by simp, rfl⟩
          rw [List.isEmpty_iff.1 hemp] at h1
          cases h1
      · obtain ⟨k, hkr, rfl⟩ := (hmemr i).1 hi
        have hkm := hmem k (List.mem_append_right _ hkr)
        obtain ⟨h1, h2, h3, h4⟩ := hms k hkm
        refine ⟨Nat.blt_eq.mp (hm _ (List.mem_map_of_mem hkm)), k.o, h1, by rw [h2]; rfl, fun a w fr ho => ?_⟩
        obtain ⟨s, t, rfl⟩ := List.append_of_mem hkr
        have hSfr : ∀ p ∈ slotsOf S, look e p.1 = none := by
          intro p hp'
          obtain ⟨q, hq, rfl⟩ := List.mem_map.1 hp'
          exact (hfr q.1.d (List.mem_map_of_mem (hmem q.1 (List.mem_append_left _ (List.mem_map_of_mem hq))))).1
        refine Oper.wp_mono (fun a' w' h => ⟨h.1, ?_⟩) (h4 (factsOf S) a w (fr.rest hSfr) ho)
        obtain ⟨y, rfl, hfresh⟩ := h.2
        refine ⟨(k.d, k.v y) :: (slotsOf S ++ e), k.B y ++ (factsOf S ++ Γ), ?_, fr.put (hfr k.d (List.mem_map_of_mem hkm)).2 _, ho.call h.1 hfresh⟩
        have hih := ih (s ++ t) (by simp at hk ⊢; omega) ((k, y) :: S) (by
          refine List.Perm.trans ?_ hp
          simp only [List.map_cons, List.cons_append]
          rw [← List.append_assoc, ← List.append_assoc]
          exact List.perm_middle.symm)
        have hd : (doneWith done 0 (S.map (·.1.i))).set k.i true = doneWith done 0 (((k, y) :: S).map (·.1.i)) := by
          rw [doneWith_set, Nat.zero_add]; rfl
        rw [hd]
        simpa [slotsOf, factsOf] using hih
  have hc := core ms [] (by simp)
  simpa [doneWith_nil, slotsOf, factsOf] using hc
theorem JM.makersBut (s : Mk) (ms1 : List Mk) (hms : ∀ k ∈ s :: ms1, k.ok P n w0 F ops e Γ) (hord : anyOrderBut ops done m s.i ((s :: ms1).map (·.i)) = true) (hsl : slotsOk e n ((s :: ms1).map (·.d)) = true)
    (K : ∀ S : List (Mk × MkY), S.map (·.1) = s :: ms1 → JM P n w0 F ops m fuel (doneWith done 0 ((s :: ms1).map (·.i))) Q (slotsOf S ++ e) (factsOf S ++ Γ))
    (K2 : ∀ S : List (Mk × MkY), S.map (·.1) = ms1 → JM P n w0 F ops m (fuel + 1) (doneWith done 0 (ms1.map (·.i))) Q (slotsOf S ++ e) (factsOf S ++ Γ)) :
    JM P n w0 F ops m (fuel + (ms1.length + 1)) done Q e Γ := by
  obtain ⟨ms, hmsdef⟩ : ∃ ms, ms = s :: ms1 := ⟨_, rfl⟩
  rw [← hmsdef] at hms hord hsl K
  obtain ⟨hnd, hfr⟩ := slotsOk_spec hsl
  simp only [anyOrderBut, Bool.and_eq_true, List.all_eq_true] at hord
  obtain ⟨⟨hm, hnodup⟩, hord⟩ := hord
  have hnodup : (ms.map (·.i)).Nodup := of_decide_eq_true hnodup
  have core : ∀ (rem : List Mk) (S : List (Mk × MkY)), (S.map (·.1) ++ rem).Perm ms →
      JM P n w0 F ops m (fuel + rem.length) (doneWith done 0 (S.map (·.1.i))) Q (slotsOf S ++ e) (factsOf S ++ Γ) := by
    intro rem
    induction hk : rem.length generalizing rem with
    | zero =>
      intro S hp
      have hr : rem = [] := List.eq_nil_of_length_eq_zero hk
      subst hr
      rw [List.append_nil] at hp
      obtain ⟨S', h1, h2⟩ := perm_lift hp S rfl
      have hdone : doneWith done 0 (S.map (·.1.i)) = doneWith done 0 (ms.map (·.i)) := doneWith_congr (fun k => by
        have h3 : (S.map (·.1.i)).Perm (ms.map (·.i)) := by
          have := hp.map (·.i)
          simpa [Function.comp_def] using this
        exact h3.mem_iff) _ _
      rw [hdone]
      have hK := K S' h2
      intro a w fr ho
      have hd1 : ((slotsOf S).map (·.1)).Perm (ms.map (·.d)) := by
        have := hp.map (·.d)
        simpa [slotsOf, Function.comp_def] using this
      refine hK a w (fr.swapS (fun p hp' => ?_) (hd1.nodup_iff.2 hnd) (h1.map _)) (ho.perm ((factsOf_perm h1).append_right Γ))
      exact (hfr p.1 (hd1.mem_iff.1 (List.mem_map_of_mem hp'))).1
    | succ r ih =>
      intro S hp
      by_cases hlast : rem.map (·.i) = [s.i]
      · -- only the one that may stay behind is left
        obtain ⟨q, hq, hqi⟩ : ∃ q, rem = [q] ∧ q.i = s.i := by
          cases rem with
          | nil => cases hlast
          | cons q rem =>
            simp only [List.map_cons, List.cons.injEq, List.map_eq_nil_iff] at hlast
            exact ⟨q, by rw [hlast.2], hlast.1⟩
        subst hq
        have hqs : q = s := by
          have h1 : q ∈ ms := hp.mem_iff.1 (by simp)
          rw [hmsdef] at h1
          rcases List.mem_cons.1 h1 with h1 | h1
          · exact h1
          · rw [hmsdef] at hnodup
            simp only [List.map_cons, List.nodup_cons] at hnodup
            exact (hnodup.1 (by rw [← hqi]; exact List.mem_map_of_mem h1)).elim
        subst hqs
        have hp1 : (S.map (·.1)).Perm ms1 := by
          rw [hmsdef] at hp
          exact List.Perm.cons_inv ((List.perm_append_comm (l₁ := [q])).trans hp)
        obtain ⟨S', h1, h2⟩ := perm_lift hp1 S rfl
        have hr : r = 0 := by simpa using hk.symm
        subst hr
        have hdone : doneWith done 0 (S.map (·.1.i)) = doneWith done 0 (ms1.map (·.i)) := doneWith_congr (fun k => by
          have h3 : (S.map (·.1.i)).Perm (ms1.map (·.i)) := by
            have := hp1.map (·.i)
            simpa [Function.comp_def] using this
          exact h3.mem_iff) _ _
        rw [hdone]
        have hK := K2 S' h2
        intro a w fr ho
        have hd1 : ((slotsOf S).map (·.1)).Perm (ms1.map (·.d)) := by
          have := hp1.map (·.d)
          simpa [slotsOf, Function.comp_def] using this
        have hnd1 : (ms1.map (·.d)).Nodup := by
          rw [hmsdef] at hnd
          exact (List.nodup_cons.1 hnd).2
        refine hK a w (fr.swapS (fun p hp' => ?_) (hd1.nodup_iff.2 hnd1) (h1.map _)) (ho.perm ((factsOf_perm h1).append_right Γ))
        refine (hfr p.1 ?_).1
        rw [hmsdef]
        exact List.mem_cons_of_mem _ (hd1.mem_iff.1 (List.mem_map_of_mem hp'))
      rw [show fuel + (r + 1) = (fuel + r) + 1 by omega]
      have hmem : ∀ k, k ∈ S.map (·.1) ++ rem → k ∈ ms := fun k hk => hp.mem_iff.1 hk
      -- what may come next
      have hT : doneWith done 0 (S.map (·.1.i)) = doneWith done 0 ((ms.map (·.i)).filter (fun i => (S.map (·.1.i)).contains i)) := doneWith_congr (fun k => by
        simp only [List.mem_filter, List.contains_iff_mem]
        refine ⟨fun h => ⟨?_, h⟩, fun h => h.2⟩
        obtain ⟨p, hp', rfl⟩ := List.mem_map.1 h
        exact List.mem_map_of_mem (hmem p.1 (List.mem_append_left _ (List.mem_map_of_mem hp')))) _ _
      have hready := hord _ (filter_subs (fun i => (S.map (·.1.i)).contains i) (ms.map (·.i)))
      have hperm : (S.map (·.1.i) ++ rem.map (·.i)).Perm (ms.map (·.i)) := by
        have := hp.map (·.i)
        simpa [Function.comp_def] using this
      have hnot : ∀ k ∈ rem, k.i ∉ S.map (·.1.i) := fun k hk hS =>
        (List.nodup_append.1 (hperm.nodup_iff.2 hnodup)).2.2 _ hS _ (List.mem_map_of_mem hk) rfl
      have hmemr : ∀ i, i ∈ (ms.map (·.i)).filter (fun i => !((ms.map (·.i)).filter (fun i => (S.map (·.1.i)).contains i)).contains i) ↔ ∃ k ∈ rem, k.i = i := by
        intro i
        simp only [List.mem_filter, Bool.not_eq_true', List.contains_eq_mem, decide_eq_false_iff_not, decide_eq_true_eq]
        constructor
        · rintro ⟨h1, h2⟩
          obtain ⟨k, hk, rfl⟩ := List.mem_map.1 h1
          rcases List.mem_append.1 (hp.mem_iff.2 hk) with h | h
          · obtain ⟨p, hp', rfl⟩ := List.mem_map.1 h
            exact (h2 ⟨h1, List.mem_map_of_mem (f := fun p => p.1.i) hp'⟩).elim
          · exact ⟨k, h, rfl⟩
        · rintro ⟨k, hk, rfl⟩
          exact ⟨List.mem_map_of_mem (hmem k (List.mem_append_right _ hk)), fun h => hnot k hk h.2⟩
      have hready : Region.ready .any ⟨ops⟩ ⟨doneWith done 0 (S.map (·.1.i))⟩ = (ms.map (·.i)).filter (fun i => !((ms.map (·.i)).filter (fun i => (S.map (·.1.i)).contains i)).contains i) := by
        rw [hT]
        rw [Bool.or_eq_true] at hready
        rcases hready with h | h
        · exfalso
          have h := eq_of_beq h
          refine hlast ?_
          have hn2 : (rem.map (·.i)).Nodup := (List.nodup_append.1 (hperm.nodup_iff.2 hnodup)).2.1
          have h5 : ∀ i, i ∈ rem.map (·.i) ↔ i = s.i := fun i => by
            have := hmemr i
            rw [h] at this
            simp only [List.mem_singleton] at this
            rw [this, List.mem_map]
          revert hn2 h5
          generalize rem.map (·.i) = lr
          intro hn2 h5
          cases lr with
          | nil => exact absurd ((h5 s.i).2 rfl) (by simp)
          | cons x lr =>
            cases lr with
            | nil => rw [(h5 x).1 (by simp)]
            | cons y l =>
              have e1 := (h5 x).1 (by simp)
              have e2 := (h5 y).1 (by simp)
              rw [e1, e2] at hn2
              simp at hn2
        rw [Bool.or_eq_true] at h
        rcases h with h | h
        · exfalso
          have h1 := (hmemr _).2 ⟨rem.head (by intro h0; rw [h0] at hk; cases hk), List.head_mem _, rfl⟩
          rw [List.isEmpty_iff.1 h] at h1
          cases h1
        · exact eq_of_beq h
      refine JM.all hready ?_ fun i hi => ?_
      · cases rem with
        | nil => cases hk
        | cons k rem =>
          rw [← Bool.not_eq_true]
          intro hemp
          have h1 := (hmemr k.i).2 ⟨k, by simp, rfl⟩
          rw [List.isEmpty_iff.1 hemp] at h1
          cases h1
      · obtain ⟨k, hkr, rfl⟩ := (hmemr i).1 hi
        have hkm := hmem k (List.mem_append_right _ hkr)
        obtain ⟨h1, h2, h3, h4⟩ := hms k hkm
        refine ⟨Nat.blt_eq.mp (hm _ (List.mem_map_of_mem hkm)), k.o, h1, by rw [h2]; rfl, fun a w fr ho => ?_⟩
        obtain ⟨s, t, rfl⟩ := List.append_of_mem hkr
        have hSfr : ∀ p ∈ slotsOf S, look e p.1 = none := by
          intro p hp'
          obtain ⟨q, hq, rfl⟩ := List.mem_map.1 hp'
          exact (hfr q.1.d (List.mem_map_of_mem (hmem q.1 (List.mem_append_left _ (List.mem_map_of_mem hq))))).1
        refine Oper.wp_mono (fun a' w' h => ⟨h.1, ?_⟩) (h4 (factsOf S) a w (fr.rest hSfr) ho)
        obtain ⟨y, rfl, hfresh⟩ := h.2
        refine ⟨(k.d, k.v y) :: (slotsOf S ++ e), k.B y ++ (factsOf S ++ Γ), ?_, fr.put (hfr k.d (List.mem_map_of_mem hkm)).2 _, ho.call h.1 hfresh⟩
        have hih := ih (s ++ t) (by simp at hk ⊢; omega) ((k, y) :: S) (by
          refine List.Perm.trans ?_ hp
          simp only [List.map_cons, List.cons_append]
          rw [← List.append_assoc, ← List.append_assoc]
          exact List.perm_middle.symm)
        have hd : (doneWith done 0 (S.map (·.1.i))).set k.i true = doneWith done 0 (((k, y) :: S).map (·.1.i)) := by
          rw [doneWith_set, Nat.zero_add]; rfl
        rw [hd]
        simpa [slotsOf, factsOf] using hih
  have hc := core ms [] (by simp)
  rw [hmsdef] at hc
  simpa [doneWith_nil, slotsOf, factsOf] using hc
/-- An operation that leaves all as it is. -/
def Mk.val (i d : Nat) (o : Oper) (v : Value) : Mk := ⟨i, d, o, fun _ => v, fun _ => []⟩
theorem Mk.val_ok {i d : Nat} {op : Op} {v : Value} (hi : ops[i]? = some ⟨some d, op, t, pos, aft, none⟩) (h : OpV P n w0 F ⟨some d, op, t, pos, aft, none⟩ e Γ v) : (Mk.val i d ⟨some d, op, t, pos, aft, none⟩ v).ok P n w0 F ops e Γ :=
  ⟨hi, rfl, rfl, fun X a w fr ho => by
    show Oper.wp P ⟨some d, op, t, pos, aft, none⟩ a w _ _
    unfold Oper.wp
    rw [h a w fr ((ho.perm List.perm_append_comm).left)]
    exact ⟨Bel.refl _ _, (none, 0), rfl, by simp [Mk.val], by simp [Mk.val], by simp [Mk.val]⟩⟩

/-- An allocation. -/
def Mk.alloc (i d : Nat) (ty t : TypeId) (pos : String) (aft : Array Edge) (cs : List Value) : Mk :=
  ⟨i, d, ⟨some d, .alloc ty, t, pos, aft, none⟩, fun y => .pointer (some ⟨y.2, 0, none⟩), fun y => [.own y.2 ty cs]⟩
theorem Mk.alloc_ok {i d : Nat} {ty t : TypeId} {pos : String} {aft : Array Edge} {cs : List Value} {td : TypeDesc} {sz by_ : Nat} {z : Value} [hT : Ty P ty td sz by_ z] [hc : Cel z cs]
    (hi : ops[i]? = some ⟨some d, .alloc ty, t, pos, aft, none⟩) : (Mk.alloc i d ty t pos aft cs).ok P n w0 F ops e Γ :=
  ⟨hi, rfl, rfl, fun X a w fr ho => by
    have hrun : (execOp a.eval ⟨some d, .alloc ty, t, pos, aft, none⟩).run P w = .ok (.value (.pointer (some ⟨w.heap.size, 0, none⟩))) (w.alloc (.cells cs.toArray ty (0, 0))) := by
      simp only [execOp, Instr.alloc, Sem.run_bind, run_zero (P := P) (t := ty) w, Result.andThen_ok, newVar, newRow, cells_eq (v := z) (cs := cs), run_newObj, Sem.run_pure]
      rfl
    show Oper.wp P ⟨some d, .alloc ty, t, pos, aft, none⟩ a w _ _
    unfold Oper.wp
    rw [hrun]
    refine ⟨(Bel.refl _ _).alloc (Nat.le_refl _) _, (none, w.heap.size), rfl, ?_⟩
    refine ⟨fun f hf => ?_, by simp [Mk.alloc], fun f hf k hk => ?_⟩
    · simp only [Mk.alloc, List.mem_singleton] at hf; subst hf
      show (w.heap.push _)[w.heap.size]? = _
      simp
    · simp only [Mk.alloc, List.mem_singleton] at hf; subst hf
      have : k = w.heap.size := hk
      omega⟩
/-- A call that makes a buffer. -/
def Mk.buf {α : Type} [Cell α] (i d : Nat) (o : Oper) (el : TypeId) (L : List α) : Mk :=
  ⟨i, d, o, fun y => .slice y.1 L.length y.2, fun y => [.res (Ab.buf y.1 y.2 el L)]⟩
theorem Mk.buf_ok {α : Type} [Cell α] {i d : Nat} {el : TypeId} {L : List α} {f : Operand} {args : Array Operand} {ats : Array TypeId} {fid : FuncId} {caps vs us : List Value}
    [hf : Fun e f fid caps] [hv : ArgVs e args.toList vs] [hu : App vs caps us] [hb : Body P fid]
    (hi : ops[i]? = some ⟨some d, .call ⟨.value f, args, ats⟩, t, pos, aft, none⟩) (hg : ∀ w F', GivesBuf P fid us w F' el L) :
    (Mk.buf i d ⟨some d, .call ⟨.value f, args, ats⟩, t, pos, aft, none⟩ el L).ok P n w0 F ops e Γ :=
  ⟨hi, rfl, rfl, fun X a w fr ho => by
    show Oper.wp P ⟨some d, .call ⟨.value f, args, ats⟩, t, pos, aft, none⟩ a w _ _
    unfold Oper.wp
    rw [run_call fr hf hv hu hb]
    refine Calls.mono (hg w (fp w0 F (X ++ Γ))) ?_
    rintro x w' ⟨y, rfl, hbel, hfr⟩
    exact ⟨hbel, y, rfl, hfr⟩⟩

theorem fst_cons {S : List (Mk × MkY)} {k : Mk} {r : List Mk} (h : S.map (·.1) = k :: r) : ∃ y S', S = (k, y) :: S' ∧ S'.map (·.1) = r := by
  cases S with
  | nil => cases h
  | cons p S =>
    obtain ⟨k', y⟩ := p
    simp only [List.map_cons, List.cons.injEq] at h
    obtain ⟨rfl, h⟩ := h
    exact ⟨y, S, rfl, h⟩
theorem fst_nil {S : List (Mk × MkY)} (h : S.map (·.1) = []) : S = [] := by simpa using h

theorem JM.allocs3 {i1 i2 i3 d1 d2 d3 : Nat} {y1 y2 y3 t1 t2 t3 : TypeId} {p1 p2 p3 : String} {f1 f2 f3 : Array Edge} {c1 c2 c3 : List Value} {td1 td2 td3 : TypeDesc} {s1 s2 s3 b1 b2 b3 : Nat} {z1 z2 z3 : Value}
    [hT1 : Ty P y1 td1 s1 b1 z1] [hc1 : Cel z1 c1] [hT2 : Ty P y2 td2 s2 b2 z2] [hc2 : Cel z2 c2] [hT3 : Ty P y3 td3 s3 b3 z3] [hc3 : Cel z3 c3]
    (hi1 : ops[i1]? = some ⟨some d1, .alloc y1, t1, p1, f1, none⟩) (hi2 : ops[i2]? = some ⟨some d2, .alloc y2, t2, p2, f2, none⟩) (hi3 : ops[i3]? = some ⟨some d3, .alloc y3, t3, p3, f3, none⟩)
    (hord : anyOrder ops done m [i1, i2, i3] = true) (hsl : slotsOk e n [d1, d2, d3] = true) (hd : doneWith done 0 [i1, i2, i3] = done')
    (K : ∀ q1 q2 q3, JM P n w0 F ops m fuel done' Q ((d1, .pointer (some ⟨q1, 0, none⟩)) :: (d2, .pointer (some ⟨q2, 0, none⟩)) :: (d3, .pointer (some ⟨q3, 0, none⟩)) :: e) (.own q1 y1 c1 :: .own q2 y2 c2 :: .own q3 y3 c3 :: Γ)) :
    JM P n w0 F ops m (fuel + 1 + 1 + 1) done Q e Γ := by
  have key := JM.makers (P := P) (n := n) (w0 := w0) (F := F) (ops := ops) (m := m) (fuel := fuel) (done := done) (Q := Q) (e := e) (Γ := Γ) [Mk.alloc i1 d1 y1 t1 p1 f1 c1, Mk.alloc i2 d2 y2 t2 p2 f2 c2, Mk.alloc i3 d3 y3 t3 p3 f3 c3]
  simp only [List.map_cons, List.map_nil, Mk.alloc, List.length_cons, List.length_nil, Nat.zero_add] at key
  refine key ?_ hord hsl ?_
  · intro k hk
    simp only [List.mem_cons, List.not_mem_nil, or_false] at hk
    rcases hk with rfl | rfl | rfl
    · exact Mk.alloc_ok hi1
    · exact Mk.alloc_ok hi2
    · exact Mk.alloc_ok hi3
  · intro S hS
    obtain ⟨q1, S1, rfl, hS1⟩ := fst_cons hS
    obtain ⟨q2, S2, rfl, hS2⟩ := fst_cons hS1
    obtain ⟨q3, S3, rfl, hS3⟩ := fst_cons hS2
    obtain rfl := fst_nil hS3
    rw [hd]
    exact K q1.2 q2.2 q3.2

theorem JM.bufs4 {α : Type} [Cell α] {el : TypeId} {L1 L2 L3 L4 : List α} {i1 i2 i3 i4 d1 d2 d3 d4 : Nat} {t1 t2 t3 t4 : TypeId} {p1 p2 p3 p4 : String} {e1 e2 e3 e4 : Array Edge}
    {f1 f2 f3 f4 : Operand} {args1 args2 args3 args4 : Array Operand} {ats1 ats2 ats3 ats4 : Array TypeId} {fid1 fid2 fid3 fid4 : FuncId} {caps1 caps2 caps3 caps4 vs1 vs2 vs3 vs4 us1 us2 us3 us4 : List Value}
    (hi1 : ops[i1]? = some ⟨some d1, .call ⟨.value f1, args1, ats1⟩, t1, p1, e1, none⟩) (hi2 : ops[i2]? = some ⟨some d2, .call ⟨.value f2, args2, ats2⟩, t2, p2, e2, none⟩)
    (hi3 : ops[i3]? = some ⟨some d3, .call ⟨.value f3, args3, ats3⟩, t3, p3, e3, none⟩) (hi4 : ops[i4]? = some ⟨some d4, .call ⟨.value f4, args4, ats4⟩, t4, p4, e4, none⟩)
    [hf1 : Fun e f1 fid1 caps1] [hv1 : ArgVs e args1.toList vs1] [hu1 : App vs1 caps1 us1] [hb1 : Body P fid1]
    [hf2 : Fun e f2 fid2 caps2] [hv2 : ArgVs e args2.toList vs2] [hu2 : App vs2 caps2 us2] [hb2 : Body P fid2]
    [hf3 : Fun e f3 fid3 caps3] [hv3 : ArgVs e args3.toList vs3] [hu3 : App vs3 caps3 us3] [hb3 : Body P fid3]
    [hf4 : Fun e f4 fid4 caps4] [hv4 : ArgVs e args4.toList vs4] [hu4 : App vs4 caps4 us4] [hb4 : Body P fid4]
    (hg1 : ∀ w F', GivesBuf P fid1 us1 w F' el L1) (hg2 : ∀ w F', GivesBuf P fid2 us2 w F' el L2) (hg3 : ∀ w F', GivesBuf P fid3 us3 w F' el L3) (hg4 : ∀ w F', GivesBuf P fid4 us4 w F' el L4)
    (hord : anyOrder ops done m [i1, i2, i3, i4] = true) (hsl : slotsOk e n [d1, d2, d3, d4] = true) (hd : doneWith done 0 [i1, i2, i3, i4] = done')
    (K : ∀ a1 c1 a2 c2 a3 c3 a4 c4, JM P n w0 F ops m fuel done' Q ((d1, .slice a1 L1.length c1) :: (d2, .slice a2 L2.length c2) :: (d3, .slice a3 L3.length c3) :: (d4, .slice a4 L4.length c4) :: e)
      (.res (buf a1 c1 el L1) :: .res (buf a2 c2 el L2) :: .res (buf a3 c3 el L3) :: .res (buf a4 c4 el L4) :: Γ)) :
    JM P n w0 F ops m (fuel + 1 + 1 + 1 + 1) done Q e Γ := by
  have key := JM.makers (P := P) (n := n) (w0 := w0) (F := F) (ops := ops) (m := m) (fuel := fuel) (done := done) (Q := Q) (e := e) (Γ := Γ)
    [Mk.buf i1 d1 ⟨some d1, .call ⟨.value f1, args1, ats1⟩, t1, p1, e1, none⟩ el L1, Mk.buf i2 d2 ⟨some d2, .call ⟨.value f2, args2, ats2⟩, t2, p2, e2, none⟩ el L2,
     Mk.buf i3 d3 ⟨some d3, .call ⟨.value f3, args3, ats3⟩, t3, p3, e3, none⟩ el L3, Mk.buf i4 d4 ⟨some d4, .call ⟨.value f4, args4, ats4⟩, t4, p4, e4, none⟩ el L4]
  simp only [List.map_cons, List.map_nil, Mk.buf, List.length_cons, List.length_nil, Nat.zero_add] at key
  refine key ?_ hord hsl ?_
  · intro k hk
    simp only [List.mem_cons, List.not_mem_nil, or_false] at hk
    rcases hk with rfl | rfl | rfl | rfl
    · exact Mk.buf_ok hi1 hg1
    · exact Mk.buf_ok hi2 hg2
    · exact Mk.buf_ok hi3 hg3
    · exact Mk.buf_ok hi4 hg4
  · intro S hS
    obtain ⟨q1, S1, rfl, hS1⟩ := fst_cons hS
    obtain ⟨q2, S2, rfl, hS2⟩ := fst_cons hS1
    obtain ⟨q3, S3, rfl, hS3⟩ := fst_cons hS2
    obtain ⟨q4, S4, rfl, hS4⟩ := fst_cons hS3
    obtain rfl := fst_nil hS4
    rw [hd]
    exact K q1.1 q1.2 q2.1 q2.2 q3.1 q3.2 q4.1 q4.2
theorem JM.allocsBut {op : Op} {v : Value} {i0 i1 i2 i3 d0 d1 d2 d3 : Nat} {y1 y2 y3 t1 t2 t3 : TypeId} {p1 p2 p3 : String} {f1 f2 f3 : Array Edge} {c1 c2 c3 : List Value} {td1 td2 td3 : TypeDesc} {s1 s2 s3 b1 b2 b3 : Nat} {z1 z2 z3 : Value} {done2 : List Bool}
    (hi0 : ops[i0]? = some ⟨some d0, op, t, pos, aft, none⟩) (h0 : OpV P n w0 F ⟨some d0, op, t, pos, aft, none⟩ e Γ v)
    (hi1 : ops[i1]? = some ⟨some d1, .alloc y1, t1, p1, f1, none⟩) (hi2 : ops[i2]? = some ⟨some d2, .alloc y2, t2, p2, f2, none⟩) (hi3 : ops[i3]? = some ⟨some d3, .alloc y3, t3, p3, f3, none⟩)
    [hT1 : Ty P y1 td1 s1 b1 z1] [hc1 : Cel z1 c1] [hT2 : Ty P y2 td2 s2 b2 z2] [hc2 : Cel z2 c2] [hT3 : Ty P y3 td3 s3 b3 z3] [hc3 : Cel z3 c3]
    (hord : anyOrderBut ops done m i0 [i0, i1, i2, i3] = true) (hsl : slotsOk e n [d0, d1, d2, d3] = true) (hd : doneWith done 0 [i0, i1, i2, i3] = done') (hd2 : doneWith done 0 [i1, i2, i3] = done2)
    (K : ∀ q1 q2 q3, JM P n w0 F ops m fuel done' Q ((d0, v) :: (d1, .pointer (some ⟨q1, 0, none⟩)) :: (d2, .pointer (some ⟨q2, 0, none⟩)) :: (d3, .pointer (some ⟨q3, 0, none⟩)) :: e) (.own q1 y1 c1 :: .own q2 y2 c2 :: .own q3 y3 c3 :: Γ))
    (K2 : ∀ q1 q2 q3, JM P n w0 F ops m (fuel + 1) done2 Q ((d1, .pointer (some ⟨q1, 0, none⟩)) :: (d2, .pointer (some ⟨q2, 0, none⟩)) :: (d3, .pointer (some ⟨q3, 0, none⟩)) :: e) (.own q1 y1 c1 :: .own q2 y2 c2 :: .own q3 y3 c3 :: Γ)) :
    JM P n w0 F ops m (fuel + 1 + 1 + 1 + 1) done Q e Γ := by
  have key := JM.makersBut (P := P) (n := n) (w0 := w0) (F := F) (ops := ops) (m := m) (fuel := fuel) (done := done) (Q := Q) (e := e) (Γ := Γ) (Mk.val i0 d0 ⟨some d0, op, t, pos, aft, none⟩ v) [Mk.alloc i1 d1 y1 t1 p1 f1 c1, Mk.alloc i2 d2 y2 t2 p2 f2 c2, Mk.alloc i3 d3 y3 t3 p3 f3 c3]
  simp only [List.map_cons, List.map_nil, Mk.alloc, Mk.val, List.length_cons, List.length_nil, Nat.zero_add] at key
  refine key ?_ hord hsl ?_ ?_
  · intro k hk
    simp only [List.mem_cons, List.not_mem_nil, or_false] at hk
    rcases hk with rfl | rfl | rfl | rfl
    · exact Mk.val_ok hi0 h0
    · exact Mk.alloc_ok hi1
    · exact Mk.alloc_ok hi2
    · exact Mk.alloc_ok hi3
  · intro S hS
    obtain ⟨q0, S0, rfl, hS0⟩ := fst_cons hS
    obtain ⟨q1, S1, rfl, hS1⟩ := fst_cons hS0
    obtain ⟨q2, S2, rfl, hS2⟩ := fst_cons hS1
    obtain ⟨q3, S3, rfl, hS3⟩ := fst_cons hS2
    obtain rfl := fst_nil hS3
    rw [hd]
    exact K q1.2 q2.2 q3.2
  · intro S hS
    obtain ⟨q1, S1, rfl, hS1⟩ := fst_cons hS
    obtain ⟨q2, S2, rfl, hS2⟩ := fst_cons hS1
    obtain ⟨q3, S3, rfl, hS3⟩ := fst_cons hS2
    obtain rfl := fst_nil hS3
    rw [hd2]
    exact K2 q1.2 q2.2 q3.2
end
end Ab
end Go.Proofs.Ytcmfemfndadfmaa

/- append of the bytes of an array of the call's own. Program-independent. -/
namespace Go.Proofs.Ytcmfemfndadfmaa
namespace Ab
open Go Go.RowKit
set_option linter.unusedVariables false
set_option linter.unusedSimpArgs false
section
variable {P : Program} {n : Nat} {w0 : World} {F : Nat → Prop} {ops : Array Oper} {i d : Nat} {t : TypeId} {pos : String} {aft : Array Edge} {g : Option (Nat × Bool)} {os : List Oper} {Q : Cont} {e : E} {Γ : List Fact}

theorem appendBytes_run {x y : Operand} {v : Value} {L M : List UInt8} {el ty : TypeId} {ed : TypeDesc} {sz by_ es eb b o p m c1 : Nat} {z ez : Value} {ecs us : List Value} {Δ : List Fact} {a : Act} {w : World} {d : Option Nat}
    [hx : Ev e x v] [hB : HasBuf Γ v UInt8 inferInstance el L Δ] [hy : Ev e y (.slice (some ⟨b, o, none⟩) m c1)] [hA : At Γ b p us] [hT : Ty P ty (.slice el) sz by_ z] [hE : Ty P el ed es eb ez] [hz : Cel ez ecs]
    (hus : us = M.map byteV) (ho' : o = p) (hm : M.length = m) (hes : es = 1 ∧ ecs.length = es ∧ eb ≤ 4096) (hl : L.length + m ≤ 34359738368) (fr : Fr n e a) (ho : Hold w0 F Γ w) :
    ∃ a2 k2 w', (execOp a.eval ⟨d, .call ⟨.builtin .append, #[x, y], #[ty, ty]⟩, t, pos, aft, g⟩).run P w = .ok (.value (.slice a2 (L ++ M).length k2)) w' ∧ Hold w0 F (.res (buf a2 k2 el (L ++ M)) :: Δ) w' := by
  obtain ⟨a0, c0, rfl, hperm⟩ := hB.ok
  have hr := hA.ok w0 F w ho
  subst hus ho'
  obtain ⟨a2, k2, w', e1, e2⟩ := append_hold (P := P) (t := t) (ty := ty) (ad := ⟨b, o, none⟩) (m := m) (c1 := c1) (ho.perm hperm) (bytesIx M) (fun j u hu => by rw [Addr.add_mid]; rw [flat_bytes] at hu; exact hr j u hu)
    (flat_one _) (by rw [bytesIx_length, hm]) (fun p hp A hA => by simp [Cell.facts] at hA) hes hl
  rw [map_bytes] at e1 e2
  refine ⟨a2, k2, w', ?_, e2⟩
  simp [execOp, resolve_builtin, invoke, builtin, hx.ok n a fr, hy.ok n a fr] at e1 ⊢
  simp [e1]
/-- append(x, array[:]...) -/
theorem JR.appendBytes {x y : Operand} {v : Value} {L M : List UInt8} {el ty : TypeId} {ed : TypeDesc} {sz by_ es eb b o p m c1 : Nat} {z ez : Value} {ecs us : List Value} {Δ : List Fact}
    [hx : Ev e x v] [hB : HasBuf Γ v UInt8 inferInstance el L Δ] [hy : Ev e y (.slice (some ⟨b, o, none⟩) m c1)] [hA : At Γ b p us] [hT : Ty P ty (.slice el) sz by_ z] [hE : Ty P el ed es eb ez] [hz : Cel ez ecs]
    (hd : Nat.blt d n = true) (hus : us = M.map byteV) (ho' : o = p) (hm : M.length = m) (hes : es = 1 ∧ ecs.length = es ∧ eb ≤ 4096) (hl : L.length + m ≤ 34359738368)
    (K : ∀ a c, JO P n w0 F ops (i + 1) os Q ((d, .slice a (L ++ M).length c) :: e) (.res (buf a c el (L ++ M)) :: Δ)) :
    JR P n w0 F ops i ⟨some d, .call ⟨.builtin .append, #[x, y], #[ty, ty]⟩, t, pos, aft, g⟩ os Q e Γ :=
  JR.value hd fun a w fr ho => by
    obtain ⟨a2, k2, w', hr, hh⟩ := appendBytes_run (P := P) (x := x) (y := y) (b := b) (o := o) (us := us) (t := t) (pos := pos) (aft := aft) (g := g) (hT := hT) (hE := hE) (hz := hz) (d := some d) hus ho' hm hes hl fr ho
    exact ⟨_, _, _, hr, hh, K a2 k2⟩
theorem OpV.cap {x : Operand} {ty el : TypeId} {a0 : Option Addr} {m c sz by_ : Nat} {z : Value} {d : Option Nat} [hx : Ev e x (.slice a0 m c)] [hT : Ty P ty (.slice el) sz by_ z] :
    OpV P n w0 F ⟨d, .call ⟨.builtin .cap, #[x], #[ty]⟩, t, pos, aft, g⟩ e Γ (.int .i64 (c : Int)) :=
  fun a w fr _ => by
    have h1 := run_und (P := P) (t := ty) w
    simp [execOp, resolve_builtin, invoke, builtin, Builtin.cap_, hx.ok n a fr, h1, goInt]
/-- m[k], the text's simple form. -/
theorem OpV.lookupNo {K : Type} [DecidableEq K] {kv : K → Value} {x y : Operand} {ty kt el : TypeId} {ed : TypeDesc} {sz by_ b s2 b2 : Nat} {zz z v : Value} {M : List (K × Value)} (k : K) {d : Option Nat}
    [hT : Ty P ty (.map kt el) sz by_ zz] [hE : Ty P el ed s2 b2 z] [hK : MKey P kt kv] [hx : Ev e x (.map (some b))] [hy : Ev e y (kv k)] [hM : RdM Γ b (ents kv M) M.length]
    (hnd : (M.map (·.1)).Nodup) (h1 : (gotten M k).getD z = v) : OpV P n w0 F ⟨d, .lookup ty x y false, t, pos, aft, g⟩ e Γ v := by
  have := OpV.lookup_ (P := P) (n := n) (w0 := w0) (F := F) (t := t) (pos := pos) (aft := aft) (g := g) (e := e) (Γ := Γ) (x := x) (y := y) (ty := ty) (M := M) (k := k) (c := false) (d := d) hnd
  rw [h1] at this
  exact this
/-- A field of a struct's value. -/
theorem OpV.fieldV {x : Operand} {ty f : Nat} {u v : Value} {d : Option Nat} [hx : Ev e x u] (hv : ∀ w, (Instr.field ty u f).run P w = .ok v w) : OpV P n w0 F ⟨d, .field ty x f, t, pos, aft, g⟩ e Γ v :=
  fun a w fr _ => by simp [execOp, hx.ok n a fr, hv]
/-- One of three comes next. -/
theorem JM.three {ops : List Oper} {m fuel : Nat} {done : List Bool} {o o' o2 : Oper} {done1 done2 done3 : List Bool} (i j k : Nat) (hr : Region.ready .any ⟨ops⟩ ⟨done⟩ = [i, j, k]) (him : Nat.blt i m = true) (hjm : Nat.blt j m = true) (hkm : Nat.blt k m = true)
    (hi : ops[i]? = some o) (hj : ops[j]? = some o') (hk : ops[k]? = some o2) (hg : gtest ops e o.guard = some true) (hg' : gtest ops e o'.guard = some true) (hg2 : gtest ops e o2.guard = some true)
    (hd1 : done.set i true = done1) (hd2 : done.set j true = done2) (hd3 : done.set k true = done3)
    (h : JS P n w0 F o e Γ (JM P n w0 F ops m fuel done1 Q)) (h' : JS P n w0 F o' e Γ (JM P n w0 F ops m fuel done2 Q)) (h2 : JS P n w0 F o2 e Γ (JM P n w0 F ops m fuel done3 Q)) : JM P n w0 F ops m (fuel + 1) done Q e Γ :=
  JM.all hr rfl fun l hl => by
    simp only [List.mem_cons, List.not_mem_nil, or_false] at hl
    rcases hl with rfl | rfl | rfl
    · exact ⟨Nat.blt_eq.mp him, o, hi, hg, by rw [hd1]; exact h⟩
    · exact ⟨Nat.blt_eq.mp hjm, o', hj, hg', by rw [hd2]; exact h'⟩
    · exact ⟨Nat.blt_eq.mp hkm, o2, hk, hg2, by rw [hd3]; exact h2⟩
end
end Ab
end Go.Proofs.Ytcmfemfndadfmaa

/- A range over a function that keeps its state in one captured variable: the statement's law. Program-independent. -/
namespace Go.Proofs.Ytcmfemfndadfmaa
namespace Ab
open Go Go.RowKit
set_option linter.unusedVariables false

variable {F : Fence} {n : Nat} {P : Program}
set_option maxHeartbeats 1000000 in
theorem wpIn_rangeFunc_box {α : Type} {g : Operand} {ps : Array Tmp} {assign body : Code} {Q : Exit → Act → World → Prop} {a : Act} {w : World}
    (hro : F.round = none) (h1 : 1 ≤ n) {gf : Nat} {lb : Array Value} (hg : a.eval g = .func (.func gf) #[] lb) (hFg : F.fn gf) (eg : ∀ args w, (callFunc gf args).run P w = .ok (.enter gf args) w)
    {encs : α → Array Value} {xs : List α} {bx : Nat} {t : TypeId} {vx : Value}
    (hseq : ∀ (l : Nat) (J : List α → World → Prop), (∀ s W v, J s W → Boxed W bx t v → ∀ v', J s (W.setCell ⟨bx, 0, none⟩ v')) →
      (∀ pre x W v, pre ++ [x] <+: xs → J pre W → Boxed W bx t v → YieldAt F (n - 1 - 1) P l (encs x) W fun e W' => e = .returned (.bool true) ∧ J (pre ++ [x]) W' ∧ Boxed W' bx t v) →
      ∀ W, Boxed W bx t vx → J [] W → CallsIn F (n - 1) P gf (#[.func (.yield l) #[] #[]] ++ lb) W fun e W' => (∃ v, e = .returned v) ∧ J xs W')
    (hps : ∀ x, (encs x).size = ps.size) (hbx : Boxed w bx t vx)
    (I : List α → World → Prop) (hIp : ∀ s W k o o', I s W → w.heap.size ≤ k → W.heap[k]? = some o → o.isCells = false → I s (W.putObj k o')) (hIa : ∀ s W o, I s W → w.heap.size ≤ W.heap.size → I s (W.alloc o))
    (hIx : ∀ s W v, I s W → Boxed W bx t v → ∀ v', I s (W.setCell ⟨bx, 0, none⟩ v')) (h0 : I [] w) (a₁ : α → Act)
    (hassign : ∀ (l : Nat) (x : α) (W : World) (K : Act → World → Prop), K (a₁ x) W →
      assign.wpIn (F.inRound l) (n - 1 - 1) P (Exit.then K (fun _ _ _ => False)) { tmps := (ps.zip (encs x)).foldl (fun t (p, v) => t.setIfInBounds p v) a.tmps, defers := [] } W)
    (hbody : ∀ (l : Nat) (pre : List α) (x : α) (W : World) (v : Value), pre ++ [x] <+: xs → I pre W → Boxed W bx t v → w.heap.size ≤ W.heap.size → body.wpIn (F.inRound l) (n - 1 - 1) P (ownPostK (fun _ W' => Boxed W' bx t v) I (fun _ _ _ => False) (pre ++ [x]) W) (a₁ x) W)
    (hdone : ∀ (D : Nat) (W : World), I xs W → w.heap.size ≤ D → W.heap[D]? = some (.deferred (some [])) → Q .normal { a with defers := { target := .collected D, args := #[] } :: a.defers } W) :
    (Code.rangeFunc g ps assign body).wpIn F n P Q a w := by
  refine wpIn_rangeFunc ?_
  intro fn hfn
  rw [hro]
  obtain ⟨rec, hrec⟩ : ∃ rec : LoopState → Option Code → Loop, rec = fun st pe => { state := st, pending := pe, fn, tmps := a.tmps, params := ps, assign, body, defers := w.heap.size } := ⟨_, rfl⟩
  obtain ⟨W1, hW1⟩ : ∃ W1, (w.alloc (.deferred (some []))).alloc (.loop (rec .ready none)) = W1 := ⟨_, rfl⟩
  have hL1 : W1.heap[w.heap.size + 1]? = some (.loop (rec .ready none)) := by
    rw [← hW1]; have := World.alloc_heap_new (w.alloc (.deferred (some []))) (.loop (rec .ready none)); rwa [World.size_alloc] at this
  have hK1 : W1.heap[w.heap.size]? = some (.deferred (some [])) := by
    rw [← hW1]; exact (Below.heap_alloc _ _ _ (by simp)).trans (World.alloc_heap_new w _)
  have hI1 : I [] W1 := by rw [← hW1]; exact hIa _ _ _ (hIa _ _ _ h0 (Nat.le_refl _)) (by simp)
  have hbx1 : Boxed W1 bx t vx := by rw [← hW1]; exact (hbx.alloc _).alloc _
  have hblt : bx < w.heap.size := hbx.lt
  refine ⟨w.heap.size + 1, [{ target := .collected w.heap.size, args := #[] }], W1, { target := .fn (.func gf) lb, args := #[.func (.yield (w.heap.size + 1)) #[] #[]] }, W1, gf,
    #[.func (.yield (w.heap.size + 1)) #[] #[]] ++ lb, W1, ?_, ?_, ?_, ?_, fun _ => h1, ?_⟩
  · rw [← hW1, hrec]; exact run_enterLoop_outer _ _ _ _ _
  · simp only [resolve, hg]
    simp [go_sem]
  · intro f' hf'; simp [Target.leads] at hf'; subst hf'; exact hFg
  · simp [invoke, go_sem, eg]
  · have bput : ∀ (W : World) (k : Nat) (o o' : Obj) (v : Value), Boxed W bx t v → w.heap.size ≤ k → Boxed (W.putObj k o') bx t v := fun W k o o' v hb hk => (World.putObj_heap_other (by omega)).trans hb
    refine (hseq (w.heap.size + 1)
      (fun pre W => I pre W ∧ W.heap[w.heap.size + 1]? = some (.loop (rec .ready none)) ∧ W.heap[w.heap.size]? = some (.deferred (some [])))
      ?_ ?_ W1 hbx1 ⟨hI1, hL1, hK1⟩).mono ?_
    · rintro s W v ⟨hi, hl, hk⟩ hb v'
      exact ⟨hIx s W v hi hb v', (Below.heap_setCell W ⟨bx, 0, none⟩ v' _ (by simp; omega)).trans hl, (Below.heap_setCell W ⟨bx, 0, none⟩ v' _ (by simp; omega)).trans hk⟩
    · rintro pre x W v hpre ⟨hi, hl, hk⟩ hb
      have hlt : w.heap.size + 1 < W.heap.size := (Array.getElem?_eq_some_iff.1 hl).1
      have hy := run_yield (P := P) (args := encs x) hl (by rw [hrec]; exact hps x)
      rw [hrec] at hy
      refine ⟨fn, _, assign, body, hy, roundIn_of_wpIn hfn (hassign _ x W _ ⟨_, run_beginRound hl (by rw [hrec]), ?_⟩)⟩
      have hl2 : (W.putObj (w.heap.size + 1) (.loop { rec .ready none with state := .busy })).heap[w.heap.size + 1]? = some (.loop { rec .ready none with state := .busy }) := World.putObj_heap_same hlt
      have hk2 : (W.putObj (w.heap.size + 1) (.loop { rec .ready none with state := .busy })).heap[w.heap.size]? = some (.deferred (some [])) := (World.putObj_heap_other (by omega)).trans hk
      have hb2 : Boxed (W.putObj (w.heap.size + 1) (.loop { rec .ready none with state := .busy })) bx t v := bput _ _ (.loop (rec .ready none)) _ _ hb (by omega)
      refine wpIn_mono (hbody _ pre x _ v hpre (hIp _ _ _ _ _ hi (by omega) hl rfl) hb2 (by simp; omega)) ?_
      rintro e a3 W3 hp
      cases e with
      | normal =>
        obtain ⟨hk3, hb3, hi3⟩ := hp
        have hl3 := hk3.same _ _ hl2 rfl
        have hend := run_endRound (P := P) none hl3
        rw [hrec] at hend
        have hl4 : (W3.putObj (w.heap.size + 1) (.loop (rec .ready none))).heap[w.heap.size + 1]? = some (.loop (rec .ready none)) := World.putObj_heap_same (Array.getElem?_eq_some_iff.1 hl3).1
        refine ⟨_, _, hend, rfl, ⟨hIp _ _ _ _ _ hi3 (by omega) hl3 rfl, ?_, (World.putObj_heap_other (by omega)).trans (hk3.same _ _ hk2 rfl)⟩, bput _ _ (.loop (rec .ready none)) _ _ hb3 (by omega)⟩
        rw [hrec] at hl4 ⊢
        exact hl4
      | ret => exact hp.2.elim
      | exit id => exact hp.2.elim
      | goto t => exact hp.2.elim
      | panic ch => exact hp.elim
      | outgrown => exact hp.elim
    · rintro e W2 ⟨⟨v, rfl⟩, hi, hl, hk⟩
      exact ⟨none, _, by have := run_endLoop (P := P) hl (by rw [hrec]; simp); rw [hrec] at this; exact this, hdone _ _ (hIp _ _ _ _ _ hi (by omega) hl rfl) (Nat.le_refl _) ((World.putObj_heap_other (by omega)).trans hk)⟩
end Ab
end Go.Proofs.Ytcmfemfndadfmaa

/- What the table of types says, and which functions have a body: written by genseat.py for this seat. -/
namespace Go.Proofs.Ytcmfemfndadfmaa
namespace Ab
open Go
instance : Ty Try.prog 1 (TypeDesc.func #[] #[] false) 1 8 (.nilFunc) := ⟨Try.underlying1, by kernel_rfl⟩
instance : Ty Try.prog 2 (TypeDesc.int IntKind.i64) 1 8 (.int .i64 0) := ⟨Try.underlying2, by kernel_rfl⟩
instance : Ty Try.prog 3 (TypeDesc.int IntKind.i64) 1 8 (.int .i64 0) := ⟨Try.underlying3, by kernel_rfl⟩
instance : Ty Try.prog 4 (TypeDesc.bool) 1 1 (.bool false) := ⟨Try.underlying4, by kernel_rfl⟩
instance : Ty Try.prog 5 (TypeDesc.int IntKind.u8) 1 1 (.int .u8 0) := ⟨Try.underlying5, by kernel_rfl⟩
instance : Ty Try.prog 6 (TypeDesc.int IntKind.u8) 1 1 (.int .u8 0) := ⟨Try.underlying6, by kernel_rfl⟩
instance : Ty Try.prog 7 (TypeDesc.struct #[{ name := "x", type := 2, offset := 0, embedded := false, tag := "", pkgPath := "runtime", byteOffset := 0 }, { name := "y", type := 3, offset := 1, embedded := false, tag := "", pkgPath := "runtime", byteOffset := 8 }, { name := "signed", type := 4, offset := 2, embedded := false, tag := "", pkgPath := "runtime", byteOffset := 16 }, { name := "code", type := 6, offset := 3, embedded := false, tag := "", pkgPath := "runtime", byteOffset := 17 }]) 4 24 (.agg ⟨[.int .i64 0, .int .i64 0, .bool false, .int .u8 0]⟩) := ⟨Try.underlying7, by kernel_rfl⟩
instance : Ty Try.prog 8 (TypeDesc.struct #[{ name := "x", type := 2, offset := 0, embedded := false, tag := "", pkgPath := "runtime", byteOffset := 0 }, { name := "y", type := 3, offset := 1, embedded := false, tag := "", pkgPath := "runtime", byteOffset := 8 }, { name := "signed", type := 4, offset := 2, embedded := false, tag := "", pkgPath := "runtime", byteOffset := 16 }, { name := "code", type := 6, offset := 3, embedded := false, tag := "", pkgPath := "runtime", byteOffset := 17 }]) 4 24 (.agg ⟨[.int .i64 0, .int .i64 0, .bool false, .int .u8 0]⟩) := ⟨Try.underlying8, by kernel_rfl⟩
instance : Ty Try.prog 9 (TypeDesc.string) 1 16 (.string .empty) := ⟨Try.underlying9, by kernel_rfl⟩
instance : Ty Try.prog 10 (TypeDesc.string) 1 16 (.string .empty) := ⟨Try.underlying10, by kernel_rfl⟩
instance : Ty Try.prog 11 (TypeDesc.string) 1 16 (.string .empty) := ⟨Try.underlying11, by kernel_rfl⟩
instance : Ty Try.prog 12 (TypeDesc.int IntKind.u64) 1 8 (.int .u64 0) := ⟨Try.underlying12, by kernel_rfl⟩
instance : Ty Try.prog 13 (TypeDesc.struct #[{ name := "msg", type := 9, offset := 0, embedded := false, tag := "", pkgPath := "runtime", byteOffset := 0 }, { name := "addr", type := 12, offset := 1, embedded := false, tag := "", pkgPath := "runtime", byteOffset := 16 }]) 2 24 (.agg ⟨[.string .empty, .int .u64 0]⟩) := ⟨Try.underlying13, by kernel_rfl⟩
instance : Ty Try.prog 14 (TypeDesc.struct #[{ name := "msg", type := 9, offset := 0, embedded := false, tag := "", pkgPath := "runtime", byteOffset := 0 }, { name := "addr", type := 12, offset := 1, embedded := false, tag := "", pkgPath := "runtime", byteOffset := 16 }]) 2 24 (.agg ⟨[.string .empty, .int .u64 0]⟩) := ⟨Try.underlying14, by kernel_rfl⟩
instance : Ty Try.prog 15 (TypeDesc.pointer 146) 1 8 (.pointer none) := ⟨Try.underlying15, by kernel_rfl⟩
instance : Ty Try.prog 16 (TypeDesc.pointer 149) 1 8 (.pointer none) := ⟨Try.underlying16, by kernel_rfl⟩
instance : Ty Try.prog 17 (TypeDesc.pointer 158) 1 8 (.pointer none) := ⟨Try.underlying17, by kernel_rfl⟩
instance : Ty Try.prog 18 (TypeDesc.struct #[{ name := "typ", type := 17, offset := 0, embedded := false, tag := "", pkgPath := "internal/runtime/maps", byteOffset := 0 }]) 1 8 (.agg ⟨[.pointer none]⟩) := ⟨Try.underlying18, by kernel_rfl⟩
instance : Ty Try.prog 19 (TypeDesc.struct #[{ name := "typ", type := 17, offset := 0, embedded := false, tag := "", pkgPath := "internal/runtime/maps", byteOffset := 0 }]) 1 8 (.agg ⟨[.pointer none]⟩) := ⟨Try.underlying19, by kernel_rfl⟩
instance : Ty Try.prog 20 (TypeDesc.interface #[]) 1 16 (.nilIface) := ⟨Try.underlying20, by kernel_rfl⟩
instance : Ty Try.prog 21 (TypeDesc.int IntKind.i32) 1 4 (.int .i32 0) := ⟨Try.underlying21, by kernel_rfl⟩
instance : Ty Try.prog 22 (TypeDesc.slice 29) 1 24 (.slice none 0 0) := ⟨Try.underlying22, by kernel_rfl⟩
instance : Ty Try.prog 23 (TypeDesc.struct #[{ name := "Node", type := 3, offset := 0, embedded := false, tag := "", pkgPath := "", byteOffset := 0 }, { name := "Seq", type := 3, offset := 1, embedded := false, tag := "", pkgPath := "", byteOffset := 8 }]) 2 16 (.agg ⟨[.int .i64 0, .int .i64 0]⟩) := ⟨Try.underlying23, by kernel_rfl⟩
instance : Ty Try.prog 24 (TypeDesc.struct #[{ name := "Node", type := 3, offset := 0, embedded := false, tag := "", pkgPath := "", byteOffset := 0 }, { name := "Seq", type := 3, offset := 1, embedded := false, tag := "", pkgPath := "", byteOffset := 8 }]) 2 16 (.agg ⟨[.int .i64 0, .int .i64 0]⟩) := ⟨Try.underlying24, by kernel_rfl⟩
instance : Ty Try.prog 25 (TypeDesc.slice 44) 1 24 (.slice none 0 0) := ⟨Try.underlying25, by kernel_rfl⟩
instance : Ty Try.prog 26 (TypeDesc.struct #[{ name := "Kind", type := 3, offset := 0, embedded := false, tag := "", pkgPath := "", byteOffset := 0 }, { name := "Key", type := 9, offset := 1, embedded := false, tag := "", pkgPath := "", byteOffset := 8 }, { name := "Elem", type := 9, offset := 2, embedded := false, tag := "", pkgPath := "", byteOffset := 24 }, { name := "N", type := 3, offset := 3, embedded := false, tag := "", pkgPath := "", byteOffset := 40 }]) 4 48 (.agg ⟨[.int .i64 0, .string .empty, .string .empty, .int .i64 0]⟩) := ⟨Try.underlying26, by kernel_rfl⟩
instance : Ty Try.prog 27 (TypeDesc.struct #[{ name := "Kind", type := 3, offset := 0, embedded := false, tag := "", pkgPath := "", byteOffset := 0 }, { name := "Key", type := 9, offset := 1, embedded := false, tag := "", pkgPath := "", byteOffset := 8 }, { name := "Elem", type := 9, offset := 2, embedded := false, tag := "", pkgPath := "", byteOffset := 24 }, { name := "N", type := 3, offset := 3, embedded := false, tag := "", pkgPath := "", byteOffset := 40 }]) 4 48 (.agg ⟨[.int .i64 0, .string .empty, .string .empty, .int .i64 0]⟩) := ⟨Try.underlying27, by kernel_rfl⟩
instance : Ty Try.prog 28 (TypeDesc.struct #[{ name := "Ev", type := 24, offset := 0, embedded := false, tag := "", pkgPath := "", byteOffset := 0 }, { name := "Gen", type := 3, offset := 2, embedded := false, tag := "", pkgPath := "", byteOffset := 16 }, { name := "Parents", type := 25, offset := 3, embedded := false, tag := "", pkgPath := "", byteOffset := 24 }, { name := "Op", type := 27, offset := 4, embedded := false, tag := "", pkgPath := "", byteOffset := 48 }]) 8 96 (.agg ⟨[.int .i64 0, .int .i64 0, .int .i64 0, .slice none 0 0, .int .i64 0, .string .empty, .string .empty, .int .i64 0]⟩) := ⟨Try.underlying28, by kernel_rfl⟩
instance : Ty Try.prog 29 (TypeDesc.struct #[{ name := "Ev", type := 24, offset := 0, embedded := false, tag := "", pkgPath := "", byteOffset := 0 }, { name := "Gen", type := 3, offset := 2, embedded := false, tag := "", pkgPath := "", byteOffset := 16 }, { name := "Parents", type := 25, offset := 3, embedded := false, tag := "", pkgPath := "", byteOffset := 24 }, { name := "Op", type := 27, offset := 4, embedded := false, tag := "", pkgPath := "", byteOffset := 48 }]) 8 96 (.agg ⟨[.int .i64 0, .int .i64 0, .int .i64 0, .slice none 0 0, .int .i64 0, .string .empty, .string .empty, .int .i64 0]⟩) := ⟨Try.underlying29, by kernel_rfl⟩
instance : Ty Try.prog 30 (TypeDesc.func #[] #[4] false) 1 8 (.nilFunc) := ⟨Try.underlying30, by kernel_rfl⟩
instance : Ty Try.prog 31 (TypeDesc.func #[22, 3] #[4] false) 1 8 (.nilFunc) := ⟨Try.underlying31, by kernel_rfl⟩
instance : Ty Try.prog 32 (TypeDesc.func #[29] #[4] false) 1 8 (.nilFunc) := ⟨Try.underlying32, by kernel_rfl⟩
instance : Ty Try.prog 33 (TypeDesc.func #[22, 29] #[22] false) 1 8 (.nilFunc) := ⟨Try.underlying33, by kernel_rfl⟩
instance : Ty Try.prog 34 (TypeDesc.func #[29, 29] #[4] false) 1 8 (.nilFunc) := ⟨Try.underlying34, by kernel_rfl⟩
instance : Ty Try.prog 35 (TypeDesc.func #[22, 22] #[4] false) 1 8 (.nilFunc) := ⟨Try.underlying35, by kernel_rfl⟩
instance : Ty Try.prog 36 (TypeDesc.func #[22, 29] #[4] false) 1 8 (.nilFunc) := ⟨Try.underlying36, by kernel_rfl⟩
instance : Ty Try.prog 38 (TypeDesc.func #[22, 25] #[29, 22, 4] false) 1 8 (.nilFunc) := ⟨Try.underlying38, by kernel_rfl⟩
instance : Ty Try.prog 39 (TypeDesc.func #[25, 25] #[25] false) 1 8 (.nilFunc) := ⟨Try.underlying39, by kernel_rfl⟩
instance : Ty Try.prog 40 (TypeDesc.func #[22, 25] #[4] false) 1 8 (.nilFunc) := ⟨Try.underlying40, by kernel_rfl⟩
instance : Ty Try.prog 41 (TypeDesc.func #[22, 25] #[25] false) 1 8 (.nilFunc) := ⟨Try.underlying41, by kernel_rfl⟩
instance : Ty Try.prog 42 (TypeDesc.func #[22] #[4] false) 1 8 (.nilFunc) := ⟨Try.underlying42, by kernel_rfl⟩
instance : Ty Try.prog 43 (TypeDesc.array 32 5) 32 32 (.agg ⟨List.replicate 32 (.int .u8 0)⟩) := ⟨Try.underlying43, by kernel_rfl⟩
instance : Ty Try.prog 44 (TypeDesc.array 32 5) 32 32 (.agg ⟨List.replicate 32 (.int .u8 0)⟩) := ⟨Try.underlying44, by kernel_rfl⟩
instance : Ty Try.prog 45 (TypeDesc.int IntKind.i64) 1 8 (.int .i64 0) := ⟨Try.underlying45, by kernel_rfl⟩
instance : Ty Try.prog 47 (TypeDesc.func #[29] #[44, 45] false) 1 8 (.nilFunc) := ⟨Try.underlying47, by kernel_rfl⟩
instance : Ty Try.prog 48 (TypeDesc.func #[25, 44] #[4] false) 1 8 (.nilFunc) := ⟨Try.underlying48, by kernel_rfl⟩
instance : Ty Try.prog 49 (TypeDesc.func #[25] #[4] false) 1 8 (.nilFunc) := ⟨Try.underlying49, by kernel_rfl⟩
instance : Ty Try.prog 50 (TypeDesc.func #[22, 25, 44] #[4] false) 1 8 (.nilFunc) := ⟨Try.underlying50, by kernel_rfl⟩
instance : Ty Try.prog 51 (TypeDesc.func #[] #[22] false) 1 8 (.nilFunc) := ⟨Try.underlying51, by kernel_rfl⟩
instance : Ty Try.prog 52 (TypeDesc.func #[22, 32] #[4] false) 1 8 (.nilFunc) := ⟨Try.underlying52, by kernel_rfl⟩
instance : Ty Try.prog 53 (TypeDesc.func #[22] #[22] false) 1 8 (.nilFunc) := ⟨Try.underlying53, by kernel_rfl⟩
instance : Ty Try.prog 54 (TypeDesc.func #[25, 25] #[4] false) 1 8 (.nilFunc) := ⟨Try.underlying54, by kernel_rfl⟩
instance : Ty Try.prog 55 (TypeDesc.func #[3, 3, 3] #[4] false) 1 8 (.nilFunc) := ⟨Try.underlying55, by kernel_rfl⟩
instance : Ty Try.prog 56 (TypeDesc.func #[27] #[4] false) 1 8 (.nilFunc) := ⟨Try.underlying56, by kernel_rfl⟩
instance : Ty Try.prog 57 (TypeDesc.func #[22, 32] #[3] false) 1 8 (.nilFunc) := ⟨Try.underlying57, by kernel_rfl⟩
instance : Ty Try.prog 58 (TypeDesc.func #[22, 3, 3] #[22] false) 1 8 (.nilFunc) := ⟨Try.underlying58, by kernel_rfl⟩
instance : Ty Try.prog 59 (TypeDesc.func #[25, 25, 4] #[25] false) 1 8 (.nilFunc) := ⟨Try.underlying59, by kernel_rfl⟩
instance : Ty Try.prog 60 (TypeDesc.func #[25] #[25] false) 1 8 (.nilFunc) := ⟨Try.underlying60, by kernel_rfl⟩
instance : Ty Try.prog 61 (TypeDesc.slice 5) 1 24 (.slice none 0 0) := ⟨Try.underlying61, by kernel_rfl⟩
instance : Ty Try.prog 63 (TypeDesc.func #[29] #[61, 45] false) 1 8 (.nilFunc) := ⟨Try.underlying63, by kernel_rfl⟩
instance : Ty Try.prog 64 (TypeDesc.func #[61] #[44] false) 1 8 (.nilFunc) := ⟨Try.underlying64, by kernel_rfl⟩
instance : Ty Try.prog 65 (TypeDesc.func #[44, 44] #[4] false) 1 8 (.nilFunc) := ⟨Try.underlying65, by kernel_rfl⟩
instance : Ty Try.prog 66 (TypeDesc.func #[] #[29] false) 1 8 (.nilFunc) := ⟨Try.underlying66, by kernel_rfl⟩
instance : Ty Try.prog 67 (TypeDesc.func #[27] #[61] false) 1 8 (.nilFunc) := ⟨Try.underlying67, by kernel_rfl⟩
instance : Ty Try.prog 68 (TypeDesc.func #[95, 61] #[61, 4] false) 1 8 (.nilFunc) := ⟨Try.underlying68, by kernel_rfl⟩
instance : Ty Try.prog 69 (TypeDesc.struct #[{ name := "may", type := 56, offset := 0, embedded := false, tag := "", pkgPath := "anabranch/ops", byteOffset := 0 }, { name := "put", type := 67, offset := 1, embedded := false, tag := "", pkgPath := "anabranch/ops", byteOffset := 8 }, { name := "get", type := 68, offset := 2, embedded := false, tag := "", pkgPath := "anabranch/ops", byteOffset := 16 }]) 3 24 (.agg ⟨[.nilFunc, .nilFunc, .nilFunc]⟩) := ⟨Try.underlying69, by kernel_rfl⟩
instance : Ty Try.prog 70 (TypeDesc.struct #[{ name := "may", type := 56, offset := 0, embedded := false, tag := "", pkgPath := "anabranch/ops", byteOffset := 0 }, { name := "put", type := 67, offset := 1, embedded := false, tag := "", pkgPath := "anabranch/ops", byteOffset := 8 }, { name := "get", type := 68, offset := 2, embedded := false, tag := "", pkgPath := "anabranch/ops", byteOffset := 16 }]) 3 24 (.agg ⟨[.nilFunc, .nilFunc, .nilFunc]⟩) := ⟨Try.underlying70, by kernel_rfl⟩
instance : Ty Try.prog 72 (TypeDesc.map 3 70) 1 8 (.map none) := ⟨Try.underlying72, by kernel_rfl⟩
instance : Ty Try.prog 73 (TypeDesc.func #[] #[72] false) 1 8 (.nilFunc) := ⟨Try.underlying73, by kernel_rfl⟩
instance : Ty Try.prog 74 (TypeDesc.func #[9] #[4] false) 1 8 (.nilFunc) := ⟨Try.underlying74, by kernel_rfl⟩
instance : Ty Try.prog 75 (TypeDesc.map 44 4) 1 8 (.map none) := ⟨Try.underlying75, by kernel_rfl⟩
instance : Ty Try.prog 76 (TypeDesc.map 44 4) 1 8 (.map none) := ⟨Try.underlying76, by kernel_rfl⟩
instance : Ty Try.prog 77 (TypeDesc.func #[25] #[76] false) 1 8 (.nilFunc) := ⟨Try.underlying77, by kernel_rfl⟩
instance : Ty Try.prog 78 (TypeDesc.func #[] #[25] false) 1 8 (.nilFunc) := ⟨Try.underlying78, by kernel_rfl⟩
instance : Ty Try.prog 79 (TypeDesc.func #[104] #[61] true) 1 8 (.nilFunc) := ⟨Try.underlying79, by kernel_rfl⟩
instance : Ty Try.prog 80 (TypeDesc.func #[81] #[61] false) 1 8 (.nilFunc) := ⟨Try.underlying80, by kernel_rfl⟩
instance : Ty Try.prog 81 (TypeDesc.int IntKind.u64) 1 8 (.int .u64 0) := ⟨Try.underlying81, by kernel_rfl⟩
instance : Ty Try.prog 82 (TypeDesc.func #[3] #[81] false) 1 8 (.nilFunc) := ⟨Try.underlying82, by kernel_rfl⟩
instance : Ty Try.prog 83 (TypeDesc.func #[27] #[61, 45] false) 1 8 (.nilFunc) := ⟨Try.underlying83, by kernel_rfl⟩
instance : Ty Try.prog 84 (TypeDesc.int IntKind.u32) 1 4 (.int .u32 0) := ⟨Try.underlying84, by kernel_rfl⟩
instance : Ty Try.prog 85 (TypeDesc.array 8 84) 8 32 (.agg ⟨[.int .u32 0, .int .u32 0, .int .u32 0, .int .u32 0, .int .u32 0, .int .u32 0, .int .u32 0, .int .u32 0]⟩) := ⟨Try.underlying85, by kernel_rfl⟩
instance : Ty Try.prog 86 (TypeDesc.func #[] #[85] false) 1 8 (.nilFunc) := ⟨Try.underlying86, by kernel_rfl⟩
instance : Ty Try.prog 87 (TypeDesc.func #[61] #[61] false) 1 8 (.nilFunc) := ⟨Try.underlying87, by kernel_rfl⟩
instance : Ty Try.prog 89 (TypeDesc.func #[85, 61] #[85, 4] false) 1 8 (.nilFunc) := ⟨Try.underlying89, by kernel_rfl⟩
instance : Ty Try.prog 90 (TypeDesc.array 4 5) 4 4 (.agg ⟨[.int .u8 0, .int .u8 0, .int .u8 0, .int .u8 0]⟩) := ⟨Try.underlying90, by kernel_rfl⟩
instance : Ty Try.prog 91 (TypeDesc.func #[84] #[90] false) 1 8 (.nilFunc) := ⟨Try.underlying91, by kernel_rfl⟩
instance : Ty Try.prog 92 (TypeDesc.int IntKind.u64) 1 8 (.int .u64 0) := ⟨Try.underlying92, by kernel_rfl⟩
instance : Ty Try.prog 93 (TypeDesc.func #[25, 44] #[3] false) 1 8 (.nilFunc) := ⟨Try.underlying93, by kernel_rfl⟩
instance : Ty Try.prog 94 (TypeDesc.func #[44, 44] #[3] false) 1 8 (.nilFunc) := ⟨Try.underlying94, by kernel_rfl⟩
instance : Ty Try.prog 95 (TypeDesc.pointer 27) 1 8 (.pointer none) := ⟨Try.underlying95, by kernel_rfl⟩
instance : Ty Try.prog 97 (TypeDesc.func #[61] #[81, 3] false) 1 8 (.nilFunc) := ⟨Try.underlying97, by kernel_rfl⟩
instance : Ty Try.prog 98 (TypeDesc.func #[81] #[3] false) 1 8 (.nilFunc) := ⟨Try.underlying98, by kernel_rfl⟩
instance : Ty Try.prog 99 (TypeDesc.func #[9] #[61] false) 1 8 (.nilFunc) := ⟨Try.underlying99, by kernel_rfl⟩
instance : Ty Try.prog 101 (TypeDesc.func #[61, 3] #[9, 61, 4] false) 1 8 (.nilFunc) := ⟨Try.underlying101, by kernel_rfl⟩
instance : Ty Try.prog 102 (TypeDesc.func #[9, 5] #[3] false) 1 8 (.nilFunc) := ⟨Try.underlying102, by kernel_rfl⟩
instance : Ty Try.prog 103 (TypeDesc.func #[25, 94] #[] false) 1 8 (.nilFunc) := ⟨Try.underlying103, by kernel_rfl⟩
instance : Ty Try.prog 104 (TypeDesc.slice 61) 1 24 (.slice none 0 0) := ⟨Try.underlying104, by kernel_rfl⟩
instance : Ty Try.prog 105 (TypeDesc.func #[61, 3] #[61] false) 1 8 (.nilFunc) := ⟨Try.underlying105, by kernel_rfl⟩
instance : Ty Try.prog 106 (TypeDesc.func #[121] #[] false) 1 8 (.nilFunc) := ⟨Try.underlying106, by kernel_rfl⟩
instance : Ty Try.prog 107 (TypeDesc.func #[121] #[] false) 1 8 (.nilFunc) := ⟨Try.underlying107, by kernel_rfl⟩
instance : Ty Try.prog 108 (TypeDesc.func #[81] #[107] false) 1 8 (.nilFunc) := ⟨Try.underlying108, by kernel_rfl⟩
instance : Ty Try.prog 109 (TypeDesc.func #[104, 61] #[61] false) 1 8 (.nilFunc) := ⟨Try.underlying109, by kernel_rfl⟩
instance : Ty Try.prog 110 (TypeDesc.array 8 5) 8 8 (.agg ⟨[.int .u8 0, .int .u8 0, .int .u8 0, .int .u8 0, .int .u8 0, .int .u8 0, .int .u8 0, .int .u8 0]⟩) := ⟨Try.underlying110, by kernel_rfl⟩
instance : Ty Try.prog 111 (TypeDesc.func #[81] #[110] false) 1 8 (.nilFunc) := ⟨Try.underlying111, by kernel_rfl⟩
instance : Ty Try.prog 112 (TypeDesc.array 64 84) 64 256 (.agg ⟨List.replicate 64 (.int .u32 0)⟩) := ⟨Try.underlying112, by kernel_rfl⟩
instance : Ty Try.prog 113 (TypeDesc.func #[] #[112] false) 1 8 (.nilFunc) := ⟨Try.underlying113, by kernel_rfl⟩
instance : Ty Try.prog 114 (TypeDesc.func #[61] #[112] false) 1 8 (.nilFunc) := ⟨Try.underlying114, by kernel_rfl⟩
instance : Ty Try.prog 115 (TypeDesc.func #[84, 3, 3, 3] #[84] false) 1 8 (.nilFunc) := ⟨Try.underlying115, by kernel_rfl⟩
instance : Ty Try.prog 116 (TypeDesc.func #[84, 84, 84] #[84] false) 1 8 (.nilFunc) := ⟨Try.underlying116, by kernel_rfl⟩
instance : Ty Try.prog 117 (TypeDesc.slice 84) 1 24 (.slice none 0 0) := ⟨Try.underlying117, by kernel_rfl⟩
instance : Ty Try.prog 118 (TypeDesc.func #[61, 61] #[3] false) 1 8 (.nilFunc) := ⟨Try.underlying118, by kernel_rfl⟩
instance : Ty Try.prog 119 (TypeDesc.func #[25, 3, 3, 3, 94] #[] false) 1 8 (.nilFunc) := ⟨Try.underlying119, by kernel_rfl⟩
instance : Ty Try.prog 120 (TypeDesc.func #[92] #[3] false) 1 8 (.nilFunc) := ⟨Try.underlying120, by kernel_rfl⟩
instance : Ty Try.prog 121 (TypeDesc.func #[5] #[4] false) 1 8 (.nilFunc) := ⟨Try.underlying121, by kernel_rfl⟩
instance : Ty Try.prog 122 (TypeDesc.func #[3] #[61] false) 1 8 (.nilFunc) := ⟨Try.underlying122, by kernel_rfl⟩
instance : Ty Try.prog 124 (TypeDesc.func #[61, 3] #[84, 4] false) 1 8 (.nilFunc) := ⟨Try.underlying124, by kernel_rfl⟩
instance : Ty Try.prog 125 (TypeDesc.func #[84, 3] #[84] false) 1 8 (.nilFunc) := ⟨Try.underlying125, by kernel_rfl⟩
instance : Ty Try.prog 126 (TypeDesc.func #[25, 3, 3, 94] #[] false) 1 8 (.nilFunc) := ⟨Try.underlying126, by kernel_rfl⟩
instance : Ty Try.prog 127 (TypeDesc.int IntKind.i64) 1 8 (.int .i64 0) := ⟨Try.underlying127, by kernel_rfl⟩
instance : Ty Try.prog 129 (TypeDesc.func #[25, 3, 3, 94] #[3, 127] false) 1 8 (.nilFunc) := ⟨Try.underlying129, by kernel_rfl⟩
instance : Ty Try.prog 130 (TypeDesc.func #[25, 3, 3, 94] #[4] false) 1 8 (.nilFunc) := ⟨Try.underlying130, by kernel_rfl⟩
instance : Ty Try.prog 131 (TypeDesc.func #[25, 3, 3, 3, 94] #[3] false) 1 8 (.nilFunc) := ⟨Try.underlying131, by kernel_rfl⟩
instance : Ty Try.prog 133 (TypeDesc.func #[25, 3, 3, 3, 94] #[3, 4] false) 1 8 (.nilFunc) := ⟨Try.underlying133, by kernel_rfl⟩
instance : Ty Try.prog 134 (TypeDesc.func #[84] #[3] false) 1 8 (.nilFunc) := ⟨Try.underlying134, by kernel_rfl⟩
instance : Ty Try.prog 135 (TypeDesc.int IntKind.u64) 1 8 (.int .u64 0) := ⟨Try.underlying135, by kernel_rfl⟩
instance : Ty Try.prog 136 (TypeDesc.func #[3] #[92] false) 1 8 (.nilFunc) := ⟨Try.underlying136, by kernel_rfl⟩
instance : Ty Try.prog 137 (TypeDesc.func #[] #[81] false) 1 8 (.nilFunc) := ⟨Try.underlying137, by kernel_rfl⟩
instance : Ty Try.prog 138 (TypeDesc.func #[25, 3, 139, 94] #[3] false) 1 8 (.nilFunc) := ⟨Try.underlying138, by kernel_rfl⟩
instance : Ty Try.prog 139 (TypeDesc.pointer 3) 1 8 (.pointer none) := ⟨Try.underlying139, by kernel_rfl⟩
instance : Ty Try.prog 140 (TypeDesc.func #[25, 3, 3, 3, 139, 94] #[3] false) 1 8 (.nilFunc) := ⟨Try.underlying140, by kernel_rfl⟩
instance : Ty Try.prog 141 (TypeDesc.pointer 135) 1 8 (.pointer none) := ⟨Try.underlying141, by kernel_rfl⟩
instance : Ty Try.prog 143 (TypeDesc.func #[25, 3, 3, 139, 94] #[3, 3] false) 1 8 (.nilFunc) := ⟨Try.underlying143, by kernel_rfl⟩
instance : Ty Try.prog 144 (TypeDesc.func #[] #[9] false) 1 8 (.nilFunc) := ⟨Try.underlying144, by kernel_rfl⟩
instance : Ty Try.prog 145 (TypeDesc.struct #[{ name := "_interface", type := 17, offset := 0, embedded := false, tag := "", pkgPath := "runtime", byteOffset := 0 }, { name := "concrete", type := 17, offset := 1, embedded := false, tag := "", pkgPath := "runtime", byteOffset := 8 }, { name := "asserted", type := 17, offset := 2, embedded := false, tag := "", pkgPath := "runtime", byteOffset := 16 }, { name := "missingMethod", type := 9, offset := 3, embedded := false, tag := "", pkgPath := "runtime", byteOffset := 24 }]) 4 40 (.agg ⟨[.pointer none, .pointer none, .pointer none, .string .empty]⟩) := ⟨Try.underlying145, by kernel_rfl⟩
instance : Ty Try.prog 146 (TypeDesc.struct #[{ name := "_interface", type := 17, offset := 0, embedded := false, tag := "", pkgPath := "runtime", byteOffset := 0 }, { name := "concrete", type := 17, offset := 1, embedded := false, tag := "", pkgPath := "runtime", byteOffset := 8 }, { name := "asserted", type := 17, offset := 2, embedded := false, tag := "", pkgPath := "runtime", byteOffset := 16 }, { name := "missingMethod", type := 9, offset := 3, embedded := false, tag := "", pkgPath := "runtime", byteOffset := 24 }]) 4 40 (.agg ⟨[.pointer none, .pointer none, .pointer none, .string .empty]⟩) := ⟨Try.underlying146, by kernel_rfl⟩
instance : Ty Try.prog 147 (TypeDesc.array 0 16) 0 0 (.agg ⟨[]⟩) := ⟨Try.underlying147, by kernel_rfl⟩
instance : Ty Try.prog 148 (TypeDesc.struct #[{ name := "_", type := 147, offset := 0, embedded := false, tag := "", pkgPath := "runtime", byteOffset := 0 }]) 0 0 (.agg ⟨[]⟩) := ⟨Try.underlying148, by kernel_rfl⟩
instance : Ty Try.prog 149 (TypeDesc.struct #[{ name := "_", type := 147, offset := 0, embedded := false, tag := "", pkgPath := "runtime", byteOffset := 0 }]) 0 0 (.agg ⟨[]⟩) := ⟨Try.underlying149, by kernel_rfl⟩
instance : Ty Try.prog 150 (TypeDesc.func #[] #[3] false) 1 8 (.nilFunc) := ⟨Try.underlying150, by kernel_rfl⟩
instance : Ty Try.prog 151 (TypeDesc.int IntKind.u8) 1 1 (.int .u8 0) := ⟨Try.underlying151, by kernel_rfl⟩
instance : Ty Try.prog 152 (TypeDesc.int IntKind.u8) 1 1 (.int .u8 0) := ⟨Try.underlying152, by kernel_rfl⟩
instance : Ty Try.prog 153 (TypeDesc.func #[159, 159] #[4] false) 1 8 (.nilFunc) := ⟨Try.underlying153, by kernel_rfl⟩
instance : Ty Try.prog 154 (TypeDesc.pointer 5) 1 8 (.pointer none) := ⟨Try.underlying154, by kernel_rfl⟩
instance : Ty Try.prog 155 (TypeDesc.int IntKind.i32) 1 4 (.int .i32 0) := ⟨Try.underlying155, by kernel_rfl⟩
instance : Ty Try.prog 156 (TypeDesc.int IntKind.i32) 1 4 (.int .i32 0) := ⟨Try.underlying156, by kernel_rfl⟩
instance : Ty Try.prog 157 (TypeDesc.struct #[{ name := "Size_", type := 12, offset := 0, embedded := false, tag := "", pkgPath := "", byteOffset := 0 }, { name := "PtrBytes", type := 12, offset := 1, embedded := false, tag := "", pkgPath := "", byteOffset := 8 }, { name := "Hash", type := 84, offset := 2, embedded := false, tag := "", pkgPath := "", byteOffset := 16 }, { name := "TFlag", type := 151, offset := 3, embedded := false, tag := "", pkgPath := "", byteOffset := 20 }, { name := "Align_", type := 5, offset := 4, embedded := false, tag := "", pkgPath := "", byteOffset := 21 }, { name := "FieldAlign_", type := 5, offset := 5, embedded := false, tag := "", pkgPath := "", byteOffset := 22 }, { name := "Kind_", type := 152, offset := 6, embedded := false, tag := "", pkgPath := "", byteOffset := 23 }, { name := "Equal", type := 153, offset := 7, embedded := false, tag := "", pkgPath := "", byteOffset := 24 }, { name := "GCData", type := 154, offset := 8, embedded := false, tag := "", pkgPath := "", byteOffset := 32 }, { name := "Str", type := 155, offset := 9, embedded := false, tag := "", pkgPath := "", byteOffset := 40 }, { name := "PtrToThis", type := 156, offset := 10, embedded := false, tag := "", pkgPath := "", byteOffset := 44 }]) 11 48 (.agg ⟨[.int .u64 0, .int .u64 0, .int .u32 0, .int .u8 0, .int .u8 0, .int .u8 0, .int .u8 0, .nilFunc, .pointer none, .int .i32 0, .int .i32 0]⟩) := ⟨Try.underlying157, by kernel_rfl⟩
instance : Ty Try.prog 158 (TypeDesc.struct #[{ name := "Size_", type := 12, offset := 0, embedded := false, tag := "", pkgPath := "", byteOffset := 0 }, { name := "PtrBytes", type := 12, offset := 1, embedded := false, tag := "", pkgPath := "", byteOffset := 8 }, { name := "Hash", type := 84, offset := 2, embedded := false, tag := "", pkgPath := "", byteOffset := 16 }, { name := "TFlag", type := 151, offset := 3, embedded := false, tag := "", pkgPath := "", byteOffset := 20 }, { name := "Align_", type := 5, offset := 4, embedded := false, tag := "", pkgPath := "", byteOffset := 21 }, { name := "FieldAlign_", type := 5, offset := 5, embedded := false, tag := "", pkgPath := "", byteOffset := 22 }, { name := "Kind_", type := 152, offset := 6, embedded := false, tag := "", pkgPath := "", byteOffset := 23 }, { name := "Equal", type := 153, offset := 7, embedded := false, tag := "", pkgPath := "", byteOffset := 24 }, { name := "GCData", type := 154, offset := 8, embedded := false, tag := "", pkgPath := "", byteOffset := 32 }, { name := "Str", type := 155, offset := 9, embedded := false, tag := "", pkgPath := "", byteOffset := 40 }, { name := "PtrToThis", type := 156, offset := 10, embedded := false, tag := "", pkgPath := "", byteOffset := 44 }]) 11 48 (.agg ⟨[.int .u64 0, .int .u64 0, .int .u32 0, .int .u8 0, .int .u8 0, .int .u8 0, .int .u8 0, .nilFunc, .pointer none, .int .i32 0, .int .i32 0]⟩) := ⟨Try.underlying158, by kernel_rfl⟩
instance : Ty Try.prog 159 (TypeDesc.unsafePointer) 1 8 (.pointer none) := ⟨Try.underlying159, by kernel_rfl⟩
instance : Fld Try.prog 7 0 0 := Fld.mk' (ft := 2) rfl rfl
instance : Fld Try.prog 7 1 1 := Fld.mk' (ft := 3) rfl rfl
instance : Fld Try.prog 7 2 2 := Fld.mk' (ft := 4) rfl rfl
instance : Fld Try.prog 7 3 3 := Fld.mk' (ft := 6) rfl rfl
instance : Fld Try.prog 8 0 0 := Fld.mk' (ft := 2) rfl rfl
instance : Fld Try.prog 8 1 1 := Fld.mk' (ft := 3) rfl rfl
instance : Fld Try.prog 8 2 2 := Fld.mk' (ft := 4) rfl rfl
instance : Fld Try.prog 8 3 3 := Fld.mk' (ft := 6) rfl rfl
instance : Fld Try.prog 13 0 0 := Fld.mk' (ft := 9) rfl rfl
instance : Fld Try.prog 13 1 1 := Fld.mk' (ft := 12) rfl rfl
instance : Fld Try.prog 14 0 0 := Fld.mk' (ft := 9) rfl rfl
instance : Fld Try.prog 14 1 1 := Fld.mk' (ft := 12) rfl rfl
instance : Fld Try.prog 18 0 0 := Fld.mk' (ft := 17) rfl rfl
instance : Fld Try.prog 19 0 0 := Fld.mk' (ft := 17) rfl rfl
instance : Fld Try.prog 23 0 0 := Fld.mk' (ft := 3) rfl rfl
instance : Fld Try.prog 23 1 1 := Fld.mk' (ft := 3) rfl rfl
instance : Fld Try.prog 24 0 0 := Fld.mk' (ft := 3) rfl rfl
instance : Fld Try.prog 24 1 1 := Fld.mk' (ft := 3) rfl rfl
instance : Fld Try.prog 26 0 0 := Fld.mk' (ft := 3) rfl rfl
instance : Fld Try.prog 26 1 1 := Fld.mk' (ft := 9) rfl rfl
instance : Fld Try.prog 26 2 2 := Fld.mk' (ft := 9) rfl rfl
instance : Fld Try.prog 26 3 3 := Fld.mk' (ft := 3) rfl rfl
instance : Fld Try.prog 27 0 0 := Fld.mk' (ft := 3) rfl rfl
instance : Fld Try.prog 27 1 1 := Fld.mk' (ft := 9) rfl rfl
instance : Fld Try.prog 27 2 2 := Fld.mk' (ft := 9) rfl rfl
instance : Fld Try.prog 27 3 3 := Fld.mk' (ft := 3) rfl rfl
instance : Fld Try.prog 28 0 0 := Fld.mk' (ft := 24) rfl rfl
instance : Fld Try.prog 28 1 2 := Fld.mk' (ft := 3) rfl rfl
instance : Fld Try.prog 28 2 3 := Fld.mk' (ft := 25) rfl rfl
instance : Fld Try.prog 28 3 4 := Fld.mk' (ft := 27) rfl rfl
instance : Fld Try.prog 29 0 0 := Fld.mk' (ft := 24) rfl rfl
instance : Fld Try.prog 29 1 2 := Fld.mk' (ft := 3) rfl rfl
instance : Fld Try.prog 29 2 3 := Fld.mk' (ft := 25) rfl rfl
instance : Fld Try.prog 29 3 4 := Fld.mk' (ft := 27) rfl rfl
instance : Fld Try.prog 69 0 0 := Fld.mk' (ft := 56) rfl rfl
instance : Fld Try.prog 69 1 1 := Fld.mk' (ft := 67) rfl rfl
instance : Fld Try.prog 69 2 2 := Fld.mk' (ft := 68) rfl rfl
instance : Fld Try.prog 70 0 0 := Fld.mk' (ft := 56) rfl rfl
instance : Fld Try.prog 70 1 1 := Fld.mk' (ft := 67) rfl rfl
instance : Fld Try.prog 70 2 2 := Fld.mk' (ft := 68) rfl rfl
instance : Fld Try.prog 145 0 0 := Fld.mk' (ft := 17) rfl rfl
instance : Fld Try.prog 145 1 1 := Fld.mk' (ft := 17) rfl rfl
instance : Fld Try.prog 145 2 2 := Fld.mk' (ft := 17) rfl rfl
instance : Fld Try.prog 145 3 3 := Fld.mk' (ft := 9) rfl rfl
instance : Fld Try.prog 146 0 0 := Fld.mk' (ft := 17) rfl rfl
instance : Fld Try.prog 146 1 1 := Fld.mk' (ft := 17) rfl rfl
instance : Fld Try.prog 146 2 2 := Fld.mk' (ft := 17) rfl rfl
instance : Fld Try.prog 146 3 3 := Fld.mk' (ft := 9) rfl rfl
instance : Fld Try.prog 157 0 0 := Fld.mk' (ft := 12) rfl rfl
instance : Fld Try.prog 157 1 1 := Fld.mk' (ft := 12) rfl rfl
instance : Fld Try.prog 157 2 2 := Fld.mk' (ft := 84) rfl rfl
instance : Fld Try.prog 157 3 3 := Fld.mk' (ft := 151) rfl rfl
instance : Fld Try.prog 157 4 4 := Fld.mk' (ft := 5) rfl rfl
instance : Fld Try.prog 157 5 5 := Fld.mk' (ft := 5) rfl rfl
instance : Fld Try.prog 157 6 6 := Fld.mk' (ft := 152) rfl rfl
instance : Fld Try.prog 157 7 7 := Fld.mk' (ft := 153) rfl rfl
instance : Fld Try.prog 157 8 8 := Fld.mk' (ft := 154) rfl rfl
instance : Fld Try.prog 157 9 9 := Fld.mk' (ft := 155) rfl rfl
instance : Fld Try.prog 157 10 10 := Fld.mk' (ft := 156) rfl rfl
instance : Fld Try.prog 158 0 0 := Fld.mk' (ft := 12) rfl rfl
instance : Fld Try.prog 158 1 1 := Fld.mk' (ft := 12) rfl rfl
instance : Fld Try.prog 158 2 2 := Fld.mk' (ft := 84) rfl rfl
instance : Fld Try.prog 158 3 3 := Fld.mk' (ft := 151) rfl rfl
instance : Fld Try.prog 158 4 4 := Fld.mk' (ft := 5) rfl rfl
instance : Fld Try.prog 158 5 5 := Fld.mk' (ft := 5) rfl rfl
instance : Fld Try.prog 158 6 6 := Fld.mk' (ft := 152) rfl rfl
instance : Fld Try.prog 158 7 7 := Fld.mk' (ft := 153) rfl rfl
instance : Fld Try.prog 158 8 8 := Fld.mk' (ft := 154) rfl rfl
instance : Fld Try.prog 158 9 9 := Fld.mk' (ft := 155) rfl rfl
instance : Fld Try.prog 158 10 10 := Fld.mk' (ft := 156) rfl rfl
instance : Plain Try.prog 24 := ⟨by kernel_rfl, by kernel_rfl⟩
instance : Plain Try.prog 27 := ⟨by kernel_rfl, by kernel_rfl⟩
instance : Plain Try.prog 29 := ⟨by kernel_rfl, by kernel_rfl⟩
instance : Plain Try.prog 43 := ⟨by kernel_rfl, by kernel_rfl⟩
instance : Plain Try.prog 44 := ⟨by kernel_rfl, by kernel_rfl⟩
instance : Plain Try.prog 70 := ⟨by kernel_rfl, by kernel_rfl⟩
instance : Plain Try.prog 85 := ⟨by kernel_rfl, by kernel_rfl⟩
instance : Plain Try.prog 90 := ⟨by kernel_rfl, by kernel_rfl⟩
instance : Plain Try.prog 110 := ⟨by kernel_rfl, by kernel_rfl⟩
instance : Plain Try.prog 112 := ⟨by kernel_rfl, by kernel_rfl⟩
instance : Plain Try.prog 147 := ⟨by kernel_rfl, by kernel_rfl⟩
instance : NotBlank "Align_" := ⟨by decide⟩
instance : NotBlank "Elem" := ⟨by decide⟩
instance : NotBlank "Equal" := ⟨by decide⟩
instance : NotBlank "Ev" := ⟨by decide⟩
instance : NotBlank "FieldAlign_" := ⟨by decide⟩
instance : NotBlank "GCData" := ⟨by decide⟩
instance : NotBlank "Gen" := ⟨by decide⟩
instance : NotBlank "Hash" := ⟨by decide⟩
instance : NotBlank "Key" := ⟨by decide⟩
instance : NotBlank "Kind" := ⟨by decide⟩
instance : NotBlank "Kind_" := ⟨by decide⟩
instance : NotBlank "N" := ⟨by decide⟩
instance : NotBlank "Node" := ⟨by decide⟩
instance : NotBlank "Op" := ⟨by decide⟩
instance : NotBlank "Parents" := ⟨by decide⟩
instance : NotBlank "PtrBytes" := ⟨by decide⟩
instance : NotBlank "PtrToThis" := ⟨by decide⟩
instance : NotBlank "Seq" := ⟨by decide⟩
instance : NotBlank "Size_" := ⟨by decide⟩
instance : NotBlank "Str" := ⟨by decide⟩
instance : NotBlank "TFlag" := ⟨by decide⟩
instance : NotBlank "_interface" := ⟨by decide⟩
instance : NotBlank "addr" := ⟨by decide⟩
instance : NotBlank "asserted" := ⟨by decide⟩
instance : NotBlank "code" := ⟨by decide⟩
instance : NotBlank "concrete" := ⟨by decide⟩
instance : NotBlank "get" := ⟨by decide⟩
instance : NotBlank "may" := ⟨by decide⟩
instance : NotBlank "missingMethod" := ⟨by decide⟩
instance : NotBlank "msg" := ⟨by decide⟩
instance : NotBlank "put" := ⟨by decide⟩
instance : NotBlank "signed" := ⟨by decide⟩
instance : NotBlank "typ" := ⟨by decide⟩
instance : NotBlank "x" := ⟨by decide⟩
instance : NotBlank "y" := ⟨by decide⟩
instance : MKey Try.prog 3 intV := MKey.int (by kernel_rfl)
instance : MKey Try.prog 44 idV := MKey.id (e := 5) ⟨by kernel_rfl, by kernel_rfl, by kernel_rfl, by kernel_rfl⟩ (by kernel_rfl) ⟨159, by kernel_rfl⟩
instance : Body Try.prog 3 := Body.of Try.func3 (by kernel_rfl) (by kernel_rfl)
instance : Body Try.prog 4 := Body.of Try.func4 (by kernel_rfl) (by kernel_rfl)
instance : Body Try.prog 5 := Body.of Try.func5 (by kernel_rfl) (by kernel_rfl)
instance : Body Try.prog 6 := Body.of Try.func6 (by kernel_rfl) (by kernel_rfl)
instance : Body Try.prog 7 := Body.of Try.func7 (by kernel_rfl) (by kernel_rfl)
instance : Body Try.prog 8 := Body.of Try.func8 (by kernel_rfl) (by kernel_rfl)
instance : Body Try.prog 9 := Body.of Try.func9 (by kernel_rfl) (by kernel_rfl)
instance : Body Try.prog 10 := Body.of Try.func10 (by kernel_rfl) (by kernel_rfl)
instance : Body Try.prog 11 := Body.of Try.func11 (by kernel_rfl) (by kernel_rfl)
instance : Body Try.prog 12 := Body.of Try.func12 (by kernel_rfl) (by kernel_rfl)
instance : Body Try.prog 13 := Body.of Try.func13 (by kernel_rfl) (by kernel_rfl)
instance : Body Try.prog 14 := Body.of Try.func14 (by kernel_rfl) (by kernel_rfl)
instance : Body Try.prog 15 := Body.of Try.func15 (by kernel_rfl) (by kernel_rfl)
instance : Body Try.prog 16 := Body.of Try.func16 (by kernel_rfl) (by kernel_rfl)
instance : Body Try.prog 17 := Body.of Try.func17 (by kernel_rfl) (by kernel_rfl)
instance : Body Try.prog 18 := Body.of Try.func18 (by kernel_rfl) (by kernel_rfl)
instance : Body Try.prog 19 := Body.of Try.func19 (by kernel_rfl) (by kernel_rfl)
instance : Body Try.prog 20 := Body.of Try.func20 (by kernel_rfl) (by kernel_rfl)
instance : Body Try.prog 21 := Body.of Try.func21 (by kernel_rfl) (by kernel_rfl)
instance : Body Try.prog 22 := Body.of Try.func22 (by kernel_rfl) (by kernel_rfl)
instance : Body Try.prog 23 := Body.of Try.func23 (by kernel_rfl) (by kernel_rfl)
instance : Body Try.prog 24 := Body.of Try.func24 (by kernel_rfl) (by kernel_rfl)
instance : Body Try.prog 25 := Body.of Try.func25 (by kernel_rfl) (by kernel_rfl)
instance : Body Try.prog 26 := Body.of Try.func26 (by kernel_rfl) (by kernel_rfl)
instance : Body Try.prog 27 := Body.of Try.func27 (by kernel_rfl) (by kernel_rfl)
instance : Body Try.prog 28 := Body.of Try.func28 (by kernel_rfl) (by kernel_rfl)
instance : Body Try.prog 29 := Body.of Try.func29 (by kernel_rfl) (by kernel_rfl)
instance : Body Try.prog 30 := Body.of Try.func30 (by kernel_rfl) (by kernel_rfl)
instance : Body Try.prog 31 := Body.of Try.func31 (by kernel_rfl) (by kernel_rfl)
instance : Body Try.prog 32 := Body.of Try.func32 (by kernel_rfl) (by kernel_rfl)
instance : Body Try.prog 33 := Body.of Try.func33 (by kernel_rfl) (by kernel_rfl)
instance : Body Try.prog 34 := Body.of Try.func34 (by kernel_rfl) (by kernel_rfl)
instance : Body Try.prog 35 := Body.of Try.func35 (by kernel_rfl) (by kernel_rfl)
instance : Body Try.prog 36 := Body.of Try.func36 (by kernel_rfl) (by kernel_rfl)
instance : Body Try.prog 37 := Body.of Try.func37 (by kernel_rfl) (by kernel_rfl)
instance : Body Try.prog 38 := Body.of Try.func38 (by kernel_rfl) (by kernel_rfl)
instance : Body Try.prog 39 := Body.of Try.func39 (by kernel_rfl) (by kernel_rfl)
instance : Body Try.prog 40 := Body.of Try.func40 (by kernel_rfl) (by kernel_rfl)
instance : Body Try.prog 41 := Body.of Try.func41 (by kernel_rfl) (by kernel_rfl)
instance : Body Try.prog 42 := Body.of Try.func42 (by kernel_rfl) (by kernel_rfl)
instance : Body Try.prog 43 := Body.of Try.func43 (by kernel_rfl) (by kernel_rfl)
instance : Body Try.prog 44 := Body.of Try.func44 (by kernel_rfl) (by kernel_rfl)
instance : Body Try.prog 45 := Body.of Try.func45 (by kernel_rfl) (by kernel_rfl)
instance : Body Try.prog 46 := Body.of Try.func46 (by kernel_rfl) (by kernel_rfl)
instance : Body Try.prog 47 := Body.of Try.func47 (by kernel_rfl) (by kernel_rfl)
instance : Body Try.prog 48 := Body.of Try.func48 (by kernel_rfl) (by kernel_rfl)
instance : Body Try.prog 49 := Body.of Try.func49 (by kernel_rfl) (by kernel_rfl)
instance : Body Try.prog 50 := Body.of Try.func50 (by kernel_rfl) (by kernel_rfl)
instance : Body Try.prog 51 := Body.of Try.func51 (by kernel_rfl) (by kernel_rfl)
instance : Body Try.prog 52 := Body.of Try.func52 (by kernel_rfl) (by kernel_rfl)
instance : Body Try.prog 53 := Body.of Try.func53 (by kernel_rfl) (by kernel_rfl)
instance : Body Try.prog 54 := Body.of Try.func54 (by kernel_rfl) (by kernel_rfl)
instance : Body Try.prog 55 := Body.of Try.func55 (by kernel_rfl) (by kernel_rfl)
instance : Body Try.prog 56 := Body.of Try.func56 (by kernel_rfl) (by kernel_rfl)
instance : Body Try.prog 57 := Body.of Try.func57 (by kernel_rfl) (by kernel_rfl)
instance : Body Try.prog 58 := Body.of Try.func58 (by kernel_rfl) (by kernel_rfl)
instance : Body Try.prog 59 := Body.of Try.func59 (by kernel_rfl) (by kernel_rfl)
instance : Body Try.prog 60 := Body.of Try.func60 (by kernel_rfl) (by kernel_rfl)
instance : Body Try.prog 61 := Body.of Try.func61 (by kernel_rfl) (by kernel_rfl)
instance : Body Try.prog 62 := Body.of Try.func62 (by kernel_rfl) (by kernel_rfl)
instance : Body Try.prog 63 := Body.of Try.func63 (by kernel_rfl) (by kernel_rfl)
instance : Body Try.prog 64 := Body.of Try.func64 (by kernel_rfl) (by kernel_rfl)
instance : Body Try.prog 65 := Body.of Try.func65 (by kernel_rfl) (by kernel_rfl)
instance : Body Try.prog 66 := Body.of Try.func66 (by kernel_rfl) (by kernel_rfl)
instance : Body Try.prog 67 := Body.of Try.func67 (by kernel_rfl) (by kernel_rfl)
instance : Body Try.prog 68 := Body.of Try.func68 (by kernel_rfl) (by kernel_rfl)
instance : Body Try.prog 69 := Body.of Try.func69 (by kernel_rfl) (by kernel_rfl)
instance : Body Try.prog 70 := Body.of Try.func70 (by kernel_rfl) (by kernel_rfl)
instance : Body Try.prog 71 := Body.of Try.func71 (by kernel_rfl) (by kernel_rfl)
instance : Body Try.prog 72 := Body.of Try.func72 (by kernel_rfl) (by kernel_rfl)
instance : Body Try.prog 73 := Body.of Try.func73 (by kernel_rfl) (by kernel_rfl)
instance : Body Try.prog 74 := Body.of Try.func74 (by kernel_rfl) (by kernel_rfl)
instance : Body Try.prog 75 := Body.of Try.func75 (by kernel_rfl) (by kernel_rfl)
instance : Body Try.prog 76 := Body.of Try.func76 (by kernel_rfl) (by kernel_rfl)
instance : Body Try.prog 77 := Body.of Try.func77 (by kernel_rfl) (by kernel_rfl)
instance : Body Try.prog 78 := Body.of Try.func78 (by kernel_rfl) (by kernel_rfl)
instance : Body Try.prog 79 := Body.of Try.func79 (by kernel_rfl) (by kernel_rfl)
instance : Body Try.prog 80 := Body.of Try.func80 (by kernel_rfl) (by kernel_rfl)
instance : Body Try.prog 81 := Body.of Try.func81 (by kernel_rfl) (by kernel_rfl)
instance : Body Try.prog 83 := Body.of Try.func83 (by kernel_rfl) (by kernel_rfl)
instance : Body Try.prog 84 := Body.of Try.func84 (by kernel_rfl) (by kernel_rfl)
instance : Body Try.prog 85 := Body.of Try.func85 (by kernel_rfl) (by kernel_rfl)
instance : Body Try.prog 88 := Body.of Try.func88 (by kernel_rfl) (by kernel_rfl)
instance : Body Try.prog 89 := Body.of Try.func89 (by kernel_rfl) (by kernel_rfl)
instance : Body Try.prog 90 := Body.of Try.func90 (by kernel_rfl) (by kernel_rfl)
instance : Body Try.prog 91 := Body.of Try.func91 (by kernel_rfl) (by kernel_rfl)
instance : Body Try.prog 92 := Body.of Try.func92 (by kernel_rfl) (by kernel_rfl)
instance : Body Try.prog 93 := Body.of Try.func93 (by kernel_rfl) (by kernel_rfl)
instance : Body Try.prog 94 := Body.of Try.func94 (by kernel_rfl) (by kernel_rfl)
instance : Body Try.prog 95 := Body.of Try.func95 (by kernel_rfl) (by kernel_rfl)
instance : Body Try.prog 96 := Body.of Try.func96 (by kernel_rfl) (by kernel_rfl)
instance : Body Try.prog 97 := Body.of Try.func97 (by kernel_rfl) (by kernel_rfl)
instance : Body Try.prog 98 := Body.of Try.func98 (by kernel_rfl) (by kernel_rfl)
instance : Body Try.prog 99 := Body.of Try.func99 (by kernel_rfl) (by kernel_rfl)
instance : Body Try.prog 100 := Body.of Try.func100 (by kernel_rfl) (by kernel_rfl)
instance : Body Try.prog 101 := Body.of Try.func101 (by kernel_rfl) (by kernel_rfl)
instance : Body Try.prog 102 := Body.of Try.func102 (by kernel_rfl) (by kernel_rfl)
instance : Body Try.prog 103 := Body.of Try.func103 (by kernel_rfl) (by kernel_rfl)
theorem mixed : Try.prog.follows .mixedOrders = true := Checked.mixed Try.checked
end Ab
end Go.Proofs.Ytcmfemfndadfmaa

/- Contracts: enc.digits and its function, enc.Num (a range over a function that keeps its state in a captured variable). -/
namespace Go.Proofs.Ytcmfemfndadfmaa
namespace Ab
open Go Go.RowKit Go.Shelf Go.Proofs
set_option linter.unusedVariables false
set_option linter.unusedSimpArgs false
attribute [local go_sem] Oper.semAt_some

/-- A number's digits, the lowest first. -/
def numF : Nat → Nat → List UInt8
  | 0, n => [UInt8.ofNat n]
  | f + 1, n => if 127 < n then (UInt8.ofNat n ||| 128) :: numF f (n / 128) else [UInt8.ofNat n]
def numL (n : Nat) : List UInt8 := numF 9 n
theorem numF_length : ∀ (f n : Nat), (numF f n).length ≤ f + 1
  | 0, _ => by simp [numF]
  | f + 1, n => by
    simp only [numF]
    split
    · have := numF_length f (n / 128)
      simp only [List.length_cons]; omega
    · simp
theorem numL_length (n : Nat) : (numL n).length ≤ 10 := numF_length 9 n

theorem low_digit {n : Nat} (h : n ≤ 127) : ((UInt8.ofNat n).toNat : Int) = (n : Int) := by rw [UInt8.toNat_ofNat']; omega
theorem or_digit (n : Nat) : ((UInt8.ofNat n ||| 128).toNat : Int) = bits BinOp.or IntKind.u8 ((n : Int) % 256) 128 := by
  have h1 : ((n : Int) % 256) = ((n % 256 : Nat) : Int) := by omega
  have h2 := u8_or_nat (n % 256) 128 (by omega) (by omega)
  rw [h1]
  refine Eq.trans ?_ h2.symm
  rw [UInt8.toNat_or, UInt8.toNat_ofNat']
  rfl
def fuelOf (W : World) (bx : Nat) : Nat := match W.cell? ⟨bx, 0, none⟩ with
  | some (.int _ k) => k.toNat
  | _ => 0

set_option maxRecDepth 100000 in
set_option maxHeartbeats 1000000 in
theorem digits1_in (l bx m : Nat) (hm : m < 18446744073709551616) (t : TypeId) (J : List UInt8 → World → Prop)
    (hJ : ∀ s W v, J s W → Boxed W bx t v → ∀ v', J s (W.setCell ⟨bx, 0, none⟩ v'))
    (hY : ∀ pre x W v, pre ++ [x] <+: numL m → J pre W → Boxed W bx t v → YieldAt Fence.wide 2 Try.prog l #[.int .u8 ((x : UInt8).toNat : Int)] W fun e W' =>
      e = .returned (.bool true) ∧ J (pre ++ [x]) W' ∧ Boxed W' bx t v)
    (W : World) (hB : Boxed W bx t (.int .u64 (m : Int))) (h0 : J [] W) :
    CallsIn Fence.wide 3 Try.prog 81 #[.func (.yield l) #[] #[], .pointer (some ⟨bx, 0, none⟩)] W fun e W' => (∃ v, e = .returned v) ∧ J (numL m) W' := by
  refine callsIn_of_wp Try.func81 rfl trivial ?_ rfl
  simp only [Try.ntmps81, List.size_toArray, List.length_cons, List.length_nil, Nat.reduceAdd, Nat.reduceSub, Array.replicate_succ, Array.replicate_zero, List.push_toArray, List.append_toArray, List.nil_append, List.cons_append]
  gi_wp2
  gi_loopw [] (fun wr => ∃ (pre : List UInt8) (f n : Nat), n < 128 ^ (f + 1) ∧ n < 18446744073709551616 ∧ Boxed wr bx t (.int .u64 (n : Int)) ∧ numL m = pre ++ numF f n ∧ J pre wr) (fun wr => fuelOf wr bx)
  case atStart =>
    exact ⟨[], 9, m, by omega, hm, hB, rfl, h0⟩
  case round =>
    obtain ⟨pre, f, n, hf, hn, hB, hL, hJs⟩ := hrel
    have hc := hB.cell
    have hfz := hB.frozen
    by_cases h127 : 127 < n
    · have hgt : (127 : Int) < (n : Int) := by omega
      obtain ⟨fn, tmps, assign, body, hy, hR⟩ := hY pre (UInt8.ofNat n ||| 128) wr _ (by
        cases f with
        | zero => simp at hf; omega
        | succ f => exact ⟨numF f (n / 128), by rw [hL, numF, if_pos h127]; simp⟩) hJs hB
      rw [or_digit] at hy
      gi_wp2
      refine hR.mono ?_
      rintro e W3 ⟨rfl, hJ3, hB3⟩
      have hc3 := hB3.cell
      have hfz3 := hB3.frozen
      gi_wp2
      have hdiv : ((n : Int) / 128) = ((n / 128 : Nat) : Int) := by omega
      go_roundw
      case rel =>
        rw [hdiv]
        cases f with
        | zero => simp at hf; omega
        | succ f =>
          refine ⟨pre ++ [UInt8.ofNat n ||| 128], f, n / 128, ?_, by omega, hB3.set _, ?_, hJ _ _ _ hJ3 hB3 _⟩
          · rw [Nat.pow_succ] at hf; omega
          · rw [hL, numF, if_pos h127]; simp
      case measure =>
        rw [hdiv]
        simp only [fuelOf, (hB3.set _).cell, hc, Int.toNat_natCast]
        omega
    · have hgt : ¬ (127 : Int) < (n : Int) := by omega
      have hlast : numF f n = [UInt8.ofNat n] := by
        cases f with
        | zero => rfl
        | succ f => rw [numF, if_neg h127]
      rw [hlast] at hL
      obtain ⟨fn, tmps, assign, body, hy, hR⟩ := hY pre (UInt8.ofNat n) wr _ ⟨[], by rw [hL]; simp⟩ hJs hB
      rw [low_digit (by omega)] at hy
      gi_wp2
      refine hR.mono ?_
      rintro e W3 ⟨rfl, hJ3, hB3⟩
      gi_wp2
      go_end0
      rw [hL]
      exact ⟨⟨_, rfl⟩, hJ3⟩

set_option maxHeartbeats 1000000 in
theorem digits_in (m : Nat) (w : World) :
    CallsIn Fence.wide 3 Try.prog 68 #[.int .u64 (m : Int)] w fun e w' => e = .returned (.func (.func 81) #[] #[.pointer (some ⟨w.heap.size, 0, none⟩)]) ∧ w' = w.alloc (.cells #[.int .u64 (m : Int)] 81) := by
  refine callsIn_of_wp Try.func68 rfl trivial ?_ rfl
  simp only [Try.ntmps68, List.size_toArray, List.length_cons, List.length_nil, Nat.reduceAdd, Nat.reduceSub, Array.replicate_succ, Array.replicate_zero, List.push_toArray, List.append_toArray, List.nil_append, List.cons_append]
  gi_wp2
  go_ret
  exact ⟨rfl, rfl⟩

theorem info_byte : (Try.prog.info? 5).map (fun i => (i.zero, i.size, i.bytes)) = some (some (.int .u8 0), 1, 1) := by kernel_rfl

set_option maxRecDepth 100000 in
set_option maxHeartbeats 2000000 in
theorem num_in (m : Nat) (hm : m < 18446744073709551616) (w : World) :
    CallsIn Fence.wide 4 Try.prog 46 #[.int .u64 (m : Int)] w fun e W' => ∃ v, e = .returned v ∧ W'.ownsRow w.heap.size 5 1 v (numL m).length ((numL m).map byteV) ∧ Below w.heap.size w W' := by
  obtain ⟨i0, hi, hz0, hz1, hz2⟩ := info_parts info_byte
  refine callsIn_of_wp_marks Try.func46 rfl trivial ?_ rfl
  simp only [Try.ntmps46, List.size_toArray, List.length_cons, List.length_nil, Nat.reduceAdd, Nat.reduceSub, Array.replicate_succ, Array.replicate_zero, List.push_toArray, List.append_toArray, List.nil_append, List.cons_append]
  gi_wp2
  refine ⟨trivial, (digits_in m _).mono ?_⟩
  rintro e w' ⟨rfl, rfl⟩
  gi_wp2
  obtain ⟨w1, hw1⟩ : ∃ w1, (w.alloc (.cells #[.slice none 0 0] 61)).alloc (.cells #[.int .u64 (m : Int)] 81) = w1 := ⟨_, rfl⟩
  have hsz : w1.heap.size = w.heap.size + 2 := by rw [← hw1]; simp
  have bO : Boxed w1 w.heap.size 61 (.slice none 0 0) := by rw [← hw1]; exact (Boxed.new w _ _).alloc _
  have bN : Boxed w1 (w.heap.size + 1) 81 (.int .u64 (m : Int)) := by
    rw [← hw1]
    have := Boxed.new (w.alloc (.cells #[.slice none 0 0] 61)) 81 (.int .u64 (m : Int))
    rwa [World.size_alloc] at this
  have hB0 : Below w.heap.size w w1 := by rw [← hw1]; exact ((Below.refl _ w).alloc (Nat.le_refl _) _).alloc (by simp) _
  rw [hw1]
  clear hw1
  refine wpIn_rangeFunc_box rfl (by decide) (gf := 81) (lb := #[.pointer (some ⟨w.heap.size + 1, 0, none⟩)]) rfl trivial (enters_of Try.func81 (by kernel_rfl) rfl)
    (encs := fun x : UInt8 => #[.int .u8 (x.toNat : Int)]) (xs := numL m) (bx := w.heap.size + 1) (t := 81) (vx := .int .u64 (m : Int))
    (fun l J hJ hY W hB h0 => digits1_in l _ m hm _ J hJ hY W hB h0) (fun _ => rfl) bN
    (fun pre W => (∃ v, Boxed W w.heap.size 61 v ∧ W.ownsRow w.heap.size 5 1 v pre.length (pre.map byteV)) ∧ Below w.heap.size w W)
    ?hIp ?hIa ?hIx ⟨⟨_, bO, World.ownsRow_nil _ _ _ _⟩, hB0⟩
    (fun x => { tmps := #[.int .u64 (m : Int), undef, .slice none 0 0, .pointer (some ⟨w.heap.size, 0, none⟩), .int .u8 (x.toNat : Int), .int .u64 (m : Int), .func (.func 81) #[] #[.pointer (some ⟨w.heap.size + 1, 0, none⟩)], .int .u8 (x.toNat : Int), undef, undef, undef, undef, undef], defers := [] }) ?assign ?body ?done
  case hIp =>
    rintro s W k o o' ⟨⟨v, hv, hr⟩, hB⟩ hk ho hc
    refine ⟨⟨v, hv.kept (grownBy_putObj' W k o') (fun e => by injection e; omega), ownsRow_putObj hr o' ho hc⟩, ?_⟩
    exact hB.grown (grownBy_putObj' W k o') (by have := (Array.getElem?_eq_some_iff.1 ho).1; omega) (fun j e => by cases e; omega)
  case hIa =>
    rintro s W o ⟨⟨v, hv, hr⟩, hB⟩ hk
    exact ⟨⟨v, hv.alloc _, hr.alloc _⟩, hB.alloc (by omega) _⟩
  case hIx =>
    rintro s W u ⟨⟨v, hv, hr⟩, hB⟩ hb u'
    exact ⟨⟨v, hv.kept (grownBy_setCell' W _ u') (fun e => by injection e; omega), hr.kept (grownBy_setCell' W _ u') (.inr (hb.not_row (by decide) hr).symm)⟩, hB.setCell (p := ⟨w.heap.size + 1, 0, none⟩) (by simp) _⟩
  case assign =>
    intro l x W K hK
    gi_wp2
    exact hK
  case body =>
    rintro l pre x W u hpre ⟨⟨v, hv, hrow⟩, hB⟩ hbx hW
    have hc := hv.cell
    have hpl : pre.length ≤ 10 := by
      have h1 := List.IsPrefix.length_le hpre
      have h2 := numL_length m
      simp at h1
      omega
    gi_wp2_with (gi_at_builtin; refine wpListIn_append_own _ rfl _ _ 61 rfl w.heap.size 5 i0 (.int .u8 0) 1 1 Try.underlying61 hi hz0 hz1 hz2 rfl (by decide) _ _ _ rfl (hrow.alloc _) ⟨W.heap.size, 0, none⟩ 1 1 [.int .u8 (x.toNat : Int)] rfl rfl (cell_one_new _ _ _) (by simp [Value.oneCell']) (by simp only [maxLen]; omega) (by omega) (by have := hB.size; simp; omega) ?_; intro v' w1' hown' hgrow _; obtain ⟨g', cap', rfl⟩ := ownsRow_succ hown'; obtain ⟨hv1, hv2, hr2, hk2, hb2⟩ := hv.appended (by decide) hrow hB.size (Nat.le_refl _) hown' hgrow; have hc1 := hv1.cell; have hf1 := hv1.frozen)
    refine ⟨hk2, ?_, ⟨_, hv2, by simpa [byteV] using hr2⟩, hB.trans hb2⟩
    have h1 := ((hbx.alloc (.cells #[.int .u8 (x.toNat : Int)] 5)).kept hgrow (hbx.not_row (by decide) hrow))
    exact h1.kept (grownBy_setCell' _ _ _) (fun e => by injection e; omega)
  case done =>
    rintro D W ⟨⟨v, hv, hrow⟩, hB⟩ hD hK
    have hc := hv.cell
    gi_wp2
    refine ⟨by simp, .inl ⟨_, _, rfl, run_takeDeferred hK, ?_⟩⟩
    exact ⟨_, results_tmp rfl _ _ _, v, rfl, ownsRow_putObj hrow _ hK rfl, hB.trans (belowK_b (w := w) (Nat.le_refl _) W D _ _ (by omega) hK rfl rfl)⟩
end Ab
end Go.Proofs.Ytcmfemfndadfmaa

/- What the program computes, in plain Lean: ids, operations, commits. Program-independent. -/
namespace Go.Proofs.Ytcmfemfndadfmaa
namespace Ab
open Go
set_option linter.unusedVariables false

def idCmp (a b : ID) : Int := Lib.compareBytes a.1 b.1
def idLt (a b : ID) : Bool := decide (idCmp a b < 0)
theorem compareBytes_lt (a b : List UInt8) : Lib.compareBytes a b < 0 ↔ a < b := by
  induction a generalizing b with
  | nil => cases b <;> simp [Lib.compareBytes]
  | cons x a ih =>
    cases b with
    | nil => simp [Lib.compareBytes]
    | cons y b =>
      rw [List.cons_lt_cons_iff]
      unfold Lib.compareBytes
      by_cases h1 : x < y
      · simp [h1]
      · by_cases h2 : y < x
        · have : ¬ x = y := fun e => by subst e; exact h1 h2
          simp [h1, h2, this]
        · have : x = y := UInt8.le_antisymm (UInt8.not_lt.1 h2) (UInt8.not_lt.1 h1)
          subst this
          simp [ih]
theorem idLt_iff (a b : ID) : idLt a b = true ↔ a.1 < b.1 := by simp [idLt, idCmp, compareBytes_lt]
theorem idLt_irrefl (a : ID) : idLt a a = false := by
  rw [← Bool.not_eq_true, idLt_iff]; exact List.lt_irrefl _
theorem idLt_trans {a b c : ID} (h1 : idLt a b = true) (h2 : idLt b c = true) : idLt a c = true := by
  rw [idLt_iff] at *; exact List.lt_trans h1 h2
theorem idLt_total {a b : ID} (h1 : idLt a b = false) (h2 : idLt b a = false) : a = b := by
  rw [← Bool.not_eq_true, idLt_iff] at *
  exact Subtype.ext (List.le_antisymm (List.not_lt.1 h2) (List.not_lt.1 h1))
theorem idLt_asymm {a b : ID} (h : idLt a b = true) : idLt b a = false := by
  cases hb : idLt b a with
  | false => rfl
  | true => have := idLt_trans h hb; rw [idLt_irrefl] at this; cases this
theorem idLe_trans {a b c : ID} (h1 : idLt b a = false) (h2 : idLt c b = false) : idLt c a = false := by
  rw [← Bool.not_eq_true, idLt_iff] at *
  exact List.not_lt.2 (List.le_trans (List.not_lt.1 h1) (List.not_lt.1 h2))
/-- The ids of a row in order. -/
def sortL (L : List ID) : List ID := L.mergeSort (fun x y => !idLt y x)
theorem sortL_length (L : List ID) : (sortL L).length = L.length := by simp [sortL]
theorem sortL_pairwise (L : List ID) : (sortL L).Pairwise (fun x y => idLt y x = false) := by
  have := List.pairwise_mergeSort (le := fun x y => !idLt y x) (fun a b c h1 h2 => by simp at *; exact idLe_trans h1 h2) (fun a b => by
    cases h : idLt b a with
    | false => simp
    | true => simp [idLt_asymm h]) L
  simpa [sortL] using this
theorem sortL_perm' (L : List ID) : (sortL L).Perm L := List.mergeSort_perm _ _
theorem sorted_unique {L M : List ID} (h : L.Perm M) (h1 : L.Pairwise (fun x y => idLt y x = false)) (h2 : M.Pairwise (fun x y => idLt y x = false)) : L = M :=
  List.Perm.eq_of_pairwise (le := fun x y => idLt y x = false) (fun a b _ _ h1 h2 => idLt_total h2 h1) h1 h2 h
theorem sortL_perm {L M : List ID} (h : L.Perm M) : sortL L = sortL M :=
  sorted_unique (((sortL_perm' L).trans h).trans (sortL_perm' M).symm) (sortL_pairwise L) (sortL_pairwise M)
theorem mem_sortL {L : List ID} {x : ID} : x ∈ sortL L ↔ x ∈ L := (sortL_perm' L).mem_iff

def rises : List ID → Bool
  | a :: b :: l => idLt a b && rises (b :: l)
  | _ => true

def signs : List UInt8 := [97, 98, 99, 100, 101, 102, 103, 104, 105, 106, 107, 108, 109, 110, 111, 112, 113, 114, 115, 116, 117, 118, 119, 120, 121, 122, 48, 49, 50, 51, 52, 53, 54, 55, 56, 57]
def keyOk (s : ByteArray) : Bool := s.data.toList.all (fun c => decide (c ∈ signs)) && decide (s.size ≠ 0) && decide (s.size ≤ 8)

def inB (n lo hi : Int) : Bool := decide (lo ≤ n) && decide (n ≤ hi)

def op0 : Op_ := ⟨0, .empty, .empty, 0⟩
def opMay (o : Op_) : Bool :=
  if o.kind = 0 then keyOk o.key && (decide (o.n ≠ 0) && decide (-1048576 ≤ o.n) && decide (o.n ≤ 1048576) && decide (o.elem = .empty))
  else if o.kind = 1 ∨ o.kind = 2 ∨ o.kind = 3 then keyOk o.key && (decide (o.n = 0) && keyOk o.elem)
  else false

def may (c : Commit) : Bool :=
  if !inB c.gen 1 1048576 || decide (8 < c.parents.length) || !rises c.parents || (decide (c.gen = 1) != decide (c.parents.length = 0)) then false
  else if c.ev.node = -1 then decide (2 ≤ c.parents.length) && decide (c.ev.seq = 0) && decide (c.op = op0)
  else inB c.ev.node 0 7 && inB c.ev.seq 1 1048576 && opMay c.op
def merge (c : Commit) : Bool := decide (c.ev.node = -1) && may c
end Ab
end Go.Proofs.Ytcmfemfndadfmaa
