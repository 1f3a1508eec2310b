/- Lemmas for the walks, part 3 of 5: WalkA, Sort, Ord, Lays, WalkB, WalkC, WalkD, WalkE, WalkF, WalkG, WalkH, WalkI, WalkJ, WalkK, WalkL, WalkM, WalkN, WalkO, WalkP, WalkQ, WalkR, Lays2, WalkS, WalkT, WalkU, Get, GetW, Rdr, Bytes, Dec, LogW, LogP, Scope, LogR, Dec2, Dec3, Def, ComG. -/
import Derived.Test.YtdgeffphifgflaaGreatSp2
import Derived.Test.YtdgeffphifgflaaGreatSp1
import Derived.Shelf.SlSortCmp.NoneTotal
import Derived.Shelf.SlSortCmp.QuietGrown
import Derived.Deep.Quiet
import Derived.Deep.QuietTactic
import Derived.BigQuiet
import Derived.WalkKit
import Derived.Test.YtdgeffphifgflaaGreatChecked
import Derived.KernelRfl
import Derived.Shelf.Bytes.SlJoin
import Derived.Laws.BytesArg
import Derived.ScopeJumps
import Derived.WideLaws
namespace Go.Proofs.YtdgeffphifgflaaGreat
namespace Ab
open Go Go.RowKit Tryz
set_option linter.unusedVariables false
set_option linter.unusedSimpArgs false
set_option synthInstance.maxSize 4000
set_option synthInstance.maxHeartbeats 400000
set_option maxHeartbeats 16000000
variable (w : World) (F : Nat → Prop)
section
attribute [local irreducible] JC JO JR JQ andThen inBlock OpV Gives Xae JM JS
theorem Xej (w : World) {a b : Option Addr} {c k : Nat} {L M : List UInt8} {F G : Nat → Prop} (h : (sl a c L).holds F w) (h' : (sl b k M).holds G w) :
  (callFunc 140 ⟨[.slice a L.length c, .slice b M.length k]⟩).run prog w = .ok (.value (.int .i64 (Lib.compareBytes L M))) w := by
 rw [run_callFunc_extern func140 (by kernel_rfl) (by kernel_rfl) (by kernel_rfl) (e := Extern.BytealgCompare.compare) (by kernel_rfl)]
 have : (Extern.BytealgCompare.compare ⟨[.slice a L.length c, .slice b M.length k]⟩).run prog w = .ok (.int .i64 (Lib.compareBytes L M)) w := by
  change Sem.run prog (do pure (goInt (Extern.BytealgCompare.cmp (← Extern.Bytes.bytesOf (.slice a L.length c)) (← Extern.Bytes.bytesOf (.slice b M.length k))))) w = _
  simp only [Sem.run_bind, Xj3 h, Xj3 h', Result.andThen_ok, Sem.run_pure, Lib.cmp_eq, goInt]
 rw [this]; rfl
theorem Xhk [Dr] (a b : Option Addr) (c k : Nat) (L M : List UInt8) (h : (sl a c L).holds F w) (h' : (sl b k M).holds F w) :
  GivesV prog 73 [.slice a L.length c, .slice b M.length k] w F (.int .i64 (Lib.compareBytes L M)) := by
 refine Xaa func73 rfl ntmps73 rfl rfl [.st (sl a c L), .st (sl b k M)] (.start2 h h') ?_
 refine wz10 ?_
 refine Wf (Xl8 fun w1 hw => Xej w1 hw.get hw.get) rfl ?_
 refine wz10 ?_
 exact CT.dn () rfl
theorem Xvp [Dr] (a b : ID) : GivesV prog 162 [.agg ⟨idc a⟩, .agg ⟨idc b⟩] w F (.int .i64 (Xfg a b)) := by
 refine Xaa func162 rfl ntmps162 rfl rfl [] (.start w F) ?_
 (repeat (refine wE ?_; intro _)); refine wA ?_
 rename_i bx by_
 refine Xb0 mixed (by kernel_rfl) ?_
 refine Wy rfl (Xb3 (by decide)) rfl ?_
 refine Wy rfl (Xb3 (by decide)) rfl ?_
 refine JQ.call (v := .int .i64 (Xfg a b)) rfl rfl (fun w1 hw => ?_) ?_
 ·have := (Xhk w1 (fun _ => True) (some ⟨bx, 0, none⟩) (some ⟨by_, 0, none⟩) 32 32 a.1 b.1
   (At.sl_bytes (Γ := [.own by_ _ (idc b), .own bx _ (idc a)]) iI rfl hw a.2 (by decide)) (At.sl_bytes (Γ := [.own by_ _ (idc b), .own bx _ (idc a)]) iI rfl hw b.2 (by decide))).any (G := fp w F [.own by_ 81 (idc b), .own bx 81 (idc a)])
  rw [a.2, b.2] at this
  exact this
 refine wQ ?_
 refine wz13 ?_
 exact CT.dn () rfl
theorem Xxy (a b : ID) : GivesV prog 102 [.agg ⟨idc a⟩, .agg ⟨idc b⟩] w F (.bool (idLt a b)) := by
 refine Xaa func102 rfl ntmps102 rfl rfl [] (.start w F) ?_
 (repeat (refine wE ?_; intro _)); refine wA ?_
 refine JR.callV rfl (fun w1 hw => Xvp w1 _ a b) ?_
 refine wA ?_
 exact CT.dn () rfl
theorem Xtr (L : List ID) (k : Nat) (h1 : 1 ≤ k) (hk : k < L.length) (h : Xc7 (L.take k) = true) : Xc7 (L.take (k + 1)) = idLt L[k - 1] L[k] ∧ (idLt L[k - 1] L[k] = false → Xc7 L = false) := by
 induction L generalizing k with
 | nil => simp at hk
 | cons a L ih =>
  cases L with
  | nil => simp at hk; omega
  | cons b L =>
   match k, h1 with
   | 1, _ =>
    refine ⟨by simp [Xc7], fun h => ?_⟩
    simp at h
    simp [Xc7, h]
   | k + 2, _ =>
    have h' : idLt a b = true ∧ Xc7 ((b :: L).take (k + 1)) = true := by
     simpa [Xc7] using h
    obtain ⟨i1, i2⟩ := ih (k + 1) (by omega) (by simpa using hk) h'.2
    refine ⟨?_, fun hf => ?_⟩
    ·simp only [List.take_succ_cons, Xc7, h'.1, Bool.true_and] at i1 ⊢
     simpa using i1
    ·have := i2 (by simpa using hf)
     simp [Xc7, h'.1, this]
theorem Xkf (L : List ID) (h : L.length ≤ 1) : Xc7 L = true := by
 match L with
 | [] => rfl
 | [_] => rfl
 | _ :: _ :: _ => simp at h
theorem Xkg (a : Option Addr) (c : Nat) (L : List ID) (h : (sl a c L).holds F w) :
  GivesV prog 41 [.slice a L.length c] w F (.bool (Xc7 L)) := by
 have hL : L.length < 9223372036854775807 := by have := h.2.2.1; simp only [lim] at this; omega
 refine Xaa func41 rfl ntmps41 rfl rfl [.st (sl a c L)] (.start1 h) ?_
 refine wz4 ?_
 refine JC.reslot 3 (.int .i64 ((1 : Nat) : Int)) rfl ?_
 refine Xay (fun k : Nat => [(0, .slice a L.length c), (3, .int .i64 (k : Int))]) (fun _ => [.st (sl a c L)])
  (fun k => 1 ≤ k ∧ (k ≤ L.length ∨ k = 1) ∧ Xc7 (L.take k) = true) (fun k => L.length + 1 - k) 1 ⟨Nat.le_refl _, .inr rfl, Xkf _ (by simp; omega)⟩ iI ?_
 intro k ⟨h1, hk, hr⟩
 refine wz11 ?_
 refine JC.test (fun hlt => ?_) (fun hge => ?_)
 ·have hlt' : k < L.length := by omega
  have hr' := Xtr L k h1 hlt' hr
  refine wz14 ?_
  refine Xb2 (.slice a L.length c) (k - 1) (by omega) ?_
  intro b1 o1
  refine Xb2 (.slice a L.length c) k hlt' ?_
  intro b2 o2
  refine Xb0 mixed (by kernel_rfl) ?_
  refine wQ ?_
  refine JQ.call rfl rfl (fun w1 hw => Xxy w1 _ _ _) ?_
  refine wQ ?_
  refine wz13 ?_
  refine JC.test (fun hne => ?_) (fun heq2 => ?_)
  ·refine wz5 ?_
   refine CT.dn () ?_
   simp [Xac, hr'.2 (by simpa using hne)]
  ·refine wz2 ?_
   exact ⟨k + 1, ⟨by omega, .inl (by omega), by rw [hr'.1]; simpa using heq2⟩, by omega, iI⟩
 ·refine wz3 ?_
  refine CT.dn () ?_
  have : Xc7 L = true := by
   rcases hk with hk | hk
   ·rwa [List.take_of_length_le (by omega)] at hr
   ·exact Xkf L (by omega)
  simp [Xac, this]
theorem Xeg (w : World) (s : ByteArray) (c : UInt8) :
  (callFunc 263 ⟨[.string s, .int .u8 (c.toNat : Int)]⟩).run prog w = .ok (.value (.int .i64 (Lib.indexByte s.data.toList c))) w := by
 rw [run_callFunc_extern func263 (by kernel_rfl) (by kernel_rfl) (by kernel_rfl) (e := Extern.BytealgIndexByte.indexByte) (by kernel_rfl), Lib.run_indexByteString]
 simp
theorem Xnt (s : ByteArray) (c : UInt8) : GivesV prog 259 [.string s, .int .u8 (c.toNat : Int)] w F (.int .i64 (Lib.indexByte s.data.toList c)) := by
 refine Xaa func259 rfl ntmps259 rfl rfl [] (.start w F) ?_
 refine wz10 ?_
 refine Wf (Xl8 fun w1 hw => Xeg w1 s c) rfl ?_
 refine wz10 ?_
 exact CT.dn () rfl
theorem Xid (s : ByteArray) (c : UInt8) : GivesV prog 243 [.string s, .int .u8 (c.toNat : Int)] w F (.int .i64 (Lib.indexByte s.data.toList c)) := by
 refine Xaa func243 rfl ntmps243 rfl rfl [] (.start w F) ?_
 refine wz10 ?_
 refine JR.callV rfl (fun w1 hw => Xnt w1 _ s c) ?_
 refine wz10 ?_
 exact CT.dn () rfl
theorem Xhl (l : List UInt8) (c : UInt8) : Lib.indexByte l c < 0 ↔ c ∉ l := by
 induction l with
 | nil => simp [Lib.indexByte]
 | cons b l ih =>
  have := Lib.indexByte_ge l c
  unfold Lib.indexByte
  by_cases hb : b = c
  ·simp [hb]
  ·have hb' : ¬ c = b := fun h => hb h.symm
   simp only [beq_iff_eq, hb, if_false, List.mem_cons, hb', false_or]
   split
   ·rename_i h; rw [← ih]; simp [h]
   ·rename_i h; rw [← ih]; omega
theorem Xie (s : ByteArray) (hs : s.size < 4611686018427387904) : GivesV prog 202 [.string s] w F (.bool (Xhi s)) := by
 refine Xaa func202 rfl ntmps202 rfl rfl [] (.start w F) ?_
 refine wA ?_
 refine Xay (fun k : Nat => [(0, .string s), (5, .int .i64 (s.size : Int)), (6, .int .i64 (k : Int))]) (fun _ => [])
  (fun k => k ≤ s.size ∧ (s.data.toList.take k).all (fun c => decide (c ∈ Xvm)) = true) (fun k => s.size - k) 0 ⟨Nat.zero_le _, by simp⟩ iI ?_
 intro k ⟨hk, hin⟩
 have hlen : s.data.toList.length = s.size := rfl
 refine wz11 ?_
 refine JC.test (fun hlt => ?_) (fun hge => ?_)
 ·have hlt' : k < s.size := by omega
  have hget : s.data.toList[k]'(by omega) = s[k] := rfl
  refine wz7 ?_
  refine Wf (Xow hlt') rfl ?_
  refine wz13 ?_
  refine JR.callV rfl (fun w1 hw => Xid w1 _ _ _) ?_
  refine wz11 ?_
  refine JC.test (fun hneg => ?_) (fun hpos => ?_)
  ·refine wz5 ?_
   refine CT.dn () ?_
   have h1 := (Xhl _ _).1 hneg
   have h2 : s.data.toList.all (fun c => decide (c ∈ Xvm)) = false := by
    rw [List.all_eq_false]
    exact ⟨s[k], by rw [← hget]; exact List.getElem_mem _, fun h => h1 (of_decide_eq_true h)⟩
   simp [Xac, Xhi, h2]
  ·have h1 : s[k] ∈ Xvm := Classical.not_not.1 (mt (Xhl _ _).2 hpos)
   refine wz2 ?_
   refine ⟨k + 1, ⟨by omega, ?_⟩, by omega, iI⟩
   rw [List.take_succ_eq_append_getElem (by omega), List.all_append, hin, hget]
   simp [h1]
 ·have hall : s.data.toList.all (fun c => decide (c ∈ Xvm)) = true := by
   rwa [List.take_of_length_le (by omega)] at hin
  refine wA ?_
  refine JO.test 17 (fun h => ?_) (fun h => ?_)
  ·refine wA ?_
   refine CT.dn () ?_
   have : s.size ≠ 0 := fun h0 => h (by apply ByteArray.ext; apply Array.eq_empty_of_size_eq_zero; exact h0)
   simp only [Xac, Xhi, hall, Bool.true_and, this, decide_true, ne_eq, not_false_eq_true]
   simp
   omega
  ·refine wz8 ?_
   refine CT.dn () ?_
   have : s.size = 0 := by
    have h : s = ByteArray.mk #[] := by simpa using h
    rw [h]; rfl
   simp [Xac, Xhi, this]
theorem Xkh (n lo hi : Int) : GivesV prog 159 [.int .i64 n, .int .i64 lo, .int .i64 hi] w F (.bool (inB n lo hi)) := by
 refine Xaa func159 rfl ntmps159 rfl rfl [] (.start w F) ?_
 refine wz10 ?_
 refine JO.test 10 (fun h => ?_) (fun h => ?_)
 ·refine wA ?_
  exact CT.dn () (by simp [Xac, inB, h])
 ·refine wz8 ?_
  exact CT.dn () (by simp [Xac, inB, h])
end
section
open Go Go.RowKit Go.Sort
theorem Xpb (w : World) (g : Nat) (cur : Array Value) (el : TypeId) (F : Array Value) (hg : w.heap[g]? = some (.cells cur el (0, 0))) :
  (Go.Sort.putRow id w g 0 F).heap[g]? = some (.cells (Go.Sort.putCells id 0 F cur) el (0, 0)) := by
 simp [Go.Sort.putRow, Go.Sort.mapBlock, Go.Sort.onCells, Array.getElem?_modify, hg]
theorem Xpc (w : World) (g k : Nat) (F : Array Value) (hk : k ≠ g) : (Go.Sort.putRow id w g 0 F).heap[k]? = w.heap[k]? := by
 simp [Go.Sort.putRow, Go.Sort.mapBlock, Array.getElem?_modify, Ne.symm hk]
theorem Xnu (F cur : Array Value) : (Go.Sort.putCells id 0 F cur).size = cur.size := by simp [Go.Sort.putCells]
theorem Xpd (F cur : Array Value) (k : Nat) (hk : k < F.size) (hc : F.size ≤ cur.size) : (Go.Sort.putCells id 0 F cur)[k]? = some F[k]! := by
 have : k < cur.size := by omega
 simp [Go.Sort.putCells, this, hk]
def Xgq (L : List ID) : List Value := L.flatMap idc
theorem Xnv (L : List ID) : (Xgq L).length = L.length * 32 := by
 induction L with
 | nil => rfl
 | cons a L ih => simp only [Xgq, List.flatMap_cons, List.length_append, Xcl] at *; rw [ih]; simp; omega
theorem Xnw (r : List (ID × Unit)) : flat (α := ID) r = Xgq (r.map (·.1)) := by
 induction r with
 | nil => rfl
 | cons p r ih => simp only [flat, ih, Xgq, List.map_cons, List.flatMap_cons]; rfl
theorem Xmf (L : List ID) (t : Nat) (h : t < L.length * 32) : (Xgq L)[t]? = some ((idc (L.toArray[t / 32]!))[t % 32]!) := by
 have hi : t / 32 < L.length := by omega
 have := Xjv (α := ID) (L.map fun x => (x, ())) (t / 32) (by simpa using hi) (t % 32) ((idc (L.toArray[t / 32]!))[t % 32]!) (by
  have hlt : t % 32 < (idc L[t / 32]).length := by rw [Xcl]; omega
  have e0 : Cell.cells (α := ID) ((L.map fun x => (x, ()))[t / 32]'(by simpa using hi)).1 ((L.map fun x => (x, ()))[t / 32]'(by simpa using hi)).2 = idc L[t / 32] := by simp [Cell.cells]
  rw [e0]
  rw [List.getElem?_eq_getElem hlt]
  congr 1
  have : L.toArray[t / 32]! = L[t / 32] := by simp [hi]
  rw [this]
  exact (getElem!_pos (idc L[t / 32]) (t % 32) hlt).symm)
 have e3 : flat (α := ID) (L.map fun x => (x, ())) = Xgq L := (Xnw _).trans (congrArg Xgq (by simp [Function.comp_def]))
 rw [e3] at this
 have e2 : t / 32 * Cell.sz ID + t % 32 = t := by show t / 32 * 32 + t % 32 = t; omega
 rwa [e2] at this
theorem Xvq [Dr] {P : Program} {f g0 : FuncId} {w0 w : World} {F : Nat → Prop} {Γ : List Fact} {a : Option Addr} {c el : Nat} {L : List ID} (ho : Hold w0 F (.res (buf a c el L) :: Γ) w)
  (hnone : ∀ (p : Option Addr) (cap : Nat) (w : World), Calls P f #[.slice p 0 cap, .func (.func g0) #[] #[]] w fun e w' => e = .returned (.tuple #[]) ∧ w' = w)
  (hsort : ∀ (b cap : Nat) (d : Array ID), Go.Sort.HoldsK idc 32 w b 0 d → b < w.heap.size → d.size < 4611686018427387904 →
   Calls P f #[.slice (some ⟨b, 0, none⟩) d.size cap, .func (.func g0) #[] #[]] w fun e w' => e = .returned (.tuple #[]) ∧ ∃ n os, w' = Go.Proofs.sortWorldK idc 32 w b 0 n (Xcc d.toList).toArray os) :
  Calls P f ⟨[.slice a L.length c, .func (.func g0) ⟨[]⟩ ⟨[]⟩]⟩ w fun x w' => ∃ y : Unit, x = .returned (.tuple ⟨[]⟩) ∧ Hold w0 F (.res (buf a c el (Xcc L)) :: Γ) w' := by
 obtain ⟨h0, r, h1, h2, h3⟩ : (buf a c el L).holds _ w := ho.sat (.res (buf a c el L)) (by simp)
 by_cases hL : L = []
 ·subst hL
  exact Calls.mono (hnone a c w) fun x w' ⟨hx, hw⟩ => ⟨(), hx, by rw [hw]; simpa [Xcc] using ho⟩
 rcases h2.2 with ⟨hv, hn⟩ | ⟨b, cap, cur, hv, hb, hg, hc1, hc2, hc3, hc4⟩
 ·exact (hL (List.eq_nil_of_length_eq_zero hn)).elim
 injection hv with e1 e2 e3
 subst e1 e3
 have hlt : b < w.heap.size := (Array.getElem?_eq_some_iff.1 hg).1
 have hfr : flat r = Xgq L := (Xnw r).trans (congrArg Xgq h1)
 rw [hfr] at hc4
 have hsz : L.length * 32 ≤ cur.size := by rw [hc3]; exact Nat.mul_le_mul_right 32 hc1
 have hH : Go.Sort.HoldsK idc 32 w b 0 L.toArray := by
  intro j hj
  rw [Go.Sort.size_flatK] at hj
  have hj' : j < L.length * 32 := by simpa using hj
  rw [Go.Sort.get_flatK _ _ _ _ hj]
  constructor
  ·rw [Nat.zero_add, cell_of_row w b j cur el _ hg]
   have := Xmf L j hj'
   rw [← hc4, List.getElem?_take] at this
   split at this
   ·simpa using this
   ·cases this
  ·simp [World.frozen?, hg]
 have hlim : L.length ≤ 281474976710656 := h0
 have hs := hsort b c L.toArray hH hlt (by simp; omega)
 simp only [List.size_toArray] at hs
 refine Calls.mono hs ?_
 rintro x w' ⟨hx, n, os, rfl⟩
 refine ⟨(), hx, ?_⟩
 have hlen : (Xcc L).length = L.length := Xfz L
 have hgh : (Go.Sort.ahead w n).heap[b]? = some (.cells cur el (0, 0)) := hg
 have hF : (Go.Sort.flatK idc 32 (Xcc L).toArray).size = L.length * 32 := by rw [Go.Sort.size_flatK]; simp [hlen]
 have hnew : (Go.Proofs.sortWorldK idc 32 w b 0 n (Xcc L.toArray.toList).toArray os).heap[b]? = some (.cells (Go.Sort.putCells id 0 (Go.Sort.flatK idc 32 (Xcc L).toArray) cur) el (0, 0)) := by
  unfold Go.Proofs.sortWorldK Go.Sort.putRowK
  rw [heap_grow_old]
  ·exact Xpb _ _ _ _ _ hgh
  ·simp [Go.Sort.putRow, Go.Sort.mapBlock, Go.Sort.ahead]; exact hlt
 have hold : ∀ k, k < w.heap.size → k ≠ b → (Go.Proofs.sortWorldK idc 32 w b 0 n (Xcc L.toArray.toList).toArray os).heap[k]? = w.heap[k]? := by
  intro k hk hkb
  unfold Go.Proofs.sortWorldK Go.Sort.putRowK
  rw [heap_grow_old]
  ·exact Xpc _ _ _ _ hkb
  ·simp [Go.Sort.putRow, Go.Sort.mapBlock, Go.Sort.ahead]; exact hk
 have howns : ∀ (X : List ID) k, (buf (some ⟨b, 0, none⟩) c el X).owns k ↔ k = b := by
  intro X k
  constructor
  ·rintro ⟨a', ha', rfl⟩; injection ha' with ha'; subst ha'; rfl
  ·rintro rfl; exact ⟨_, rfl, rfl⟩
 have hb0 : w0.heap.size ≤ b := ho.new (.res (buf (some ⟨b, 0, none⟩) c el L)) (by simp) b ((howns L b).2 rfl)
 have hsize : w.heap.size ≤ (Go.Proofs.sortWorldK idc 32 w b 0 n (Xcc L.toArray.toList).toArray os).heap.size := by
  unfold Go.Proofs.sortWorldK Go.Sort.putRowK
  simp [grow, Go.Sort.putRow, Go.Sort.mapBlock, Go.Sort.ahead]
 have hfree : ∀ k, fp w0 F (.res (buf (some ⟨b, 0, none⟩) c el L) :: Γ) k → fp w0 F (.res (buf (some ⟨b, 0, none⟩) c el (Xcc L)) :: Γ) k := by
  refine fun k hk => ⟨hk.1, fun f' hf' hown => ?_⟩
  rcases List.mem_cons.1 hf' with rfl | hf'
  ·exact hk.2 (.res (buf (some ⟨b, 0, none⟩) c el L)) (by simp) ((howns L k).2 ((howns _ k).1 hown))
  ·exact hk.2 f' (by simp [hf']) hown
 have hp := List.pairwise_cons.1 ho.dis
 refine ⟨ho.below.trans ⟨rfl, rfl, rfl, hsize, fun k hk => hold k (by have := ho.below.size; omega) (by omega), fun _ => Nat.le_add_right _ _⟩, fun f hf => ?_, ?_, ?_⟩
 ·rcases List.mem_cons.1 hf with rfl | hf
  ·refine ⟨by rw [hlen]; exact h0, (Xcc L).map (fun x => (x, ())), by rw [List.map_map]; exact List.map_id _, ⟨by rw [Xa7]; simp, .inr ⟨b, c, _, rfl, Nat.zero_le _, hnew, by rw [hlen]; exact hc1, hc2, by rw [Xnu]; exact hc3, ?_⟩⟩, fun p hp A hA => by simp [Cell.facts] at hA⟩
   have e5 : flat ((Xcc L).map (fun x : ID => (x, ()))) = Xgq (Xcc L) := by rw [Xnw]; congr 1; simp [Function.comp_def]
   refine Eq.trans ?_ e5.symm
   rw [hlen]
   apply List.ext_getElem?
   intro j
   rw [List.getElem?_take]
   have e6 : Cell.sz ID = 32 := rfl
   rw [e6]
   split
   ·rename_i hj
    rw [Xmf _ _ (by rw [hlen]; exact hj)]
    have := Xpd (Go.Sort.flatK idc 32 (Xcc L).toArray) cur j (by rw [hF]; exact hj) (by rw [hF]; exact hsz)
    rw [Go.Sort.get_flatK _ _ _ _ (by simp [hlen]; exact hj)] at this
    simpa using this
   ·rename_i hj
    rw [List.getElem?_eq_none]
    rw [Xnv, hlen]; omega
  ·refine Fact.sat_keep (ho.sat f (by simp [hf])) (fun k hk _ => hfree k hk) (fun k hklt hk => hold k hklt (fun e => ?_))
   rcases hk with hk | hk
   ·exact hk.2 (.res (buf (some ⟨b, 0, none⟩) c el L)) (by simp) ((howns L k).2 e)
   ·exact hp.1 f hf k ⟨(howns L k).2 e, hk⟩
 ·exact List.pairwise_cons.2 ⟨fun f' hf' k hk => hp.1 f' hf' k ⟨(howns L k).2 ((howns _ k).1 hk.1), hk.2⟩, hp.2⟩
 ·intro f' hf' k hk
  rcases List.mem_cons.1 hf' with rfl | hf'
  ·have := (howns _ k).1 hk; omega
  ·exact ho.new f' (by simp [hf']) k hk
end
section
open Go Go.RowKit Go.Sort Go.Shelf Go.Proofs
theorem Xsm {w : World} {b m : Nat} {L : List UInt8} {t : TypeId} (h : w.heap[b]? = some (.cells (L.map Xah).toArray t (0, 0))) (hm : L.length = m) (hmax : m ≤ 4096) : (sl (some ⟨b, 0, none⟩) m L).holds (fun _ => True) w := by
 refine ⟨by omega, by simp [maxLen]; omega, by simp only [lim]; omega, fun hne => ⟨b, 0, rfl, trivial, (Array.getElem?_eq_some_iff.1 h).1, fun i hi => ⟨(), ?_, by simp [Cell.facts]⟩⟩⟩
 intro j v hj
 simp only [Cell.cells, List.getElem?_singleton] at hj
 split at hj
 ·rename_i h0; subst h0
  injection hj with hj
  subst hj
  rw [cell_of_row w b _ _ _ _ h]
  simp [Cell.sz, hi]
 ·cases hj
theorem Xzx (W : World) {a b : Option Addr} {c k : Nat} {L M : List UInt8} {F G : Nat → Prop} (h : (sl a c L).holds F W) (h' : (sl b k M).holds G W) :
  Calls prog 73 #[.slice a L.length c, .slice b M.length k] W fun e w' => e = .returned (.int .i64 (Lib.compareBytes L M)) ∧ w' = W := by
 have hx := Xej W h h'
 clear h h'
 generalize Lib.compareBytes L M = r at hx ⊢
 go_enter func73, ntmps73
 go_wp2
 go_ret
 exact ⟨rfl, rfl⟩
theorem Xzy (W : World) (x y : ID) : Calls prog 162 #[.agg (idc x).toArray, .agg (idc y).toArray] W fun e w' => e = .returned (.int .i64 (Xfg x y)) ∧ ∃ q os', w' = grow (W.drewN q) os' := by
 have hc : ∀ n, Calls prog 73 #[.slice (some ⟨W.heap.size, 0, none⟩) 32 32, .slice (some ⟨W.heap.size + 1, 0, none⟩) 32 32] (((W.alloc (.cells (idc x).toArray 81)).alloc (.cells (idc y).toArray 81)).drewN n) fun e w' => e = .returned (.int .i64 (Xfg x y)) ∧ w' = ((W.alloc (.cells (idc x).toArray 81)).alloc (.cells (idc y).toArray 81)).drewN n := by
  intro n
  have h1 : (((W.alloc (.cells (idc x).toArray 81)).alloc (.cells (idc y).toArray 81)).drewN n).heap[W.heap.size]? = some (.cells (x.1.map Xah).toArray 81 (0, 0)) := by
   show ((W.heap.push _).push _)[W.heap.size]? = _
   rw [Array.getElem?_push, if_neg (by simp), Array.getElem?_push, if_pos rfl]; rfl
  have h2 : (((W.alloc (.cells (idc x).toArray 81)).alloc (.cells (idc y).toArray 81)).drewN n).heap[W.heap.size + 1]? = some (.cells (y.1.map Xah).toArray 81 (0, 0)) := by
   show ((W.heap.push _).push _)[W.heap.size + 1]? = _
   rw [Array.getElem?_push, if_pos (by simp)]; rfl
  have h := Xzx (((W.alloc (.cells (idc x).toArray 81)).alloc (.cells (idc y).toArray 81)).drewN n) (Xsm h1 x.2 (by decide)) (Xsm h2 y.2 (by decide))
  rw [x.2, y.2] at h
  exact h
 generalize Xfg x y = r at hc ⊢
 go_enter func162, ntmps162
 go_wp2
 go_quiet (first | (go_at_call 73; refine Calls.quiet_of_same (hc _)))
 rename_i nq
 go_wp2
 go_ret
 exact ⟨rfl, nq, _, by rw [alloc_eq_grow, alloc_eq_grow, grow_grow]; rfl⟩
end
def Xts : Go.Shelf.Ren := ⟨fun | 6 => 166 | 14 => 208 | 15 => 138 | 20 => 246 | 21 => 247 | 22 => 248 | 23 => 249 | 24 => 250 | 25 => 251 | 26 => 252 | 27 => 253 | 28 => 197 | 29 => 198 | 46 => 260 | 47 => 239 | 48 => 240 | 49 => 261 | 50 => 262 | 57 => 264 | n => n, fun | 22 => 25 | 24 => 81 | 25 => 178 | 39 => 166 | 45 => 211 | 46 => 212 | 50 => 119 | 53 => 62 | 55 => 144 | 66 => 237 | 70 => 240 | 76 => 253 | 77 => 254 | n => n, fun | n => n⟩
open Go.Shelf Go.Proofs in
theorem Xzb : SlLaysF0.n6 prog Xts where
 mixed := by kernel_rfl
 f6 := ⟨ "slices.SortFunc[[]anabranch/api.ID,anabranch/api.ID]", by decide, func166.trans (congrArg some (by kernel_rfl))⟩
 f14 := ⟨ "slices.pdqsortCmpFunc[anabranch/api.ID]", by decide, func208.trans (congrArg some (by kernel_rfl))⟩
 f15 := func138.trans (congrArg some (by kernel_rfl))
 f20 := ⟨ "slices.insertionSortCmpFunc[anabranch/api.ID]", by decide, func246.trans (congrArg some (by kernel_rfl))⟩
 f21 := ⟨ "slices.heapSortCmpFunc[anabranch/api.ID]", by decide, func247.trans (congrArg some (by kernel_rfl))⟩
 f22 := ⟨ "slices.breakPatternsCmpFunc[anabranch/api.ID]", by decide, func248.trans (congrArg some (by kernel_rfl))⟩
 f23 := ⟨ "slices.choosePivotCmpFunc[anabranch/api.ID]", by decide, func249.trans (congrArg some (by kernel_rfl))⟩
 f24 := ⟨ "slices.reverseRangeCmpFunc[anabranch/api.ID]", by decide, func250.trans (congrArg some (by kernel_rfl))⟩
 f25 := ⟨ "slices.partialInsertionSortCmpFunc[anabranch/api.ID]", by decide, func251.trans (congrArg some (by kernel_rfl))⟩
 f26 := ⟨ "slices.partitionEqualCmpFunc[anabranch/api.ID]", by decide, func252.trans (congrArg some (by kernel_rfl))⟩
 f27 := ⟨ "slices.partitionCmpFunc[anabranch/api.ID]", by decide, func253.trans (congrArg some (by kernel_rfl))⟩
 f28 := func197.trans (congrArg some (by kernel_rfl))
 f29 := func198.trans (congrArg some (by kernel_rfl))
 f46 := ⟨ "slices.siftDownCmpFunc[anabranch/api.ID]", by decide, func260.trans (congrArg some (by kernel_rfl))⟩
 f47 := func239.trans (congrArg some (by kernel_rfl))
 f48 := func240.trans (congrArg some (by kernel_rfl))
 f49 := ⟨ "slices.medianAdjacentCmpFunc[anabranch/api.ID]", by decide, func261.trans (congrArg some (by kernel_rfl))⟩
 f50 := ⟨ "slices.medianCmpFunc[anabranch/api.ID]", by decide, func262.trans (congrArg some (by kernel_rfl))⟩
 f57 := ⟨ "slices.order2CmpFunc[anabranch/api.ID]", by decide, func264.trans (congrArg some (by kernel_rfl))⟩
 t0 := underlying0
 a0 := Tryz.isAgg0
 z0 := Tryz.sizeOf0
 v0 := Tryz.zeroValue0
 t3 := underlying3
 a3 := Tryz.isAgg3
 z3 := Tryz.sizeOf3
 v3 := Tryz.zeroValue3
 t4 := underlying4
 a4 := Tryz.isAgg4
 z4 := Tryz.sizeOf4
 v4 := Tryz.zeroValue4
 t5 := underlying5
 a5 := Tryz.isAgg5
 z5 := Tryz.sizeOf5
 v5 := Tryz.zeroValue5
 t9 := underlying9
 a9 := Tryz.isAgg9
 z9 := Tryz.sizeOf9
 v9 := Tryz.zeroValue9
 t22 := underlying25
 a22 := Tryz.isAgg25
 z22 := Tryz.sizeOf25
 v22 := Tryz.zeroValue25
 t25 := underlying178
 a25 := Tryz.isAgg178
 z25 := Tryz.sizeOf178
 v25 := Tryz.zeroValue178
 t39 := underlying166
 a39 := Tryz.isAgg166
 z39 := Tryz.sizeOf166
 v39 := Tryz.zeroValue166
 t45 := underlying211
 a45 := Tryz.isAgg211
 z45 := Tryz.sizeOf211
 v45 := Tryz.zeroValue211
 t46 := underlying212
 a46 := Tryz.isAgg212
 z46 := Tryz.sizeOf212
 v46 := Tryz.zeroValue212
 t50 := underlying119
 a50 := Tryz.isAgg119
 z50 := Tryz.sizeOf119
 v50 := Tryz.zeroValue119
 t53 := underlying62
 a53 := Tryz.isAgg62
 z53 := Tryz.sizeOf62
 v53 := Tryz.zeroValue62
 t55 := underlying144
 a55 := Tryz.isAgg144
 z55 := Tryz.sizeOf144
 v55 := Tryz.zeroValue144
 t66 := underlying237
 a66 := Tryz.isAgg237
 z66 := Tryz.sizeOf237
 v66 := Tryz.zeroValue237
 t70 := underlying240
 a70 := Tryz.isAgg240
 z70 := Tryz.sizeOf240
 v70 := Tryz.zeroValue240
 t76 := underlying253
 a76 := Tryz.isAgg253
 z76 := Tryz.sizeOf253
 v76 := Tryz.zeroValue253
 t77 := underlying254
 a77 := Tryz.isAgg254
 z77 := Tryz.sizeOf254
 v77 := Tryz.zeroValue254
section
attribute [local irreducible] JC JO JR JQ andThen inBlock OpV Gives Xae JM JS
section
attribute [local irreducible] ents
def Xdj (L : List ID) : List ID := L.foldl addK []
theorem Xjc (L S : List ID) (h : S.Nodup) : (L.foldl addK S).Nodup := by
 induction L generalizing S with
 | nil => exact h
 | cons a L ih => exact ih _ (Xia h a)
theorem Xlu (L S : List ID) (x : ID) : x ∈ L.foldl addK S ↔ x ∈ S ∨ x ∈ L := by
 induction L generalizing S with
 | nil => simp
 | cons a L ih => rw [List.foldl_cons, ih, Xnj]; simp [or_assoc]
theorem Xbw (L : List ID) : (Xdj L).Nodup := Xjc L [] List.nodup_nil
theorem Xe1 (L : List ID) (x : ID) : x ∈ Xdj L ↔ x ∈ L := by simp [Xdj, Xlu]
theorem Xpe : Xdj [] = [] := rfl
theorem Xmg (L : List ID) (x : ID) : Xdj (L ++ [x]) = addK (Xdj L) x := by simp [Xdj]
theorem Xf1 (L : List ID) : (Xdj L).length ≤ L.length := by
 have : ∀ (L S : List ID), (L.foldl addK S).length ≤ S.length + L.length := by
  intro L
  induction L with
  | nil => simp
  | cons a L ih =>
   intro S
   have h1 := ih (addK S a)
   have h2 : (addK S a).length ≤ S.length + 1 := by unfold addK; split <;> simp
   simp only [List.foldl_cons, List.length_cons]; omega
 simpa [Xdj] using this L []
theorem Xzc (a : Option Addr) (c : Nat) (L : List ID) (h : (sl a c L).holds F w) :
  Gives prog 108 [.slice a L.length c] w F (fun b : Nat => .map (some b)) (fun b => [.omap b (ents idV (sety (Xdj L))) (Xdj L).length]) := by
 have hL : L.length < 9223372036854775807 := by have := h.2.2.1; simp only [lim] at this; omega
 refine Xaa func108 rfl ntmps108 rfl rfl [.st (sl a c L)] (.start1 h) ?_
 refine wz10 ?_
 refine Xh9 idV rfl ?_
 intro m
 refine wz4 ?_
 refine Xay (fun k : Nat => [(3, .map (some m)), (7, .slice a L.length c), (8, .int .i64 (L.length : Int)), (9, .int .i64 (k : Int))])
  (fun k => [.omap m (ents idV (sety (Xdj (L.take k)))) (Xdj (L.take k)).length, .st (sl a c L)])
  (fun k => k ≤ L.length) (fun k => L.length - k) 0 (Nat.zero_le _) (by simp only [List.take_zero, Xpe]; exact iI) ?_
 intro k hk
 refine wz11 ?_
 refine JC.test (fun hlt => ?_) (fun hge => ?_)
 ·have hlt' : k < L.length := by omega
  refine wz14 ?_
  refine Xcm rfl hlt' ?_
  intro b o
  (repeat (refine wE ?_; intro _)); refine wA ?_
  refine Xhc L[k] (Xbw _) ?_
  refine wz2 ?_
  refine ⟨k + 1, by omega, by omega, ?_⟩
  rw [List.take_succ_eq_append_getElem hlt', Xmg]
  exact iI
 ·refine wz3 ?_
  refine CT.done m rfl (fun w ho => ?_)
  rw [List.take_of_length_le (by omega)] at ho
  exact ho.ent
theorem Xzz : Go.Sort.SWO (Go.Proofs.ltOf Xfg) where
 irrefl x := Xgy x
 trans x y z h1 h2 := Xic h1 h2
 ntrans x y z h1 h2 := Xez h2 h1
theorem Xpf {w0 w : World} {F : Nat → Prop} {Γ : List Fact} {a : Option Addr} {c el : Nat} {L : List ID} (ho : Hold w0 F (.res (buf a c el L) :: Γ) w) :
  Calls prog 166 ⟨[.slice a L.length c, .func (.func 162) ⟨[]⟩ ⟨[]⟩]⟩ w fun x w' => ∃ y : Unit, x = .returned (.tuple ⟨[]⟩) ∧ Hold w0 F (.res (buf a c el (Xcc L)) :: Γ) w' := by
 refine Xvq ho (fun p cap w => Go.Proofs.AnyF.slices_SortFunc_none Xzb p cap _ w) (fun b cap d hH hb hs => ?_)
 exact Go.Proofs.AnyQ.slices_SortFunc_total Xzb 32 Tryz.isAgg81 Tryz.sizeOf81 idc Xcl (fun x => One.ok (cs := idc x)) Xfg Xzz 162 #[] b 0 cap d w
  (Body.ok (P := prog) (f := 162)) (fun m os dk _ x y => Xzy (Go.Proofs.sortWorldK idc 32 w b 0 m dk os) x y) hH hb hs (fun x y h1 h2 => Xgd h1 h2)
theorem Xek {S : List Nat} {n : Nat} (h : S.Nodup) (hlt : ∀ i ∈ S, i < n) : S.length ≤ n := by
 have hp : ((List.range n).filter (fun i => decide (i ∈ S))).Perm S := by
  refine (List.perm_ext_iff_of_nodup (List.nodup_range.filter _) h).2 fun i => ?_
  simp only [List.mem_filter, List.mem_range, decide_eq_true_eq]
  exact ⟨fun h => h.2, fun hi => ⟨hlt i hi, hi⟩⟩
 have := List.length_filter_le (fun i => decide (i ∈ S)) (List.range n)
 rw [hp.length_eq] at this
 simpa using this
theorem Xtt {S : List Nat} {n : Nat} (h : S.Nodup) (hlt : ∀ i ∈ S, i < n) (hall : ∀ i, i < n → i ∈ S) : S.Perm (List.range n) := by
 refine (List.perm_ext_iff_of_nodup h List.nodup_range).2 fun i => ?_
 rw [List.mem_range]
 exact ⟨hlt i, hall i⟩
theorem Xki (L : List ID) : (List.range L.length).filterMap (L[·]?) = L := by
 induction L with
 | nil => rfl
 | cons a L ih =>
  rw [List.length_cons, List.range_succ_eq_map, List.filterMap_cons]
  simp only [List.getElem?_cons_zero, List.filterMap_map]
  congr 1
theorem Xsn (b : Nat) (L : List ID) (hnd : L.Nodup) (hl : L.length ≤ 34359738368) (h : (rmap b (ents idV (sety L)) L.length).holds F w) :
  GivesBuf prog 109 [.map (some b)] w F 81 (Xcc L) := by
 refine Xaa func109 rfl ntmps109 rfl rfl [.st (rmap b (ents idV (sety L)) L.length)] (.start1 h) ?_
 refine JC.buf_nil (α := ID) 81 ?_
 refine wz10 ?_
 refine Xj5 rfl ?_
 intro r
 refine wz4 ?_
 refine Xdc (fun (S : List Nat) (out : List ID) p q => [(3, .slice p out.length q), (6, .pointer (some ⟨r, 0, none⟩))])
  (fun S out p q => [.res (buf p q 81 out), .obj r (.mapIter (some b) L.length S.toArray L.length), .st (rmap b (ents idV (sety L)) L.length)])
  (fun S out p q => S.Nodup ∧ (∀ i ∈ S, i < L.length) ∧ out = S.filterMap (L[·]?) ∧ out.length = S.length) (fun S _ _ _ => L.length - S.length) [] [] none 0 ⟨List.nodup_nil, by simp, rfl, rfl⟩ iI ?_
 intro S out p q ⟨hS1, hS2, hout, hlen⟩
 have hSl : S.length ≤ L.length := Xek hS1 hS2
 refine wz14 ?_
 refine Xnk rfl hS2 (fun hall => ?_) (fun j hj hjS => ?_)
 ·refine wA ?_
  refine Xbi (v := fun _ : Unit => .tuple ⟨[]⟩) rfl (fun w1 hw => Xpf hw) ?_
  intro _
  refine wz10 ?_
  have hp : out.Perm L := by
   rw [hout]
   have h2 := (Xtt hS1 hS2 hall).filterMap (L[·]?)
   rwa [Xki] at h2
  refine CT.done (p, q) ?_ (fun w ho => ?_)
  ·simp only [Xac, hp.length_eq, Xfz]
  ·rw [← Xtq hp]; exact ho.ent
 ·refine wA ?_
  refine Wf (Xib hj) rfl ?_
  (repeat (refine wE ?_; intro _)); refine wA ?_
  have hlt : S.length < L.length := by
   have := Xek (S := S ++ [j]) (n := L.length) (List.nodup_append.2 ⟨hS1, by simp, fun x hx y hy => by simp at hy; subst hy; exact fun e => hjS (e ▸ hx)⟩) (fun i hi => by
    rcases List.mem_append.1 hi with hi | hi
    ·exact hS2 i hi
    ·simp at hi; subst hi; exact hj)
   simp at this; omega
  refine Xa1 rfl (by exact ⟨rfl, rfl, by decide⟩) (by omega) ?_
  intro a2 c2
  refine wz2 ?_
  refine ⟨S ++ [j], out ++ [L[j]], a2, c2, ⟨List.nodup_append.2 ⟨hS1, by simp, fun x hx y hy => by simp at hy; subst hy; exact fun e => hjS (e ▸ hx)⟩, fun i hi => ?_, ?_, by simp [hlen]⟩, by simp; omega, iI⟩
  ·rcases List.mem_append.1 hi with hi | hi
   ·exact hS2 i hi
   ·simp at hi; subst hi; exact hj
  ·simp [hout, hj]
def Xc8 (b : List ID) (want : Bool) (a : List ID) : List ID := a.filter (fun x => decide (x ∈ b) == want)
theorem Xq6 (b : List ID) (want : Bool) : Xc8 b want [] = [] := rfl
theorem Xi2 (b : List ID) (want : Bool) (L : List ID) (j : Nat) (h : j < L.length) : Xc8 b want (L.take (j + 1)) = if decide (L[j] ∈ b) = want then Xc8 b want (L.take j) ++ [L[j]] else Xc8 b want (L.take j) := by
 rw [List.take_succ_eq_append_getElem h]
 simp only [Xc8, List.filter_append, List.filter_cons, List.filter_nil, beq_iff_eq]
 split <;> simp
theorem Xlv (b : List ID) (want : Bool) (L : List ID) : (Xc8 b want L).length ≤ L.length := List.length_filter_le _ _
def Xaw (a b : List ID) (want : Bool) : List ID := Xcc (Xdj (Xc8 b want a))
theorem Xxz (a b : Option Addr) (c k : Nat) (L M : List ID) (want : Bool) (h : (sl a c L).holds F w) (h' : (sl b k M).holds F w) (hl : L.length ≤ 34359738368) :
  GivesBuf prog 103 [.slice a L.length c, .slice b M.length k, .bool want] w F 81 (Xaw L M want) := by
 refine Xaa func103 rfl ntmps103 rfl rfl [.st (sl a c L), .st (sl b k M)] (.start2 h h') ?_
 refine wz10 ?_
 refine JR.call1 rfl (fun w1 hw => Xzc w1 _ b k M hw.get) ?_
 intro m
 refine wz13 ?_
 refine Xh9 idV rfl ?_
 intro u
 refine wz4 ?_
 refine Xay (fun j : Nat => [(2, .bool want), (7, .map (some m)), (8, .map (some u)), (14, .slice a L.length c), (15, .int .i64 (L.length : Int)), (16, .int .i64 (j : Int))])
  (fun j => [.omap u (ents idV (sety (Xdj (Xc8 M want (L.take j))))) (Xdj (Xc8 M want (L.take j))).length, .omap m (ents idV (sety (Xdj M))) (Xdj M).length, .st (sl a c L)])
  (fun j => j ≤ L.length) (fun j => L.length - j) 0 (Nat.zero_le _) (by simp only [List.take_zero, Xq6, Xpe]; exact iI) ?_
 intro j hj
 refine wz11 ?_
 refine JC.test (fun hlt => ?_) (fun hge => ?_)
 ·have hlt' : j < L.length := by omega
  refine wz14 ?_
  refine Xcm rfl hlt' ?_
  intro b1 o1
  (repeat (refine wE ?_; intro _)); refine wA ?_
  refine Wf (Xgc L[j] (Xbw _)) rfl ?_
  refine wA ?_
  refine JC.test (fun hy => ?_) (fun hn => ?_)
  ·refine wz9 ?_
   refine Xhc L[j] (Xbw _) ?_
   refine wz2 ?_
   refine ⟨j + 1, by omega, by omega, ?_⟩
   have : decide (L[j] ∈ M) = want := by simpa [Xe1] using hy
   rw [Xi2 M want L j hlt', if_pos this, Xmg]
   exact iI
  ·refine wz2 ?_
   refine ⟨j + 1, by omega, by omega, ?_⟩
   have : ¬ decide (L[j] ∈ M) = want := by simpa [Xe1] using hn
   rw [Xi2 M want L j hlt', if_neg this]
   exact iI
 ·refine JC.more (fun w ho => ho.pubMap) ?_
  refine wz3 ?_
  refine JR.callBuf rfl (fun w1 hw => Xsn w1 _ u (Xdj (Xc8 M want (L.take j))) (Xbw _) (Nat.le_trans (Xf1 _) (Nat.le_trans (Xlv _ _ _) (Nat.le_trans (List.length_take_le' _ _) hl))) hw.get) ?_
  intro a2 c2
  refine wz10 ?_
  have : L.take j = L := List.take_of_length_le (by omega)
  rw [this]
  exact CT.done (a2, c2) rfl (fun w ho => by unfold Xaw; exact ho.ent)
theorem Xd8 (a b : Option Addr) (c k : Nat) (L M : List ID) (h : (sl a c L).holds F w) (h' : (sl b k M).holds F w) (hl : L.length ≤ 34359738368) :
  GivesBuf prog 42 [.slice a L.length c, .slice b M.length k] w F 81 (Xaw L M false) := by
 refine Xaa func42 rfl ntmps42 rfl rfl [.st (sl a c L), .st (sl b k M)] (.start2 h h') ?_
 refine wz10 ?_
 refine JR.callBuf rfl (fun w1 hw => Xxz w1 _ a b c k L M false hw.get hw.get hl) ?_
 intro a2 c2
 refine wz10 ?_
 exact CT.dn (a2, c2) rfl
abbrev opV (o : Op_) : Value := .agg ⟨[.int .i64 o.kind, .string o.key, .string o.elem, .int .i64 o.n]⟩
def Xx0 (P : Program) (fid : FuncId) (p : Op_ → Bool) : Prop :=
 ∀ (w : World) (G : Nat → Prop) (o : Op_), o.key.size < 4611686018427387904 → o.elem.size < 4611686018427387904 → GivesV P fid [opV o] w G (.bool (p o))
def Xmh (o : Op_) : Bool := decide (o.n ≠ 0) && decide (-1048576 ≤ o.n) && decide (o.n ≤ 1048576) && decide (o.elem = ByteArray.mk #[])
def Xnx (o : Op_) : Bool := decide (o.n = 0) && Xhi o.elem
theorem X1f : Xx0 prog 217 Xmh := by
 intro w F o h1 h2
 refine Xaa func217 rfl ntmps217 rfl rfl [] (.start w F) ?_
 (repeat (refine wE ?_; intro _)); refine wA ?_
 refine JO.test 6 (fun h => ?_) (fun h => ?_)
 ·refine wA ?_
  refine JO.test 11 (fun h => ?_) (fun h => ?_)
  ·refine wA ?_
   refine JO.test 16 (fun h => ?_) (fun h => ?_)
   ·refine wA ?_
    refine CT.dn () ?_
    simp [Xac, Xmh, *]
   ·refine wz8 ?_
    refine CT.dn () ?_
    simp [Xac, Xmh, *]
  ·refine wz8 ?_
   refine CT.dn () ?_
   simp [Xac, Xmh, *]
 ·refine wz8 ?_
  refine CT.dn () ?_
  simp [Xac, Xmh, *]
theorem X1g : Xx0 prog 221 Xnx := by
 intro w F o h1 h2
 refine Xaa func221 rfl ntmps221 rfl rfl [] (.start w F) ?_
 (repeat (refine wE ?_; intro _)); refine wA ?_
 refine JO.test 6 (fun h => ?_) (fun h => ?_)
 ·refine wz6 ?_
  refine JR.callV rfl (fun w1 hw => Xie w1 _ _ h2) ?_
  refine wz8 ?_
  refine CT.dn () ?_
  simp [Xac, Xnx, *]
 ·refine wz8 ?_
  refine CT.dn () ?_
  simp [Xac, Xnx, *]
abbrev fnV (f : FuncId) : Value := .func (.func f) ⟨[]⟩ ⟨[]⟩
abbrev Xvr : Value := .agg ⟨[fnV 217, fnV 218, fnV 219]⟩
abbrev Xso : Value := .agg ⟨[fnV 221, fnV 222, fnV 223]⟩
def kindsM : List (Int × Value) := [] ++ [(0, Xvr)] ++ [(1, Xso)] ++ [(2, Xso)] ++ [(3, Xso)]
theorem Xhm : Gives prog 176 [] w F (fun b : Nat => .map (some b)) (fun b => [.omap b (ents intV kindsM) kindsM.length]) := by
 refine Xaa func176 rfl ntmps176 rfl rfl [] (.start w F) ?_
 refine wz10 ?_
 refine Wf (OpV.build [fnV 217, fnV 218, fnV 219] (by kernel_rfl)) rfl ?_
 (repeat (refine wE ?_; intro _)); refine wA ?_
 refine Wf (OpV.build [fnV 221, fnV 222, fnV 223] (by kernel_rfl)) rfl ?_
 (repeat (refine wE ?_; intro _)); refine wA ?_
 refine JR.makeMap intV rfl ?_
 intro m
 refine wz6 ?_
 refine JR.insert (0 : Int) (by decide) rfl ?_
 refine wz6 ?_
 refine JR.insert (1 : Int) (by simp) (by simp [plc]) ?_
 refine wz6 ?_
 refine JR.insert (2 : Int) (by simp) (by simp [plc]) ?_
 refine wz6 ?_
 refine JR.insert (3 : Int) (by simp) (by simp [plc]) ?_
 refine wz10 ?_
 exact CT.done m rfl (fun w ho => by unfold kindsM; exact ho.ent)
abbrev Xq7 : Value := .agg ⟨[.nilFunc, .nilFunc, .nilFunc]⟩
theorem Xf2 : (kindsM.map (·.1)).Nodup := by decide
theorem Xq8 (k : Int) : (k = 0 ∧ (Xbj kindsM k).getD Xq7 = Xvr ∧ (Xbj kindsM k).isSome = true) ∨ ((k = 1 ∨ k = 2 ∨ k = 3) ∧ (Xbj kindsM k).getD Xq7 = Xso ∧ (Xbj kindsM k).isSome = true) ∨
  ((¬ k = 0 ∧ ¬ (k = 1 ∨ k = 2 ∨ k = 3)) ∧ (Xbj kindsM k).getD Xq7 = Xq7 ∧ (Xbj kindsM k).isSome = false) := by
 by_cases h0 : k = 0
 ·subst h0; exact .inl ⟨rfl, rfl, rfl⟩
 by_cases h1 : k = 1
 ·subst h1; exact .inr (.inl ⟨by simp, rfl, rfl⟩)
 by_cases h2 : k = 2
 ·subst h2; exact .inr (.inl ⟨by simp, rfl, rfl⟩)
 by_cases h3 : k = 3
 ·subst h3; exact .inr (.inl ⟨by simp, rfl, rfl⟩)
 refine .inr (.inr ⟨⟨h0, by simp [h1, h2, h3]⟩, ?_⟩)
 have : Xbj kindsM k = none := by
  simp [Xbj, kindsM, Ne.symm h0, Ne.symm h1, Ne.symm h2, Ne.symm h3]
 rw [this]; exact ⟨rfl, rfl⟩
structure KindOf (f1 : Value) (is : Bool) (o : Op_) : Prop where
 no : is = false → Xfi o = false
 yes : is = true → ∃ (fid : FuncId) (_ : Body prog fid) (p : Op_ → Bool), f1 = fnV fid ∧ Xx0 prog fid p ∧ Xfi o = (Xhi o.key && p o)
theorem Xq9 : Xx0 prog 160 Xfi := by
 intro w F o hk he
 obtain ⟨f1, f2, f3, is, hone, h1, h2, hK⟩ : ∃ f1 f2 f3 is, One [f1, f2, f3] ∧ (Xbj kindsM o.kind).getD Xq7 = .agg ⟨[f1, f2, f3]⟩ ∧ (Xbj kindsM o.kind).isSome = is ∧ KindOf f1 is o := by
  rcases Xq8 o.kind with ⟨h0, h1, h2⟩ | ⟨h0, h1, h2⟩ | ⟨h0, h1, h2⟩
  ·refine ⟨_, _, _, _, iI, h1, h2, nofun, fun _ => ⟨_, iI, _, rfl, X1f, ?_⟩⟩
   simp only [Xfi, h0, if_true, Xmh]; rfl
  ·have h3 : ¬ o.kind = 0 := by omega
   refine ⟨_, _, _, _, iI, h1, h2, nofun, fun _ => ⟨_, iI, _, rfl, X1g, ?_⟩⟩
   simp only [Xfi, h3, if_false, h0, if_true, Xnx]
  ·exact ⟨_, _, _, _, iI, h1, h2, fun _ => by simp only [Xfi, h0.1, if_false, h0.2], nofun⟩
 refine Xaa func160 rfl ntmps160 rfl rfl [] (.start w F) ?_
 (repeat (refine wE ?_; intro _)); refine wA ?_
 rename_i bo
 refine Xch 8 mixed ?_
 refine JM.tv 1 ?_
 refine JM.tv 2 ?_
 refine Xy7 0 7 (by kernel_rfl) rfl rfl rfl rfl rfl rfl rfl rfl (JS.call1 rfl (fun w1 hw => Xhm w1 _) fun m => ?_) (JS.alloc rfl fun kb => JM.one 0 (by kernel_rfl) rfl rfl rfl rfl (JS.call1 rfl (fun w1 hw => Xhm w1 _) fun m => ?_))
 all_goals
  refine JM.take 3 rfl (by kernel_rfl) rfl (Xb4 o.kind Xf2 h1 h2) rfl rfl ?_
  refine JM.tv 4 ?_
  refine JM.tv 5 ?_
 ·refine Xy7 6 7 (by kernel_rfl) rfl rfl rfl rfl rfl rfl rfl rfl (JS.val Vq rfl ?_) (JS.alloc rfl fun kb => ?_)
  ·refine JM.one 7 (by kernel_rfl) rfl rfl rfl rfl (JS.alloc rfl fun kb => ?_)
   refine Xau 8 (by kernel_rfl) rfl rfl rfl (Wi (Wd ⟨rfl, ?_⟩))
   refine Xau 9 (by kernel_rfl) rfl rfl rfl (Wf Vb rfl (Wd ⟨rfl, ?_⟩))
   refine JM.nil (by kernel_rfl) ?_
   refine Wa ?_
   refine JC.ent (e' := [(1, .pointer (some ⟨bo, 0, none⟩)), (3, .pointer (some ⟨kb, 0, none⟩)), (4, .bool is)]) (Γ' := [.own kb 197 [f1, f2, f3], .own bo 27 [.int .i64 o.kind, .string o.key, .string o.elem, .int .i64 o.n]]) iI ?_
   cases is with
   | false =>
    refine wz8 ?_
    refine CT.dn () ?_
    simp only [Xac, hK.no rfl]
   | true =>
    obtain ⟨fid, hbody, p, rfl, hp, hmay⟩ := hK.yes rfl
    refine wz9 ?_
    refine JR.callV rfl (fun w1 hw => Xie w1 _ _ hk) ?_
    refine wz6 ?_
    refine JO.test 18 (fun hy => ?_) (fun hn => ?_)
    ·refine wz6 ?_
     refine JR.callV rfl (fun w1 hw => hp w1 _ o hk he) ?_
     refine wz8 ?_
     refine CT.dn () ?_
     simp [Xac, hmay, hy]
    ·refine wz8 ?_
     refine CT.dn () ?_
     simp [Xac, hmay, hn]
  ·refine Xl7 6 8 (by kernel_rfl) rfl rfl rfl rfl rfl rfl rfl (JS.val Vq rfl ?_) (Wi (Wd ⟨rfl, ?_⟩))
   ·refine Xau 8 (by kernel_rfl) rfl rfl rfl (Wi (Wd ⟨rfl, ?_⟩))
    refine Xau 9 (by kernel_rfl) rfl rfl rfl (Wf Vb rfl (Wd ⟨rfl, ?_⟩))
    refine JM.nil (by kernel_rfl) ?_
    refine Wa ?_
    refine JC.ent (e' := [(1, .pointer (some ⟨bo, 0, none⟩)), (3, .pointer (some ⟨kb, 0, none⟩)), (4, .bool is)]) (Γ' := [.own kb 197 [f1, f2, f3], .own bo 27 [.int .i64 o.kind, .string o.key, .string o.elem, .int .i64 o.n]]) iI ?_
    cases is with
    | false =>
     refine wz8 ?_
     refine CT.dn () ?_
     simp only [Xac, hK.no rfl]
    | true =>
     obtain ⟨fid, hbody, p, rfl, hp, hmay⟩ := hK.yes rfl
     refine wz9 ?_
     refine JR.callV rfl (fun w1 hw => Xie w1 _ _ hk) ?_
     refine wz6 ?_
     refine JO.test 18 (fun hy => ?_) (fun hn => ?_)
     ·refine wz6 ?_
      refine JR.callV rfl (fun w1 hw => hp w1 _ o hk he) ?_
      refine wz8 ?_
      refine CT.dn () ?_
      simp [Xac, hmay, hy]
     ·refine wz8 ?_
      refine CT.dn () ?_
      simp [Xac, hmay, hn]
   ·refine JM.one 6 (by kernel_rfl) rfl rfl rfl rfl (JS.val Vq rfl ?_)
    refine Xau 9 (by kernel_rfl) rfl rfl rfl (Wf Vb rfl (Wd ⟨rfl, ?_⟩))
    refine JM.nil (by kernel_rfl) ?_
    refine Wa ?_
    refine JC.ent (e' := [(1, .pointer (some ⟨bo, 0, none⟩)), (3, .pointer (some ⟨kb, 0, none⟩)), (4, .bool is)]) (Γ' := [.own kb 197 [f1, f2, f3], .own bo 27 [.int .i64 o.kind, .string o.key, .string o.elem, .int .i64 o.n]]) iI ?_
    cases is with
    | false =>
     refine wz8 ?_
     refine CT.dn () ?_
     simp only [Xac, hK.no rfl]
    | true =>
     obtain ⟨fid, hbody, p, rfl, hp, hmay⟩ := hK.yes rfl
     refine wz9 ?_
     refine JR.callV rfl (fun w1 hw => Xie w1 _ _ hk) ?_
     refine wz6 ?_
     refine JO.test 18 (fun hy => ?_) (fun hn => ?_)
     ·refine wz6 ?_
      refine JR.callV rfl (fun w1 hw => hp w1 _ o hk he) ?_
      refine wz8 ?_
      refine CT.dn () ?_
      simp [Xac, hmay, hy]
     ·refine wz8 ?_
      refine CT.dn () ?_
      simp [Xac, hmay, hn]
 ·refine Xl7 6 8 (by kernel_rfl) rfl rfl rfl rfl rfl rfl rfl (JS.val Vq rfl ?_) (Wi (Wd ⟨rfl, ?_⟩))
  ·refine Xau 8 (by kernel_rfl) rfl rfl rfl (Wi (Wd ⟨rfl, ?_⟩))
   refine Xau 9 (by kernel_rfl) rfl rfl rfl (Wf Vb rfl (Wd ⟨rfl, ?_⟩))
   refine JM.nil (by kernel_rfl) ?_
   refine Wa ?_
   refine JC.ent (e' := [(1, .pointer (some ⟨bo, 0, none⟩)), (3, .pointer (some ⟨kb, 0, none⟩)), (4, .bool is)]) (Γ' := [.own kb 197 [f1, f2, f3], .own bo 27 [.int .i64 o.kind, .string o.key, .string o.elem, .int .i64 o.n]]) iI ?_
   cases is with
   | false =>
    refine wz8 ?_
    refine CT.dn () ?_
    simp only [Xac, hK.no rfl]
   | true =>
    obtain ⟨fid, hbody, p, rfl, hp, hmay⟩ := hK.yes rfl
    refine wz9 ?_
    refine JR.callV rfl (fun w1 hw => Xie w1 _ _ hk) ?_
    refine wz6 ?_
    refine JO.test 18 (fun hy => ?_) (fun hn => ?_)
    ·refine wz6 ?_
     refine JR.callV rfl (fun w1 hw => hp w1 _ o hk he) ?_
     refine wz8 ?_
     refine CT.dn () ?_
     simp [Xac, hmay, hy]
    ·refine wz8 ?_
     refine CT.dn () ?_
     simp [Xac, hmay, hn]
  ·refine JM.one 6 (by kernel_rfl) rfl rfl rfl rfl (JS.val Vq rfl ?_)
   refine Xau 9 (by kernel_rfl) rfl rfl rfl (Wf Vb rfl (Wd ⟨rfl, ?_⟩))
   refine JM.nil (by kernel_rfl) ?_
   refine Wa ?_
   refine JC.ent (e' := [(1, .pointer (some ⟨bo, 0, none⟩)), (3, .pointer (some ⟨kb, 0, none⟩)), (4, .bool is)]) (Γ' := [.own kb 197 [f1, f2, f3], .own bo 27 [.int .i64 o.kind, .string o.key, .string o.elem, .int .i64 o.n]]) iI ?_
   cases is with
   | false =>
    refine wz8 ?_
    refine CT.dn () ?_
    simp only [Xac, hK.no rfl]
   | true =>
    obtain ⟨fid, hbody, p, rfl, hp, hmay⟩ := hK.yes rfl
    refine wz9 ?_
    refine JR.callV rfl (fun w1 hw => Xie w1 _ _ hk) ?_
    refine wz6 ?_
    refine JO.test 18 (fun hy => ?_) (fun hn => ?_)
    ·refine wz6 ?_
     refine JR.callV rfl (fun w1 hw => hp w1 _ o hk he) ?_
     refine wz8 ?_
     refine CT.dn () ?_
     simp [Xac, hmay, hy]
    ·refine wz8 ?_
     refine CT.dn () ?_
     simp [Xac, hmay, hn]
end
abbrev Xax (c : Commit) (a : Option Addr) (k : Nat) : Value :=
 .agg ⟨[.int .i64 c.ev.node, .int .i64 c.ev.seq, .int .i64 c.gen, .slice a c.parents.length k, .int .i64 c.op.kind, .string c.op.key, .string c.op.elem, .int .i64 c.op.n]⟩
def Xkj (c : Commit) : Prop := c.op.key.size < 4611686018427387904 ∧ c.op.elem.size < 4611686018427387904
theorem Xd3 (c : Commit) (a : Option Addr) (k : Nat) (h : (sl a k c.parents).holds F w) (ht : Xkj c) :
  GivesV prog 100 [Xax c a k] w F (.bool (may c)) := by
 have hL : c.parents.length < 9223372036854775807 := by have := h.2.2.1; simp only [lim] at this; omega
 refine Xaa func100 rfl ntmps100 rfl rfl [.st (sl a k c.parents)] (.start1 h) ?_
 (repeat (refine wE ?_; intro _)); refine wA ?_
 refine JR.callV rfl (fun w1 hw => Xkh w1 _ _ _ _) ?_
 refine wz7 ?_
 refine JO.test 11 (fun h1 => ?_) (fun h1 => ?_)
 ·refine wz8 ?_
  refine CT.dn () ?_
  simp [Xac, may, h1]
 have h1 : inB c.gen 1 1048576 = true := Classical.not_not.1 h1
 refine wz5 ?_
 refine JO.test 15 (fun h2 => ?_) (fun h2 => ?_)
 ·refine wz8 ?_
  refine CT.dn () ?_
  have : 8 < c.parents.length := by omega
  simp [Xac, may, this]
 refine wz6 ?_
 refine JR.callV rfl (fun w1 hw => Xkg w1 _ a k _ hw.get) ?_
 refine wz7 ?_
 refine JO.test 21 (fun h3 => ?_) (fun h3 => ?_)
 ·refine wz8 ?_
  refine CT.dn () ?_
  simp [Xac, may, h3]
 have h3 : Xc7 c.parents = true := Classical.not_not.1 h3
 have h2 : ¬ 8 < c.parents.length := by omega
 have e0 : (decide ((c.parents.length : Int) = 0)) = decide (c.parents.length = 0) := decide_eq_decide.2 (by omega)
 refine wA ?_
 refine JC.test (fun h4 => ?_) (fun h4 => ?_)
 ·refine wz9 ?_
  refine CT.dn () ?_
  rw [e0] at h4
  have : (decide (c.gen = 1) != decide (c.parents.length = 0)) = true := by rw [bne_iff_ne]; exact h4
  simp only [Xac, may, this, Bool.or_true, if_true]
 have h4 : (decide (c.gen = 1) != decide (c.parents.length = 0)) = false := by
  rw [e0] at h4
  rw [Classical.not_not.1 h4, bne_self_eq_false]
 have hmay : may c = if c.ev.node = -1 then decide (2 ≤ c.parents.length) && decide (c.ev.seq = 0) && decide (c.op = op0) else inB c.ev.node 0 7 && inB c.ev.seq 1 1048576 && Xfi c.op := by
  simp only [may, h1, h2, h3, h4, decide_false, Bool.not_true, Bool.or_false, Bool.false_eq_true, if_false]
 rw [hmay]
 refine wA ?_
 refine JC.test (fun h5 => ?_) (fun h5 => ?_)
 ·rw [if_pos h5]
  refine wz10 ?_
  refine JO.test 35 (fun h6 => ?_) (fun h6 => ?_)
  ·refine wz6 ?_
   refine JO.test 41 (fun h7 => ?_) (fun h7 => ?_)
   ·refine wz6 ?_
    refine Wf (OpV.build [.int .i64 0, .string .empty, .string .empty, .int .i64 0] (by kernel_rfl)) rfl ?_
    refine wA ?_
    refine CT.dn () ?_
    have h8 : 2 ≤ c.parents.length := by omega
    have e1 : (decide (2 ≤ c.parents.length) && decide (c.ev.seq = 0) && decide (c.op = op0)) = decide (c.op = op0) := by
     rw [decide_eq_true h8, decide_eq_true h7, Bool.true_and, Bool.true_and]
    rw [e1]
    rfl
   ·refine wz8 ?_
    refine CT.dn () ?_
    simp [Xac, h7]
  ·refine wz8 ?_
   refine CT.dn () ?_
   have : ¬ 2 ≤ c.parents.length := by omega
   simp [Xac, this]
 ·rw [if_neg h5]
  refine wz1 ?_
  refine JR.callV rfl (fun w1 hw => Xkh w1 _ _ _ _) ?_
  refine wz6 ?_
  refine JO.test 51 (fun h6 => ?_) (fun h6 => ?_)
  ·refine wz6 ?_
   refine JR.callV rfl (fun w1 hw => Xkh w1 _ _ _ _) ?_
   refine wz6 ?_
   refine JO.test 57 (fun h7 => ?_) (fun h7 => ?_)
   ·refine wz6 ?_
    refine JR.callV rfl (fun w1 hw => Xq9 w1 _ c.op ht.1 ht.2) ?_
    refine wz8 ?_
    refine CT.dn () ?_
    simp [Xac, h6, h7]
   ·refine wz8 ?_
    refine CT.dn () ?_
    simp [Xac, h7]
  ·refine wz8 ?_
   refine CT.dn () ?_
   simp [Xac, h6]
theorem Xco (c : Commit) (a : Option Addr) (k : Nat) (h : (sl a k c.parents).holds F w) (ht : Xkj c) :
  GivesV prog 97 [Xax c a k] w F (.bool (merge c)) := by
 refine Xaa func97 rfl ntmps97 rfl rfl [.st (sl a k c.parents)] (.start1 h) ?_
 (repeat (refine wE ?_; intro _)); refine wA ?_
 refine JO.test 7 (fun h1 => ?_) (fun h1 => ?_)
 ·refine wz6 ?_
  refine JR.callV rfl (fun w1 hw => Xd3 w1 _ c a k hw.get ht) ?_
  refine wz8 ?_
  refine CT.dn () ?_
  simp [Xac, merge, h1]
 ·refine wz8 ?_
  refine CT.dn () ?_
  simp [Xac, merge, h1]
theorem Xkk (c d : Commit) (a b : Option Addr) (k m : Nat) (h : (sl a k c.parents).holds F w) (h' : (sl b m d.parents).holds F w) :
  GivesV prog 158 [Xax c a k, Xax d b m] w F (.bool (decide (c = d))) := by
 have key : ∀ (c d : Commit), c = d ↔ c.ev = d.ev ∧ c.gen = d.gen ∧ c.op = d.op ∧ c.parents = d.parents := by
  intro c d
  cases c; cases d
  simp only [Commit.mk.injEq]
  constructor
  ·rintro ⟨h1, h2, h3, h4⟩; exact ⟨h1, h2, h4, h3⟩
  ·rintro ⟨h1, h2, h3, h4⟩; exact ⟨h1, h2, h4, h3⟩
 refine Xaa func158 rfl ntmps158 rfl rfl [.st (sl a k c.parents), .st (sl b m d.parents)] (.start2 h h') ?_
 (repeat (refine wE ?_; intro _)); refine wA ?_
 refine JO.test 10 (fun h1 => ?_) (fun h1 => ?_)
 ·refine wz6 ?_
  refine JO.test 17 (fun h2 => ?_) (fun h2 => ?_)
  ·refine wA ?_
   refine JO.test 24 (fun h3 => ?_) (fun h3 => ?_)
   ·refine wz6 ?_
    refine JR.callV rfl (fun w1 hw => Xvn w1 _ a b k m _ _ hw.get hw.get) ?_
    refine wz8 ?_
    refine CT.dn () ?_
    have h1 : c.ev = d.ev := h1
    have h3 : c.op = d.op := h3
    simp [Xac, key, h1, h2, h3]
   ·refine wz8 ?_
    refine CT.dn () ?_
    have h3 : ¬ c.op = d.op := h3
    simp [Xac, key, h3]
  ·refine wz8 ?_
   refine CT.dn () ?_
   simp [Xac, key, h2]
 ·refine wz8 ?_
  refine CT.dn () ?_
  have h1 : ¬ c.ev = d.ev := h1
  simp [Xac, key, h1]
def fine (c : Commit) : Prop := Xkj c ∧ c.parents.length ≤ 34359738368
theorem Xd9 (a : Option Addr) (c : Nat) (L : List Commit) (h : (sl a c L).holds F w) (hl : L.length ≤ 34359738368) (hf : ∀ x ∈ L, fine x) :
  GivesBuf prog 204 [.slice a L.length c] w F 29 L := by
 refine Xaa func204 rfl ntmps204 rfl rfl [.st (sl a c L)] (.start1 h) ?_
 refine JC.buf_nil (α := Commit) 29 ?_
 refine wz4 ?_
 refine Xdc (fun (k : Nat) (out : List Commit) p q => [(3, .slice p out.length q), (6, .slice a L.length c), (7, .int .i64 (L.length : Int)), (8, .int .i64 (k : Int))]) (fun (k : Nat) (out : List Commit) p q => [.st (sl a c L), .res (buf p q 29 out)])
  (fun k out p q => k ≤ L.length ∧ out = L.take k) (fun k _ _ _ => L.length - k) 0 [] none 0 ⟨Nat.zero_le _, rfl⟩ iI ?_
 intro k out p q ⟨hk, hout⟩
 refine wz11 ?_
 refine JC.test (fun hlt => ?_) (fun hge => ?_)
 ·have hlt' : k < L.length := by omega
  refine wz14 ?_
  refine Xaj rfl (by omega) ?_
  intro b o p' q'
  (repeat (refine wE ?_; intro _)); refine wA ?_
  refine JR.callSl rfl (fun w hw => Xhj w _ p' q' _ (hw.sat (.st (sl p' q' _)) (by simp)) (hf _ (List.getElem_mem hlt')).2) ?_
  intro a' c'
  (repeat (refine wE ?_; intro _)); refine wA ?_
  refine Xa1 rfl (by exact ⟨rfl, rfl, by decide⟩) (by subst hout; simp; omega) ?_
  intro a2 c2
  refine wz2 ?_
  exact ⟨k + 1, out ++ [L[k]], a2, c2, ⟨by omega, by rw [hout, List.take_succ_eq_append_getElem (by omega)]⟩, by omega, iI⟩
 ·refine wz3 ?_
  obtain rfl : out = L := by rw [hout, List.take_of_length_le (by omega)]
  exact CT.dn (p, q) rfl
theorem X11 (w0 w : World) (F : Nat → Prop) (L : List Commit) (c : Commit) (a : Option Addr) (k b : Nat) (h : (sl a k c.parents).holds F w0) (hb : (ro b 0 [.int .i64 c.ev.node, .int .i64 c.ev.seq, .int .i64 c.gen, .slice a c.parents.length k, .int .i64 c.op.kind, .string c.op.key, .string c.op.elem, .int .i64 c.op.n]).holds F w0)
  (hw : Bel w0.heap.size w0 w) :
  Asks prog w L 203 [.pointer (some ⟨b, 0, none⟩)] (fun d => decide (c = d)) := by
 intro w' G x a' q _ hb' hs
 have hbel := hw.trans (hb'.mono hw.size)
 have h := (sl a k c.parents).within _ _ h
 have hb := (ro b 0 [.int .i64 c.ev.node, .int .i64 c.ev.seq, .int .i64 c.gen, .slice a c.parents.length k, .int .i64 c.op.kind, .string c.op.key, .string c.op.elem, .int .i64 c.op.n]).within _ _ hb
 have h1 : (sl a k c.parents).holds (fun k => (F k ∧ k < w0.heap.size) ∨ G k) w' := Asn.mono _ _ _ _ (fun k hk => .inl hk) (Asn.frame _ _ _ _ (fun k hk => hbel.block k hk.2) h)
 have h2 : (ro b 0 [.int .i64 c.ev.node, .int .i64 c.ev.seq, .int .i64 c.gen, .slice a c.parents.length k, .int .i64 c.op.kind, .string c.op.key, .string c.op.elem, .int .i64 c.op.n]).holds (fun k => (F k ∧ k < w0.heap.size) ∨ G k) w' := Asn.mono _ _ _ _ (fun k hk => .inl hk) (Asn.frame _ _ _ _ (fun k hk => hbel.block k hk.2) hb)
 have h3 : (sl a' q x.parents).holds (fun k => (F k ∧ k < w0.heap.size) ∨ G k) w' := Asn.mono _ _ _ _ (fun k hk => .inr hk) hs
 show GivesV prog 203 [Xax x a' q, .pointer (some ⟨b, 0, none⟩)] w' G (.bool (decide (c = x)))
 refine GivesV.any (F := fun k => (F k ∧ k < w0.heap.size) ∨ G k) ?_
 refine Xaa func203 rfl ntmps203 rfl rfl [.st (sl a k c.parents), .st (ro b 0 [.int .i64 c.ev.node, .int .i64 c.ev.seq, .int .i64 c.gen, .slice a c.parents.length k, .int .i64 c.op.kind, .string c.op.key, .string c.op.elem, .int .i64 c.op.n]), .st (sl a' q x.parents)] (.start3 h1 h2 h3) ?_
 (repeat (refine wE ?_; intro _)); refine wA ?_
 refine JR.callV rfl (fun w1 hw => Xkk w1 _ c x a a' k q hw.get hw.get) ?_
 refine wz10 ?_
 refine CT.dn () ?_
 rfl
def Xbl (L : List Commit) (c : Commit) : List Commit := if !may c || merge c || L.any (fun d => decide (c = d)) then L else (L ++ [c]).drop (L.length + 1 - 8)
theorem Xx1 (a b : Option Addr) (k m : Nat) (L : List Commit) (c : Commit) (h : (sl a k L).holds F w) (h' : (sl b m c.parents).holds F w) (hl : L.length < 34359738368) (hf : ∀ x ∈ L, fine x) (hc : fine c) :
  Xcb prog 163 [.slice a L.length k, Xax c b m] w F (Xbl L c) := by
 have hL : L.length < 9223372036854775800 := by omega
 refine Xaa func163 rfl ntmps163 rfl rfl [.st (sl a k L), .st (sl b m c.parents)] (.start2 h h') ?_
 (repeat (refine wE ?_; intro _)); refine wA ?_
 rename_i bc
 refine JR.pubOwn bc ?_
 refine JR.callV rfl (fun w1 hw => Xd3 w1 _ c b m hw.get hc.1) ?_
 refine wz7 ?_
 refine JO.test 11 (fun h1 => ?_) (fun h1 => ?_)
 ·have e1 : Xbl L c = L := by simp [Xbl, h1]
  rw [e1]
  refine wz8 ?_
  refine JR.callBuf rfl (fun w1 hw => Xd9 w1 _ a k L hw.get (by omega) hf) ?_
  intro a2 c2
  refine wz9 ?_
  exact CT.done (a2, c2) rfl (fun w ho => Hold.left (Γ := [.st (sl a2 c2 L)]) (ho.pub))
 have h1 : may c = true := Classical.not_not.1 h1
 refine wz6 ?_
 refine JR.callV rfl (fun w1 hw => Xco w1 _ c b m hw.get hc.1) ?_
 refine wz7 ?_
 refine JO.test 15 (fun h2 => ?_) (fun h2 => ?_)
 ·have e1 : Xbl L c = L := by simp [Xbl, h2]
  rw [e1]
  refine wz8 ?_
  refine JR.callBuf rfl (fun w1 hw => Xd9 w1 _ a k L hw.get (by omega) hf) ?_
  intro a2 c2
  refine wz9 ?_
  exact CT.done (a2, c2) rfl (fun w ho => Hold.left (Γ := [.st (sl a2 c2 L)]) (ho.pub))
 have h2 : merge c = false := by simpa using h2
 refine wz6 ?_
 refine JR.callV rfl (fun w1 hw => Xdu w1 _ a k L hw.get _ _ _ (X11 w1 w1 _ L c b m bc hw.get hw.get (Bel.refl _ _))) ?_
 refine wz7 ?_
 refine JC.test (fun h3 => ?_) (fun h3 => ?_)
 ·have e1 : Xbl L c = L := by simp only [Xbl, h3, Bool.or_true, if_true]
  rw [e1]
  refine wz14 ?_
  refine JR.callBuf rfl (fun w1 hw => Xd9 w1 _ a k L hw.get (by omega) hf) ?_
  intro a2 c2
  refine wz9 ?_
  exact CT.done (a2, c2) rfl (fun w ho => Hold.left (Γ := [.st (sl a2 c2 L)]) (ho.pub))
 have h3 : L.any (fun d => decide (c = d)) = false := Bool.eq_false_iff.2 h3
 have e1 : Xbl L c = (L ++ [c]).drop (L.length + 1 - 8) := by simp only [Xbl, h1, h2, h3, Bool.not_true, Bool.or_self, Bool.false_eq_true, if_false]
 rw [e1]
 refine wz14 ?_
 refine JC.more (Γ' := [.st (sl a L.length L), .st (ro bc 0 [.int .i64 c.ev.node, .int .i64 c.ev.seq, .int .i64 c.gen, .slice b c.parents.length m, .int .i64 c.op.kind, .string c.op.key, .string c.op.elem, .int .i64 c.op.n]), .st (sl a k L), .st (sl b m c.parents)]) (fun w1 ho => ?_) ?_
 ·have hs : (sl a k L).holds _ w1 := ho.get
  refine ho.add ?_
  have := Xfv hs (k := L.length) (c' := L.length) (Nat.le_refl _) ⟨Nat.le_refl _, hs.1⟩
  rwa [List.take_length] at this
 have hLc : (L ++ [c]).length < 34359738370 := by simp only [List.length_append, List.length_singleton]; omega
 refine Xch 11 mixed ?_
 refine JM.tv 0 ?_
 refine JM.tv 1 ?_
 refine JM.tv 2 ?_
 refine JM.tv 3 ?_
 refine JM.tv 4 ?_
 refine JM.take 5 rfl (by kernel_rfl) rfl (Xls (fun w1 ho => (Hold.get (A := sl a k L) ho).1)) rfl rfl ?_
 refine JM.tv 6 ?_
 refine JM.one 7 (by kernel_rfl) rfl rfl rfl rfl (Xu1 rfl ⟨rfl, by decide, by decide, by decide⟩ fun lb => ?_)
 refine JM.one 8 (by kernel_rfl) rfl rfl rfl rfl (JS.appendFull (L := L) (u := c) rfl (by exact ⟨rfl, rfl, by decide⟩) hl fun a3 c3 => ?_)
 refine JM.more (fun w1 ho => ho.pub) ?_
 refine JM.one 9 (by kernel_rfl) rfl rfl rfl rfl (JS.callBuf rfl (fun w1 hw => Xd9 w1 _ a3 c3 (L ++ [c]) hw.get (by simp; omega) (by simpa [or_imp, forall_and] using ⟨hf, hc⟩)) fun a4 c4 => ?_)
 refine JM.one 10 (by kernel_rfl) rfl rfl rfl rfl (JS.val Vb rfl ?_)
 refine JM.nil (by kernel_rfl) ?_
 refine Wa ?_
 refine JC.more (fun w1 ho => ho.pub) ?_
 refine wA ?_
 refine Wf OpV.max rfl ?_
 refine JO.reslot 36 (.int .i64 (((L ++ [c]).length - 8 : Nat) : Int)) (by congr 1; simp only [List.length_append, List.length_singleton]; omega) ?_
 refine wz13 ?_
 refine Xbs (L := L ++ [c]) (k := (L ++ [c]).length - 8) rfl rfl (Nat.sub_le _ _) ?_
 intro a5 c5
 refine wz10 ?_
 have e2 : (L ++ [c]).length - 8 = L.length + 1 - 8 := by simp
 rw [← e2]
 exact CT.dn (a5, c5) rfl
theorem Xgr {w0 w : World} {F : Nat → Prop} {Γ : List Fact} {a : Option Addr} {c : Nat} {L : List Commit} (i : Nat) (hi : i < L.length) (ho : Hold w0 F (.res (buf a c 29 L) :: Γ) w) :
  Calls prog 245 ⟨[.slice a L.length c, .int .i64 (i : Int), .int .i64 ((i + 1 : Nat) : Int)]⟩ w fun x w' => ∃ y : Unit, x = .returned (.slice a (L.eraseIdx i).length c) ∧ Hold w0 F (.res (buf a c 29 (L.eraseIdx i)) :: Γ) w' := by
 obtain ⟨b, rfl⟩ : ∃ b, a = some ⟨b, 0, none⟩ := by
  obtain ⟨_, q, h1, h2, _⟩ : (buf a c 29 L).holds _ w := ho.sat (.res (buf a c 29 L)) (by simp)
  rcases h2.2 with ⟨hv, hn⟩ | ⟨g, cap, cur, hv, _⟩
  ·omega
  ·injection hv with e1 e2 e3
   exact ⟨g, e1⟩
 obtain ⟨_, _, hlim, _, _, _, hc, _⟩ := Xhd (ho.sat (.res (buf (some ⟨b, 0, none⟩) c 29 L)) (by simp))
 have hL : L.length < 9223372036854775000 := by simp only [lim] at hlim; omega
 have he : L.eraseIdx i = L.take i ++ L.drop (i + 1) := List.eraseIdx_eq_take_drop_succ ..
 have hel : (L.eraseIdx i).length = L.length - 1 := List.length_eraseIdx_of_lt hi
 refine Xbq func245 rfl ntmps245 rfl rfl _ ho ?_
 refine wz4 ?_
 refine Wf (Xqx (l := i) (k := i + 1) (q := L.length) (fun _ _ => ⟨by omega, by omega, hc⟩)) rfl ?_
 refine wz4 ?_
 refine JC.test (fun h => ?_) (fun h => ?_)
 ·omega
 refine wz2 ?_
 refine Xch 6 mixed ?_
 refine JM.tv 0 ?_
 refine JM.tv 1 ?_
 refine JM.take 2 rfl (by kernel_rfl) rfl (Xbm (k := i) (fun _ _ => by omega)) rfl rfl ?_
 refine JM.tv 3 ?_
 refine JM.tv 4 ?_
 refine JM.take 5 rfl (by kernel_rfl) rfl (Xlt (l := i + 1) (fun _ _ => ⟨by omega, hc⟩)) rfl rfl ?_
 refine Xau 6 (by kernel_rfl) rfl rfl rfl ?_
 refine Xo0 (L := L) (j := i + 1) rfl rfl (by omega) (by omega) (fun hm => by rw [if_neg (by omega)]; rfl) ?_
 refine Wd ⟨rfl, ?_⟩
 refine Xau 7 (by kernel_rfl) rfl rfl rfl (Wf Vb rfl (Wd ⟨rfl, ?_⟩))
 refine JM.nil (by kernel_rfl) ?_
 refine Wa ?_
 refine JC.reslot 0 (.slice (some ⟨b, 0, none⟩) (L.eraseIdx i).length c) (by rw [hel]; congr 1 <;> omega) ?_
 rw [← he]
 refine wz4 ?_
 refine Wf (Xnl (l := (L.eraseIdx i).length) (k := L.length) (fun _ _ => ⟨by omega, by omega⟩)) rfl ?_
 refine wz13 ?_
 refine JR.clear (b := b) (c := c) (L := L.eraseIdx i) (l := (L.eraseIdx i).length) (m := L.length - (L.eraseIdx i).length) (by exact ⟨rfl, rfl⟩) (Nat.le_refl _) (by omega) (fun hm => by rw [if_neg (by omega)]) ?_
 refine wz10 ?_
 exact CT.done () rfl (fun w ho => ho)
def Xfk (have_ : List ID) (c : Commit) : Bool := decide ((Xaw c.parents have_ false).length = 0)
theorem Xz0 (w0 w : World) (F : Nat → Prop) (H : List ID) (a : Option Addr) (k b : Nat) (h : (sl a k H).holds F w0) (hb : (ro b 0 [.slice a H.length k]).holds F w0) (hw : Bel w0.heap.size w0 w) (L : List Commit) (hL : ∀ x ∈ L, fine x) :
  Asks prog w L 244 [.pointer (some ⟨b, 0, none⟩)] (Xfk H) := by
 intro w' G x a' q hx hb' hs
 have hxl := (hL x hx).2
 have hbel := hw.trans (hb'.mono hw.size)
 have h := (sl a k H).within _ _ h
 have hb := (ro b 0 [.slice a H.length k]).within _ _ hb
 have h1 : (sl a k H).holds (fun k => (F k ∧ k < w0.heap.size) ∨ G k) w' := Asn.mono _ _ _ _ (fun k hk => .inl hk) (Asn.frame _ _ _ _ (fun k hk => hbel.block k hk.2) h)
 have h2 : (ro b 0 [.slice a H.length k]).holds (fun k => (F k ∧ k < w0.heap.size) ∨ G k) w' := Asn.mono _ _ _ _ (fun k hk => .inl hk) (Asn.frame _ _ _ _ (fun k hk => hbel.block k hk.2) hb)
 have h3 : (sl a' q x.parents).holds (fun k => (F k ∧ k < w0.heap.size) ∨ G k) w' := Asn.mono _ _ _ _ (fun k hk => .inr hk) hs
 show GivesV prog 244 [Xax x a' q, .pointer (some ⟨b, 0, none⟩)] w' G (.bool (Xfk H x))
 refine GivesV.any (F := fun k => (F k ∧ k < w0.heap.size) ∨ G k) ?_
 refine Xaa func244 rfl ntmps244 rfl rfl [.st (sl a k H), .st (ro b 0 [.slice a H.length k]), .st (sl a' q x.parents)] (.start3 h1 h2 h3) ?_
 (repeat (refine wE ?_; intro _)); refine wA ?_
 refine JR.callBuf rfl (fun w1 hw => Xd8 w1 _ a' a q k x.parents H hw.get hw.get hxl) ?_
 intro a2 c2
 refine wA ?_
 refine CT.dn () ?_
 simp only [Xac, Xfk]
 congr 1
 exact decide_eq_decide.2 (by omega)
def Xcv : Commit := ⟨⟨0, 0⟩, 0, [], op0⟩
def Xar (L : List Commit) (H : List ID) : Commit × List Commit × Bool :=
 match L.findIdx? (Xfk H) with
 | some i => (L.getD i Xcv, L.eraseIdx i, true)
 | none => (Xcv, L, false)
theorem Xtu (a b : Option Addr) (k m : Nat) (L : List Commit) (H : List ID) (h : (sl a k L).holds F w) (h' : (sl b m H).holds F w) (hl : L.length < 34359738368) (hf : ∀ x ∈ L, fine x) :
  Gives prog 205 [.slice a L.length k, .slice b H.length m] w F
   (fun y : (Option Addr × Nat) × (Option Addr × Nat) => .tuple ⟨[Xax (Xar L H).1 y.1.1 y.1.2, .slice y.2.1 (Xar L H).2.1.length y.2.2, .bool (Xar L H).2.2]⟩)
   (fun y => [.st (sl y.1.1 y.1.2 (Xar L H).1.parents), .st (sl y.2.1 y.2.2 (Xar L H).2.1)]) := by
 have hL : L.length < 9223372036854775800 := by omega
 refine Xaa func205 rfl ntmps205 rfl rfl [.st (sl a k L), .st (sl b m H)] (.start2 h h') ?_
 (repeat (refine wE ?_; intro _)); refine wA ?_
 rename_i bh bc
 refine JR.pubOwn bh ?_
 refine JR.callBuf rfl (fun w1 hw => Xd9 w1 _ a k L hw.get (by omega) hf) ?_
 intro a2 c2
 refine wA ?_
 refine JR.callV rfl (fun w1 hw => (Xe0 w1 (fun _ => True) a2 c2 L hw.bufSlOf _ _ _ (Xz0 w1 w1 _ H b m bh hw.get hw.get (Bel.refl _ _) L hf)).any) ?_
 refine wz2 ?_
 cases hfi : L.findIdx? (Xfk H) with
 | none =>
  have e1 : Xar L H = (Xcv, L, false) := by simp [Xar, hfi]
  rw [e1]
  refine JC.test (fun hlt => ?_) (fun hge => ?_)
  ·refine JC.pub 7 ?_
   intro a3 c3 hv
   injection hv with e1 _ e3
   subst e1 e3
   refine wz14 ?_
   refine Wf (OpV.build [.int .i64 0, .int .i64 0, .int .i64 0, .slice none 0 0, .int .i64 0, .string .empty, .string .empty, .int .i64 0] (by kernel_rfl)) rfl ?_
   refine wz9 ?_
   exact CT.done ((none, 0), (a2, c2)) rfl (fun w ho => (ho.ent : Hold _ _ [.st (sl a2 c2 L)] w).add Xak)
  ·simp [idxV] at hge
 | some i =>
  obtain ⟨hi, _, _⟩ := List.findIdx?_eq_some_iff_getElem.1 hfi
  have e1 : Xar L H = (L[i], L.eraseIdx i, true) := by simp [Xar, hfi, hi]
  rw [e1]
  refine JC.test (fun hlt => ?_) (fun hge => ?_)
  ·simp only [idxV] at hlt; omega
  have hne : L ≠ [] := by intro h; subst h; simp at hi
  refine JC.pure (fun w ho => Xxt (ho.sat (.res (buf a2 c2 29 L)) (by simp)) hne) ?_
  rintro ⟨b2, rfl⟩
  refine JC.reslot 8 (.int .i64 (i : Int)) rfl ?_
  refine wz14 ?_
  refine Wf (Xdh hi) rfl ?_
  refine We rfl ?_
  refine Xjb (k := i) rfl hi rfl ?_
  intro p q
  (repeat (refine wE ?_; intro _)); refine wA ?_
  refine Xch 5 mixed ?_
  refine JM.tv 1 ?_
  refine JM.tv 2 ?_
  refine JM.tv 3 ?_
  refine JM.take 4 rfl (by kernel_rfl) rfl (Vk (by omega)) rfl rfl ?_
  refine Xl7 0 5 (by kernel_rfl) rfl rfl rfl rfl rfl rfl rfl (JS.val Vc rfl ?_)
   (Xbi (v := fun _ : Unit => .slice (some ⟨b2, 0, none⟩) (L.eraseIdx i).length c2) rfl (fun w1 hw => Xgr i hi (hw.perm (BufAt.ok (b := b2)))) fun _ => Wd ⟨rfl, ?_⟩)
  ·refine Xau 5 (by kernel_rfl) rfl rfl rfl ?_
   refine Xbi (v := fun _ : Unit => .slice (some ⟨b2, 0, none⟩) (L.eraseIdx i).length c2) rfl (fun w1 hw => Xgr i hi (hw.perm (BufAt.ok (b := b2)))) fun _ => Wd ⟨rfl, ?_⟩
   refine Xau 6 (by kernel_rfl) rfl rfl rfl (Wi (Wd ⟨rfl, ?_⟩))
   refine Xau 7 (by kernel_rfl) rfl rfl rfl (Wf Vb rfl (Wd ⟨rfl, ?_⟩))
   refine Xau 8 (by kernel_rfl) rfl rfl rfl (Wf Vb rfl (Wd ⟨rfl, ?_⟩))
   refine JM.nil (by kernel_rfl) ?_
   refine Wa ?_
   refine JC.pub 5 ?_
   intro a3 c3 hv
   injection hv with e1 _ e3
   subst e1 e3
   refine wz13 ?_
   exact CT.dn ((p, q), (some ⟨b2, 0, none⟩, c2)) rfl
  ·refine JM.one 0 (by kernel_rfl) rfl rfl rfl rfl (JS.val Vc rfl ?_)
   refine Xau 6 (by kernel_rfl) rfl rfl rfl (Wi (Wd ⟨rfl, ?_⟩))
   refine Xau 7 (by kernel_rfl) rfl rfl rfl (Wf Vb rfl (Wd ⟨rfl, ?_⟩))
   refine Xau 8 (by kernel_rfl) rfl rfl rfl (Wf Vb rfl (Wd ⟨rfl, ?_⟩))
   refine JM.nil (by kernel_rfl) ?_
   refine Wa ?_
   refine JC.pub 5 ?_
   intro a3 c3 hv
   injection hv with e1 _ e3
   subst e1 e3
   refine wz13 ?_
   exact CT.dn ((p, q), (some ⟨b2, 0, none⟩, c2)) rfl
def Xeh (n : Int) : Nat := if 0 ≤ n then (2 * n).toNat else (-2 * n - 1).toNat
theorem Xx2 (n : Int) (h : -1099511627776 ≤ n ∧ n ≤ 1099511627776) :
  IntKind.u64.wrap (BitVec.ofInt IntKind.u64.bits (IntKind.u64.wrap (IntKind.u64.wrap n * 2 ^ (min (Int.toNat 1) IntKind.u64.bits))) ^^^ BitVec.ofInt IntKind.u64.bits (IntKind.u64.wrap (n.fdiv (2 ^ (min (Int.toNat 63) IntKind.i64.bits))))).toNat = ((Xeh n : Nat) : Int) := by
 show IntKind.u64.wrap (BitVec.ofInt 64 (IntKind.u64.wrap (IntKind.u64.wrap n * 2 ^ 1)) ^^^ BitVec.ofInt 64 (IntKind.u64.wrap (n.fdiv 9223372036854775808))).toNat = ((Xeh n : Nat) : Int)
 have hw : ∀ z : Int, IntKind.u64.wrap z = z % 18446744073709551616 := fun z => by simp [IntKind.wrap, IntKind.bits, IntKind.signed]
 by_cases h0 : 0 ≤ n
 ·have e1 : IntKind.u64.wrap (IntKind.u64.wrap n * 2 ^ 1) = (((2 * n).toNat : Nat) : Int) := by rw [hw, hw]; omega
  have e2 : n.fdiv 9223372036854775808 = 0 := by rw [Int.fdiv_eq_ediv_of_nonneg _ (by decide)]; omega
  have e3 : IntKind.u64.wrap 0 = 0 := by rw [hw]; rfl
  rw [e1, e2, e3]
  have e4 : (BitVec.ofInt 64 0) = (0#64) := rfl
  rw [e4, BitVec.xor_zero, BitVec.ofInt_natCast, BitVec.toNat_ofNat, hw, Xeh, if_pos h0]
  omega
 ·have e1 : IntKind.u64.wrap (IntKind.u64.wrap n * 2 ^ 1) = (((18446744073709551616 + 2 * n).toNat : Nat) : Int) := by rw [hw, hw]; omega
  have e2 : n.fdiv 9223372036854775808 = -1 := by rw [Int.fdiv_eq_ediv_of_nonneg _ (by decide)]; omega
  have e3 : IntKind.u64.wrap (-1) = 18446744073709551615 := by rw [hw]; rfl
  rw [e1, e2, e3]
  have e4 : (BitVec.ofInt 64 18446744073709551615) = BitVec.allOnes 64 := rfl
  rw [e4, BitVec.xor_allOnes, BitVec.toNat_not, BitVec.ofInt_natCast, BitVec.toNat_ofNat, hw, Xeh, if_neg h0]
  omega
theorem Xsp (n : Int) (h : -1099511627776 ≤ n ∧ n ≤ 1099511627776) : GivesV prog 114 [.int .i64 n] w F (.int .u64 ((Xeh n : Nat) : Int)) := by
 refine Xaa func114 rfl ntmps114 rfl rfl [] (.start w F) ?_
 refine wz10 ?_
 refine Wf Xa6 rfl ?_
 refine wz13 ?_
 refine Wf (OpV.shl (by decide)) rfl ?_
 refine wz6 ?_
 refine Wf (OpV.shr (by decide)) rfl ?_
 refine wz13 ?_
 refine Wf Xa6 rfl ?_
 refine wz13 ?_
 refine Wf OpV.xor rfl ?_
 refine wz10 ?_
 refine CT.dn () ?_
 exact congrArg (Value.int .u64) (Xx2 n h)
def Xzd (c a b : UInt32) : UInt32 := (c &&& a) ||| (b &&& ~~~ c)
def Xze (a b c : UInt32) : UInt32 := ((a &&& b) ^^^ (a &&& c)) ^^^ (b &&& c)
def rotR (x : UInt32) (k : Nat) : UInt32 := Xma x k ||| Xiy x (32 - k)
theorem Xx3 (c a b : UInt32) : GivesV prog 213 [w32 c, w32 a, w32 b] w F (w32 (Xzd c a b)) := by
 refine Xaa func213 rfl ntmps213 rfl rfl [] (.start w F) ?_
 refine z0z ?_
 exact CT.dn () rfl
theorem Xx4 (a b c : UInt32) : GivesV prog 214 [w32 a, w32 b, w32 c] w F (w32 (Xze a b c)) := by
 refine Xaa func214 rfl ntmps214 rfl rfl [] (.start w F) ?_
 refine z0z ?_
 exact CT.dn () rfl
theorem Xf3 (x : UInt32) (k : Nat) (hk : 1 ≤ k ∧ k ≤ 31) : GivesV prog 256 [w32 x, .int .i64 (k : Int)] w F (w32 (rotR x k)) := by
 refine Xaa func256 rfl ntmps256 rfl rfl [] (.start w F) ?_
 refine z0z ?_
 refine Wf (Xd2 (by rw [Xc2]; omega)) rfl ?_
 refine z0z ?_
 refine Wf (OpV.rem (by decide)) rfl ?_
 refine JO.reslot 8 (.int .u64 (k : Int)) (by congr 1; rw [Int.tmod_eq_emod_of_nonneg (by omega)]; omega) ?_
 refine z0z ?_
 refine Wf (Xfw (k := k) (by omega)) rfl ?_
 refine z0z ?_
 refine Wf Xxo rfl ?_
 refine JO.reslot 14 (.int .u64 ((32 - k : Nat) : Int)) (by congr 1; rw [show (32 : Int) - (k : Int) = ((32 - k : Nat) : Int) by omega, Xc2]; omega) ?_
 refine z0z ?_
 refine Wf (Xdi (k := 32 - k) (by omega)) rfl ?_
 refine z0z ?_
 exact CT.dn () rfl
def Xtv (x : UInt32) (i : Nat) : UInt8 := UInt8.ofNat (x.toNat / 2 ^ (24 - 8 * i))
def Xhn (x : UInt32) : List UInt8 := (List.range 4).map (Xtv x)
def Xvs (x : UInt32) (k : Nat) : Vec UInt8 4 := ⟨(List.range 4).map (fun i => if i < k then Xtv x i else 0), by simp⟩
theorem Xvt (x : UInt32) (k : Nat) (h : k < 4) : (Xvs x k).1.set k (Xtv x k) = (Xvs x (k + 1)).1 := by
 match k, h with
 | 0, _ => rfl
 | 1, _ => rfl
 | 2, _ => rfl
 | 3, _ => rfl
theorem Xx5 (x : UInt32) : GivesV prog 170 [w32 x] w F (.agg ⟨(Xhn x).map Xah⟩) := by
 refine Xaa func170 rfl ntmps170 rfl rfl [] (.start w F) ?_
 (repeat (refine wE ?_; intro _)); refine wA ?_
 rename_i bo
 refine JC.reown bo ((Xvs x 0).1.map Xah) rfl ?_
 refine Xay (fun k : Nat => [(0, w32 x), (2, .pointer (some ⟨bo, 0, none⟩)), (4, .int .i64 (k : Int))]) (fun k => [.own bo 186 ((Xvs x k).1.map Xah)])
  (fun k => k ≤ 4) (fun k => 4 - k) 0 (Nat.zero_le _) iI ?_
 intro k hk
 refine wz11 ?_
 refine JC.test (fun hlt => ?_) (fun hge => ?_)
 ·have hlt' : k < 4 := by omega
  refine wz7 ?_
  refine Wf (OpV.mul (by omega)) rfl ?_
  refine We rfl ?_
  refine Wf (Vv (by omega)) rfl ?_
  refine JO.reslot 11 (.int .i64 ((24 - 8 * k : Nat) : Int)) (by congr 1 <;> omega) ?_
  refine We rfl ?_
  refine Wf (Xfw (k := 24 - 8 * k) (by omega)) rfl ?_
  refine We rfl ?_
  refine Wf Xa6 rfl ?_
  refine JO.reslot 13 (Xah (Xtv x k)) (congrArg (Value.int .u8) (by
   rw [Xzq, Xtv, UInt8.toNat_ofNat', Xma, UInt32.toNat_ofNat', Nat.mod_eq_of_lt (a := x.toNat / _) (Nat.lt_of_le_of_lt (Nat.div_le_self _ _) x.toNat_lt)])) ?_
  refine We rfl ?_
  refine Wf (Xad hlt') rfl ?_
  refine We rfl ?_
  refine Xfd k (Xtv x k) (by rw [(Xvs x k).2]; exact hlt') (by omega) rfl ?_
  rw [Xvt x k hlt']
  refine wz2 ?_
  exact ⟨k + 1, by omega, by omega, iI⟩
 ·obtain rfl : k = 4 := by omega
  refine wz3 ?_
  exact CT.dn () rfl
def shaK : List UInt32 := [1116352408, 1899447441, 3049323471, 3921009573, 961987163, 1508970993, 2453635748, 2870763221, 3624381080, 310598401, 607225278, 1426881987, 1925078388, 2162078206, 2614888103, 3248222580, 3835390401, 4022224774, 264347078, 604807628, 770255983, 1249150122, 1555081692, 1996064986, 2554220882, 2821834349, 2952996808, 3210313671, 3336571891, 3584528711, 113926993, 338241895, 666307205, 773529912, 1294757372, 1396182291, 1695183700, 1986661051, 2177026350, 2456956037, 2730485921, 2820302411, 3259730800, 3345764771, 3516065817, 3600352804, 4094571909, 275423344, 430227734, 506948616, 659060556, 883997877, 958139571, 1322822218, 1537002063, 1747873779, 1955562222, 2024104815, 2227730452, 2361852424, 2428436474, 2756734187, 3204031479, 3329325298]
def shaS : List UInt32 := [1779033703, 3144134277, 1013904242, 2773480762, 1359893119, 2600822924, 528734635, 1541459225]
theorem Xvu : GivesV prog 167 [] w F (.agg ⟨shaS.map w32⟩) := by
 refine Xaa func167 rfl ntmps167 rfl rfl [] (.start w F) ?_
 (repeat (refine wE ?_; intro _)); refine wA ?_
 refine Wf (OpV.build [.int .u32 1779033703, .int .u32 3144134277, .int .u32 1013904242, .int .u32 2773480762, .int .u32 1359893119, .int .u32 2600822924, .int .u32 528734635, .int .u32 1541459225] (by kernel_rfl)) rfl ?_
 refine wz9 ?_
 refine CT.dn () ?_
 exact congrArg (fun l => Value.agg ⟨l⟩) (show _ = shaS.map w32 by kernel_rfl)
set_option maxRecDepth 4000 in
theorem Xny : GivesV prog 210 [] w F (.agg ⟨shaK.map w32⟩) := by
 refine Xaa func210 rfl ntmps210 rfl rfl [] (.start w F) ?_
 (repeat (refine wE ?_; intro _)); refine wA ?_
 refine Wf (OpV.build [.int .u32 1116352408, .int .u32 1899447441, .int .u32 3049323471, .int .u32 3921009573, .int .u32 961987163, .int .u32 1508970993, .int .u32 2453635748, .int .u32 2870763221, .int .u32 3624381080, .int .u32 310598401, .int .u32 607225278, .int .u32 1426881987, .int .u32 1925078388, .int .u32 2162078206, .int .u32 2614888103, .int .u32 3248222580, .int .u32 3835390401, .int .u32 4022224774, .int .u32 264347078, .int .u32 604807628, .int .u32 770255983, .int .u32 1249150122, .int .u32 1555081692, .int .u32 1996064986, .int .u32 2554220882, .int .u32 2821834349, .int .u32 2952996808, .int .u32 3210313671, .int .u32 3336571891, .int .u32 3584528711, .int .u32 113926993, .int .u32 338241895, .int .u32 666307205, .int .u32 773529912, .int .u32 1294757372, .int .u32 1396182291, .int .u32 1695183700, .int .u32 1986661051, .int .u32 2177026350, .int .u32 2456956037, .int .u32 2730485921, .int .u32 2820302411, .int .u32 3259730800, .int .u32 3345764771, .int .u32 3516065817, .int .u32 3600352804, .int .u32 4094571909, .int .u32 275423344, .int .u32 430227734, .int .u32 506948616, .int .u32 659060556, .int .u32 883997877, .int .u32 958139571, .int .u32 1322822218, .int .u32 1537002063, .int .u32 1747873779, .int .u32 1955562222, .int .u32 2024104815, .int .u32 2227730452, .int .u32 2361852424, .int .u32 2428436474, .int .u32 2756734187, .int .u32 3204031479, .int .u32 3329325298] (by kernel_rfl)) rfl ?_
 refine wz9 ?_
 refine CT.dn () ?_
 exact congrArg (fun l => Value.agg ⟨l⟩) (show _ = shaK.map w32 by kernel_rfl)
def Xra (x : UInt32) (a b c : Nat) : UInt32 := (rotR x a ^^^ rotR x b) ^^^ Xma x c
def Xrb (x : UInt32) (a b c : Nat) : UInt32 := (rotR x a ^^^ rotR x b) ^^^ rotR x c
theorem Xpg (x : UInt32) (a b c : Nat) (ha : 1 ≤ a ∧ a ≤ 31) (hb : 1 ≤ b ∧ b ≤ 31) (hc : c ≤ 32) : GivesV prog 255 [w32 x, .int .i64 (a : Int), .int .i64 (b : Int), .int .i64 (c : Int)] w F (w32 (Xra x a b c)) := by
 refine Xaa func255 rfl ntmps255 rfl rfl [] (.start w F) ?_
 refine z0z ?_
 refine Xb0 mixed (by kernel_rfl) ?_
 refine z1z ?_
 refine JQ.call rfl rfl (fun w1 hw => Xf3 w1 _ x a ha) ?_
 refine z1z ?_
 refine JQ.call rfl rfl (fun w1 hw => Xf3 w1 _ x b hb) ?_
 refine z1z ?_
 refine Wy rfl (Xfw (k := c) hc) rfl ?_
 refine z1z ?_
 refine z0z ?_
 exact CT.dn () rfl
theorem Xph (x : UInt32) (a b c : Nat) (ha : 1 ≤ a ∧ a ≤ 31) (hb : 1 ≤ b ∧ b ≤ 31) (hc : 1 ≤ c ∧ c ≤ 31) : GivesV prog 212 [w32 x, .int .i64 (a : Int), .int .i64 (b : Int), .int .i64 (c : Int)] w F (w32 (Xrb x a b c)) := by
 refine Xaa func212 rfl ntmps212 rfl rfl [] (.start w F) ?_
 refine z0z ?_
 refine JR.callV rfl (fun w1 hw => Xf3 w1 _ x a ha) ?_
 refine z0z ?_
 refine JR.callV rfl (fun w1 hw => Xf3 w1 _ x b hb) ?_
 refine z0z ?_
 refine JR.callV rfl (fun w1 hw => Xf3 w1 _ x c hc) ?_
 refine z0z ?_
 exact CT.dn () rfl
def Xtw (x : UInt64) (i : Nat) : UInt8 := UInt8.ofNat (x.toNat / 2 ^ (8 * i))
def Xpi (x : UInt64) : List UInt8 := (List.range 8).map (fun j => Xtw x (7 - j))
def Xvv (x : UInt64) (k : Nat) : Vec UInt8 8 := ⟨(List.range 8).map (fun j => if 7 - j < k then Xtw x (7 - j) else 0), by simp⟩
theorem Xvw (x : UInt64) (k : Nat) (h : k < 8) : (Xvv x k).1.set (7 - k) (Xtw x k) = (Xvv x (k + 1)).1 := by
 match k, h with
 | 0, _ => rfl
 | 1, _ => rfl
 | 2, _ => rfl
 | 3, _ => rfl
 | 4, _ => rfl
 | 5, _ => rfl
 | 6, _ => rfl
 | 7, _ => rfl
theorem Xx6 (x : UInt64) : GivesV prog 209 [w64 x] w F (.agg ⟨(Xpi x).map Xah⟩) := by
 refine Xaa func209 rfl ntmps209 rfl rfl [] (.start w F) ?_
 (repeat (refine wE ?_; intro _)); refine wA ?_
 rename_i bo
 refine JC.reown bo ((Xvv x 0).1.map Xah) rfl ?_
 refine Xay (fun k : Nat => [(0, w64 x), (2, .pointer (some ⟨bo, 0, none⟩)), (4, .int .i64 (k : Int))]) (fun k => [.own bo 224 ((Xvv x k).1.map Xah)])
  (fun k => k ≤ 8) (fun k => 8 - k) 0 (Nat.zero_le _) iI ?_
 intro k hk
 refine wz11 ?_
 refine JC.test (fun hlt => ?_) (fun hge => ?_)
 ·have hlt' : k < 8 := by omega
  refine wA ?_
  refine Wf (OpV.mul (by omega)) rfl ?_
  refine JO.reslot 11 (.int .i64 ((8 * k : Nat) : Int)) (by congr 1) ?_
  refine JO.reslot 8 (.int .i64 ((7 - k : Nat) : Int)) (by congr 1 <;> omega) ?_
  refine We rfl ?_
  refine Wf (Xu7 (k := 8 * k) (by omega)) rfl ?_
  refine We rfl ?_
  refine Wf Xa6 rfl ?_
  refine JO.reslot 13 (Xah (Xtw x k)) (congrArg (Value.int .u8) (by
   rw [Xzq, Xtw, UInt8.toNat_ofNat', Xu6, UInt64.toNat_ofNat', Nat.mod_eq_of_lt (a := x.toNat / _) (Nat.lt_of_le_of_lt (Nat.div_le_self _ _) x.toNat_lt)])) ?_
  refine We rfl ?_
  refine Wf (Xad (k := 7 - k) (by omega)) rfl ?_
  refine We rfl ?_
  refine Xfd (7 - k) (Xtw x k) (by rw [(Xvv x k).2]; omega) (by omega) rfl ?_
  rw [Xvw x k hlt']
  refine wz2 ?_
  exact ⟨k + 1, by omega, by omega, iI⟩
 ·obtain rfl : k = 8 := by omega
  refine wz3 ?_
  exact CT.dn () rfl
def X12 (a b c d : UInt8) : UInt32 := ((Xiy a.toUInt32 24 ||| Xiy b.toUInt32 16) ||| Xiy c.toUInt32 8) ||| d.toUInt32
def Xvx (L : List UInt8) (k : Nat) : UInt32 := X12 (L.getD k 0) (L.getD (k + 1) 0) (L.getD (k + 2) 0) (L.getD (k + 3) 0)
instance : NatI (24 : Int) 24 := ⟨rfl⟩
theorem Xnz (b : UInt8) : Value.int .u32 (IntKind.u32.wrap (b.toNat : Int)) = w32 b.toUInt32 := by
 rw [Xix, Nat.mod_eq_of_lt (by have := b.toNat_lt; omega)]; exact congrArg (fun n : Nat => Value.int .u32 (n : Int)) (UInt8.toNat_toUInt32 b).symm
theorem X13 (L : List UInt8) (k : Nat) (h : k + 4 ≤ L.length) : (L.drop k).take (k + 4 - k) = [L.getD k 0, L.getD (k + 1) 0, L.getD (k + 2) 0, L.getD (k + 3) 0] := by
 rw [show k + 4 - k = 4 by omega]
 apply List.ext_getElem?
 intro i
 rw [List.getElem?_take, List.getElem?_drop]
 match i with
 | 0 => simp [show k < L.length by omega]
 | 1 => simp [show k + 1 < L.length by omega]
 | 2 => simp [show k + 2 < L.length by omega]
 | 3 => simp [show k + 3 < L.length by omega]
 | i + 4 => simp; omega
theorem Xx7 (a : Option Addr) (c : Nat) (L : List UInt8) (k : Nat) (h : (sl a c L).holds F w) (hk : k + 4 ≤ L.length) :
  GivesV prog 254 [.slice a L.length c, .int .i64 (k : Int)] w F (.tuple ⟨[w32 (Xvx L k), .bool true]⟩) := by
 have hL : L.length < 9223372036854775800 := by have := h.2.2.1; simp only [lim] at this; omega
 refine Xaa func254 rfl ntmps254 rfl rfl [.st (sl a c L)] (.start1 h) ?_
 refine wA ?_
 refine JC.test (fun h2 => ?_) (fun h2 => ?_)
 ·omega
 refine wA ?_
 refine Xqy (l := k) (k := k + 4) rfl rfl ⟨by omega, hk⟩ ?_
 intro a2 c2
 rw [X13 L k hk]
 refine wz13 ?_
 refine Xqz rfl ⟨rfl, by simp⟩ ?_
 intro b o
 simp only [List.map_cons, List.map_nil]
 repeat (first | refine Wa ?_ | refine Wb ?_ | refine Wc ?_ | refine Wd ?_ | refine We rfl ?_ | refine Wf (by first | exact Va | exact Vb | exact Xba | exact Xbd | exact Xav | exact Xao | exact Xam | exact Vc | exact Xad (by decide)) rfl ?_ | refine Ws ?_ | refine Wt ?_)
 (repeat (refine wE ?_; intro _)); refine wA ?_
 rename_i bx
 refine Wf (Xad (by decide)) rfl ?_
 refine JO.reslot 23 (.pointer (some ⟨bx, 0, none⟩)) rfl ?_
 refine We rfl ?_
 refine Wf Vc rfl ?_
 refine We rfl ?_
 refine Wf Xa6 rfl ?_
 refine JO.reslot 25 (w32 (L.getD k 0).toUInt32) (Xnz _) ?_
 refine We rfl ?_
 refine Wf (Xdi (k := 24) (by decide)) rfl ?_
 refine We rfl ?_
 refine Wf (Xad (by decide)) rfl ?_
 refine JO.reslot 27 (.pointer (some ⟨bx, 1, none⟩)) rfl ?_
 refine We rfl ?_
 refine Wf Vc rfl ?_
 refine We rfl ?_
 refine Wf Xa6 rfl ?_
 refine JO.reslot 29 (w32 (L.getD (k + 1) 0).toUInt32) (Xnz _) ?_
 refine We rfl ?_
 refine Wf (Xdi (k := 16) (by decide)) rfl ?_
 refine We rfl ?_
 refine Wf Xbd rfl ?_
 refine We rfl ?_
 refine Wf (Xad (by decide)) rfl ?_
 refine JO.reslot 32 (.pointer (some ⟨bx, 2, none⟩)) rfl ?_
 refine We rfl ?_
 refine Wf Vc rfl ?_
 refine We rfl ?_
 refine Wf Xa6 rfl ?_
 refine JO.reslot 34 (w32 (L.getD (k + 2) 0).toUInt32) (Xnz _) ?_
 refine We rfl ?_
 refine Wf (Xdi (k := 8) (by decide)) rfl ?_
 refine We rfl ?_
 refine Wf Xbd rfl ?_
 refine We rfl ?_
 refine Wf (Xad (by decide)) rfl ?_
 refine JO.reslot 37 (.pointer (some ⟨bx, 3, none⟩)) rfl ?_
 refine We rfl ?_
 refine Wf Vc rfl ?_
 refine We rfl ?_
 refine Wf Xa6 rfl ?_
 refine JO.reslot 39 (w32 (L.getD (k + 3) 0).toUInt32) (Xnz _) ?_
 refine We rfl ?_
 refine Wf Xbd rfl ?_
 refine wz10 ?_
 exact CT.dn () rfl
end
section
attribute [local irreducible] JC JO JR JQ andThen inBlock OpV Gives Xae JM JS
def Xtx (L : List UInt8) (W : List UInt32) (k : Nat) : UInt32 :=
 if k < 16 then Xvx L (4 * k) else ((W.getD (k - 16) 0 + W.getD (k - 7) 0) + Xra (W.getD (k - 15) 0) 7 18 3) + Xra (W.getD (k - 2) 0) 17 19 10
def Xdr (L : List UInt8) : Nat → List UInt32
 | 0 => List.replicate 64 0
 | k + 1 => (Xdr L k).set k (Xtx L (Xdr L k) k)
theorem Xlw (L : List UInt8) (k : Nat) : (Xdr L k).length = 64 := by
 induction k with
 | zero => simp [Xdr]
 | succ k ih => simp [Xdr, ih]
def Xbb (L : List UInt8) (k : Nat) : Vec UInt32 64 := ⟨Xdr L k, Xlw L k⟩
theorem Xpj (L : List UInt8) : (Xbb L 0).1 = List.replicate 64 0 := rfl
theorem Xi3 (L : List UInt8) (k : Nat) : (Xbb L (k + 1)).1 = (Xbb L k).1.set k (Xtx L (Xbb L k).1 k) := rfl
theorem Xif {W : List UInt32} {k : Nat} (h : k < W.length) : W[k]'h = W.getD k 0 := by simp [List.getD_eq_getElem?_getD, h]
attribute [local irreducible] Xdr
theorem Xty (a : Option Addr) (c : Nat) (L : List UInt8) (h : (sl a c L).holds F w) (hL : L.length = 64) :
  GivesV prog 211 [.slice a L.length c] w F (.agg ⟨(Xbb L 64).1.map w32⟩) := by
 refine Xaa func211 rfl ntmps211 rfl rfl [.st (sl a c L)] (.start1 h) ?_
 (repeat (refine wE ?_; intro _)); refine wA ?_
 rename_i bo
 refine JC.reown bo ((Xbb L 0).1.map w32) (by rw [Xpj, List.map_replicate]; rfl) ?_
 refine Xay (fun k : Nat => [(0, .slice a L.length c), (2, .pointer (some ⟨bo, 0, none⟩)), (4, .int .i64 (k : Int))]) (fun k => [.own bo 226 ((Xbb L k).1.map w32), .st (sl a c L)])
  (fun k => k ≤ 64) (fun k => 64 - k) 0 (Nat.zero_le _) iI ?_
 intro k hk
 refine wz11 ?_
 refine JC.test (fun hlt => ?_) (fun hge => ?_)
 ·have hlt' : k < 64 := by omega
  have hv := (Xbb L k).2
  refine wA ?_
  refine JC.test (fun h16 => ?_) (fun h16 => ?_)
  ·have h16' : k < 16 := by omega
   refine wz14 ?_
   refine Wf (OpV.shl (by decide)) rfl ?_
   refine JO.reslot 13 (.int .i64 ((4 * k : Nat) : Int)) (congrArg (Value.int .i64) (by show IntKind.i64.wrap ((k : Int) * 2 ^ 2) = _; rw [IntKind.wrap_i64]; omega)) ?_
   refine We rfl ?_
   refine JR.callV rfl (fun w1 hw => Xx7 w1 _ a c L (4 * k) hw.get (by omega)) ?_
   refine wz4 ?_
   refine Wf (Xad hlt') rfl ?_
   refine We rfl ?_
   refine Xfd k (Xvx L (4 * k)) (by omega) (by omega) rfl ?_
   refine JO.reown bo ((Xbb L (k + 1)).1.map w32) (by rw [Xi3, Xtx, if_pos h16']) ?_
   refine wz12 ?_
   exact ⟨k + 1, by omega, by omega, iI⟩
  ·have h16' : ¬ k < 16 := by omega
   refine wz14 ?_
   refine Xch 23 mixed ?_
   refine JM.tv 0 ?_
   refine JM.tv 1 ?_
   refine JM.take 2 rfl (by kernel_rfl) rfl (Vv (by omega)) rfl rfl ?_
   refine JM.reslot 20 (.int .i64 ((k - 16 : Nat) : Int)) (by congr 1 <;> omega) ?_
   refine JM.take 3 rfl (by kernel_rfl) rfl (Xad (k := k - 16) (by omega)) rfl rfl ?_
   refine JM.take 4 rfl (by kernel_rfl) rfl (Xbk (k - 16) (by omega) (by omega) rfl) rfl rfl ?_
   refine JM.tv 5 ?_
   refine JM.take 6 rfl (by kernel_rfl) rfl (Vv (by omega)) rfl rfl ?_
   refine JM.reslot 24 (.int .i64 ((k - 7 : Nat) : Int)) (by congr 1 <;> omega) ?_
   refine JM.take 7 rfl (by kernel_rfl) rfl (Xad (k := k - 7) (by omega)) rfl rfl ?_
   refine JM.take 8 rfl (by kernel_rfl) rfl (Xbk (k - 7) (by omega) (by omega) rfl) rfl rfl ?_
   refine JM.take 9 rfl (by kernel_rfl) rfl Xam rfl rfl ?_
   refine JM.tv 10 ?_
   refine JM.take 11 rfl (by kernel_rfl) rfl (Vv (by omega)) rfl rfl ?_
   refine JM.reslot 29 (.int .i64 ((k - 15 : Nat) : Int)) (by congr 1 <;> omega) ?_
   refine JM.take 12 rfl (by kernel_rfl) rfl (Xad (k := k - 15) (by omega)) rfl rfl ?_
   refine JM.take 13 rfl (by kernel_rfl) rfl (Xbk (k - 15) (by omega) (by omega) rfl) rfl rfl ?_
   refine JM.takeCall 14 rfl (by kernel_rfl) rfl (fun w1 hw => Xpg w1 _ _ 7 18 3 (by decide) (by decide) (by decide)) rfl rfl ?_
   refine JM.take 15 rfl (by kernel_rfl) rfl Xam rfl rfl ?_
   refine JM.tv 16 ?_
   refine JM.take 17 rfl (by kernel_rfl) rfl (Vv (by omega)) rfl rfl ?_
   refine JM.reslot 35 (.int .i64 ((k - 2 : Nat) : Int)) (by congr 1 <;> omega) ?_
   refine JM.take 18 rfl (by kernel_rfl) rfl (Xad (k := k - 2) (by omega)) rfl rfl ?_
   refine JM.take 19 rfl (by kernel_rfl) rfl (Xbk (k - 2) (by omega) (by omega) rfl) rfl rfl ?_
   refine JM.takeCall 20 rfl (by kernel_rfl) rfl (fun w1 hw => Xpg w1 _ _ 17 19 10 (by decide) (by decide) (by decide)) rfl rfl ?_
   refine JM.take 21 rfl (by kernel_rfl) rfl Xam rfl rfl ?_
   refine JM.take 22 rfl (by kernel_rfl) rfl (Xad hlt') rfl rfl ?_
   refine JM.reslot 39 (w32 (Xtx L (Xbb L k).1 k)) (by rw [Xtx, if_neg h16', Xif, Xif, Xif, Xif]) ?_
   refine Xau 23 (by kernel_rfl) rfl rfl rfl (Xfd k (Xtx L (Xbb L k).1 k) (by omega) (by omega) rfl (JO.reown bo ((Xbb L (k + 1)).1.map w32) (by rw [Xi3]) (Wd ⟨rfl, ?_⟩)))
   refine JM.nil (by kernel_rfl) ?_
   refine wz2 ?_
   exact ⟨k + 1, by omega, by omega, iI⟩
 ·obtain rfl : k = 64 := by omega
  refine wz3 ?_
  exact CT.dn () rfl
end
section
attribute [local irreducible] JC JO JR JQ andThen inBlock OpV Gives Xae JM JS
attribute [local irreducible] Xdr
def Xvy (W s : List UInt32) (k : Nat) : UInt32 :=
 (((s.getD 7 0 + Xrb (s.getD 4 0) 6 11 25) + Xzd (s.getD 4 0) (s.getD 5 0) (s.getD 6 0)) + shaK.getD k 0) + W.getD k 0
def Xz1 (s : List UInt32) : UInt32 := Xrb (s.getD 0 0) 2 13 22 + Xze (s.getD 0 0) (s.getD 1 0) (s.getD 2 0)
def X1h (W s : List UInt32) (k : Nat) : List UInt32 :=
 [Xvy W s k + Xz1 s, s.getD 0 0, s.getD 1 0, s.getD 2 0, s.getD 3 0 + Xvy W s k, s.getD 4 0, s.getD 5 0, s.getD 6 0]
def Xz2 (W h : List UInt32) : Nat → List UInt32
 | 0 => h
 | k + 1 => X1h W (Xz2 W h k) k
theorem Xpk (W : List UInt32) {h : List UInt32} (hh : h.length = 8) (k : Nat) : (Xz2 W h k).length = 8 := by
 cases k with
 | zero => exact hh
 | succ k => rfl
def Xjd (W : List UInt32) (h : Vec UInt32 8) (k : Nat) : Vec UInt32 8 := ⟨Xz2 W h.1 k, Xpk W h.2 k⟩
theorem Xtz (W : List UInt32) (h : Vec UInt32 8) : Xjd W h 0 = h := rfl
theorem Xt0 (W : List UInt32) (h : Vec UInt32 8) (k : Nat) : (Xjd W h (k + 1)).1 = X1h W (Xjd W h k).1 k := rfl
def X1i (h s : List UInt32) (k : Nat) : List UInt32 := (List.range 8).map (fun i => if i < k then h.getD i 0 + s.getD i 0 else h.getD i 0)
def Xho (h s : List UInt32) (k : Nat) : Vec UInt32 8 := ⟨X1i h s k, by simp [X1i]⟩
theorem Xvz (h s : List UInt32) (k : Nat) (hk : k < 8) : (Xho h s k).1.set k (h.getD k 0 + s.getD k 0) = (Xho h s (k + 1)).1 := by
 match k, hk with
 | 0, _ => rfl
 | 1, _ => rfl
 | 2, _ => rfl
 | 3, _ => rfl
 | 4, _ => rfl
 | 5, _ => rfl
 | 6, _ => rfl
 | 7, _ => rfl
theorem Xx8 (h s : List UInt32) (k : Nat) (hk : k < 8) : (Xho h s k).1.getD k 0 = h.getD k 0 := by
 match k, hk with
 | 0, _ => rfl
 | 1, _ => rfl
 | 2, _ => rfl
 | 3, _ => rfl
 | 4, _ => rfl
 | 5, _ => rfl
 | 6, _ => rfl
 | 7, _ => rfl
theorem vec8 (v : Vec UInt32 8) : ∃ a b c d e f g h, v.1 = [a, b, c, d, e, f, g, h] := by
 obtain ⟨l, hl⟩ := v
 match l, hl with
 | [a, b, c, d, e, f, g, h], _ => exact ⟨a, b, c, d, e, f, g, h, rfl⟩
theorem Xt1 (v : Vec UInt32 8) (s : List UInt32) : (Xho v.1 s 0).1 = v.1 := by
 obtain ⟨a, b, c, d, e, f, g, h, hv⟩ := vec8 v
 rw [hv]; rfl
def Xkl (h : Vec UInt32 8) (L : List UInt8) : Vec UInt32 8 := Xho h.1 (Xjd (Xbb L 64).1 h 64).1 8
def Xlx : Vec UInt32 64 := ⟨shaK, rfl⟩
theorem Xly : GivesV prog 210 [] w F (.agg ⟨Xlx.1.map w32⟩) := Xny w F
theorem Xx9 : Xlx.1 = shaK := rfl
attribute [local irreducible] Xlx Xbb Xjd Xho
theorem Xv0 (a : Option Addr) (c : Nat) (L : List UInt8) (h : Vec UInt32 8) (hs : (sl a c L).holds F w) (hL : L.length = 64) :
  GivesV prog 169 [.agg ⟨h.1.map w32⟩, .slice a L.length c] w F (.tuple ⟨[.agg ⟨(Xkl h L).1.map w32⟩, .bool true]⟩) := by
 refine Xaa func169 rfl ntmps169 rfl rfl [.st (sl a c L)] (.start1 hs) ?_
 (repeat (refine wE ?_; intro _)); refine wA ?_
 rename_i bh br
 refine JC.test (fun h0 => ?_) (fun h0 => ?_)
 ·simp [hL] at h0
 refine wz14 ?_
 refine Xj6 (fun q : Nat × Nat × Nat => [(2, .pointer (some ⟨bh, 0, none⟩)), (4, .pointer (some ⟨br, 0, none⟩)), (6, .pointer (some ⟨q.1, 0, none⟩)), (7, .pointer (some ⟨q.2.1, 0, none⟩)), (8, .pointer (some ⟨q.2.2, 0, none⟩))])
  (fun q => [.own bh 182 (h.1.map w32), .own br 182 [.int .u32 0, .int .u32 0, .int .u32 0, .int .u32 0, .int .u32 0, .int .u32 0, .int .u32 0, .int .u32 0], .own q.1 226 (Xlx.1.map w32), .own q.2.1 226 ((Xbb L 64).1.map w32), .own q.2.2 182 (h.1.map w32)]) ?_ ?_
 ·refine Xch 7 mixed ?_
  refine JM.takeCall 0 rfl (by kernel_rfl) rfl (fun w1 hw => Xly w1 _) rfl rfl ?_
  refine JM.tv 1 ?_
  refine JM.takeCall 2 rfl (by kernel_rfl) rfl (fun w1 hw => Xty w1 _ a c L hw.get hL) rfl rfl ?_
  refine Xo9 (i0 := 3) (i1 := 4) (i2 := 5) (i3 := 6) rfl Vc rfl rfl rfl (by kernel_rfl) rfl rfl rfl ?_ ?_
  ·intro q1 q2 q3
   refine Xau 7 (by kernel_rfl) rfl rfl rfl (Wi (Wd ⟨rfl, ?_⟩))
   refine Xau 8 (by kernel_rfl) rfl rfl rfl (Wi (Wd ⟨rfl, ?_⟩))
   refine Xau 9 (by kernel_rfl) rfl rfl rfl (Wi (Wd ⟨rfl, ?_⟩))
   refine JM.nil (by kernel_rfl) ?_
   exact ⟨rfl, (q1, q2, q3), iI⟩
  ·intro q1 q2 q3
   refine Xl7 3 7 (by kernel_rfl) rfl rfl rfl rfl rfl rfl rfl (JS.val Vc rfl ?_) (Wi (Wd ⟨rfl, ?_⟩))
   ·refine Xau 7 (by kernel_rfl) rfl rfl rfl (Wi (Wd ⟨rfl, ?_⟩))
    refine Xau 8 (by kernel_rfl) rfl rfl rfl (Wi (Wd ⟨rfl, ?_⟩))
    refine Xau 9 (by kernel_rfl) rfl rfl rfl (Wi (Wd ⟨rfl, ?_⟩))
    refine JM.nil (by kernel_rfl) ?_
    exact ⟨rfl, (q1, q2, q3), iI⟩
   ·refine Xl7 3 8 (by kernel_rfl) rfl rfl rfl rfl rfl rfl rfl (JS.val Vc rfl ?_) (Wi (Wd ⟨rfl, ?_⟩))
    ·refine Xau 8 (by kernel_rfl) rfl rfl rfl (Wi (Wd ⟨rfl, ?_⟩))
     refine Xau 9 (by kernel_rfl) rfl rfl rfl (Wi (Wd ⟨rfl, ?_⟩))
     refine JM.nil (by kernel_rfl) ?_
     exact ⟨rfl, (q1, q2, q3), iI⟩
    ·refine JM.one 3 (by kernel_rfl) rfl rfl rfl rfl (JS.val Vc rfl ?_)
     refine Xau 9 (by kernel_rfl) rfl rfl rfl (Wi (Wd ⟨rfl, ?_⟩))
     refine JM.nil (by kernel_rfl) ?_
     exact ⟨rfl, (q1, q2, q3), iI⟩
 rintro ⟨q1, q2, q3⟩
 refine wz4 ?_
 refine Xay (fun k : Nat => [(2, .pointer (some ⟨bh, 0, none⟩)), (4, .pointer (some ⟨br, 0, none⟩)), (6, .pointer (some ⟨q1, 0, none⟩)), (7, .pointer (some ⟨q2, 0, none⟩)), (8, .pointer (some ⟨q3, 0, none⟩)), (21, .int .i64 (k : Int))])
  (fun k => [.own bh 182 (h.1.map w32), .own br 182 [.int .u32 0, .int .u32 0, .int .u32 0, .int .u32 0, .int .u32 0, .int .u32 0, .int .u32 0, .int .u32 0], .own q1 226 (Xlx.1.map w32), .own q2 226 ((Xbb L 64).1.map w32), .own q3 182 ((Xjd (Xbb L 64).1 h k).1.map w32)])
  (fun k => k ≤ 64) (fun k => 64 - k) 0 (Nat.zero_le _) (by rw [Xtz]; infer_instance) ?_
 intro k hk
 refine wz11 ?_
 refine JC.test (fun hlt => ?_) (fun hge => ?_)
 ·have hlt' : k < 64 := by omega
  have hkk : k < Xlx.1.length := by rw [Xlx.2]; exact hlt'
  have hkw : k < (Xbb L 64).1.length := by rw [(Xbb L 64).2]; exact hlt'
  obtain ⟨x0, x1, x2, x3, x4, x5, x6, x7, hx⟩ := vec8 (Xjd (Xbb L 64).1 h k)
  have hnext := Xt0 (Xbb L 64).1 h k
  rw [hx] at hnext ⊢
  refine wz7 ?_
  refine Xb0 mixed (by kernel_rfl) ?_
  refine Wy rfl (Xad (k := 7) (by decide)) rfl ?_
  refine Wy rfl (Xbk 7 (by simp) rfl rfl) rfl ?_
  refine Wy rfl (Xad (k := 4) (by decide)) rfl ?_
  refine Wy rfl (Xbk 4 (by simp) rfl rfl) rfl ?_
  refine JQ.call rfl rfl (fun w1 hw => Xph w1 _ _ 6 11 25 (by decide) (by decide) (by decide)) ?_
  refine Wy rfl Xam rfl ?_
  refine Wy rfl (Xad (k := 4) (by decide)) rfl ?_
  refine Wy rfl (Xbk 4 (by simp) rfl rfl) rfl ?_
  refine Wy rfl (Xad (k := 5) (by decide)) rfl ?_
  refine Wy rfl (Xbk 5 (by simp) rfl rfl) rfl ?_
  refine Wy rfl (Xad (k := 6) (by decide)) rfl ?_
  refine Wy rfl (Xbk 6 (by simp) rfl rfl) rfl ?_
  refine JQ.call rfl rfl (fun w1 hw => Xx3 w1 _ _ _ _) ?_
  refine Wy rfl Xam rfl ?_
  refine Wy rfl Va rfl ?_
  refine Wy rfl (Xad hlt') rfl ?_
  refine Wy rfl (Xbk k hkk (by omega) rfl) rfl ?_
  refine Wy rfl Xam rfl ?_
  refine Wy rfl Va rfl ?_
  refine Wy rfl (Xad hlt') rfl ?_
  refine Wy rfl (Xbk k hkw (by omega) rfl) rfl ?_
  refine Wy rfl Xam rfl ?_
  refine JQ.reslot 45 (w32 (Xvy (Xbb L 64).1 [x0, x1, x2, x3, x4, x5, x6, x7] k)) (by simp only [Xif, Xx9]; rfl) ?_
  refine Wy rfl Vb rfl ?_
  refine WB ?_
  refine wz14 ?_
  refine Xb0 mixed (by kernel_rfl) ?_
  refine Wy rfl (Xad (k := 0) (by decide)) rfl ?_
  refine Wy rfl (Xbk 0 (by simp) rfl rfl) rfl ?_
  refine JQ.call rfl rfl (fun w1 hw => Xph w1 _ _ 2 13 22 (by decide) (by decide) (by decide)) ?_
  refine Wy rfl (Xad (k := 0) (by decide)) rfl ?_
  refine Wy rfl (Xbk 0 (by simp) rfl rfl) rfl ?_
  refine Wy rfl (Xad (k := 1) (by decide)) rfl ?_
  refine Wy rfl (Xbk 1 (by simp) rfl rfl) rfl ?_
  refine Wy rfl (Xad (k := 2) (by decide)) rfl ?_
  refine Wy rfl (Xbk 2 (by simp) rfl rfl) rfl ?_
  refine JQ.call rfl rfl (fun w1 hw => Xx4 w1 _ _ _ _) ?_
  refine Wy rfl Xam rfl ?_
  refine JQ.reslot 56 (w32 (Xz1 [x0, x1, x2, x3, x4, x5, x6, x7])) rfl ?_
  refine Wy rfl Vb rfl ?_
  refine WB ?_
  refine wz14 ?_
  refine Xch 2 mixed ?_
  refine JM.take 0 rfl (by kernel_rfl) rfl (Xfu (l := 1) (by decide) rfl) rfl rfl ?_
  refine JM.take 1 rfl (by kernel_rfl) rfl (Xgp (k := 7) (by decide)) rfl rfl ?_
  refine Xau 2 (by kernel_rfl) rfl rfl rfl (Xmb (cs := [x0, x1, x2, x3, x4, x5, x6].map w32) rfl rfl (by decide) rfl (by simp) iI ?_)
  refine JO.reown q3 ([x0, x0, x1, x2, x3, x4, x5, x6].map w32) rfl (Wd ⟨rfl, ?_⟩)
  refine JM.nil (by kernel_rfl) ?_
  refine wz14 ?_
  refine Wf (Xad (k := 4) (by decide)) rfl ?_
  refine We rfl ?_
  refine Wf (Xbk 4 (by simp) rfl rfl) rfl ?_
  refine We rfl ?_
  refine Wf Va rfl ?_
  refine We rfl ?_
  refine Wf Xam rfl ?_
  refine We rfl ?_
  refine Wf (Xad (k := 4) (by decide)) rfl ?_
  refine We rfl ?_
  refine Xfd 4 (x3 + Xvy (Xbb L 64).1 [x0, x1, x2, x3, x4, x5, x6, x7] k) (by simp) rfl rfl ?_
  refine wz10 ?_
  refine Wf Xam rfl ?_
  refine We rfl ?_
  refine Wf (Xad (k := 0) (by decide)) rfl ?_
  refine We rfl ?_
  refine Xfd 0 (Xvy (Xbb L 64).1 [x0, x1, x2, x3, x4, x5, x6, x7] k + Xz1 [x0, x1, x2, x3, x4, x5, x6, x7]) (by simp) rfl rfl ?_
  refine JO.reown q3 ((Xjd (Xbb L 64).1 h (k + 1)).1.map w32) (by rw [hnext]; rfl) ?_
  refine wz2 ?_
  exact ⟨k + 1, by omega, by omega, iI⟩
 ·obtain rfl : k = 64 := by omega
  obtain ⟨S, hS⟩ : ∃ S, S = Xjd (Xbb L 64).1 h 64 := ⟨_, rfl⟩
  have hb : (Xkl h L).1 = (Xho h.1 S.1 8).1 := by rw [hS]; rfl
  rw [← hS, hb]
  refine wA ?_
  refine Xay (fun k : Nat => [(2, .pointer (some ⟨bh, 0, none⟩)), (4, .pointer (some ⟨br, 0, none⟩)), (8, .pointer (some ⟨q3, 0, none⟩)), (70, .int .i64 (k : Int))])
   (fun k => [.own bh 182 ((Xho h.1 S.1 k).1.map w32), .own br 182 [.int .u32 0, .int .u32 0, .int .u32 0, .int .u32 0, .int .u32 0, .int .u32 0, .int .u32 0, .int .u32 0], .own q3 182 (S.1.map w32)])
   (fun k => k ≤ 8) (fun k => 8 - k) 0 (Nat.zero_le _) (by rw [Xt1]; infer_instance) ?_
  intro k hk
  refine wz11 ?_
  refine JC.test (fun hlt => ?_) (fun hge => ?_)
  ·have hlt' : k < 8 := by omega
   have hk1 : k < (Xho h.1 S.1 k).1.length := by rw [(Xho h.1 S.1 k).2]; exact hlt'
   have hk2 : k < S.1.length := by rw [S.2]; exact hlt'
   refine wz7 ?_
   refine Xch 8 mixed ?_
   refine JM.tv 0 ?_
   refine JM.take 1 rfl (by kernel_rfl) rfl (Xad hlt') rfl rfl ?_
   refine JM.take 2 rfl (by kernel_rfl) rfl (Xbk k hk1 (by omega) rfl) rfl rfl ?_
   refine JM.tv 3 ?_
   refine JM.take 4 rfl (by kernel_rfl) rfl (Xad hlt') rfl rfl ?_
   refine JM.take 5 rfl (by kernel_rfl) rfl (Xbk k hk2 (by omega) rfl) rfl rfl ?_
   refine JM.take 6 rfl (by kernel_rfl) rfl Xam rfl rfl ?_
   refine JM.take 7 rfl (by kernel_rfl) rfl (Xad hlt') rfl rfl ?_
   refine JM.reslot 79 (w32 (h.1.getD k 0 + S.1.getD k 0)) (by simp only [Xif]; rw [Xx8 _ _ _ hlt']) ?_
   refine Xau 8 (by kernel_rfl) rfl rfl rfl (Xfd k (h.1.getD k 0 + S.1.getD k 0) hk1 (by omega) rfl (JO.reown bh ((Xho h.1 S.1 (k + 1)).1.map w32) (by rw [Xvz _ _ _ hlt']) (Wd ⟨rfl, ?_⟩)))
   refine JM.nil (by kernel_rfl) ?_
   refine wz2 ?_
   exact ⟨k + 1, by omega, by omega, iI⟩
  ·obtain rfl : k = 8 := by omega
   refine wz3 ?_
   exact CT.dn () rfl
end
section
attribute [local irreducible] JC JO JR JQ andThen inBlock OpV Gives Xae JM JS
def padZ (n : Nat) : Nat := (119 - n % 64) % 64
def padL (L : List UInt8) : List UInt8 := (L ++ [128]) ++ List.replicate (padZ L.length) 0 ++ Xpi (UInt64.ofNat (L.length * 8))
instance {x : UInt64} : Len ((Xpi x).map Xah) 8 := ⟨by simp [Xpi]⟩
instance {x : UInt32} : Len ((Xhn x).map Xah) 4 := ⟨by simp [Xhn]⟩
instance {Γ : List Fact} : Typed Γ [.int .u8 128] (128 : UInt8) := ⟨(), rfl, by simp [Cell.facts]⟩
instance {Γ : List Fact} : Typed Γ [.int .u8 0] (0 : UInt8) := ⟨(), rfl, by simp [Cell.facts]⟩
theorem Xz3 (a : Option Addr) (c : Nat) (L : List UInt8) (h : (sl a c L).holds F w) (hL : L.length ≤ 1048576) :
  GivesBuf prog 168 [.slice a L.length c] w F 5 (padL L) := by
 refine Xaa func168 rfl ntmps168 rfl rfl [.st (sl a c L)] (.start1 h) ?_
 refine wA ?_
 have hn128 : NatI ((L.length : Int) + 128) (L.length + 128) := ⟨by omega⟩
 refine Xo3 (l := L.length) (c := L.length + 128) rfl ⟨by omega, by omega⟩ ?_
 intro b
 refine wz10 ?_
 refine Xtl (M := L) rfl (by simp) ?_
 intro a1 c1 e1
 injection e1 with e1 e2 e3
 subst e1 e3
 refine JO.reslot 3 (.slice (some ⟨b, 0, none⟩) L.length (L.length + 128)) (by simp) ?_
 (repeat (refine wE ?_; intro _)); refine wA ?_
 refine Xa1 rfl (by exact ⟨rfl, rfl, by decide⟩) (by omega) ?_
 intro a2 c2
 refine wz4 ?_
 have hz : padZ L.length < 64 := Nat.mod_lt _ (by decide)
 refine Xb7 (fun (k : Nat) p q => [(0, .slice a L.length c), (3, .slice p ((L ++ [128]) ++ List.replicate k (0 : UInt8)).length q)]) (fun k p q => [.res (buf p q 5 ((L ++ [128]) ++ List.replicate k (0 : UInt8)))])
  (fun k _ _ => k ≤ padZ L.length) (fun k _ _ => padZ L.length - k) 0 a2 c2 (Nat.zero_le _) (by rw [List.replicate_zero, List.append_nil]; infer_instance) ?_
 intro k p q hk
 refine wz4 ?_
 have hlen : ((L ++ [128]) ++ List.replicate k (0 : UInt8)).length = L.length + 1 + k := by simp; omega
 refine Wf (OpV.rem (by decide)) rfl ?_
 refine JO.reslot 19 (.int .i64 (((L.length + 1 + k) % 64 : Nat) : Int)) (by rw [hlen, Int.tmod_eq_emod_of_nonneg (by omega)]; congr 1) ?_
 refine wA ?_
 refine JC.test (fun h1 => ?_) (fun h1 => ?_)
 ·have h2 : k < padZ L.length := by simp only [padZ] at hk ⊢; omega
  (repeat (refine wE ?_; intro _)); refine wA ?_
  refine Xa1 rfl (by exact ⟨rfl, rfl, by decide⟩) (by rw [hlen]; omega) ?_
  intro a3 c3
  refine wz2 ?_
  have hs : (L ++ [128]) ++ List.replicate (k + 1) (0 : UInt8) = (L ++ [128]) ++ List.replicate k (0 : UInt8) ++ [0] := by rw [List.replicate_succ', ← List.append_assoc]
  exact ⟨k + 1, a3, c3, by omega, by omega, by rw [hs]; infer_instance⟩
 ·have h2 : k = padZ L.length := by simp only [padZ] at hk ⊢; omega
  subst h2
  refine wA ?_
  refine Wf Xa6 rfl ?_
  refine JO.reslot 26 (.int .u64 (L.length : Int)) (congrArg (Value.int .u64) (by rw [Xc2]; omega)) ?_
  refine wz13 ?_
  refine Wf (OpV.shl (by decide)) rfl ?_
  refine JO.reslot 27 (w64 (UInt64.ofNat (L.length * 8))) (congrArg (Value.int .u64) (by
   show IntKind.u64.wrap ((L.length : Int) * 2 ^ 3) = _
   rw [show ((L.length : Int) * 2 ^ 3) = ((L.length * 8 : Nat) : Int) by omega, Xc2, UInt64.toNat_ofNat'])) ?_
  refine wz13 ?_
  refine JR.callV rfl (fun w1 hw => Xx6 w1 _ _) ?_
  (repeat (refine wE ?_; intro _)); refine wA ?_
  refine Wf (Xb3 (by decide)) rfl ?_
  refine We rfl ?_
  refine Xes (M := Xpi (UInt64.ofNat (L.length * 8))) rfl rfl rfl (by simp [Xpi]) (by exact ⟨rfl, rfl, by decide⟩) (by rw [hlen]; omega) ?_
  intro a3 c3
  refine wz10 ?_
  exact CT.done (a3, c3) rfl (fun w ho => (ho.ent : Hold _ _ [.res (buf a3 c3 5 ((L ++ [128]) ++ List.replicate (padZ L.length) (0 : UInt8) ++ Xpi (UInt64.ofNat (L.length * 8))))] w))
section
attribute [local irreducible] Xdr Xlx Xbb Xjd Xho Xkl
theorem Xrc (L : List UInt8) : (padL L).length = 64 * ((L.length + 72) / 64) := by
 simp only [padL, List.length_append, List.length_replicate, Xpi, List.length_map, List.length_range, List.length_singleton, padZ]
 omega
def Xrd : Nat → Vec UInt32 8 → List UInt8 → Vec UInt32 8
 | 0, h, _ => h
 | n + 1, h, p => Xrd n (Xkl h (p.take 64)) (p.drop 64)
def Xz4 : Vec UInt32 8 := ⟨shaS, rfl⟩
theorem Xt2 : GivesV prog 167 [] w F (.agg ⟨Xz4.1.map w32⟩) := Xvu w F
def sumV (L : List UInt8) : Vec UInt32 8 := Xrd ((padL L).length / 64) Xz4 (padL L)
def outK (h : List UInt32) (k : Nat) : List UInt8 := (h.take k).flatMap Xhn ++ List.replicate (32 - 4 * k) 0
theorem Xya (h : List UInt32) : (h.flatMap Xhn).length = 4 * h.length := by
 induction h with
 | nil => rfl
 | cons x h ih => simp only [List.flatMap_cons, List.length_append, ih, List.length_cons]; simp [Xhn]; omega
theorem Xre (h : Vec UInt32 8) (k : Nat) (hk : k ≤ 8) : (outK h.1 k).length = 32 := by
 have := h.2
 simp only [outK, List.length_append, Xya, List.length_take, List.length_replicate]
 omega
theorem Xv1 (h : List UInt32) : outK h 0 = List.replicate 32 0 := by simp [outK]
theorem Xv2 (h : Vec UInt32 8) (k : Nat) (hk : k < 8) : (outK h.1 k).take (4 * k) ++ Xhn (h.1.getD k 0) ++ (outK h.1 k).drop (4 * k + 4) = outK h.1 (k + 1) := by
 have h8 := h.2
 have h4 : ((h.1.take k).flatMap Xhn).length = 4 * k := by rw [Xya, List.length_take]; omega
 rw [outK, outK, List.take_left' h4, List.drop_append, h4, List.drop_eq_nil_of_le (by omega), List.nil_append, List.drop_replicate, List.take_succ_eq_append_getElem (by omega), List.flatMap_append]
 have hg : h.1[k]'(by omega) = h.1.getD k 0 := by simp [List.getD_eq_getElem?_getD, h8, hk]
 simp only [List.flatMap_cons, List.flatMap_nil, List.append_nil, hg]
 congr 2
 omega
def sumL (L : List UInt8) : List UInt8 := (sumV L).1.flatMap Xhn
theorem Xgz (L : List UInt8) : (sumL L).length = 32 := by rw [sumL, Xya, (sumV L).2]
def Xz5 (S : Vec UInt32 8) : ID := ⟨S.1.flatMap Xhn, by rw [Xya, S.2]⟩
def sumI (L : List UInt8) : ID := Xz5 (sumV L)
theorem Xyb (L : List UInt8) : (sumI L).1 = sumL L := rfl
theorem Xv3 {S : List UInt32} {k : Nat} (h : k < S.length) (w : World) : (part 62 ⟨S.map w32⟩ (k * 1)).run prog w = .ok (w32 (S.getD k 0)) w := by
 have hagg : (isAgg 62).run prog w = .ok false w := by
  unfold isAgg
  rw [Sem.run_bind, Xat (P := prog) (t := 62) w]
  rfl
 have hv : (⟨S.map w32⟩ : Array Value)[k * 1]? = some (w32 (S.getD k 0)) := by
  rw [Nat.mul_one]
  simp [List.getD_eq_getElem?_getD, h]
 unfold part
 rw [Sem.run_bind, hagg]
 simp only [Result.andThen_ok, Bool.false_eq_true, if_false, hv]
 rfl
theorem Xv4 (a : Option Addr) (c : Nat) (L : List UInt8) (h : (sl a c L).holds F w) (hL : L.length ≤ 1048576) :
  GivesV prog 110 [.slice a L.length c] w F (.agg ⟨idc (sumI L)⟩) := by
 have hpl := Xrc L
 refine Xaa func110 rfl ntmps110 rfl rfl [.st (sl a c L)] (.start1 h) ?_
 (repeat (refine wE ?_; intro _)); refine wA ?_
 refine JR.callV rfl (fun w1 hw => Xt2 w1 _) ?_
 (repeat (refine wE ?_; intro _)); refine wA ?_
 refine JR.callBuf rfl (fun w1 hw => Xz3 w1 _ a c L hw.get hL) ?_
 intro a1 c1
 refine JO.more (fun w1 ho => ho.pub) ?_
 refine wz4 ?_
 rename_i bi bh
 refine JC.reown bi ((List.replicate 32 (0 : UInt8)).map Xah) (by rw [List.map_replicate]; rfl) ?_
 refine Xdc (fun (k : Nat) (H : Vec UInt32 8) p q => [(2, .pointer (some ⟨bi, 0, none⟩)), (3, .pointer (some ⟨bh, 0, none⟩)), (4, .slice p ((padL L).drop (64 * k)).length q)])
  (fun k H p q => [.own bi 81 ((List.replicate 32 (0 : UInt8)).map Xah), .own bh 182 (H.1.map w32), .st (sl p q ((padL L).drop (64 * k)))])
  (fun k H p q => 64 * k ≤ (padL L).length ∧ Xrd ((padL L).length / 64 - k) H ((padL L).drop (64 * k)) = sumV L) (fun k _ _ _ => (padL L).length - 64 * k) 0 Xz4 a1 c1 ⟨Nat.zero_le _, rfl⟩ (by rw [show 64 * 0 = 0 from rfl, List.drop_zero]; infer_instance) ?_
 intro k H p q ⟨hk, hinv⟩
 refine wz5 ?_
 refine JC.test (fun h1 => ?_) (fun h1 => ?_)
 ·have hk2 : 64 * k + 64 ≤ (padL L).length := by rw [List.length_drop] at h1; omega
  refine wz14 ?_
  obtain ⟨pl, hpl2⟩ : ∃ pl, pl = (padL L).drop (64 * k) := ⟨_, rfl⟩
  have hp64 : (pl.take 64).length = 64 := by rw [hpl2, List.length_take, List.length_drop]; omega
  have hpl64 : 64 ≤ pl.length := by rw [hpl2, List.length_drop]; omega
  rw [← hpl2] at hinv ⊢
  refine Xch 7 mixed ?_
  refine JM.tv 0 ?_
  refine JM.tv 1 ?_
  refine JM.take 2 rfl (by kernel_rfl) rfl (Xbm (k := 64) (fun w1 ho => by have := (Hold.get (A := sl p q pl) ho).1; omega)) rfl rfl ?_
  refine JM.reslot 19 (.slice p (pl.take 64).length q) (by rw [hp64]) ?_
  refine JM.takeCall 3 rfl (by kernel_rfl) rfl (fun w1 hw => Xv0 w1 _ p q (pl.take 64) H (Xfv hw.get hpl64 ⟨Nat.le_trans hpl64 (hw.get (A := sl p q pl)).1, Nat.le_refl _⟩) hp64) rfl rfl ?_
  refine JM.tv 4 ?_
  refine JM.tv 5 ?_
  refine Xl7 6 7 (by kernel_rfl) rfl rfl rfl rfl rfl rfl rfl (JS.val Vq rfl ?_) (Wi (Wd ⟨rfl, ?_⟩))
  ·refine Xau 7 (by kernel_rfl) rfl rfl rfl (Wi (Wd ⟨rfl, ?_⟩))
   refine JM.nil (by kernel_rfl) ?_
   refine wz2 ?_
   refine Xbs (L := pl) (k := 64) rfl rfl (by omega) ?_
   intro p2 q2
   refine wz10 ?_
   have hd : pl.drop 64 = (padL L).drop (64 * (k + 1)) := by rw [hpl2, List.drop_drop]; congr 1
   have hn : (padL L).length / 64 - k = ((padL L).length / 64 - (k + 1)) + 1 := by omega
   refine ⟨k + 1, Xkl H (pl.take 64), p2, q2, ⟨by omega, ?_⟩, by omega, by rw [← hd]; infer_instance⟩
   rw [← hd, ← hinv, hn]
   rfl
  ·refine JM.one 6 (by kernel_rfl) rfl rfl rfl rfl (JS.val Vq rfl ?_)
   refine JM.nil (by kernel_rfl) ?_
   refine wz2 ?_
   refine Xbs (L := pl) (k := 64) rfl rfl (by omega) ?_
   intro p2 q2
   refine wz10 ?_
   have hd : pl.drop 64 = (padL L).drop (64 * (k + 1)) := by rw [hpl2, List.drop_drop]; congr 1
   have hn : (padL L).length / 64 - k = ((padL L).length / 64 - (k + 1)) + 1 := by omega
   refine ⟨k + 1, Xkl H (pl.take 64), p2, q2, ⟨by omega, ?_⟩, by omega, by rw [← hd]; infer_instance⟩
   rw [← hd, ← hinv, hn]
   rfl
 ·have hk2 : 64 * k = (padL L).length := by rw [List.length_drop] at h1; omega
  have hk3 : (padL L).length / 64 - k = 0 := by omega
  rw [hk3] at hinv
  have hinv : H = sumV L := hinv
  subst hinv
  refine wA ?_
  obtain ⟨S, hS⟩ : ∃ S, S = sumV L := ⟨_, rfl⟩
  have hsum : sumI L = Xz5 S := by subst hS; rfl
  rw [← hS, hsum]
  clear hS hinv hsum
  refine Xay (fun k : Nat => [(2, .pointer (some ⟨bi, 0, none⟩)), (23, .agg ⟨S.1.map w32⟩), (24, .int .i64 (k : Int))]) (fun k => [.own bi 81 ((outK S.1 k).map Xah)])
   (fun k => k ≤ 8) (fun k => 8 - k) 0 (Nat.zero_le _) (by rw [Xv1]; infer_instance) ?_
  intro k hk
  refine wz11 ?_
  refine JC.test (fun hlt => ?_) (fun hge => ?_)
  ·have hlt' : k < 8 := by omega
   have hkS : k < S.1.length := by rw [S.2]; exact hlt'
   refine wz14 ?_
   refine Wf (Xox (r := []) (v := w32 (S.1.getD k 0)) hlt' (fun w1 => Xv3 hkS w1)) rfl ?_
   refine wz10 ?_
   refine JR.callV rfl (fun w1 hw => Xx5 w1 _ _) ?_
   (repeat (refine wE ?_; intro _)); refine wA ?_
   refine Xch 4 mixed ?_
   refine JM.tv 0 ?_
   refine JM.take 1 rfl (by kernel_rfl) rfl (OpV.shl (by decide)) rfl rfl ?_
   refine JM.reslot 31 (.int .i64 ((4 * k : Nat) : Int)) (congrArg (Value.int .i64) (by show IntKind.i64.wrap ((k : Int) * 2 ^ 2) = _; rw [IntKind.wrap_i64]; omega)) ?_
   refine JM.take 2 rfl (by kernel_rfl) rfl (Xfu (l := 4 * k) (by omega) rfl) rfl rfl ?_
   refine JM.take 3 rfl (by kernel_rfl) rfl (Xb3 (by decide)) rfl rfl ?_
   have hmin : Nat.min 4 (32 - 4 * k) = 4 := Nat.min_eq_left (by omega)
   have h4 : (Xhn (S.1.getD k 0)).length = 4 := by simp [Xhn]
   have hout : (outK S.1 k).length = 32 := Xre S k (by omega)
   refine Xau 4 (by kernel_rfl) rfl rfl rfl (Xmb (cs := (Xhn (S.1.getD k 0)).map Xah) rfl (by rw [hmin]; exact List.take_of_length_le (by rw [show (0 : Nat) - 0 = 0 from rfl, List.drop_zero, List.length_map, h4]; exact Nat.le_refl _)) (Nat.le_refl _) (by rw [hmin, List.length_map, h4]) (by simp only [List.length_map, h4, hout]; omega) iI ?_)
   refine JO.reown bi ((outK S.1 (k + 1)).map Xah) (by rw [← Xv2 S k hlt']; simp only [List.length_map, h4, List.map_append, List.map_take, List.map_drop, Nat.zero_add]) (Wd ⟨rfl, ?_⟩)
   refine JM.nil (by kernel_rfl) ?_
   refine wz2 ?_
   exact ⟨k + 1, by omega, by omega, iI⟩
  ·obtain rfl : k = 8 := by omega
   have h8 : outK S.1 8 = S.1.flatMap Xhn := by
    rw [outK, List.take_of_length_le (by rw [S.2]; exact Nat.le_refl _)]
    simp
   repeat (first | refine Wa ?_ | refine Wo ?_ | refine Wp ?_ | refine Wq rfl ?_ | refine Wr ?_ | refine Wm ?_)
   refine JC.reown bi (idc (Xz5 S)) (by rw [h8]; rfl) ?_
   refine wz9 ?_
   exact CT.dn () rfl
end
theorem Xf4 (n : Nat) (hn : n < 18446744073709551616) (w : World) (F : Nat → Prop) : GivesBuf prog 113 [.int .u64 (n : Int)] w F 5 (numL n) := by
 unfold GivesBuf Gives
 refine Calls.mono (callsIn_wide.1 (X1e n hn w)) ?_
 rintro e w' ⟨v, rfl, hrow, hB⟩
 have hlen := Xa5 n
 rcases hrow.2 with ⟨_, h0⟩ | ⟨g, cap, cur, rfl, hg, hgb, h1, h2, h3, h4⟩
 ·exfalso
  have : numL n ≠ [] := by unfold numL; simp only [numF]; split <;> simp
  exact this (List.eq_nil_of_length_eq_zero h0)
 ·refine ⟨(some ⟨g, 0, none⟩, cap), rfl, Bel.of hB (fun h => False.elim h), ⟨fun f hf => ?_, by simp, fun f hf k hk => ?_⟩⟩
  ·simp only [List.mem_singleton] at hf; subst hf
   refine ⟨by simp only [lim]; omega, Xdq (numL n), Xfx _, ⟨by rw [Xcn]; simp [Cell.sz], .inr ⟨g, cap, cur, rfl, Nat.zero_le _, hgb, h1, h2, h3, ?_⟩⟩, fun p hp A hA => by simp [Cell.facts] at hA⟩
   rw [Xcn]; exact h4
  ·simp only [List.mem_singleton] at hf; subst hf
   obtain ⟨a', ha', rfl⟩ := hk
   injection ha' with ha'
   subst ha'
   exact hg
def Xc0 (s : ByteArray) : List UInt8 := numL s.size ++ bytesOf s
theorem Xsq (s : ByteArray) (hs : s.size ≤ 1048576) (w : World) (F : Nat → Prop) : GivesBuf prog 175 [.string s] w F 5 (Xc0 s) := by
 have hnl := Xa5 s.size
 refine Xaa func175 rfl ntmps175 rfl rfl [] (.start w F) ?_
 refine wA ?_
 refine Wf (Xd2 (by rw [Xc2]; omega)) rfl ?_
 refine wz13 ?_
 refine JR.callBuf rfl (fun w1 hw => Xf4 s.size (by omega) w1 _) ?_
 intro a1 c1
 refine wz6 ?_
 refine Xo2 rfl (by exact ⟨rfl, rfl, by decide⟩) (by omega) ?_
 intro a2 c2
 refine wz10 ?_
 exact CT.done (a2, c2) rfl (fun w ho => (ho.ent : Hold _ _ [.res (buf a2 c2 5 (numL s.size ++ bytesOf s))] w))
theorem Xjm {n : Int} (h : -1099511627776 ≤ n ∧ n ≤ 1099511627776) : Xeh n < 18446744073709551616 := by
 unfold Xeh; split <;> omega
theorem X1j (o : Op_) (h : -1099511627776 ≤ o.n ∧ o.n ≤ 1099511627776) : GivesBuf prog 218 [opV o] w F 5 (numL (Xeh o.n)) := by
 refine Xaa func218 rfl ntmps218 rfl rfl [] (.start w F) ?_
 (repeat (refine wE ?_; intro _)); refine wA ?_
 refine JR.callV rfl (fun w1 hw => Xsp w1 _ o.n h) ?_
 refine wz13 ?_
 refine JR.callBuf rfl (fun w1 hw => Xf4 _ (Xjm h) w1 _) ?_
 intro a1 c1
 refine wz10 ?_
 exact CT.dn (a1, c1) rfl
theorem X1k (o : Op_) (h : o.elem.size ≤ 1048576) : GivesBuf prog 222 [opV o] w F 5 (Xc0 o.elem) := by
 refine Xaa func222 rfl ntmps222 rfl rfl [] (.start w F) ?_
 (repeat (refine wE ?_; intro _)); refine wA ?_
 refine JR.callBuf rfl (fun w1 hw => Xsq _ h w1 _) ?_
 intro a1 c1
 refine wz10 ?_
 exact CT.dn (a1, c1) rfl
end
def Xv5 : Go.Shelf.Ren := ⟨fun | 14 => 174 | 15 => 216 | n => n, fun | 26 => 91 | n => n, fun | n => n⟩
open Go.Shelf Go.Proofs in
theorem X14 : SlLaysJ.n14 prog Xv5 where
 mixed := by kernel_rfl
 f14 := func174.trans (congrArg some (by kernel_rfl))
 f15 := func216.trans (congrArg some (by kernel_rfl))
 t0 := underlying0
 a0 := Tryz.isAgg0
 z0 := Tryz.sizeOf0
 v0 := Tryz.zeroValue0
 t3 := underlying3
 a3 := Tryz.isAgg3
 z3 := Tryz.sizeOf3
 v3 := Tryz.zeroValue3
 t4 := underlying4
 a4 := Tryz.isAgg4
 z4 := Tryz.sizeOf4
 v4 := Tryz.zeroValue4
 t9 := underlying9
 a9 := Tryz.isAgg9
 z9 := Tryz.sizeOf9
 v9 := Tryz.zeroValue9
 t20 := underlying20
 a20 := Tryz.isAgg20
 z20 := Tryz.sizeOf20
 v20 := Tryz.zeroValue20
 t22 := underlying22
 a22 := Tryz.isAgg22
 z22 := Tryz.sizeOf22
 v22 := Tryz.zeroValue22
 t26 := underlying91
 a26 := Tryz.isAgg91
 z26 := Tryz.sizeOf91
 v26 := Tryz.zeroValue91
 t5 := underlying5
 z5 := Tryz.sizeOf5
 i5 := by kernel_rfl
section
attribute [local irreducible] JC JO JR JQ andThen inBlock OpV Gives Xae JM JS
open Go.Proofs in
instance : Cell (List UInt8) where
 Ix := Option Addr × Nat
 sz := 1
 cells l y := [.slice y.1 l.length y.2]
 facts l y := [sl y.1 y.2 l]
 len _ _ := rfl
 one l y := by simp [Value.oneCell']
 pos := by decide
section
variable {P : Program} {n : Nn} {w0 : World} {F : Nat → Prop} {ops : Array Oper} {i d : Nat} {t : TypeId} {pos : String} {aft : Array Edge} {g : Option (Nat × Bool)} {os : List Oper} {Q : Cont} {e : E} {Γ : List Fact}
theorem Xfl {x ix : Operand} {v : Value} {L : List (List UInt8)} {kk : IntKind} {j : Int} {k : Nat} {ty el : TypeId} {sz by_ eb : Nat} {z ez : Value} {ed : TypeDesc}
  [hx : Ev e x v] [hL : HasSl Γ v (List UInt8) iI L] [hi : Ev e ix (.int kk j)] [hk : NatI j k] [hT : Ty P ty (.slice el) sz by_ z] [hE : Ty P el ed 1 eb ez] (hd : Nat.blt d n.s = true) (h : k < L.length)
  (K : ∀ b o p q, JO P n w0 F ops (i + 1) os Q ((d, .pointer (some ⟨b, o, none⟩)) :: e) (.st (ro b o [.slice p (L[k]'h).length q]) :: .st (sl p q (L[k]'h)) :: Γ)) :
  JR P n w0 F ops i ⟨some d, .indexAddr ty x ix, t, pos, aft, g⟩ os Q e Γ := JR.index hd rfl h fun b o (y : Option Addr × Nat) => K b o y.1 y.2
end
theorem Xje {F : Nat → Prop} {w : World} {a : Option Addr} {c : Nat} {l : List UInt8} (h : (sl a c l).holds F w) : Lib.HoldsBytes w (.slice a l.length c) l := by
 refine ⟨a, c, rfl, fun h0 => ?_, fun ad hd i x hx => ?_⟩
 ·rw [← Classical.not_not (a := l = [])]
  intro hne
  obtain ⟨b, off, h1, _⟩ := h.2.2.2 hne
  rw [h0] at h1; cases h1
 ·obtain ⟨hi, hxi⟩ := List.getElem?_eq_some_iff.1 hx
  have hne : l ≠ [] := by intro h0; subst h0; simp at hi
  obtain ⟨b, off, h1, _⟩ := h.2.2.2 hne
  rw [hd] at h1
  injection h1 with h1
  subst h1 hd
  rw [Addr.add_mid]
  have := Xj2 h i hi
  rw [hxi] at this
  exact this
theorem Xyc {n : Nat} {F : Nat → Prop} {w : World} {v : Value} {l : List UInt8} (h : Lib.FreshBytes n w v l) (hl : l.length ≤ 1048576) : ∃ a c, v = .slice a l.length c ∧ Fresh n F [.st (sl a c l)] w := by
 obtain ⟨g, cap, zs, rfl, hB, h1, h2, hz, hb, hzs, hc, _⟩ := h
 refine ⟨some ⟨g, 0, none⟩, cap, rfl, ⟨fun f hf => ?_, by simp, fun f hf k hk => ?_⟩⟩
 ·simp only [List.mem_singleton] at hf; subst hf
  refine ⟨h1, h2, by simp only [lim]; omega, fun hne => ⟨g, 0, rfl, ⟨.inr hB, ?_⟩, ?_, fun i hi => ⟨(), ?_, by simp [Cell.facts]⟩⟩⟩
  ·intro f hf
   simp only [List.mem_singleton] at hf; subst hf
   exact fun h => h
  ·have h0 := hc 0 (by have := List.length_pos_iff.2 hne; omega)
   rcases Nat.lt_or_ge g w.heap.size with h | h
   ·exact h
   ·unfold World.cell? at h0; simp [Array.getElem?_eq_none h] at h0
  ·intro j v hj
   simp only [Cell.cells, List.getElem?_singleton] at hj
   split at hj
   ·rename_i h0; subst h0
    injection hj with hj
    subst hj
    have h3 := hc i (by omega)
    simp only [Cell.sz, Nat.mul_one, Nat.zero_add, Nat.add_zero]
    rw [h3]
    have hi2 : i < zs.length := by omega
    have h4 : l[i] = UInt8.ofNat (zs[i]).toNat := by
     have : l[i]? = some (UInt8.ofNat (zs[i]).toNat) := by
      rw [← hzs, Lib.bytesOf, List.getElem?_map, List.getElem?_take, if_pos hi]
      simp [hi2]
     rw [List.getElem?_eq_getElem hi] at this
     injection this
    have h5 := hb zs[i] (List.getElem_mem hi2)
    rw [h4]
    simp only [Xah, List.getD_eq_getElem?_getD, List.getElem?_eq_getElem hi2, Option.getD_some]
    congr 2
    rw [UInt8.toNat_ofNat']
    omega
   ·cases hj
 ·simp only [List.mem_singleton] at hf; subst hf
  exact hk.elim
theorem Xt3 (a : Option Addr) (c : Nat) (ls : List (List UInt8)) (h2 : 2 ≤ ls.length) (h : (sl a c ls).holds F w) (hl : ls.flatten.length ≤ 1048576) (hl2 : ls.length ≤ 1048576) :
  Xcb prog 174 [.slice a ls.length c, .slice none 0 0] w F ls.flatten := by
 have hne : ls ≠ [] := by intro h0; subst h0; simp at h2
 obtain ⟨b, off, rfl, hF, hlt, hrow⟩ := h.2.2.2 hne
 obtain ⟨r, hr1, hr2, hr3⟩ := Xne ls off hrow
 have hflat : ∀ r : List (List UInt8 × Cell.Ix (List UInt8)), flat r = r.map (fun p => Value.slice (p.2 : Option Addr × Nat).1 p.1.length (p.2 : Option Addr × Nat).2) := by
  intro r
  induction r with
  | nil => rfl
  | cons p r ih => obtain ⟨x, y⟩ := p; simp only [flat, List.map_cons, ih]; rfl
 have hsum : Lib.lens ls = ls.flatten.length := by simp [Lib.lens, List.length_flatten]
 have hP : Lib.PartsAt w ⟨b, off, none⟩ (flat r) ls := by
  refine ⟨by rw [hflat, List.length_map, ← hr1, List.length_map], fun i v hv => by rw [Addr.add_mid]; exact hr2 i v hv, fun i v l hv hll => ?_⟩
  rw [hflat, List.getElem?_map] at hv
  rw [← hr1, List.getElem?_map] at hll
  cases hri : r[i]? with
  | none => rw [hri] at hv; cases hv
  | some p =>
   rw [hri] at hv hll
   injection hv with hv
   injection hll with hll
   subst hv hll
   exact Xje (hr3 p (List.mem_of_getElem? hri) _ (by simp [Cell.facts]))
 have hj := Go.Proofs.Any.bytes_Join_many X14 b off ls.length c (flat r) ls (.slice none 0 0) [] w rfl h2 hP h.1 ⟨none, 0, rfl, fun _ => rfl, nofun⟩ (by omega) (by rw [hsum, List.length_nil, Nat.zero_mul]; omega)
 unfold Xcb Gives
 refine Calls.mono hj ?_
 rintro e w' ⟨v, rfl, hfr, hB⟩
 have hjoin : Lib.join ls [] = ls.flatten := by
  cases ls with
  | nil => rfl
  | cons x r => rw [Lib.join_cons]; simp [Lib.joinTail]
 rw [hjoin] at hfr
 obtain ⟨a', c', rfl, hf⟩ := Xyc (F := F) hfr hl
 exact ⟨(a', c'), rfl, Bel.of hB (fun h => False.elim h), hf⟩
theorem Xt4 (k : Nat) (hk : k ≤ 1048576) : GivesBuf prog 172 [.slice none 0 0, .int .i64 (k : Int)] w F 5 ([] : List UInt8) := by
 refine Xaa func172 rfl ntmps172 rfl rfl [] (.start w F) ?_
 refine wz2 ?_
 refine Wf OpV.cap rfl ?_
 refine wA ?_
 refine JC.reslot 1 (.int .i64 (k : Int)) (by first | rfl | (congr 1 <;> omega)) ?_
 refine JC.test (fun hlt => ?_) (fun hge => ?_)
 ·refine wz14 ?_
  refine Wf OpV.cap rfl ?_
  refine We rfl ?_
  refine Wf (Xbm (k := 0) (fun _ _ => Nat.zero_le _)) rfl ?_
  refine wz6 ?_
  refine Xgo (α := UInt8) (k := k) rfl (by exact ⟨rfl, rfl, by decide⟩) ⟨by omega, by omega⟩ ?_
  intro b c hc
  refine wz4 ?_
  refine Wf (Xbm (k := 0) (fun _ _ => Nat.zero_le _)) rfl ?_
  refine wz10 ?_
  exact CT.dn (some ⟨b, 0, none⟩, c) rfl
 ·refine JC.buf_nil (α := UInt8) 5 ?_
  refine wz1 ?_
  exact CT.dn (none, 0) rfl
theorem Xpl (a : Option Addr) (c : Nat) (ls : List (List UInt8)) (h : (sl a c ls).holds F w) (hl : ls.flatten.length ≤ 1048576) (hl2 : ls.length ≤ 1048576) :
  GivesBuf prog 112 [.slice a ls.length c] w F 5 ls.flatten := by
 have hle : ∀ k, (ls.take k).flatten.length ≤ 1048576 := fun k => by
  have h1 := congrArg (fun l => l.flatten.length) (List.take_append_drop k ls)
  simp only [List.flatten_append, List.length_append] at h1
  omega
 have hnext : ∀ k (hk : k < ls.length), (ls.take (k + 1)).flatten = (ls.take k).flatten ++ ls[k] := fun k hk => by
  rw [List.take_succ_eq_append_getElem hk, List.flatten_append]; simp
 refine Xaa func112 rfl ntmps112 rfl rfl [.st (sl a c ls)] (.start1 h) ?_
 refine wz4 ?_
 refine JC.reslot 3 (.int .i64 (((ls.take 0).flatten.length : Nat) : Int)) rfl ?_
 refine Xay (fun k : Nat => [(0, .slice a ls.length c), (3, .int .i64 ((ls.take k).flatten.length : Int)), (9, .slice a ls.length c), (10, .int .i64 (ls.length : Int)), (11, .int .i64 (k : Int))]) (fun k => [.st (sl a c ls)])
  (fun k => k ≤ ls.length) (fun k => ls.length - k) 0 (Nat.zero_le _) iI ?_
 intro k hk
 refine wz11 ?_
 refine JC.test (fun hlt => ?_) (fun hge => ?_)
 ·have hlt' : k < ls.length := by omega
  have h1 := hle (k + 1)
  have h2 := hnext k hlt'
  have h3 : (ls.take (k + 1)).flatten.length = (ls.take k).flatten.length + (ls[k]).length := by rw [h2, List.length_append]
  refine wz14 ?_
  refine Xfl rfl hlt' ?_
  intro b o p q
  refine wA ?_
  exact ⟨k + 1, by omega, by omega, by rw [h3]; infer_instance⟩
 ·obtain rfl : k = ls.length := by omega
  rw [List.take_length]
  refine wz3 ?_
  refine JR.callBuf rfl (fun w1 hw => Xt4 w1 _ _ hl) ?_
  intro a1 c1
  refine wz4 ?_
  refine Xb7 (fun (k : Nat) p q => [(6, .slice p (ls.take k).flatten.length q), (25, .slice a ls.length c), (26, .int .i64 (ls.length : Int)), (27, .int .i64 (k : Int))]) (fun k p q => [.st (sl a c ls), .res (buf p q 5 (ls.take k).flatten)])
   (fun k _ _ => k ≤ ls.length) (fun k _ _ => ls.length - k) 0 a1 c1 (Nat.zero_le _) (by rw [List.take_zero, List.flatten_nil]; infer_instance) ?_
  intro k p q hk
  refine wz11 ?_
  refine JC.test (fun hlt => ?_) (fun hge => ?_)
  ·have hlt' : k < ls.length := by omega
   have h1 := hle (k + 1)
   have h2 := hnext k hlt'
   have h3 : (ls.take (k + 1)).flatten.length = (ls.take k).flatten.length + (ls[k]).length := by rw [h2, List.length_append]
   refine wz14 ?_
   refine Xfl rfl hlt' ?_
   intro b o p2 q2
   refine wz9 ?_
   refine Xbg rfl (by exact ⟨rfl, rfl, by decide⟩) (by omega) ?_
   intro p3 q3
   refine wz2 ?_
   exact ⟨k + 1, p3, q3, by omega, by omega, by rw [h2]; infer_instance⟩
  ·obtain rfl : k = ls.length := by omega
   rw [List.take_length]
   refine wz3 ?_
   exact CT.dn (p, q) rfl
def Xci (o : Op_) : List UInt8 := (numL o.kind.toNat ++ Xc0 o.key) ++ (if o.kind = 0 then numL (Xeh o.n) else Xc0 o.elem)
def Xlz (o : Op_) : List UInt8 × Int := if Xfi o then (Xci o, 0) else ([], 1)
theorem Xt5 (f1 f2 f3 : FuncId) (w : World) : (Instr.field 197 (.agg ⟨[fnV f1, fnV f2, fnV f3]⟩) 1).run prog w = .ok (fnV f2) w := by
 have h1 := Xat (P := prog) (t := 197) w
 unfold Instr.field
 rw [Sem.run_bind, h1]
 simp [asAgg, part, isAgg, Sem.run_bind]
theorem Hold.pubLists {w0 w : World} {F : Nat → Prop} {Γ : List Fact} {b : Nat} {t : TypeId} (ys : List (List UInt8 × (Option Addr × Nat))) (h : Hold w0 F (.own b t (ys.map (fun p => .slice p.2.1 p.1.length p.2.2)) :: Γ) w)
  (hy : ∀ p ∈ ys, .st (sl p.2.1 p.2.2 p.1) ∈ Γ) (hl : ys.length ≤ 1048576) : Hold w0 F (.st (sl (some ⟨b, 0, none⟩) ys.length (ys.map (·.1))) :: Γ) w := by
 have hw : w.heap[b]? = some (.cells (ys.map (fun p => Value.slice p.2.1 p.1.length p.2.2)).toArray t (0, 0)) := h.sat (.own b t _) (by simp)
 refine h.publish fun hk => ?_
 have hb := hk b (.inr rfl)
 refine ⟨by simp, by simp only [maxLen]; omega, by simp only [List.length_map, lim]; omega, fun hne => ⟨b, 0, rfl, hb, (Array.getElem?_eq_some_iff.1 hw).1, fun i hi => ?_⟩⟩
 have hi' : i < ys.length := by simpa using hi
 refine ⟨(ys[i]).2, ?_, fun A hA => ?_⟩
 ·intro j v hv
  simp only [Cell.cells, List.getElem?_singleton] at hv
  split at hv
  ·rename_i h0; subst h0
   injection hv with hv
   subst hv
   rw [cell_of_row w b _ _ _ _ hw]
   simp [Cell.sz, hi']
  ·cases hv
 ·simp only [Cell.facts, List.mem_singleton] at hA
  subst hA
  have := h.tail.sat (.st (sl (ys[i]).2.1 (ys[i]).2.2 (ys[i]).1)) (hy _ (List.getElem_mem hi'))
  simp only [List.getElem_map]
  exact this
theorem pub3 {w0 w : World} {F : Nat → Prop} {b : Nat} {t u : TypeId} {N T C : List UInt8} {aN aT aC : Option Addr} {cN cT cC : Nat}
  (h : Hold w0 F [.own b t [.slice aN N.length cN, .slice aT T.length cT, .slice aC C.length cC], .res (buf aN cN u N), .res (buf aT cT u T), .res (buf aC cC u C)] w) : Hold w0 F [.st (sl (some ⟨b, 0, none⟩) 3 [N, T, C])] w := by
 have h1 : Hold w0 F [.res (buf aN cN u N), .own b t [.slice aN N.length cN, .slice aT T.length cT, .slice aC C.length cC], .res (buf aT cT u T), .res (buf aC cC u C)] w := h.ent
 have h1 := h1.pub
 have h2 : Hold w0 F [.res (buf aT cT u T), .st (sl aN cN N), .own b t [.slice aN N.length cN, .slice aT T.length cT, .slice aC C.length cC], .res (buf aC cC u C)] w := h1.ent
 have h2 := h2.pub
 have h3 : Hold w0 F [.res (buf aC cC u C), .st (sl aT cT T), .st (sl aN cN N), .own b t [.slice aN N.length cN, .slice aT T.length cT, .slice aC C.length cC]] w := h2.ent
 have h3 := h3.pub
 have h4 : Hold w0 F [.own b t [.slice aN N.length cN, .slice aT T.length cT, .slice aC C.length cC], .st (sl aC cC C), .st (sl aT cT T), .st (sl aN cN N)] w := h3.ent
 have h5 := Hold.pubLists [(N, aN, cN), (T, aT, cT), (C, aC, cC)] h4 (by simp) (by simp)
 have h5 : Hold w0 F [.st (sl (some ⟨b, 0, none⟩) 3 [N, T, C]), .st (sl aC cC C), .st (sl aT cT T), .st (sl aN cN N)] w := h5
 exact (h5.ent : Hold w0 F [.st (sl (some ⟨b, 0, none⟩) 3 [N, T, C])] w)
theorem Xz6 (a : Option Addr) (c : Nat) (ls : List (List UInt8)) (L : List UInt8) (h2 : 2 ≤ ls.length) (h : (sl a c ls).holds F w) (hL : ls.flatten = L) (hl : L.length ≤ 1048576) (hl2 : ls.length ≤ 1048576) :
  Xcb prog 174 [.slice a ls.length c, .slice none 0 0] w F L := by
 subst hL; exact Xt3 w F a c ls h2 h hl hl2
theorem Xf5 (s : ByteArray) : (Xc0 s).length ≤ 10 + s.size := by
 have := Xa5 s.size
 rw [Xc0, List.length_append, Xeq]; omega
theorem Xkm (o : Op_) (h : Xfi o = true) : (o.kind = (o.kind.toNat : Int) ∧ o.kind.toNat < 4) ∧ o.key.size ≤ 1048576 ∧ ∃ (f1 f2 f3 : FuncId) (_ : Body prog f2) (C : List UInt8), (Xbj kindsM o.kind).getD Xq7 = .agg ⟨[fnV f1, fnV f2, fnV f3]⟩ ∧
  (∀ w F, GivesBuf prog f2 [opV o] w F 5 C) ∧ [numL o.kind.toNat, Xc0 o.key, C].flatten = Xci o ∧ (Xci o).length ≤ 100 := by
 have hnl := fun n => Xa5 n
 unfold Xfi at h
 by_cases h0 : o.kind = 0
 ·rw [if_pos h0] at h
  simp only [Xhi, Bool.and_eq_true, decide_eq_true_eq] at h
  obtain ⟨⟨⟨_, _⟩, hk⟩, ⟨⟨_, hn1⟩, hn2⟩, _⟩ := h
  refine ⟨by rw [h0]; exact ⟨rfl, by decide⟩, by omega, _, _, _, iI, numL (Xeh o.n), by rw [h0]; rfl, fun w F => X1j w F o (by omega), ?_, ?_⟩
  ·rw [Xci, if_pos h0]; simp
  ·have h1 := hnl o.kind.toNat; have h2 := Xf5 o.key; have h3 := hnl (Xeh o.n)
   rw [Xci, if_pos h0, List.length_append, List.length_append]; omega
 ·rw [if_neg h0] at h
  by_cases h1 : o.kind = 1 ∨ o.kind = 2 ∨ o.kind = 3
  ·rw [if_pos h1] at h
   simp only [Xhi, Bool.and_eq_true, decide_eq_true_eq] at h
   obtain ⟨⟨⟨_, _⟩, hk⟩, _, ⟨_, _⟩, hk2⟩ := h
   refine ⟨by omega, by omega, 221, 222, 223, iI, Xc0 o.elem, ?_, fun w F => X1k w F o (by omega), ?_, ?_⟩
   ·rcases h1 with h1 | h1 | h1 <;> rw [h1] <;> rfl
   ·rw [Xci, if_neg h0]; simp
   ·have h1 := hnl o.kind.toNat; have h2 := Xf5 o.key; have h3 := Xf5 o.elem
    rw [Xci, if_neg h0, List.length_append, List.length_append]; omega
  ·rw [if_neg h1] at h; cases h
theorem Xz7 (o : Op_) (hk : o.key.size < 4611686018427387904) (he : o.elem.size < 4611686018427387904) : Xfa prog 115 [opV o] w F (Xlz o).1 [.int .i64 (Xlz o).2] := by
 refine Xaa func115 rfl ntmps115 rfl rfl [] (.start w F) ?_
 (repeat (refine wE ?_; intro _)); refine wA ?_
 rename_i bo
 refine JR.callV rfl (fun w1 hw => Xq9 w1 _ o hk he) ?_
 refine wz7 ?_
 refine JC.test (fun h1 => ?_) (fun h1 => ?_)
 ·have h2 : Xlz o = ([], 1) := by simp [Xlz, h1]
  rw [h2]
  refine wz9 ?_
  exact CT.done (none, 0) rfl (fun w ho => (ho.ent : Hold _ _ [] w).add Xak)
 have h1 : Xfi o = true := by simpa using h1
 have h2 : Xlz o = (Xci o, 0) := by simp [Xlz, h1]
 obtain ⟨⟨hkk, hkn⟩, hks, f1, f2, f3, hbody, C, hlook, hput, hopp, hlen⟩ := Xkm o h1
 have hconv : IntKind.u64.wrap o.kind = o.kind := by rw [hkk, Xc2]; omega
 rw [h2]
 refine wz14 ?_
 refine Xch 18 mixed ?_
 refine JM.tv 0 ?_
 refine JM.tv 1 ?_
 refine JM.take 2 rfl (by kernel_rfl) rfl (Xd2 hconv) rfl rfl ?_
 refine JM.reslot 9 (.int .u64 ((o.kind.toNat : Nat) : Int)) (congrArg (Value.int .u64) hkk) ?_
 refine JM.tv 4 ?_
 refine JM.tv 5 ?_
 refine JM.tv 8 ?_
 refine JM.tv 9 ?_
 refine JM.tv 12 ?_
 refine JM.one 3 (by kernel_rfl) rfl rfl rfl rfl (JS.callBuf rfl (fun w1 hw => Xf4 _ (by omega) w1 _) fun aN cN => ?_)
 refine JM.one 6 (by kernel_rfl) rfl rfl rfl rfl (JS.callBuf rfl (fun w1 hw => Xsq _ hks w1 _) fun aT cT => ?_)
 refine JM.one 7 (by kernel_rfl) rfl rfl rfl rfl (JS.call1 rfl (fun w1 hw => Xhm w1 _) fun mk => ?_)
 refine JM.take 10 rfl (by kernel_rfl) rfl (Xbt o.kind Xf2 hlook) rfl rfl ?_
 refine JM.take 11 rfl (by kernel_rfl) rfl (Xmd (Xt5 f1 f2 f3)) rfl rfl ?_
 refine JM.one 13 (by kernel_rfl) rfl rfl rfl rfl (JS.callBuf rfl (fun w1 hw => hput w1 _) fun aC cC => ?_)
 refine JM.one 14 (by kernel_rfl) rfl rfl rfl rfl (Xu1 rfl ⟨rfl, by decide, by decide, by decide⟩ fun lb => ?_)
 refine JM.more (Γ' := [.st (sl (some ⟨lb, 0, none⟩) 3 [numL o.kind.toNat, Xc0 o.key, C])]) (fun w1 ho => pub3 (b := lb) (t := 22) (u := 5) (N := numL o.kind.toNat) (T := Xc0 o.key) (C := C) (aN := aN) (aT := aT) (aC := aC) (cN := cN) (cT := cT) (cC := cC) ho.ent) ?_
 refine JM.one 15 (by kernel_rfl) rfl rfl rfl rfl (JS.callSl rfl (fun w1 hw => Xz6 w1 _ (some ⟨lb, 0, none⟩) 3 [numL o.kind.toNat, Xc0 o.key, C] (Xci o) (by simp) hw.get hopp (by omega) (by simp)) fun aJ cJ => ?_)
 refine JM.one 16 (by kernel_rfl) rfl rfl rfl rfl (JS.val Vb rfl ?_)
 refine JM.one 17 (by kernel_rfl) rfl rfl rfl rfl (JS.val Vb rfl ?_)
 refine JM.nil (by kernel_rfl) ?_
 refine wz13 ?_
 exact CT.dn (aJ, cJ) rfl
section
attribute [local irreducible] sumI numL Xc0 Xci
def Xf6 (c : Commit) : List UInt8 := ((numL (Xeh c.ev.node) ++ numL c.ev.seq.toNat) ++ numL c.gen.toNat) ++ numL c.parents.length
def idsL (L : List ID) : List UInt8 := (L.map (·.1)).flatten
def Xan (c : Commit) : List UInt8 := if c.ev.node = -1 then Xf6 c ++ idsL c.parents else Xf6 c ++ idsL c.parents ++ Xci c.op
def Xas (c : Commit) : List UInt8 × Int := if may c then (Xan c, 0) else ([], 1)
theorem Xg0 (L : List ID) : (idsL L).length = 32 * L.length := by
 induction L with
 | nil => rfl
 | cons x L ih => simp only [idsL, List.map_cons, List.flatten_cons, List.length_append, List.length_cons] at ih ⊢; rw [ih, x.2]; omega
theorem Xv6 (L : List ID) (k : Nat) (hk : k < L.length) : idsL (L.take (k + 1)) = idsL (L.take k) ++ (L[k]).1 := by
 rw [idsL, idsL, List.take_succ_eq_append_getElem hk, List.map_append, List.flatten_append]; simp
theorem Xi4 (c : Commit) : (Xf6 c).length ≤ 40 := by
 have h1 := Xa5 (Xeh c.ev.node); have h2 := Xa5 c.ev.seq.toNat; have h3 := Xa5 c.gen.toNat; have h4 := Xa5 c.parents.length
 simp only [Xf6, List.length_append]; omega
structure MayC (c : Commit) : Prop where
 node : -1 ≤ c.ev.node ∧ c.ev.node ≤ 7
 seq : 0 ≤ c.ev.seq ∧ c.ev.seq ≤ 1048576
 gen : 1 ≤ c.gen ∧ c.gen ≤ 1048576
 par : c.parents.length ≤ 8
 op : c.ev.node ≠ -1 → Xfi c.op = true
theorem Xn0 {c : Commit} (h : may c = true) : MayC c := by
 unfold may at h
 split at h
 ·cases h
 ·rename_i h1
  simp only [inB, Bool.or_eq_true, Bool.not_eq_true', not_or, Bool.not_eq_false, decide_eq_true_eq, Bool.and_eq_true, Nat.not_lt] at h1
  obtain ⟨⟨⟨hg, hp⟩, _⟩, _⟩ := h1
  split at h
  ·rename_i h2
   simp only [Bool.and_eq_true, decide_eq_true_eq] at h
   exact ⟨by omega, by omega, hg, hp, fun hn => (hn h2).elim⟩
  ·rename_i h2
   simp only [inB, Bool.and_eq_true, decide_eq_true_eq] at h
   exact ⟨by omega, by omega, hg, hp, fun _ => h.2⟩
theorem pub4 {w0 w : World} {F : Nat → Prop} {b : Nat} {t u : TypeId} {A B C D : List UInt8} {aA aB aC aD : Option Addr} {cA cB cC cD : Nat} {Γ : List Fact}
  (h : Hold w0 F (.res (buf aA cA u A) :: .res (buf aB cB u B) :: .res (buf aC cC u C) :: .res (buf aD cD u D) :: .own b t [.slice aA A.length cA, .slice aB B.length cB, .slice aC C.length cC, .slice aD D.length cD] :: Γ) w) :
  Hold w0 F (.st (sl (some ⟨b, 0, none⟩) 4 [A, B, C, D]) :: Γ) w := by
 have rot : ∀ {X : Fact} {Γ' : List Fact}, Hold w0 F (X :: Γ') w → Hold w0 F (Γ' ++ [X]) w := fun h => h.perm (by
  exact (List.perm_append_comm (l₁ := [_])))
 have h1 := h.pub
 have h2 : Hold w0 F (.res (buf aB cB u B) :: .st (sl aA cA A) :: .res (buf aC cC u C) :: .res (buf aD cD u D) :: .own b t [.slice aA A.length cA, .slice aB B.length cB, .slice aC C.length cC, .slice aD D.length cD] :: Γ) w := h1.perm (List.Perm.swap _ _ _)
 have h2 := h2.pub
 have h3 : Hold w0 F (.res (buf aC cC u C) :: .st (sl aB cB B) :: .st (sl aA cA A) :: .res (buf aD cD u D) :: .own b t [.slice aA A.length cA, .slice aB B.length cB, .slice aC C.length cC, .slice aD D.length cD] :: Γ) w :=
  h2.perm (((List.Perm.swap _ _ _).cons _).trans (List.Perm.swap _ _ _))
 have h3 := h3.pub
 have h4 : Hold w0 F (.res (buf aD cD u D) :: .st (sl aC cC C) :: .st (sl aB cB B) :: .st (sl aA cA A) :: .own b t [.slice aA A.length cA, .slice aB B.length cB, .slice aC C.length cC, .slice aD D.length cD] :: Γ) w :=
  h3.perm (((((List.Perm.swap _ _ _).cons _).trans (List.Perm.swap _ _ _)).cons _).trans (List.Perm.swap _ _ _))
 have h4 := h4.pub
 have h5 : Hold w0 F (.own b t [.slice aA A.length cA, .slice aB B.length cB, .slice aC C.length cC, .slice aD D.length cD] :: .st (sl aD cD D) :: .st (sl aC cC C) :: .st (sl aB cB B) :: .st (sl aA cA A) :: Γ) w :=
  h4.perm ((((((((List.Perm.swap _ _ _).cons _).trans (List.Perm.swap _ _ _)).cons _).trans (List.Perm.swap _ _ _)).cons _).trans (List.Perm.swap _ _ _)))
 have h6 := Hold.pubLists [(A, aA, cA), (B, aB, cB), (C, aC, cC), (D, aD, cD)] h5 (by simp) (by simp)
 have h6 : Hold w0 F (.st (sl (some ⟨b, 0, none⟩) 4 [A, B, C, D]) :: .st (sl aD cD D) :: .st (sl aC cC C) :: .st (sl aB cB B) :: .st (sl aA cA A) :: Γ) w := h6
 have h7 : Hold w0 F ((.st (sl (some ⟨b, 0, none⟩) 4 [A, B, C, D]) :: Γ) ++ [.st (sl aD cD D), .st (sl aC cC C), .st (sl aB cB B), .st (sl aA cA A)]) w :=
  h6.perm ((List.perm_append_comm (l₁ := [Fact.st (sl aD cD D), .st (sl aC cC C), .st (sl aB cB B), .st (sl aA cA A)]) (l₂ := Γ)).cons _)
 exact h7.left
theorem Xv7 (a : Option Addr) (c : Nat) (ls : List (List UInt8)) (L : List UInt8) (h : (sl a c ls).holds F w) (hL : ls.flatten = L) (hl : L.length ≤ 1048576) (hl2 : ls.length ≤ 1048576) :
  GivesBuf prog 112 [.slice a ls.length c] w F 5 L := by
 subst hL; exact Xpl w F a c ls h hl hl2
theorem Xt6 (o : Op_) (hk : o.key.size < 4611686018427387904) (he : o.elem.size < 4611686018427387904) (h : Xfi o = true) : Xfa prog 115 [opV o] w F (Xci o) [.int .i64 0] := by
 have h1 := Xz7 w F o hk he
 have h2 : Xlz o = (Xci o, 0) := by simp [Xlz, h]
 rw [h2] at h1
 exact h1
theorem Xmi (c : Commit) (a : Option Addr) (k : Nat) (h : (sl a k c.parents).holds F w) (ht : Xkj c) :
  Xfa prog 57 [Xax c a k] w F (Xas c).1 [.int .i64 (Xas c).2] := by
 refine Xaa func57 rfl ntmps57 rfl rfl [.st (sl a k c.parents)] (.start1 h) ?_
 (repeat (refine wE ?_; intro _)); refine wA ?_
 rename_i bc
 refine JR.callV rfl (fun w1 hw => Xd3 w1 _ c a k hw.get ht) ?_
 refine wz7 ?_
 refine JC.test (fun h1 => ?_) (fun h1 => ?_)
 ·have h2 : Xas c = ([], 1) := by simp [Xas, h1]
  rw [h2]
  refine wz9 ?_
  exact CT.done (none, 0) rfl (fun w ho => (ho.ent : Hold _ _ [] w).add Xak)
 have h1 : may c = true := by simpa using h1
 have h2 : Xas c = (Xan c, 0) := by simp [Xas, h1]
 have hm := Xn0 h1
 have hh := Xi4 c
 rw [h2]
 have hn1 := hm.node
 have hn2 := hm.seq
 have hn3 := hm.gen
 have hn4 := hm.par
 have hs1 : IntKind.u64.wrap c.ev.seq = c.ev.seq := by rw [show c.ev.seq = ((c.ev.seq.toNat : Nat) : Int) by omega, Xc2]; omega
 have hs2 : IntKind.u64.wrap c.gen = c.gen := by rw [show c.gen = ((c.gen.toNat : Nat) : Int) by omega, Xc2]; omega
 refine wz14 ?_
 refine Xch 22 mixed ?_
 refine JM.tv 0 ?_
 refine JM.tv 1 ?_
 refine JM.tv 2 ?_
 refine JM.takeCall 3 rfl (by kernel_rfl) rfl (fun w1 hw => Xsp w1 _ c.ev.node (by omega)) rfl rfl ?_
 refine JM.tv 5 ?_
 refine JM.tv 6 ?_
 refine JM.tv 7 ?_
 refine JM.take 8 rfl (by kernel_rfl) rfl (Xd2 hs1) rfl rfl ?_
 refine JM.reslot 20 (.int .u64 ((c.ev.seq.toNat : Nat) : Int)) (congrArg (Value.int .u64) (by omega)) ?_
 refine JM.tv 10 ?_
 refine JM.tv 11 ?_
 refine JM.take 12 rfl (by kernel_rfl) rfl (Xd2 hs2) rfl rfl ?_
 refine JM.reslot 24 (.int .u64 ((c.gen.toNat : Nat) : Int)) (congrArg (Value.int .u64) (by omega)) ?_
 refine JM.tv 14 ?_
 refine JM.tv 15 ?_
 refine JM.tv 16 ?_
 refine JM.take 17 rfl (by kernel_rfl) rfl (Xd2 (by rw [Xc2]; omega)) rfl rfl ?_
 refine JM.one 4 (by kernel_rfl) rfl rfl rfl rfl (JS.callBuf rfl (fun w1 hw => Xf4 _ (Xjm (by omega)) w1 _) fun a1 c1 => ?_)
 refine JM.one 9 (by kernel_rfl) rfl rfl rfl rfl (JS.callBuf rfl (fun w1 hw => Xf4 _ (by omega) w1 _) fun a2 c2 => ?_)
 refine JM.one 13 (by kernel_rfl) rfl rfl rfl rfl (JS.callBuf rfl (fun w1 hw => Xf4 _ (by omega) w1 _) fun a3 c3 => ?_)
 refine JM.one 18 (by kernel_rfl) rfl rfl rfl rfl (JS.callBuf rfl (fun w1 hw => Xf4 _ (by omega) w1 _) fun a4 c4 => ?_)
 refine JM.one 19 (by kernel_rfl) rfl rfl rfl rfl (Xu1 rfl ⟨rfl, by decide, by decide, by decide⟩ fun lb => ?_)
 refine JM.more (Γ' := [.st (sl (some ⟨lb, 0, none⟩) 4 [numL (Xeh c.ev.node), numL c.ev.seq.toNat, numL c.gen.toNat, numL c.parents.length]), .own bc 29 [.int .i64 c.ev.node, .int .i64 c.ev.seq, .int .i64 c.gen, .slice a c.parents.length k, .int .i64 c.op.kind, .string c.op.key, .string c.op.elem, .int .i64 c.op.n], .st (sl a k c.parents)])
  (fun w1 ho => pub4 (b := lb) (t := 22) (u := 5) (aA := a1) (aB := a2) (aC := a3) (aD := a4) (cA := c1) (cB := c2) (cC := c3) (cD := c4) ho.ent) ?_
 refine JM.one 20 (by kernel_rfl) rfl rfl rfl rfl (JS.callBuf rfl (fun w1 hw => Xv7 w1 _ (some ⟨lb, 0, none⟩) 4 [numL (Xeh c.ev.node), numL c.ev.seq.toNat, numL c.gen.toNat, numL c.parents.length] (Xf6 c) hw.get (by simp [Xf6]) (by omega) (by simp)) fun p0 q0 => ?_)
 refine JM.one 21 (by kernel_rfl) rfl rfl rfl rfl (JS.val Vb rfl ?_)
 refine JM.nil (by kernel_rfl) ?_
 refine wA ?_
 refine Xb7 (fun (i : Nat) p q => [(1, .pointer (some ⟨bc, 0, none⟩)), (4, .slice p (Xf6 c ++ idsL (c.parents.take i)).length q), (34, .slice a c.parents.length k), (35, .int .i64 (c.parents.length : Int)), (36, .int .i64 (i : Int))])
  (fun i p q => [.own bc 29 [.int .i64 c.ev.node, .int .i64 c.ev.seq, .int .i64 c.gen, .slice a c.parents.length k, .int .i64 c.op.kind, .string c.op.key, .string c.op.elem, .int .i64 c.op.n], .st (sl a k c.parents), .res (buf p q 5 (Xf6 c ++ idsL (c.parents.take i)))])
  (fun i _ _ => i ≤ c.parents.length) (fun i _ _ => c.parents.length - i) 0 p0 q0 (Nat.zero_le _) (by rw [List.take_zero, show idsL [] = [] from rfl, List.append_nil]; infer_instance) ?_
 intro i p q hi
 refine wz11 ?_
 refine JC.test (fun hlt => ?_) (fun hge => ?_)
 ·have hlt' : i < c.parents.length := by omega
  have hil := Xg0 (c.parents.take i)
  rw [List.length_take] at hil
  refine wz14 ?_
  refine Xcm rfl hlt' ?_
  intro b o
  (repeat (refine wE ?_; intro _)); refine wA ?_
  refine Wf (Xb3 (by decide)) rfl ?_
  refine We rfl ?_
  refine Xes (M := (c.parents[i]).1) rfl rfl rfl (c.parents[i]).2 (by exact ⟨rfl, rfl, by decide⟩) (by rw [List.length_append]; omega) ?_
  intro p3 q3
  refine wz2 ?_
  have hnx : Xf6 c ++ idsL (c.parents.take (i + 1)) = Xf6 c ++ idsL (c.parents.take i) ++ (c.parents[i]).1 := by rw [Xv6 _ _ hlt', List.append_assoc]
  exact ⟨i + 1, p3, q3, by omega, by omega, by rw [hnx]; infer_instance⟩
 ·obtain rfl : i = c.parents.length := by omega
  have hil := Xg0 c.parents
  rw [List.take_length]
  refine wA ?_
  refine JC.test (fun hnode => ?_) (fun hnode => ?_)
  ·have hb : Xan c = Xf6 c ++ idsL c.parents := by rw [Xan, if_pos hnode]
   rw [hb]
   refine wz9 ?_
   exact CT.done (p, q) rfl (fun w ho => Hold.left (Γ := [.st (sl p q (Xf6 c ++ idsL c.parents))]) (Hold.pub (ho.ent : Hold _ _ [.res (buf p q 5 (Xf6 c ++ idsL c.parents))] w)))
  ·have hb : Xan c = Xf6 c ++ idsL c.parents ++ Xci c.op := by rw [Xan, if_neg hnode]
   have hop := hm.op hnode
   have hput : Xlz c.op = (Xci c.op, 0) := by simp [Xlz, hop]
   have hopl := (Xkm c.op hop).2.2
   obtain ⟨_, _, _, _, _, _, _, _, hopl⟩ := hopl
   rw [hb]
   refine wz1 ?_
   refine Xc4 (L := Xci c.op) (us' := [.int .i64 0]) rfl (fun w1 hw => Xt6 w1 _ c.op ht.1 ht.2 hop) ?_
   intro p4 q4
   refine wz4 ?_
   refine Xbg rfl (by exact ⟨rfl, rfl, by decide⟩) (by rw [List.length_append]; omega) ?_
   intro p5 q5
   refine wz10 ?_
   exact CT.done (p5, q5) rfl (fun w ho => Hold.left (Γ := [.st (sl p5 q5 (Xf6 c ++ idsL c.parents ++ Xci c.op))]) (Hold.pub (ho.ent : Hold _ _ [.res (buf p5 q5 5 (Xf6 c ++ idsL c.parents ++ Xci c.op))] w)))
theorem Xce {c : Commit} (h : may c = true) : (Xan c).length ≤ 400 := by
 have hm := Xn0 h
 have h1 := Xi4 c
 have h2 := Xg0 c.parents
 have h3 := hm.par
 unfold Xan
 split
 ·rw [List.length_append]; omega
 ·rename_i hn
  obtain ⟨_, _, _, _, _, _, _, _, h4⟩ := (Xkm c.op (hm.op hn)).2.2
  rw [List.length_append, List.length_append]; omega
def Xv8 : ID := ⟨List.replicate 32 0, rfl⟩
def Xaq (c : Commit) : ID × Int := if may c then (sumI (Xan c), 0) else (Xv8, 1)
theorem Xea (c : Commit) (a : Option Addr) (k : Nat) (h : (sl a k c.parents).holds F w) (ht : Xkj c) :
  GivesV prog 54 [Xax c a k] w F (.tuple ⟨[.agg ⟨idc (Xaq c).1⟩, .int .i64 (Xaq c).2]⟩) := by
 refine Xaa func54 rfl ntmps54 rfl rfl [.st (sl a k c.parents)] (.start1 h) ?_
 (repeat (refine wE ?_; intro _)); refine wA ?_
 rename_i bc bi
 refine Xc4 (L := (Xas c).1) (us' := [.int .i64 (Xas c).2]) rfl (fun w1 hw => Xmi w1 _ c a k hw.get ht) ?_
 intro p q
 refine wA ?_
 refine JC.test (fun h1 => ?_) (fun h1 => ?_)
 ·have hm : may c = false := by
   rw [← Bool.not_eq_true]
   intro hm
   simp [Xas, hm] at h1
  have h2 : Xaq c = (Xv8, 1) := by simp [Xaq, hm]
  have h3 : (Xas c).2 = 1 := by simp [Xas, hm]
  rw [h2, h3]
  refine wz14 ?_
  refine Wf (OpV.build [.int .u8 0, .int .u8 0, .int .u8 0, .int .u8 0, .int .u8 0, .int .u8 0, .int .u8 0, .int .u8 0, .int .u8 0, .int .u8 0, .int .u8 0, .int .u8 0, .int .u8 0, .int .u8 0, .int .u8 0, .int .u8 0, .int .u8 0, .int .u8 0, .int .u8 0, .int .u8 0, .int .u8 0, .int .u8 0, .int .u8 0, .int .u8 0, .int .u8 0, .int .u8 0, .int .u8 0, .int .u8 0, .int .u8 0, .int .u8 0, .int .u8 0, .int .u8 0] (by kernel_rfl)) rfl ?_
  refine JO.reslot 13 (.agg ⟨idc Xv8⟩) rfl ?_
  refine wz9 ?_
  exact CT.dn () rfl
 ·have hm : may c = true := by
   rw [← Bool.not_eq_false]
   intro hm
   simp [Xas, hm] at h1
  have h2 : Xaq c = (sumI (Xan c), 0) := by simp [Xaq, hm]
  have h3 : Xas c = (Xan c, 0) := by simp [Xas, hm]
  have hl := Xce hm
  rw [h2, h3]
  refine wz14 ?_
  refine JR.callV rfl (fun w1 hw => Xv4 w1 _ p q (Xan c) hw.get (by omega)) ?_
  refine wz9 ?_
  exact CT.dn () rfl
end
end
def numV : List UInt8 → Nat
 | [] => 0
 | c :: l => c.toNat % 128 + 128 * numV l
theorem Xfm (a b : List UInt8) : numV (a ++ b) = numV a + 128 ^ a.length * numV b := by
 induction a with
 | nil => simp [numV]
 | cons c a ih =>
  simp only [List.cons_append, numV, ih, List.length_cons, Nat.pow_succ]
  rw [Nat.mul_add, Nat.add_assoc, ← Nat.mul_assoc, Nat.mul_comm 128 (128 ^ a.length)]
theorem Xv9 (a : List UInt8) : numV a < 128 ^ a.length := by
 induction a with
 | nil => simp [numV]
 | cons c a ih =>
  simp only [numV, List.length_cons, Nat.pow_succ]
  have : c.toNat % 128 < 128 := Nat.mod_lt _ (by decide)
  omega
theorem Xwa (n : Nat) : (UInt8.ofNat n ||| 128).toNat = n % 128 + 128 := by
 have h1 := Xsl n
 have h2 := u8_or_nat (n % 256) 128 (by omega) (by omega)
 have h3 : ((n : Int) % 256) = ((n % 256 : Nat) : Int) := by omega
 rw [h3] at h1
 have h4 : (UInt8.ofNat n ||| 128).toNat = (n % 256 ||| 128) := Int.ofNat.inj (h1.trans h2)
 rw [h4]
 have key : ∀ k : Fin 256, (k.1 ||| 128) = k.1 % 128 + 128 := by decide +kernel
 have := key ⟨n % 256, Nat.mod_lt _ (by decide)⟩
 simp only at this
 rw [this]; omega
structure Digits (i : List UInt8) (l : UInt8) : Prop where
 great : ∀ c ∈ i, 128 ≤ c.toNat
 small : l.toNat < 128
 some : i ≠ [] → l.toNat ≠ 0
theorem Xkn : ∀ (f n : Nat), n < 128 ^ (f + 1) → numV (numF f n) = n ∧ ∃ i l, numF f n = i ++ [l] ∧ Digits i l
 | 0, n, h => by
  have h : n < 128 := by simpa using h
  have e : (UInt8.ofNat n).toNat = n := by rw [UInt8.toNat_ofNat']; omega
  refine ⟨by simp [numF, numV, e]; omega, [], UInt8.ofNat n, by simp [numF], by simp, by rw [e]; exact h, by simp⟩
 | f + 1, n, h => by
  simp only [numF]
  split
  ·rename_i hn
   obtain ⟨h1, i, l, h2, h3⟩ := Xkn f (n / 128) (by rw [Nat.pow_succ] at h; omega)
   refine ⟨?_, (UInt8.ofNat n ||| 128) :: i, l, by rw [h2]; rfl, ?_, h3.small, fun _ => ?_⟩
   ·simp only [numV, h1, Xwa]; omega
   ·intro c hc
    rcases List.mem_cons.1 hc with rfl | hc
    ·rw [Xwa]; omega
    ·exact h3.great c hc
   ·by_cases hi : i = []
    ·subst hi
     rw [h2] at h1
     simp only [List.nil_append, numV] at h1
     have := h3.small
     omega
    ·exact h3.some hi
  ·rename_i hn
   have e : (UInt8.ofNat n).toNat = n := by rw [UInt8.toNat_ofNat']; omega
   refine ⟨by simp [numV, e]; omega, [], UInt8.ofNat n, by simp, by simp, by rw [e]; omega, by simp⟩
theorem Xeb {n : Nat} (h : n < 18446744073709551616) : numV (numL n) = n ∧ ∃ i l, numL n = i ++ [l] ∧ Digits i l := Xkn 9 n (by omega)
theorem Xg1 : ∀ {i j : List UInt8} {l m : UInt8} {r s : List UInt8}, (∀ c ∈ i, 128 ≤ c.toNat) → (∀ c ∈ j, 128 ≤ c.toNat) → l.toNat < 128 → m.toNat < 128 → i ++ l :: r = j ++ m :: s → i = j ∧ l = m ∧ r = s
 | [], [], l, m, r, s, _, _, _, _, h => by
  simp only [List.nil_append, List.cons.injEq] at h; exact ⟨rfl, h.1, h.2⟩
 | [], d :: j, l, m, r, s, _, h2, h3, _, h => by
  simp only [List.nil_append, List.cons_append, List.cons.injEq] at h
  have := h2 d (by simp)
  rw [← h.1] at this; omega
 | c :: i, [], l, m, r, s, h1, _, _, h4, h => by
  simp only [List.nil_append, List.cons_append, List.cons.injEq] at h
  have := h1 c (by simp)
  rw [h.1] at this; omega
 | c :: i, d :: j, l, m, r, s, h1, h2, h3, h4, h => by
  simp only [List.cons_append, List.cons.injEq] at h
  obtain ⟨e1, e2, e3⟩ := Xg1 (fun x hx => h1 x (by simp [hx])) (fun x hx => h2 x (by simp [hx])) h3 h4 h.2
  exact ⟨by rw [h.1, e1], e2, e3⟩
theorem Xyd {n m : Nat} {r s : List UInt8} (hn : n < 18446744073709551616) (hm : m < 18446744073709551616) (h : numL n ++ r = numL m ++ s) : n = m ∧ r = s := by
 obtain ⟨h1, i, l, h2, h3⟩ := Xeb hn
 obtain ⟨k1, j, k, k2, k3⟩ := Xeb hm
 have h' := h
 rw [h2, k2, List.append_assoc, List.append_assoc, List.singleton_append, List.singleton_append] at h'
 obtain ⟨e1, e2, e3⟩ := Xg1 h3.great k3.great h3.small k3.small h'
 refine ⟨?_, e3⟩
 rw [← h1, ← k1, h2, k2, e1, e2]
theorem Xwb : ∀ (i : List UInt8) (l : UInt8) (f : Nat), Digits i l → i.length ≤ f → numF f (numV (i ++ [l])) = i ++ [l]
 | [], l, f, h, _ => by
  have e : numV ([] ++ [l]) = l.toNat := by simp only [List.nil_append, numV]; have := h.small; omega
  rw [e]
  have e2 : UInt8.ofNat l.toNat = l := UInt8.ofNat_toNat
  cases f with
  | zero => simp [numF, e2]
  | succ f => simp only [numF]; rw [if_neg (by have := h.small; omega)]; simp [e2]
 | c :: i, l, f, h, hf => by
  have hd : Digits i l := ⟨fun x hx => h.great x (by simp [hx]), h.small, fun _ => h.some (by simp)⟩
  have hc := h.great c (by simp)
  have hl := h.some (by simp)
  have hv : 1 ≤ numV (i ++ [l]) := by
   rw [Xfm]
   have : numV [l] = l.toNat := by simp only [numV]; have := h.small; omega
   rw [this]
   have h1 : 1 ≤ 128 ^ i.length := Nat.one_le_pow _ _ (by decide)
   have := Nat.mul_le_mul h1 (show 1 ≤ l.toNat by omega)
   omega
  cases f with
  | zero => simp at hf
  | succ f =>
   simp only [List.cons_append, numV, numF]
   have hc2 : c.toNat < 256 := c.toNat_lt
   rw [if_pos (by omega)]
   have e1 : (c.toNat % 128 + 128 * numV (i ++ [l])) / 128 = numV (i ++ [l]) := by omega
   rw [e1, Xwb i l f hd (by simp at hf; omega)]
   congr 1
   apply UInt8.toNat_inj.1
   rw [Xwa]; omega
theorem Xz8 {i : List UInt8} {l : UInt8} (h : Digits i l) (hl : i.length ≤ 9) : numL (numV (i ++ [l])) = i ++ [l] := Xwb i l 9 h hl
open Classical in
noncomputable def getN (b : List UInt8) : Nat × Nat := if h : ∃ n, n < 18446744073709551616 ∧ numL n <+: b then (Classical.choose h, (numL (Classical.choose h)).length) else (0, 0)
theorem Xdy (n : Nat) : 1 ≤ (numL n).length := by
 unfold numL
 simp only [numF]
 split <;> simp
theorem Xn1 {b : List UInt8} {n : Nat} (hn : n < 18446744073709551616) (h : numL n <+: b) : getN b = (n, (numL n).length) := by
 have hex : ∃ n, n < 18446744073709551616 ∧ numL n <+: b := ⟨n, hn, h⟩
 have hs := Classical.choose_spec hex
 unfold getN
 rw [dif_pos hex]
 obtain ⟨r, hr⟩ := h
 obtain ⟨s, hs2⟩ := hs.2
 have := (Xyd hs.1 hn (hs2.trans hr.symm)).1
 rw [this]
theorem Xcj {n : Nat} (hn : n < 18446744073709551616) (r : List UInt8) : getN (numL n ++ r) = (n, (numL n).length) := Xn1 hn ⟨r, rfl⟩
theorem Xf7 {b : List UInt8} (h : ¬ ∃ n, n < 18446744073709551616 ∧ numL n <+: b) : getN b = (0, 0) := by unfold getN; rw [dif_neg h]
theorem Xpm {b : List UInt8} (h : (getN b).2 ≠ 0) : (getN b).1 < 18446744073709551616 ∧ (getN b).2 = (numL (getN b).1).length ∧ b = numL (getN b).1 ++ b.drop (getN b).2 ∧ (getN b).2 ≤ b.length := by
 by_cases hex : ∃ n, n < 18446744073709551616 ∧ numL n <+: b
 ·obtain ⟨n, hn, hp⟩ := hex
  rw [Xn1 hn hp]
  obtain ⟨r, rfl⟩ := hp
  exact ⟨hn, rfl, by simp, by simp⟩
 ·rw [Xf7 hex] at h; exact (h rfl).elim
theorem Xko (b : List UInt8) : (getN b).2 ≤ b.length ∧ (getN b).2 ≤ 10 := by
 by_cases h : (getN b).2 = 0
 ·omega
 ·obtain ⟨_, h2, _, h3⟩ := Xpm h
  exact ⟨h3, by rw [h2]; exact Xa5 _⟩
theorem Xkp (b : List UInt8) : (getN b).1 < 18446744073709551616 := by
 by_cases h : ∃ n, n < 18446744073709551616 ∧ numL n <+: b
 ·obtain ⟨n, hn, hp⟩ := h; rw [Xn1 hn hp]; exact hn
 ·rw [Xf7 h]; decide
theorem Xz9 {b : List UInt8} {k : Nat} (hk : k < b.length) (hg : ∀ c ∈ b.take k, 128 ≤ c.toNat) (hs : b[k].toNat < 128) :
  getN b = if k ≤ 9 ∧ ¬ (0 < k ∧ b[k].toNat = 0) ∧ ¬ (k = 9 ∧ 1 < b[k].toNat) then (numV (b.take (k + 1)), k + 1) else (0, 0) := by
 have htk : b.take (k + 1) = b.take k ++ [b[k]] := List.take_succ_eq_append_getElem hk
 have hlen : (b.take k).length = k := by rw [List.length_take]; omega
 split
 ·rename_i h
  obtain ⟨h1, h2, h3⟩ := h
  have hd : Digits (b.take k) b[k] := ⟨hg, hs, fun hne h0 => h2 ⟨by
   rcases Nat.eq_zero_or_pos k with e | e
   ·subst e; exact (hne (by simp)).elim
   ·exact e, h0⟩⟩
  have hv : numV (b.take (k + 1)) < 18446744073709551616 := by
   rw [htk, Xfm, hlen]
   have h4 := Xv9 (b.take k)
   rw [hlen] at h4
   have h5 : numV [b[k]] = b[k].toNat := by simp only [numV]; omega
   rw [h5]
   by_cases h9 : k = 9
   ·subst h9
    have : b[9].toNat ≤ 1 := by omega
    have h6 : (128 : Nat) ^ 9 = 9223372036854775808 := by decide
    rw [h6] at h4 ⊢
    have := Nat.mul_le_mul_left 9223372036854775808 this
    omega
   ·have h6 : 128 ^ (k + 1) ≤ 128 ^ 9 := Nat.pow_le_pow_right (by decide) (by omega)
    have h7 : (128 : Nat) ^ 9 = 9223372036854775808 := by decide
    rw [h7, Nat.pow_succ] at h6
    have := Nat.mul_le_mul_left (128 ^ k) (show b[k].toNat ≤ 127 by omega)
    omega
  have hn := Xz8 hd (by omega)
  rw [← htk] at hn
  rw [Xn1 hv (by rw [hn]; exact List.take_prefix _ _), hn, List.length_take]
  congr 1; omega
 ·rename_i h
  refine Xf7 ?_
  rintro ⟨n, hn, r, hr⟩
  obtain ⟨h1, i, l, h2, h3⟩ := Xeb hn
  have hb : b.take k ++ b[k] :: b.drop (k + 1) = b := by
   have := List.take_append_drop k b
   rwa [List.drop_eq_getElem_cons hk] at this
  rw [h2, List.append_assoc, List.singleton_append] at hr
  obtain ⟨e1, e2, _⟩ := Xg1 h3.great hg h3.small hs (hr.trans hb.symm)
  have hil : i.length = k := by rw [e1, hlen]
  have h10 := Xa5 n
  rw [h2, List.length_append, List.length_singleton, hil] at h10
  apply h
  refine ⟨by omega, fun ⟨h4, h5⟩ => ?_, fun ⟨h4, h5⟩ => ?_⟩
  ·exact h3.some (fun e => by rw [e] at hil; simp at hil; omega) (by rw [e2]; exact h5)
  ·rw [h2, Xfm, hil, h4] at h1
   have h6 : numV [l] = l.toNat := by simp only [numV]; have := h3.small; omega
   rw [h6, e2] at h1
   have h7 : (128 : Nat) ^ 9 = 9223372036854775808 := by decide
   rw [h7] at h1
   have := Nat.mul_le_mul_left 9223372036854775808 h5
   omega
theorem Xt7 {b : List UInt8} (h : ∀ c ∈ b.take 10, 128 ≤ c.toNat) : getN b = (0, 0) := by
 refine Xf7 ?_
 rintro ⟨n, hn, r, hr⟩
 obtain ⟨_, i, l, h2, h3⟩ := Xeb hn
 have h10 := Xa5 n
 have : l ∈ b.take 10 := by
  rw [h2] at h10 hr
  rw [← hr, List.take_append, List.take_of_length_le h10]
  simp
 have := h l this
 have := h3.small
 omega
section
attribute [local irreducible] JC JO JR JQ andThen inBlock OpV Gives Xae JM JS
theorem low7 (c : UInt8) : (c &&& 127).toNat = c.toNat % 128 := by
 have key : ∀ k : Fin 256, (k.1 &&& 127) = k.1 % 128 := by decide +kernel
 rw [UInt8.toNat_and]; exact key ⟨c.toNat, c.toNat_lt⟩
theorem top1 (c : UInt8) : (c &&& 128).toNat = 0 ↔ c.toNat < 128 := by
 have key : ∀ k : Fin 256, (k.1 &&& 128) = 0 ↔ k.1 < 128 := by decide +kernel
 rw [UInt8.toNat_and]; exact key ⟨c.toNat, c.toNat_lt⟩
theorem Xye (N : UInt64) (m i : Nat) (h : N.toNat < 2 ^ (7 * i)) (hm : m * 2 ^ (7 * i) < 18446744073709551616) (hm' : m < 256) : (N ||| Xj7 (UInt64.ofNat m) (7 * i)).toNat = N.toNat + m * 2 ^ (7 * i) := by
 have e1 : (UInt64.ofNat m).toNat = m := by rw [UInt64.toNat_ofNat']; omega
 have e2 : (Xj7 (UInt64.ofNat m) (7 * i)).toNat = m * 2 ^ (7 * i) := by
  rw [Xj7, e1, UInt64.toNat_ofNat']; exact Nat.mod_eq_of_lt hm
 rw [UInt64.toNat_or, e2, Nat.or_comm, ← Nat.shiftLeft_eq, ← Nat.shiftLeft_add_eq_or_of_lt h, Nat.add_comm]
theorem pow7 (i : Nat) : 128 ^ i = 2 ^ (7 * i) := by rw [Nat.pow_mul]
theorem Xwc {B : List UInt8} {i : Nat} (h : i < B.length) : numV (B.take (i + 1)) = numV (B.take i) + B[i].toNat % 128 * 2 ^ (7 * i) := by
 rw [List.take_succ_eq_append_getElem h, Xfm, List.length_take, Nat.min_eq_left (by omega), pow7, Nat.mul_comm]
 simp [numV]
theorem Xjn {N : UInt64} {B : List UInt8} {i : Nat} (h : i < B.length) (hN : N.toNat = numV (B.take i)) (h9 : i ≤ 8 ∨ (i = 9 ∧ B[i].toNat ≤ 1)) :
  (N ||| Xj7 (UInt64.ofNat (B[i].toNat % 128)) (7 * i)).toNat = numV (B.take (i + 1)) := by
 have h1 := Xv9 (B.take i)
 rw [List.length_take, Nat.min_eq_left (by omega), pow7] at h1
 rw [Xye N _ i (by rw [hN]; exact h1) ?_ (by omega), hN, Xwc h]
 rcases h9 with h9 | ⟨h9, hc⟩
 ·have h3 : 2 ^ (7 * i) ≤ 2 ^ 56 := Nat.pow_le_pow_right (by decide) (by omega)
  have h4 : B[i].toNat % 128 ≤ 127 := by omega
  have := Nat.mul_le_mul h4 h3
  have : (2 : Nat) ^ 56 = 72057594037927936 := by decide
  omega
 ·have h4 : B[i].toNat % 128 ≤ 1 := by omega
  have := Nat.mul_le_mul_right (2 ^ (7 * i)) h4
  have e : 2 ^ (7 * i) = 9223372036854775808 := by rw [h9]
  rw [e] at this ⊢
  omega
theorem Xig (a : Option Addr) (c : Nat) (b : List UInt8) (h : (sl a c b).holds F w) :
  GivesV prog 181 [.slice a b.length c] w F (.tuple ⟨[.int .u64 ((getN b).1 : Int), .int .i64 ((getN b).2 : Int)]⟩) := by
 have hL : b.length < 9223372036854775807 := by have := h.2.2.1; simp only [lim] at this; omega
 refine Xaa func181 rfl ntmps181 rfl rfl [.st (sl a c b)] (.start1 h) ?_
 refine wz4 ?_
 refine Wf OpV.min rfl ?_
 refine JO.reslot 10 (.int .i64 ((min b.length 10 : Nat) : Int)) (by congr 1; omega) ?_
 refine wz13 ?_
 refine Xh7 (L := b) (k := min b.length 10) rfl rfl (by omega) ?_
 intro a1 c1
 obtain ⟨B, hB⟩ : ∃ B, B = b.take (min b.length 10) := ⟨_, rfl⟩
 have hBl : B.length = min b.length 10 := by rw [hB, List.length_take]; omega
 rw [← hB]
 refine wz4 ?_
 refine JC.reslot 4 (w64 0) rfl ?_
 refine Xfb (fun (i : Nat) (N : UInt64) => [(4, w64 N), (11, .slice a1 B.length c1), (12, .int .i64 (B.length : Int)), (13, .int .i64 (i : Int))]) (fun i N => [.st (sl a1 c1 B)])
  (fun i N => i ≤ B.length ∧ (∀ c ∈ B.take i, 128 ≤ c.toNat) ∧ (i ≤ 9 → N.toNat = numV (B.take i))) (fun i _ => B.length - i) 0 0 ⟨Nat.zero_le _, by simp, fun _ => by simp [numV]⟩ iI ?_
 intro i N ⟨hi, hg, hN⟩
 refine wz11 ?_
 refine JC.test (fun hlt => ?_) (fun hge => ?_)
 ·have hi' : i < B.length := by omega
  have hib : i < b.length := by omega
  have hBi : B[i] = b[i] := by simp only [hB, List.getElem_take]
  have htk : B.take i = b.take i := by rw [hB, List.take_take]; congr 1; omega
  refine wz14 ?_
  refine JR.indexByte (L := B) rfl hi' ?_
  intro bb ob
  obtain ⟨x, hx⟩ : ∃ x, x = B[i] := ⟨_, rfl⟩
  have hxl := x.toNat_lt
  rw [← hx]
  refine wz9 ?_
  refine Wf (Xsj (a := x) (b := 127) (hy := ⟨fun _ _ _ => rfl⟩)) rfl ?_
  refine wz13 ?_
  refine Wf Xa6 rfl ?_
  refine JO.reslot 21 (w64 (UInt64.ofNat (x.toNat % 128))) (by
   have e1 : (UInt64.ofNat (x.toNat % 128)).toNat = x.toNat % 128 := by rw [UInt64.toNat_ofNat']; omega
   rw [w64, e1, low7, Xc2]; congr 2 <;> omega) ?_
  refine wz6 ?_
  refine Wf (OpV.mul (by omega)) rfl ?_
  refine JO.reslot 23 (.int .i64 ((7 * i : Nat) : Int)) (by congr 1) ?_
  refine wz13 ?_
  refine Wf (Xu8 (by omega)) rfl ?_
  refine wz13 ?_
  refine Wf Xxu rfl ?_
  refine wz10 ?_
  refine Wf (Xsj (a := x) (b := 128) (hy := ⟨fun _ _ _ => rfl⟩)) rfl ?_
  refine wA ?_
  refine JC.test (fun hc => ?_) (fun hc => ?_)
  ·have hx128 : 128 ≤ x.toNat := by
    apply Classical.byContradiction
    intro hn
    have := (top1 x).2 (by omega)
    exact hc (by rw [this]; rfl)
   refine wz12 ?_
   refine ⟨i + 1, N ||| Xj7 (UInt64.ofNat (x.toNat % 128)) (7 * i), ⟨by omega, fun d hd => ?_, fun h9 => by rw [hx]; exact Xjn hi' (hN (by omega)) (.inl (by omega))⟩, by omega, iI⟩
   rw [List.take_succ_eq_append_getElem hi', List.mem_append, List.mem_singleton] at hd
   rcases hd with hd | rfl
   ·exact hg d hd
   ·rw [← hx]; exact hx128
  ·have hx128 : x.toNat < 128 := (top1 x).1 (by
    have : ((x &&& 128).toNat : Int) = 0 := by simpa using hc
    omega)
   have hat := Xz9 hib (by rw [← htk]; exact hg) (by rw [← hBi, ← hx]; exact hx128)
   rw [← hBi, ← hx] at hat
   by_cases h0 : i = 0
   ·rw [if_pos ⟨by omega, by omega, by omega⟩] at hat
    have hv := Xjn hi' (hN (by omega)) (.inl (by omega))
    rw [← hx] at hv
    have htk1 : B.take (i + 1) = b.take (i + 1) := by rw [hB, List.take_take]; congr 1; omega
    rw [htk1] at hv
    rw [hat]
    dsimp only
    refine wz14 ?_
    refine JO.reslot 31 (.bool false) (by simp [h0]) ?_
    refine wX ?_
    refine JO.reslot 38 (.bool false) (by simp [h0]) ?_
    refine wX ?_
    refine CT.dn () ?_
    rw [w64, hv]; rfl
   by_cases hx0 : x.toNat = 0
   ·rw [if_neg (fun h => h.2.1 ⟨by omega, hx0⟩)] at hat
    rw [hat]
    refine wz14 ?_
    refine JO.reslot 31 (.bool true) (by simp; omega) ?_
    refine wz6 ?_
    refine JO.reslot 35 (.bool true) (by simp [hx0]) ?_
    refine wX ?_
    exact CT.dn () rfl
   by_cases h9 : i = 9
   ·by_cases hx1 : 1 < x.toNat
    ·rw [if_neg (fun h => h.2.2 ⟨h9, hx1⟩)] at hat
     rw [hat]
     refine wz14 ?_
     refine JO.reslot 31 (.bool true) (by simp; omega) ?_
     refine wz6 ?_
     refine JO.reslot 35 (.bool false) (by simp [hx0]) ?_
     refine wz6 ?_
     refine JO.reslot 38 (.bool true) (by simp [h9]) ?_
     refine wX ?_
     refine JC.reslot 42 (.bool true) (by simp; omega) ?_
     refine wz12 ?_
     exact CT.dn () rfl
    ·rw [if_pos ⟨by omega, by omega, by omega⟩] at hat
     have hv := Xjn hi' (hN (by omega)) (.inr ⟨h9, by rw [← hx]; omega⟩)
     rw [← hx] at hv
     have htk1 : B.take (i + 1) = b.take (i + 1) := by rw [hB, List.take_take]; congr 1; omega
     rw [htk1] at hv
     rw [hat]
     dsimp only
     refine wz14 ?_
     refine JO.reslot 31 (.bool true) (by simp; omega) ?_
     refine wz6 ?_
     refine JO.reslot 35 (.bool false) (by simp [hx0]) ?_
     refine wz6 ?_
     refine JO.reslot 38 (.bool true) (by simp [h9]) ?_
     refine wX ?_
     refine JC.reslot 42 (.bool false) (by simp; omega) ?_
     refine wX ?_
     refine CT.dn () ?_
     rw [w64, hv]; rfl
   ·rw [if_pos ⟨by omega, by omega, by omega⟩] at hat
    have hv := Xjn hi' (hN (by omega)) (.inl (by omega))
    rw [← hx] at hv
    have htk1 : B.take (i + 1) = b.take (i + 1) := by rw [hB, List.take_take]; congr 1; omega
    rw [htk1] at hv
    rw [hat]
    dsimp only
    refine wz14 ?_
    refine JO.reslot 31 (.bool true) (by simp; omega) ?_
    refine wz6 ?_
    refine JO.reslot 35 (.bool false) (by simp [hx0]) ?_
    refine wz6 ?_
    refine JO.reslot 38 (.bool false) (by simp; omega) ?_
    refine wX ?_
    refine CT.dn () ?_
    rw [w64, hv]; rfl
 ·obtain rfl : i = B.length := by omega
  rw [List.take_length] at hg
  have hnone : getN b = (0, 0) := by
   by_cases h10 : 10 ≤ b.length
   ·exact Xt7 (by rw [hB, Nat.min_eq_right h10] at hg; exact hg)
   ·refine Xf7 ?_
    rintro ⟨n, hn, r, hr⟩
    obtain ⟨_, i, l, h2, h3⟩ := Xeb hn
    have hl : l ∈ B := by
     rw [hB, Nat.min_eq_left (by omega), List.take_length, ← hr, h2]; simp
    have := hg l hl
    have := h3.small
    omega
  rw [hnone]
  refine wz3 ?_
  exact CT.dn () rfl
abbrev Xwd : Value := .iface 203 (.agg ⟨[]⟩)
abbrev Xmj : List PanicEntry := pan Xwd
theorem Xe2 : GivesV prog 230 [.bool true] w F (.tuple ⟨[]⟩) := by
 refine Xaa func230 rfl ntmps230 rfl rfl [] (.start w F) ?_
 refine wz7 ?_
 exact Xvi () rfl
theorem Xd4 {w0 w : World} {F : Nat → Prop} {Γ : List Fact} (ho : Hold w0 F Γ w) : Calls prog 230 ⟨[.bool false]⟩ w fun x w' => x = .panicked Xmj ∧ Hold w0 F Γ w' := by
 refine Xhf func230 rfl ntmps230 rfl _ ho ?_
 refine wz8 ?_
 refine Wf (OpV.build [] (by kernel_rfl)) rfl ?_
 refine wz13 ?_
 refine Wf (Xnr (by kernel_rfl)) rfl ?_
 refine wz13 ?_
 refine JR.panic ?_
 refine z2z ?_
 exact CT.gone (fun w ho => ho)
section
variable {w0 w : World} {F : Nat → Prop} {Γ : List Fact} {br : Nat} {a : Option Addr} {c : Nat} {L : List UInt8}
theorem Xwe (hk : (getN L).2 ≠ 0) (ho : Hold w0 F (.own br 207 [.slice a L.length c] :: .st (sl a c L) :: Γ) w) :
  Calls prog 226 ⟨[.pointer (some ⟨br, 0, none⟩)]⟩ w fun x w' => ∃ y : Option Addr × Nat, x = .returned (.int .u64 ((getN L).1 : Int)) ∧ Hold w0 F (.own br 207 [.slice y.1 (L.drop (getN L).2).length y.2] :: .st (sl y.1 y.2 (L.drop (getN L).2)) :: Γ) w' := by
 have hkl := (Xko L).1
 refine Xbq (v := fun y : Option Addr × Nat => .int .u64 ((getN L).1 : Int)) (B := fun y => .own br 207 [.slice y.1 (L.drop (getN L).2).length y.2] :: .st (sl y.1 y.2 (L.drop (getN L).2)) :: Γ) func226 rfl ntmps226 rfl rfl _ ho ?_
 refine wz10 ?_
 refine Wf OpV.nilCheck rfl ?_
 refine wz6 ?_
 refine JR.callV rfl (fun w1 hw => Xig w1 _ a c L hw.get) ?_
 refine wA ?_
 refine JR.reslot 14 (.bool true) (by congr 1; exact decide_eq_true (by omega)) ?_
 refine JR.callV rfl (fun w1 hw => Xe2 w1 _) ?_
 refine wz10 ?_
 refine Wf OpV.nilCheck rfl ?_
 refine wz6 ?_
 refine Xbs (L := L) (k := (getN L).2) rfl rfl hkl ?_
 intro a2 c2
 refine wz13 ?_
 refine Wf OpV.nilCheck rfl ?_
 refine wz6 ?_
 refine JR.reslot 24 (.pointer (some ⟨br, 0, none⟩)) rfl ?_
 refine Wi ?_
 refine wz10 ?_
 exact CT.dn (a2, c2) rfl
theorem Xwf (hk : (getN L).2 = 0) (ho : Hold w0 F (.own br 207 [.slice a L.length c] :: .st (sl a c L) :: Γ) w) :
  Calls prog 226 ⟨[.pointer (some ⟨br, 0, none⟩)]⟩ w fun x w' => x = .panicked Xmj ∧ Hold w0 F Γ w' := by
 refine Xhf func226 rfl ntmps226 rfl _ ho ?_
 refine wz10 ?_
 refine Wf OpV.nilCheck rfl ?_
 refine wz6 ?_
 refine JR.callV rfl (fun w1 hw => Xig w1 _ a c L hw.get) ?_
 refine wA ?_
 refine JR.reslot 14 (.bool false) (by congr 1; exact decide_eq_false (by omega)) ?_
 refine Xcd (fun w1 hw => Xd4 hw) ?_
 refine z2z ?_
 exact CT.gone (fun w ho => ho.ent)
theorem Xrf (m : Nat) (hm : m ≤ 1048576) (hk : (getN L).2 ≠ 0) (hn : (getN L).1 ≤ m) (ho : Hold w0 F (.own br 207 [.slice a L.length c] :: .st (sl a c L) :: Γ) w) :
  Calls prog 227 ⟨[.pointer (some ⟨br, 0, none⟩), .int .i64 (m : Int)]⟩ w fun x w' => ∃ y : Option Addr × Nat, x = .returned (.int .i64 ((getN L).1 : Int)) ∧ Hold w0 F (.own br 207 [.slice y.1 (L.drop (getN L).2).length y.2] :: .st (sl y.1 y.2 (L.drop (getN L).2)) :: Γ) w' := by
 refine Xbq (v := fun y : Option Addr × Nat => .int .i64 ((getN L).1 : Int)) (B := fun y => .own br 207 [.slice y.1 (L.drop (getN L).2).length y.2] :: .st (sl y.1 y.2 (L.drop (getN L).2)) :: Γ) func227 rfl ntmps227 rfl rfl _ ho ?_
 refine wz10 ?_
 refine Xbi (v := fun y : Option Addr × Nat => .int .u64 ((getN L).1 : Int)) (B := fun y => .own br 207 [.slice y.1 (L.drop (getN L).2).length y.2] :: .st (sl y.1 y.2 (L.drop (getN L).2)) :: Γ) rfl (fun w1 hw => Xwe hk hw) ?_
 rintro ⟨a2, c2⟩
 dsimp only
 refine wz10 ?_
 refine Wf Xa6 rfl ?_
 refine JO.reslot 10 (.int .u64 (m : Int)) (by rw [Xc2]; congr 2; omega) ?_
 refine wA ?_
 refine JR.reslot 11 (.bool true) (by congr 1; exact decide_eq_true (by omega)) ?_
 refine JR.callV rfl (fun w1 hw => Xe2 w1 _) ?_
 refine wz10 ?_
 refine Wf Xa6 rfl ?_
 refine JO.reslot 14 (.int .i64 ((getN L).1 : Int)) (by rw [Xcg (by omega)]) ?_
 refine wz10 ?_
 exact CT.dn (a2, c2) rfl
theorem Xn2 (m : Nat) (hm : m ≤ 1048576) (hk : (getN L).2 = 0 ∨ m < (getN L).1) (ho : Hold w0 F (.own br 207 [.slice a L.length c] :: .st (sl a c L) :: Γ) w) :
  Calls prog 227 ⟨[.pointer (some ⟨br, 0, none⟩), .int .i64 (m : Int)]⟩ w fun x w' => x = .panicked Xmj ∧ Hold w0 F Γ w' := by
 refine Xhf func227 rfl ntmps227 rfl _ ho ?_
 refine wz10 ?_
 by_cases h0 : (getN L).2 = 0
 ·refine Xcd (fun w1 hw => Xwf h0 hw) ?_
  refine z2z ?_
  exact CT.gone (fun w ho => ho)
 refine Xbi (v := fun y : Option Addr × Nat => .int .u64 ((getN L).1 : Int)) (B := fun y => .own br 207 [.slice y.1 (L.drop (getN L).2).length y.2] :: .st (sl y.1 y.2 (L.drop (getN L).2)) :: Γ) rfl (fun w1 hw => Xwe h0 hw) ?_
 rintro ⟨a2, c2⟩
 dsimp only
 refine wz10 ?_
 refine Wf Xa6 rfl ?_
 refine JO.reslot 10 (.int .u64 (m : Int)) (by rw [Xc2]; congr 2; omega) ?_
 refine wA ?_
 refine JR.reslot 11 (.bool false) (by congr 1; exact decide_eq_false (by omega)) ?_
 refine Xcd (fun w1 hw => Xd4 hw) ?_
 refine z2z ?_
 exact CT.gone (fun w ho => ho.ent)
def Xhp (L : List UInt8) (h : 32 ≤ L.length) : ID := ⟨L.take 32, by rw [List.length_take]; omega⟩
theorem Xpn (L : List UInt8) (h : 32 ≤ L.length) : (L.take 32).map Xah = idc (Xhp L h) := rfl
theorem X15 (h : 32 ≤ L.length) (ho : Hold w0 F (.own br 207 [.slice a L.length c] :: .st (sl a c L) :: Γ) w) :
  Calls prog 228 ⟨[.pointer (some ⟨br, 0, none⟩)]⟩ w fun x w' => ∃ y : Option Addr × Nat, x = .returned (.agg ⟨idc (Xhp L h)⟩) ∧ Hold w0 F (.own br 207 [.slice y.1 (L.drop 32).length y.2] :: .st (sl y.1 y.2 (L.drop 32)) :: Γ) w' := by
 refine Xbq (v := fun y : Option Addr × Nat => .agg ⟨idc (Xhp L h)⟩) (B := fun y => .own br 207 [.slice y.1 (L.drop 32).length y.2] :: .st (sl y.1 y.2 (L.drop 32)) :: Γ) func228 rfl ntmps228 rfl rfl _ ho ?_
 (repeat (refine wE ?_; intro _)); refine wA ?_
 rename_i b2
 refine Wf OpV.nilCheck rfl ?_
 refine wA ?_
 refine JR.reslot 8 (.bool true) (by congr 1; exact decide_eq_true (by omega)) ?_
 refine JR.callV rfl (fun w1 hw => Xe2 w1 _) ?_
 refine wz10 ?_
 refine JC.drawP mixed ?_
 refine Xab 0 ?_
 refine Xab 1 ?_
 refine Xab 2 ?_
 refine Xab 3 ?_
 refine JP.tv 4 [.own br 207 [.slice a L.length c]] ?_
 refine JP.pure 5 rfl (by kernel_rfl) rfl (fun _ => Xfy) rfl rfl ?_
 refine Xab 6 ?_
 refine Xab 7 ?_
 refine Xab 8 ?_
 refine JP.tv 9 [.own br 207 [.slice a L.length c]] ?_
 refine Xal 10 rfl rfl (Xq4 (L := L) rfl h (by decide) (by simp) (Wd (nO ?_)))
 refine JP.more (Γ' := .st (sl (Xex a c 32 1) (c - 32) (L.drop 32)) :: .own b2 81 ((L.take 32).map Xah) :: .own br 207 [.slice a L.length c] :: .st (sl a c L) :: Γ) (fun w1 ho => ?_) ?_
 ·exact ((ho.ent : Hold _ _ (.own b2 81 ((L.take 32).map Xah) :: .own br 207 [.slice a L.length c] :: .st (sl a c L) :: Γ) w1).add (A := sl (Xex a c 32 1) (c - 32) (L.drop 32)) (Xnm (k := 32) (ho.get (A := sl a c L)) h))
 refine JP.take 11 [.st (sl a c L)] rfl (by kernel_rfl) rfl (Xet (l := 32) (s := 1) rfl (fun w1 ho => ⟨h, (Hold.get (A := sl a c L) ho).1⟩)) rfl rfl ?_
 refine JP.reslot 21 (.slice (Xex a c 32 1) (L.drop 32).length (c - 32)) (by congr 1; simp) ?_
 refine Xab 12 ?_
 refine Xab 13 ?_
 refine JP.reslot 23 (.pointer (some ⟨br, 0, none⟩)) rfl ?_
 refine Xal 14 rfl rfl (Wi (Wd (nO ?_)))
 refine JP.nil (by kernel_rfl) ?_
 rw [Xpn L h]
 refine wz9 ?_
 exact CT.dn (Xex a c 32 1, c - 32) rfl
theorem X1l (h : L.length < 32) (ho : Hold w0 F (.own br 207 [.slice a L.length c] :: .st (sl a c L) :: Γ) w) :
  Calls prog 228 ⟨[.pointer (some ⟨br, 0, none⟩)]⟩ w fun x w' => x = .panicked Xmj ∧ Hold w0 F Γ w' := by
 refine Xhf func228 rfl ntmps228 rfl _ ho ?_
 (repeat (refine wE ?_; intro _)); refine wA ?_
 refine Wf OpV.nilCheck rfl ?_
 refine wA ?_
 refine JR.reslot 8 (.bool false) (by congr 1; exact decide_eq_false (by omega)) ?_
 refine Xcd (fun w1 hw => Xd4 hw) ?_
 refine z2z ?_
 exact CT.gone (fun w ho => ho.ent)
end
end
def strB (L : List UInt8) : ByteArray := ⟨L.toArray⟩
theorem Xrg (L : List UInt8) : strOfNums (L.map fun b => (b.toNat : Int)) = strB L := by
 simp only [strOfNums, strB, List.map_map]
 congr 2
 conv => rhs; rw [← List.map_id L]
 apply List.map_congr_left
 intro b _
 simp
theorem Xpo [Dr] {P : Program} {n : Nn} {w0 : World} {F : Nat → Prop} {d : Option Nat} {t : TypeId} {pos : String} {aft : Array Edge} {g : Option (Nat × Bool)} {e : E} {Γ : List Fact}
  {x : Operand} {src dst el : TypeId} {v : Value} {L : List UInt8} {s1 b1 s2 b2 s3 b3 : Nat} {z1 z2 z3 : Value} [hx : Ev e x v] [hL : HasSl Γ v UInt8 iI L]
  [hs : Ty P src (.slice el) s1 b1 z1] [hE : Ty P el (.int .u8) s2 b2 z2] [hD : Ty P dst .string s3 b3 z3] : OpV P n w0 F ⟨d, .convert src dst x, t, pos, aft, g⟩ e Γ (.string (strB L)) :=
 fun a w fr ho => by
  obtain ⟨a0, c, rfl, hsl⟩ := hL.holds ho
  have key : (convert src dst (.slice a0 L.length c)).run P w = .ok (.string (strB L)) w := by
   by_cases hne : L = []
   ·subst hne
    cases a0 with
    | none => exact run_convert_bytes_nil w src el hs.und hE.und _ _ dst hD.und
    | some a0 =>
     obtain ⟨b, off, sp⟩ := a0
     rw [run_convert_bytes_string w src dst el _ _ _ hs.und hE.und hD.und]
     have hl : (loadCells ⟨b, off, sp⟩ ([] : List UInt8).length).run P w = .ok (([] : List Int).map (Value.int .u8)).toArray w := by
      have := run_loadCells_list (P := P) w ⟨b, off, sp⟩ ([] : List Value) (fun j v hj => by simp at hj)
      simpa using this
     rw [run_bytesToString w _ _ c [] hl]; rfl
   ·obtain ⟨b, off, rfl, _, _, hr⟩ := hsl.2.2.2 hne
    have := run_convert_bytes_arg w src el hs.und hE.und b off L.length c (L.map fun b => (b.toNat : Int)) (by simp) (fun i hi => by
     obtain ⟨y, h1, _⟩ := hr i hi
     have h2 := h1 0 (Xah L[i]) rfl
     have e : off + i * Cell.sz UInt8 + 0 = off + i := by show off + i * 1 + 0 = off + i; omega
     rw [e] at h2
     rw [h2]
     simp [Xah, List.getD_eq_getElem?_getD, hi]) dst hD.und
    rw [Xrg] at this
    exact this
  simp [execOp, hx.ok n a fr, key]
section
attribute [local irreducible] JC JO JR JQ andThen inBlock OpV Gives Xae JM JS
def Xc9 (m : Nat) : Int := if m % 2 = 0 then ((m / 2 : Nat) : Int) else -1 - ((m / 2 : Nat) : Int)
theorem X0a (m : Nat) : (BitVec.ofInt 64 (m : Int) &&& BitVec.ofInt 64 1).toNat = m % 2 := by
 rw [BitVec.toNat_and]
 have e1 : (BitVec.ofInt 64 (m : Int)).toNat = m % 18446744073709551616 := by
  rw [BitVec.toNat_ofInt]; omega
 have e2 : (BitVec.ofInt 64 1).toNat = 1 := by decide
 rw [e1, e2, Nat.and_one_is_mod]; omega
theorem Xt8 (m : Nat) (h : m < 18446744073709551616) : IntKind.i64.wrap ((BitVec.ofInt 64 ((m / 2 : Nat) : Int) ^^^ BitVec.ofInt 64 (IntKind.i64.wrap (0 - ((m % 2 : Nat) : Int)))).toNat : Int) = Xc9 m := by
 have e1 : (BitVec.ofInt 64 ((m / 2 : Nat) : Int)).toNat = m / 2 := by rw [BitVec.toNat_ofInt]; omega
 rcases Nat.mod_two_eq_zero_or_one m with h0 | h0
 ·rw [h0]
  have e2 : BitVec.ofInt 64 (IntKind.i64.wrap (0 - ((0 : Nat) : Int))) = 0#64 := by rw [Xcg (by omega)]; decide
  rw [e2, BitVec.xor_zero, e1, Xcg (by omega), Xc9, if_pos h0]
 ·rw [h0]
  have e2 : BitVec.ofInt 64 (IntKind.i64.wrap (0 - ((1 : Nat) : Int))) = BitVec.allOnes 64 := by rw [Xcg (by omega)]; decide
  rw [e2, BitVec.xor_allOnes, BitVec.toNat_not, e1, Xc9, if_neg (by omega)]
  have e3 : ((2 ^ 64 - 1 - m / 2 : Nat) : Int) = 18446744073709551615 - ((m / 2 : Nat) : Int) := by omega
  rw [e3, IntKind.wrap_i64]
  omega
theorem Xmk (m : Nat) (h : m < 18446744073709551616) : GivesV prog 220 [.int .u64 (m : Int)] w F (.int .i64 (Xc9 m)) := by
 refine Xaa func220 rfl ntmps220 rfl rfl [] (.start w F) ?_
 refine wz10 ?_
 refine Wf (OpV.shr (by decide)) rfl ?_
 refine JO.reslot 4 (.int .u64 ((m / 2 : Nat) : Int)) (by
  congr 1
  show (m : Int).fdiv 2 = _
  rw [Int.fdiv_eq_ediv_of_nonneg _ (by decide)]; omega) ?_
 refine We rfl ?_
 refine Wf Xa6 rfl ?_
 refine JO.reslot 5 (.int .i64 ((m / 2 : Nat) : Int)) (by rw [Xcg (by omega)]) ?_
 refine wz6 ?_
 refine Wf OpV.and rfl ?_
 refine JO.reslot 7 (.int .u64 ((m % 2 : Nat) : Int)) (by
  show Value.int .u64 (IntKind.u64.wrap ((BitVec.ofInt 64 (m : Int) &&& BitVec.ofInt 64 1).toNat : Int)) = _
  rw [X0a, Xc2]; congr 2; omega) ?_
 refine We rfl ?_
 refine Wf Xa6 rfl ?_
 refine JO.reslot 8 (.int .i64 ((m % 2 : Nat) : Int)) (by rw [Xcg (by omega)]) ?_
 refine We rfl ?_
 refine Wf OpV.neg rfl ?_
 refine We rfl ?_
 refine Wf OpV.xor rfl ?_
 refine JO.reslot 10 (.int .i64 (Xc9 m)) (by rw [← Xt8 m h]; rfl) ?_
 refine wz10 ?_
 exact CT.dn () rfl
theorem Xec (a : Option Addr) (c : Nat) (L : List UInt8) (h : (sl a c L).holds F w) (hl : L.length ≤ 34359738368) :
  GivesBuf prog 67 [.slice a L.length c] w F 5 L := by
 refine Xaa func67 rfl ntmps67 rfl rfl [.st (sl a c L)] (.start1 h) ?_
 refine wA ?_
 refine JC.test (fun ha => ?_) (fun ha => ?_)
 ·cases a with
  | some a => cases ha
  | none =>
   obtain rfl := Xd7 h
   refine wz9 ?_
   exact CT.done (none, 0) rfl (fun w ho => ho.bufNil)
 ·refine wz14 ?_
  refine Xj0 (α := UInt8) rfl ?_
  intro a2
  refine wz6 ?_
  refine Xbg rfl (by exact ⟨rfl, rfl, by decide⟩) (by simpa using hl) ?_
  intro a3 c3
  rw [List.nil_append]
  refine wz10 ?_
  exact CT.dn (a3, c3) rfl
noncomputable def cutT (b : List UInt8) (m : Nat) : ByteArray × List UInt8 × Bool :=
 if (getN b).2 = 0 ∨ m < (getN b).1 ∨ b.length - (getN b).2 < (getN b).1 then (.empty, [], false) else (strB ((b.drop (getN b).2).take (getN b).1), (b.drop (getN b).2).drop (getN b).1, true)
theorem Xkq (b : List UInt8) (m : Nat) : (cutT b m).1.size ≤ m := by
 unfold cutT
 split
 ·exact Nat.zero_le _
 ·rename_i h
  simp only [strB, ByteArray.size, List.size_toArray, List.length_take]
  omega
theorem Xwg (a : Option Addr) (c : Nat) (b : List UInt8) (m : Nat) (h : (sl a c b).holds F w) (hl : b.length ≤ 34359738368) (hm : m ≤ 1048576) :
  Gives prog 224 [.slice a b.length c, .int .i64 (m : Int)] w F (fun y : Option Addr × Nat => .tuple ⟨[.string (cutT b m).1, .slice y.1 (cutT b m).2.1.length y.2, .bool (cutT b m).2.2]⟩) (fun y => [.st (sl y.1 y.2 (cutT b m).2.1)]) := by
 have hkl := (Xko b).1
 have hn64 := Xkp b
 refine Xaa func224 rfl ntmps224 rfl rfl [.st (sl a c b)] (.start1 h) ?_
 refine wz10 ?_
 refine JR.callV rfl (fun w1 hw => Xig w1 _ a c b hw.get) ?_
 refine wz4 ?_
 refine JO.test 16 (fun h0 => ?_) (fun h0 => ?_)
 ·have e : cutT b m = (.empty, [], false) := by unfold cutT; rw [if_pos (.inl (by omega))]
  rw [e]
  refine wz8 ?_
  exact CT.done (none, 0) rfl (fun w ho => (ho.ent : Hold _ _ [] w).add Xak)
 refine wz11 ?_
 refine Wf Xa6 rfl ?_
 refine JO.reslot 23 (.int .u64 (m : Int)) (by rw [Xc2]; congr 2; omega) ?_
 refine wz5 ?_
 refine JO.test 26 (fun h1 => ?_) (fun h1 => ?_)
 ·have e : cutT b m = (.empty, [], false) := by unfold cutT; rw [if_pos (.inr (.inl (by omega)))]
  rw [e]
  refine wz8 ?_
  exact CT.done (none, 0) rfl (fun w ho => (ho.ent : Hold _ _ [] w).add Xak)
 refine wX ?_
 refine Wf Xa6 rfl ?_
 refine JO.reslot 32 (.int .u64 ((b.length - (getN b).2 : Nat) : Int)) (by
  rw [Xc2]; congr 2; omega) ?_
 refine wz5 ?_
 refine JC.test (fun h2 => ?_) (fun h2 => ?_)
 ·have e : cutT b m = (.empty, [], false) := by unfold cutT; rw [if_pos (.inr (.inr (by omega)))]
  rw [e]
  refine wz9 ?_
  exact CT.done (none, 0) rfl (fun w ho => (ho.ent : Hold _ _ [] w).add Xak)
 obtain ⟨B, hB⟩ : ∃ B, B = b.drop (getN b).2 := ⟨_, rfl⟩
 have hBl : B.length = b.length - (getN b).2 := by rw [hB, List.length_drop]
 have e : cutT b m = (strB (B.take (getN b).1), B.drop (getN b).1, true) := by unfold cutT; rw [if_neg (by omega), hB]
 rw [e]
 obtain ⟨n, hn⟩ : ∃ n, n = (getN b).1 := ⟨_, rfl⟩
 rw [← hn] at h1 h2 ⊢
 refine wz14 ?_
 refine Xbs (L := b) (k := (getN b).2) rfl rfl hkl ?_
 rw [← hB]
 intro a1 c1
 refine wz10 ?_
 refine JC.more (Γ' := [.st (sl a1 c1 (B.take n)), .st (sl (Xex a1 c1 n 1) (c1 - n) (B.drop n)), .st (sl a1 c1 B)]) (fun w1 ho => ?_) ?_
 ·have h1 := ho.add (A := sl (Xex a1 c1 n 1) (c1 - n) (B.drop n)) (Xnm (k := n) (ho.get (A := sl a1 c1 B)) (by omega))
  have h2 := h1.add (A := sl a1 c1 (B.take n)) (Xfv (k := n) (c' := c1) (h1.get (A := sl a1 c1 B)) (by omega) ⟨by have := (h1.get (A := sl a1 c1 B)).1; omega, Nat.le_refl _⟩)
  exact h2.ent
 refine Xch 11 mixed ?_
 refine JM.tv 0 ?_
 refine JM.tv 1 ?_
 refine JM.take 2 rfl (by kernel_rfl) rfl (Xbm (k := n) (fun w1 ho => by have := (Hold.get (A := sl a1 c1 B) ho).1; omega)) rfl rfl ?_
 refine JM.reslot 40 (.slice a1 (B.take n).length c1) (by congr 1; rw [List.length_take]; omega) ?_
 refine JM.take 3 rfl (by kernel_rfl) rfl (Xpo (L := B.take n)) rfl rfl ?_
 refine JM.tv 4 ?_
 refine JM.tv 5 ?_
 refine JM.take 6 rfl (by kernel_rfl) rfl (Xet (l := n) (s := 1) rfl (fun w1 ho => ⟨by omega, (Hold.get (A := sl a1 c1 B) ho).1⟩)) rfl rfl ?_
 refine JM.reslot 44 (.slice (Xex a1 c1 n 1) (B.drop n).length (c1 - n)) (by congr 1; rw [List.length_drop]) ?_
 refine JM.one 7 (by kernel_rfl) rfl rfl rfl rfl (JS.callBuf rfl (fun w1 hw => Xec w1 _ (Xex a1 c1 n 1) (c1 - n) (B.drop n) hw.get (by rw [List.length_drop]; omega)) fun a2 c2 => ?_)
 refine JM.more (fun w1 ho => ho.pub) ?_
 refine JM.one 8 (by kernel_rfl) rfl rfl rfl rfl (JS.val Vb rfl ?_)
 refine JM.one 9 (by kernel_rfl) rfl rfl rfl rfl (JS.val Vb rfl ?_)
 refine JM.one 10 (by kernel_rfl) rfl rfl rfl rfl (JS.val Vb rfl ?_)
 refine JM.nil (by kernel_rfl) ?_
 refine wz13 ?_
 exact CT.dn (a2, c2) rfl
def Xjf (L : List UInt8) : List UInt8 := (sumL L).take 4
theorem Xel (L : List UInt8) : (Xjf L).length = 4 := by unfold Xjf; rw [List.length_take, Xgz]; rfl
theorem four {L : List UInt8} (h : L.length = 32) : ∃ a b c d r, L = a :: b :: c :: d :: r ∧ L.take 4 = [a, b, c, d] := by
 match L, h with
 | a :: b :: c :: d :: r, _ => exact ⟨a, b, c, d, r, rfl, rfl⟩
theorem Xwh (a : Option Addr) (c : Nat) (L : List UInt8) (h : (sl a c L).holds F w) (hL : L.length ≤ 1048576) :
  GivesV prog 177 [.slice a L.length c] w F (.agg ⟨(Xjf L).map Xah⟩) := by
 obtain ⟨s0, s1, s2, s3, r, h1, h2⟩ := four (Xgz L)
 have hq : Xjf L = [s0, s1, s2, s3] := h2
 rw [hq]
 have hi : idc (sumI L) = Xah s0 :: Xah s1 :: Xah s2 :: Xah s3 :: r.map Xah := by
  show (sumI L).1.map Xah = _
  rw [Xyb, h1]; rfl
 refine Xaa func177 rfl ntmps177 rfl rfl [.st (sl a c L)] (.start1 h) ?_
 (repeat (refine wE ?_; intro _)); refine wA ?_
 refine JR.callV rfl (fun w1 hw => Xv4 w1 _ a c L hw.get hL) ?_
 (repeat (refine wE ?_; intro _)); refine wA ?_
 refine Wf (Xgp (k := 4) (by decide)) rfl ?_
 refine wz13 ?_
 refine Wf (Xhg (by decide)) rfl ?_
 rw [hi]
 refine wz9 ?_
 exact CT.dn () rfl
def Xbu (L : List UInt8) : List UInt8 := numL L.length ++ L ++ Xjf L
theorem Xb8 (L : List UInt8) : (Xbu L).length = (numL L.length).length + L.length + 4 := by unfold Xbu; rw [List.length_append, List.length_append, Xel]
def Xkr (L : List UInt8) : List UInt8 × Int := if 4000 < L.length then ([], 5) else (Xbu L, 0)
theorem Xpp (a : Option Addr) (c : Nat) (L : List UInt8) (h : (sl a c L).holds F w) :
  Xfa prog 116 [.slice a L.length c] w F (Xkr L).1 [.int .i64 (Xkr L).2] := by
 obtain ⟨s0, s1, s2, s3, r, h1, h2⟩ := four (Xgz L)
 have hq : Xjf L = [s0, s1, s2, s3] := h2
 refine Xaa func116 rfl ntmps116 rfl rfl [.st (sl a c L)] (.start1 h) ?_
 refine wz5 ?_
 refine JC.test (fun h4 => ?_) (fun h4 => ?_)
 ·have e : Xkr L = ([], 5) := if_pos (by omega)
  rw [e]
  refine wz9 ?_
  exact CT.done (none, 0) rfl (fun w ho => (ho.ent : Hold _ _ [] w).add Xak)
 ·have e : Xkr L = (Xbu L, 0) := if_neg (by omega)
  rw [e]
  refine wz14 ?_
  refine JR.callV rfl (fun w1 hw => Xwh w1 _ a c L hw.get (by omega)) ?_
  rw [hq]
  (repeat (refine wE ?_; intro _)); refine wA ?_
  rename_i b4
  refine JR.reslot 9 (.agg ⟨[Xah s0, Xah s1, Xah s2, Xah s3]⟩) rfl ?_
  refine wz9 ?_
  refine JC.drawP mixed ?_
  refine Xab 0 ?_
  refine Xab 1 ?_
  refine Xab 2 ?_
  refine JP.reslot 12 (.int .u64 (L.length : Int)) (by rw [Xc2]; congr 2; omega) ?_
  refine Xab 4 ?_
  refine JP.pure 6 rfl (by kernel_rfl) rfl (fun _ => Xfy) rfl rfl ?_
  refine Xal 3 rfl rfl (JR.callBuf rfl (fun w1 hw => Xf4 L.length (by omega) w1 _) fun a5 c5 => Wd (nO ?_))
  refine Xal 5 rfl rfl (Xbg (L' := L) rfl (by exact ⟨rfl, rfl, by decide⟩) (by have := Xa5 L.length; omega) fun a6 c6 => Wd (nO ?_))
  refine Xal 7 rfl rfl (Xes (M := Xjf L) rfl (by rw [hq]; rfl) rfl (Xel L) (by exact ⟨rfl, rfl, by decide⟩) (by have := Xa5 L.length; rw [List.length_append]; omega) fun a7 c7 => Wd (nO ?_))
  refine Xab 8 ?_
  refine Xab 9 ?_
  refine JP.nil (by kernel_rfl) ?_
  refine Wa ?_
  refine JC.more (fun w ho => ho.pub) ?_
  refine wz13 ?_
  exact CT.done (a7, c7) rfl (fun w ho => (ho.ent : Hold _ _ [.st (sl a7 c7 (numL L.length ++ L ++ Xjf L))] w))
def Xe3 (b : List UInt8) (room : Int) (L : List UInt8) : List UInt8 × Int :=
 if 4000 < L.length then ([], 5) else if room < (b.length + (Xbu L).length : Nat) then ([], 4) else (b ++ Xbu L, 0)
theorem Xwi (a a2 : Option Addr) (c c2 : Nat) (b L : List UInt8) (room : Int) (h : (sl a c b).holds F w) (h2 : (sl a2 c2 L).holds F w) (hb : b.length ≤ 1048576) :
  Gives prog 58 [.slice a b.length c, .int .i64 room, .slice a2 L.length c2] w F (fun y : Option Addr × Nat => .tuple ⟨[.slice y.1 (Xe3 b room L).1.length y.2, .int .i64 (Xe3 b room L).2]⟩) (fun y => [.res (buf y.1 y.2 5 (Xe3 b room L).1)]) := by
 refine Xaa func58 rfl ntmps58 rfl rfl [.st (sl a c b), .st (sl a2 c2 L)] (.start2 h h2) ?_
 refine wz10 ?_
 refine Xc4 rfl (fun w1 hw => Xpp w1 _ a2 c2 L hw.get) ?_
 intro a3 c3
 by_cases h4 : 4000 < L.length
 ·have e : Xkr L = ([], 5) := if_pos h4
  have e2 : Xe3 b room L = ([], 5) := if_pos h4
  rw [e, e2]
  refine wA ?_
  exact CT.done (none, 0) rfl (fun w ho => ((ho.ent : Hold _ _ [] w).bufNil : Hold _ _ [.res (buf (α := UInt8) none 0 5 [])] w))
 have e : Xkr L = (Xbu L, 0) := if_neg h4
 rw [e]
 dsimp only
 have hfl := Xb8 L
 have hnl := Xa5 L.length
 refine wA ?_
 refine JC.test (fun h5 => ?_) (fun h5 => ?_)
 ·have e2 : Xe3 b room L = ([], 4) := by unfold Xe3; rw [if_neg h4, if_pos (by omega)]
  rw [e2]
  refine wz9 ?_
  exact CT.done (none, 0) rfl (fun w ho => ((ho.ent : Hold _ _ [] w).bufNil : Hold _ _ [.res (buf (α := UInt8) none 0 5 [])] w))
 ·have e2 : Xe3 b room L = (b ++ Xbu L, 0) := by unfold Xe3; rw [if_neg h4, if_neg (by omega)]
  rw [e2]
  refine wz14 ?_
  refine JR.callBuf rfl (fun w1 hw => Xec w1 _ a c b hw.get (by omega)) ?_
  intro a5 c5
  refine wz6 ?_
  refine Xbg (L' := Xbu L) rfl (by exact ⟨rfl, rfl, by decide⟩) (by omega) ?_
  intro a6 c6
  refine wz10 ?_
  exact CT.dn (a6, c6) rfl
noncomputable def storeT (b : List UInt8) (room : Int) (c : Commit) : List UInt8 × Int := if (Xas c).2 = 0 then Xe3 b room (Xas c).1 else ([], (Xas c).2)
theorem Xwj (a a2 : Option Addr) (k k2 : Nat) (b : List UInt8) (room : Int) (c : Commit) (h : (sl a k b).holds F w) (h2 : (sl a2 k2 c.parents).holds F w) (ht : Xkj c) (hb : b.length ≤ 1048576) :
  Gives prog 15 [.slice a b.length k, .int .i64 room, Xax c a2 k2] w F (fun y : Option Addr × Nat => .tuple ⟨[.slice y.1 (storeT b room c).1.length y.2, .int .i64 (storeT b room c).2]⟩) (fun y => [.res (buf y.1 y.2 5 (storeT b room c).1)]) := by
 refine Xaa func15 rfl ntmps15 rfl rfl [.st (sl a k b), .st (sl a2 k2 c.parents)] (.start2 h h2) ?_
 (repeat (refine wE ?_; intro _)); refine wA ?_
 refine Xc4 rfl (fun w1 hw => Xmi w1 _ c a2 k2 hw.get ht) ?_
 intro a3 c3
 refine wA ?_
 refine JC.test (fun h5 => ?_) (fun h5 => ?_)
 ·have e2 : storeT b room c = ([], (Xas c).2) := if_neg h5
  rw [e2]
  refine wz9 ?_
  exact CT.done (none, 0) rfl (fun w ho => ((ho.ent : Hold _ _ [] w).bufNil : Hold _ _ [.res (buf (α := UInt8) none 0 5 [])] w))
 ·have e2 : storeT b room c = Xe3 b room (Xas c).1 := if_pos (by omega)
  rw [e2]
  refine wz14 ?_
  refine JR.call1 (B := fun y : Option Addr × Nat => .res (buf y.1 y.2 5 (Xe3 b room (Xas c).1).1)) rfl (fun w1 hw => Xwi w1 _ a a3 k c3 b (Xas c).1 room hw.get hw.get hb) ?_
  rintro ⟨a6, c6⟩
  dsimp only
  refine wA ?_
  exact CT.dn (a6, c6) rfl
noncomputable def readStep (b : List UInt8) : Option (List UInt8 × List UInt8) :=
 if (getN b).2 = 0 ∨ 4000 < (getN b).1 ∨ b.length < (getN b).2 + (getN b).1 + 4 then none
 else if Xjf ((b.drop (getN b).2).take (getN b).1) = (b.drop ((getN b).2 + (getN b).1)).take 4 then some ((b.drop (getN b).2).take (getN b).1, b.drop ((getN b).2 + (getN b).1 + 4)) else none
theorem Xdz {b x r : List UInt8} (h : readStep b = some (x, r)) : x.length ≤ 4000 ∧ b = Xbu x ++ r := by
 unfold readStep at h
 split at h
 ·cases h
 ·rename_i h0
  split at h
  ·rename_i hq
   cases h
   obtain ⟨h1, h2, h3, h4⟩ := Xpm (b := b) (by omega)
   have hl : ((b.drop (getN b).2).take (getN b).1).length = (getN b).1 := by rw [List.length_take, List.length_drop]; omega
   refine ⟨by rw [hl]; omega, ?_⟩
   unfold Xbu
   rw [hl, hq]
   have e1 : b.drop ((getN b).2 + (getN b).1 + 4) = (b.drop ((getN b).2 + (getN b).1)).drop 4 := by rw [List.drop_drop]
   have e2 : b.drop ((getN b).2 + (getN b).1) = (b.drop (getN b).2).drop (getN b).1 := by rw [List.drop_drop]
   rw [e1, List.append_assoc _ (List.take 4 _), List.take_append_drop, e2, List.append_assoc, List.take_append_drop]
   exact h3
  ·cases h
theorem Xl0 {x : List UInt8} (h : x.length ≤ 4000) (r : List UInt8) : readStep (Xbu x ++ r) = some (x, r) := by
 have hN : getN (Xbu x ++ r) = (x.length, (numL x.length).length) := by
  unfold Xbu
  rw [List.append_assoc, List.append_assoc]
  exact Xcj (by omega) _
 have hql := Xel x
 have d1 : (Xbu x ++ r).drop (numL x.length).length = x ++ (Xjf x ++ r) := by
  unfold Xbu
  rw [List.append_assoc, List.append_assoc, List.drop_left']
  rfl
 have d2 : (Xbu x ++ r).drop ((numL x.length).length + x.length) = Xjf x ++ r := by
  rw [← List.drop_drop, d1, List.drop_left']
  rfl
 have d3 : (Xbu x ++ r).drop ((numL x.length).length + x.length + 4) = r := by
  rw [← List.drop_drop, d2, List.drop_left' hql]
 have hp := Xdy x.length
 unfold readStep
 rw [hN]
 dsimp only
 rw [if_neg (by rw [List.length_append, Xb8]; omega), d1, d2, d3, List.take_left' rfl, List.take_left' hql, if_pos rfl]
theorem Xed {b x r : List UInt8} (h : readStep b = some (x, r)) : r.length + 5 ≤ b.length := by
 obtain ⟨_, rfl⟩ := Xdz h
 rw [List.length_append, Xb8]
 have := Xdy x.length
 omega
noncomputable def readF : Nat → List UInt8 → List (List UInt8)
 | 0, _ => []
 | f + 1, b => match readStep b with | none => [] | some q => q.1 :: readF f q.2
noncomputable def readL (b : List UInt8) : List (List UInt8) := readF b.length b
theorem Xsr : ∀ (f g : Nat) (b : List UInt8), b.length ≤ f → b.length ≤ g → readF f b = readF g b
 | 0, 0, _, _, _ => rfl
 | 0, g + 1, b, h, _ => by
  have h0 : b = [] := List.eq_nil_of_length_eq_zero (by omega)
  subst h0
  unfold readF
  cases hs : readStep [] with
  | none => rfl
  | some q => have := Xed (x := q.1) (r := q.2) hs; simp at this
 | f + 1, 0, b, _, h => by
  have h0 : b = [] := List.eq_nil_of_length_eq_zero (by omega)
  subst h0
  unfold readF
  cases hs : readStep [] with
  | none => rfl
  | some q => have := Xed (x := q.1) (r := q.2) hs; simp at this
 | f + 1, g + 1, b, hf, hg => by
  unfold readF
  cases hs : readStep b with
  | none => rfl
  | some q =>
   have := Xed (x := q.1) (r := q.2) hs
   dsimp only
   rw [Xsr f g q.2 (by omega) (by omega)]
theorem Xge {b : List UInt8} (h : readStep b = none) : readL b = [] := by
 unfold readL
 cases hl : b.length with
 | zero => rfl
 | succ f => unfold readF; rw [h]
theorem Xml {b x r : List UInt8} (h : readStep b = some (x, r)) : readL b = x :: readL r := by
 have hlt := Xed h
 unfold readL
 cases hl : b.length with
 | zero => omega
 | succ f =>
  rw [readF, h]
  dsimp only
  rw [Xsr f r.length r (by omega) (Nat.le_refl _)]
def Xaf (l : List (List UInt8)) : List UInt8 := (l.map Xbu).flatten
theorem Xdf (l m : List (List UInt8)) : Xaf (l ++ m) = Xaf l ++ Xaf m := by simp [Xaf]
theorem Xks (x : List UInt8) : Xaf [x] = Xbu x := by simp [Xaf]
theorem Xem (x : List UInt8) (l : List (List UInt8)) : Xaf (x :: l) = Xbu x ++ Xaf l := by simp [Xaf]
noncomputable def readEnd (b : List UInt8) : Nat := (Xaf (readL b)).length
end
section
variable {Q : Cont} {e : E} {Γ : List Fact}
def Xpq (l : Nat) (J : E → List Fact → Prop) (Q : Cont) : Cont
 | .goto l', e, Γ => l' = l ∧ J e Γ
 | x, e, Γ => Q x e Γ
theorem CT.jump {l : Nat} {J : E → List Fact → Prop} (h : J e Γ) : Xpq l J Q (.goto l) e Γ := ⟨rfl, h⟩
theorem Xgf {l : Nat} {J : E → List Fact → Prop} (h : Q .ret e Γ) : Xpq l J Q .ret e Γ := h
end
section
variable {P : Program} {n : Nn} {w0 : World} {F : Nat → Prop} {Q : Cont} {e : E} {Γ : List Fact}
theorem JC.scope [Dr] {A : Type} {c rest : Code} (l : Nat) (St : A → E) (Me : A → List Fact) (I : A → Prop) (μ : A → Nat) (x0 : A) (h0 : I x0) (hf : findLabel c l = some (.seq .skip rest))
  (round : ∀ x, I x → JC P n w0 F rest (Xpq l (fun e Γ => ∃ y, I y ∧ μ y < μ x ∧ Ent e Γ (St y) (Me y)) Q) (St x) (Me x))
  (first : (∀ e Γ, Ent e Γ (St x0) (Me x0) → JC P n w0 F rest (Xpq l (fun e Γ => ∃ y, I y ∧ Ent e Γ (St y) (Me y)) Q) e Γ) → JC P n w0 F c (Xpq l (fun e Γ => ∃ y, I y ∧ Ent e Γ (St y) (Me y)) Q) e Γ) : JC P n w0 F (.scope c) Q e Γ := by
 classical
 intro a w fr ho
 let R : Nat → Act → World → Prop := fun m a w => ∃ x, I x ∧ μ x = m ∧ Fr n (St x) a ∧ Hold w0 F (Me x) w
 let μ' : Act → World → Nat := fun a w => if h : ∃ m, R m a w then Classical.choose (Xtc _ h) else 0
 have hμ' : ∀ a w (h : ∃ m, R m a w), R (μ' a w) a w ∧ ∀ k, R k a w → μ' a w ≤ k := by
  intro a w h
  have : μ' a w = Classical.choose (Xtc _ h) := dif_pos h
  rw [this]; exact Classical.choose_spec (Xtc _ h)
 have go : ∀ x, I x → ∀ a w, Fr n (St x) a → Hold w0 F (Me x) w → rest.wp P (Exit.jump l (fun a w => (∃ m, R m a w) ∧ μ' a w < μ x) (up n w0 F Q)) a w := by
  intro x hx a w fr ho
  refine wp_mono (round x hx a w fr ho) ?_
  rintro z a1 w1 ⟨e1, Γ1, hq, fr1, ho1⟩
  cases z with
  | goto l' =>
   obtain ⟨rfl, y, hy, hm, hent⟩ := hq
   have hR : R (μ y) a1 w1 := ⟨y, hy, rfl, hent.slots n a1 fr1, hent.facts w0 F w1 ho1⟩
   refine ⟨rfl, ⟨_, hR⟩, ?_⟩
   have := (hμ' a1 w1 ⟨_, hR⟩).2 _ hR
   omega
  | _ => exact ⟨e1, Γ1, hq, fr1, ho1⟩
 refine wp_scope_jumps l (fun a w => ∃ m, R m a w) μ' hf ?_ ?_
 ·refine wp_mono (first (fun e Γ hent => ?_) a w fr ho) ?_
  ·refine ((round x0 h0).mono ?_).weaken (fun a fr => hent.slots n a fr) (fun w ho => hent.facts w0 F w ho)
   intro z e1 Γ1 hz
   cases z with
   | goto l' => exact ⟨hz.1, let ⟨y, hy, _, h⟩ := hz.2; ⟨y, hy, h⟩⟩
   | _ => exact hz
  ·rintro z a1 w1 ⟨e1, Γ1, hq, fr1, ho1⟩
   cases z with
   | goto l' =>
    obtain ⟨rfl, y, hy, hent⟩ := hq
    exact ⟨rfl, _, y, hy, rfl, hent.slots n a1 fr1, hent.facts w0 F w1 ho1⟩
   | _ => exact ⟨e1, Γ1, hq, fr1, ho1⟩
 ·intro a1 w1 hR
  obtain ⟨⟨x, hx, hxm, fr1, ho1⟩, _⟩ := hμ' a1 w1 hR
  refine wp_seq (wp_skip ?_)
  have := go x hx a1 w1 fr1 ho1
  rw [hxm] at this
  exact this
end
section
attribute [local irreducible] JC JO JR JQ andThen inBlock OpV Gives Xae JM JS
section
attribute [local irreducible] JX
instance {Γ : List Fact} {a : Option Addr} {c : Nat} {L : List UInt8} [h : Mem (sl a c L) Γ] : Typed Γ [.slice a L.length c] L := ⟨(a, c), rfl, fun A hA => by
 simp only [Cell.facts, List.mem_singleton] at hA
 subst hA; exact h.ok⟩
theorem Xyf (a : Option Addr) (c : Nat) (b : List UInt8) (h : (sl a c b).holds F w) (hb : b.length ≤ 1048576) :
  Xfa prog 122 [.slice a b.length c] w F (readL b) [.int .i64 (readEnd b : Int)] := by
 refine Xaa func122 rfl ntmps122 rfl rfl [.st (sl a c b)] (.start1 h) ?_
 refine wz10 ?_
 refine JC.scope (A := List (List UInt8) × List UInt8 × Option Addr × Nat) 0 (fun x => [(0, .slice a b.length c), (4, .slice x.2.2.1 x.1.length x.2.2.2), (5, .int .i64 ((Xaf x.1).length : Int))])
  (fun x => [.st (sl a c b), .res (buf x.2.2.1 x.2.2.2 22 x.1)]) (fun x => b = Xaf x.1 ++ x.2.1 ∧ readL b = x.1 ++ readL x.2.1) (fun x => x.2.1.length) ([], b, none, 0) ⟨rfl, rfl⟩ (by rfl) ?_ ?_
 ·rintro ⟨l, R, p, q⟩ ⟨hb1, hb2⟩
  dsimp only at hb1 hb2 ⊢
  have hbl : b.length = (Xaf l).length + R.length := by rw [hb1, List.length_append]
  have hdrop : b.drop (Xaf l).length = R := by rw [hb1]; exact List.drop_left' rfl
  refine wz14 ?_
  refine Xbs (L := b) (k := (Xaf l).length) rfl rfl (by omega) ?_
  rw [hdrop]
  intro a1 c1
  refine wz10 ?_
  refine JR.callV rfl (fun w1 hw => Xig w1 _ a1 c1 R hw.get) ?_
  have hk10 := Xko R
  have hn64 := Xkp R
  refine wz4 ?_
  refine JO.test 21 (fun h0 => ?_) (fun h0 => ?_)
  ·have hs : readStep R = none := if_pos (.inl (by omega))
   have hL : readL b = l := by rw [hb2, Xge hs, List.append_nil]
   have hE : readEnd b = (Xaf l).length := by unfold readEnd; rw [hL]
   rw [hL, hE]
   refine wz8 ?_
   refine Xgf ?_
   exact CT.done (p, q) rfl (fun w ho => (ho.ent : Hold _ _ [.res (buf p q 22 l)] w).pub)
  refine wz5 ?_
  refine JO.test 25 (fun h1 => ?_) (fun h1 => ?_)
  ·have hs : readStep R = none := if_pos (.inr (.inl (by omega)))
   have hL : readL b = l := by rw [hb2, Xge hs, List.append_nil]
   have hE : readEnd b = (Xaf l).length := by unfold readEnd; rw [hL]
   rw [hL, hE]
   refine wz8 ?_
   refine Xgf ?_
   exact CT.done (p, q) rfl (fun w ho => (ho.ent : Hold _ _ [.res (buf p q 22 l)] w).pub)
  refine wz4 ?_
  refine Wf Xa6 rfl ?_
  refine JO.reslot 30 (.int .i64 ((getN R).1 : Int)) (by rw [Xcg (by omega)]) ?_
  refine wX ?_
  refine JC.test (fun h2 => ?_) (fun h2 => ?_)
  ·have hs : readStep R = none := if_pos (.inr (.inr (by omega)))
   have hL : readL b = l := by rw [hb2, Xge hs, List.append_nil]
   have hE : readEnd b = (Xaf l).length := by unfold readEnd; rw [hL]
   rw [hL, hE]
   refine wz9 ?_
   refine Xgf ?_
   exact CT.done (p, q) rfl (fun w ho => (ho.ent : Hold _ _ [.res (buf p q 22 l)] w).pub)
  refine wz14 ?_
  generalize hk : (getN R).2 = k at *
  generalize hn : (getN R).1 = n at *
  have hkn : k + n + 4 ≤ R.length := by omega
  refine JC.drawP mixed ?_
  refine Xab 0 ?_
  refine Xab 1 ?_
  refine Xab 2 ?_
  refine Xab 3 ?_
  refine Xab 4 ?_
  refine JP.reslot 41 (.int .i64 (n : Int)) (by rw [Xcg (by omega)]) ?_
  refine JP.pure 5 rfl (by kernel_rfl) rfl (fun _ => Vs (k := k) (m := n) (by omega)) rfl rfl ?_
  refine JP.take 6 [.st (sl a1 c1 R)] rfl (by kernel_rfl) rfl (Xnq (l := k) (h := k + n) (s := 1) rfl (fun w1 ho => ⟨by omega, by have := (Hold.get (A := sl a1 c1 R) ho).1; omega⟩)) rfl rfl ?_
  refine Xab 7 ?_
  refine Xab 8 ?_
  refine Xab 9 ?_
  refine Xab 10 ?_
  refine JP.reslot 47 (.int .i64 (n : Int)) (by rw [Xcg (by omega)]) ?_
  refine JP.pure 11 rfl (by kernel_rfl) rfl (fun _ => Vs (k := k) (m := n) (by omega)) rfl rfl ?_
  refine JP.take 12 [.st (sl a1 c1 R)] rfl (by kernel_rfl) rfl (Xet (l := k + n) (s := 1) rfl (fun w1 ho => ⟨by omega, by have := (Hold.get (A := sl a1 c1 R) ho).1; omega⟩)) rfl rfl ?_
  have hxl : ((R.drop k).take n).length = n := by rw [List.length_take, List.length_drop]; omega
  have htl : (R.drop (k + n)).length = R.length - (k + n) := List.length_drop
  refine JP.reslot 43 (.slice (Xex a1 c1 k 1) ((R.drop k).take n).length (c1 - k)) (by rw [hxl]; congr 1; omega) ?_
  refine JP.reslot 49 (.slice (Xex a1 c1 (k + n) 1) (R.drop (k + n)).length (c1 - (k + n))) (by rw [htl]) ?_
  refine Xab 13 ?_
  refine Xab 14 ?_
  refine JP.nil (by kernel_rfl) ?_
  refine Wa ?_
  refine JC.more (Γ' := .st (sl (Xex a1 c1 k 1) (c1 - k) ((R.drop k).take n)) :: .st (sl (Xex a1 c1 (k + n) 1) (c1 - (k + n)) (R.drop (k + n))) :: [.st (sl a c b), .res (buf p q 22 l)]) (fun w1 ho => ?_) ?_
  ·have e2 := ho.add (Xnm (k := k + n) (ho.get (A := sl a1 c1 R)) (by omega))
   exact (e2.add (X1d (l := k) (m := n) (e2.get (A := sl a1 c1 R)) (by omega))).ent
  generalize hx : (R.drop k).take n = x at hxl ⊢
  generalize htd : R.drop (k + n) = T at htl ⊢
  have h4 : 4 ≤ T.length := by omega
  generalize Xex a1 c1 k 1 = ax
  generalize Xex a1 c1 (k + n) 1 = at1
  generalize c1 - k = cx
  generalize c1 - (k + n) = ct
  refine JC.know (fun w1 ho => Xzw (ho.get (A := sl at1 ct T)) (by intro h; rw [h] at h4; simp at h4)) ?_
  rintro ⟨bt, ot, rfl⟩
  obtain ⟨t0, t1, t2, t3, T', hT⟩ : ∃ t0 t1 t2 t3 T', T = t0 :: t1 :: t2 :: t3 :: T' := by
   match T, h4 with
   | t0 :: t1 :: t2 :: t3 :: T', _ => exact ⟨t0, t1, t2, t3, T', rfl⟩
  have hT4 : T.take 4 = [t0, t1, t2, t3] := by rw [hT]; rfl
  refine JC.more (Γ' := .st (ro bt ot [Xah t0, Xah t1, Xah t2, Xah t3]) :: .st (sl (some ⟨bt, ot, none⟩) ct T) :: .st (sl ax cx x) :: [.st (sl a c b), .res (buf p q 22 l)]) (fun w1 ho => ?_) ?_
  ·have e1 := Xfv (k := 4) (c' := ct) (ho.get (A := sl (some ⟨bt, ot, none⟩) ct T)) h4 ⟨by have := (ho.get (A := sl (some ⟨bt, ot, none⟩) ct T)).1; omega, Nat.le_refl _⟩
   have e2 := X10 e1 (by rw [hT4]; simp)
   rw [hT4] at e2
   exact (ho.add (A := ro bt ot [Xah t0, Xah t1, Xah t2, Xah t3]) e2).ent
  refine Wb ?_
  refine Wb ?_
  refine JC.drawP mixed ?_
  refine Xab 0 ?_
  refine JP.takeCall 1 [.st (sl ax cx x)] rfl (by kernel_rfl) rfl (fun w1 hw => Xwh w1 _ ax cx x hw.get (by omega)) rfl rfl ?_
  refine Xab 2 ?_
  refine JP.take 3 [.st (sl (some ⟨bt, ot, none⟩) ct T)] rfl (by kernel_rfl) rfl (Xbm (k := 4) (fun w1 ho => by have := (Hold.get (A := sl (some ⟨bt, ot, none⟩) ct T) ho).1; omega)) rfl rfl ?_
  refine JP.pure 4 rfl (by kernel_rfl) rfl (fun _ => Xhg (by decide)) rfl rfl ?_
  refine JP.tv 5 [.st (ro bt ot [Xah t0, Xah t1, Xah t2, Xah t3])] ?_
  refine JP.pure 6 rfl (by kernel_rfl) rfl (fun _ => Xto (Xjf x) [t0, t1, t2, t3] (Xel x) rfl rfl rfl) rfl rfl ?_
  refine JP.nil (by kernel_rfl) ?_
  refine wz13 ?_
  refine JC.test (fun h5 => ?_) (fun h5 => ?_)
  ·have hs : readStep R = none := by
    unfold readStep
    rw [hk, hn, hx, htd, if_neg (by omega), if_neg (by rw [hT4]; simpa using h5)]
   have hL : readL b = l := by rw [hb2, Xge hs, List.append_nil]
   have hE : readEnd b = (Xaf l).length := by unfold readEnd; rw [hL]
   rw [hL, hE]
   refine wz9 ?_
   refine Xgf ?_
   exact CT.done (p, q) rfl (fun w ho => (ho.ent : Hold _ _ [.res (buf p q 22 l)] w).pub)
  ·have hs : readStep R = some (x, R.drop (k + n + 4)) := by
    unfold readStep
    rw [hk, hn, hx, htd, if_neg (by omega), if_pos (by rw [hT4]; simpa using h5)]
   have hlt := Xed hs
   have hL2 : readL b = (l ++ [x]) ++ readL (R.drop (k + n + 4)) := by rw [hb2, Xml hs]; simp
   have hR2 : b = Xaf (l ++ [x]) ++ R.drop (k + n + 4) := by rw [hb1, Xdf, Xks, List.append_assoc, ← (Xdz hs).2]
   have hfl : (Xaf (l ++ [x])).length = (Xaf l).length + (k + n + 4) := by
    have := congrArg List.length hR2
    rw [List.length_append, List.length_drop] at this
    omega
   have hll : l.length ≤ b.length := by
    have : ∀ l : List (List UInt8), l.length ≤ (Xaf l).length := by
     intro l
     induction l with
     | nil => simp
     | cons y l ih => rw [Xem, List.length_append, Xb8, List.length_cons]; omega
    have := this l
    omega
   refine wz14 ?_
   refine JR.callBuf rfl (fun w1 hw => Xec w1 _ ax cx x hw.get (by omega)) ?_
   intro a5 c5
   refine JO.more (fun w ho => ho.pub) ?_
   (repeat (refine wF ?_; intro _)); refine wX ?_
   rename_i bl
   refine Xa1 (L := l) (u := x) rfl (by exact ⟨rfl, rfl, by decide⟩) (by omega) ?_
   intro a6 c6
   refine wz10 ?_
   refine Wf Xa6 rfl ?_
   refine JO.reslot 67 (.int .i64 (n : Int)) (by rw [Xcg (by omega)]) ?_
   refine wX ?_
   refine JC.goto ?_
   refine CT.jump ⟨(l ++ [x], R.drop (k + n + 4), a6, c6), ⟨hR2, hL2⟩, by show (R.drop (k + n + 4)).length < _; omega, ?_⟩
   show Ent _ _ [(0, .slice a b.length c), (4, .slice a6 (l ++ [x]).length c6), (5, .int .i64 ((Xaf (l ++ [x])).length : Int))] [.st (sl a c b), .res (buf a6 c6 22 (l ++ [x]))]
   rw [hfl]
   exact iI
 ·intro hrest
  refine JC.more (Γ' := .res (buf (α := List UInt8) none 0 22 []) :: [.st (sl a c b)]) (fun w ho => ho.bufNil) ?_
  refine wz10 ?_
  refine JC.label ?_
  refine Wa ?_
  exact hrest _ _ (show Ent _ _ [(0, .slice a b.length c), (4, .slice none 0 0), (5, .int .i64 0)] [.st (sl a c b), .res (buf (α := List UInt8) none 0 22 [])] from iI)
end
theorem Xrh (f1 f2 f3 : FuncId) (w : World) : (Instr.field 197 (.agg ⟨[fnV f1, fnV f2, fnV f3]⟩) 2).run prog w = .ok (fnV f3) w := by
 have h1 := Xat (P := prog) (t := 197) w
 unfold Instr.field
 rw [Sem.run_bind, h1]
 simp [asAgg, part, isAgg, Sem.run_bind]
section
variable {w0 w : World} {F : Nat → Prop} {Γ : List Fact} {bo : Nat} {a : Option Addr} {c : Nat} {b : List UInt8} {o : Op_}
theorem X1m (ho : Hold w0 F (.own bo 27 [.int .i64 o.kind, .string o.key, .string o.elem, .int .i64 o.n] :: .st (sl a c b) :: Γ) w) :
  Calls prog 219 ⟨[.pointer (some ⟨bo, 0, none⟩), .slice a b.length c]⟩ w fun x w' => ∃ y : Option Addr × Nat, x = .returned (.tuple ⟨[.slice y.1 (b.drop (getN b).2).length y.2, .bool (decide (0 < (getN b).2))]⟩) ∧ Hold w0 F (.own bo 27 [.int .i64 o.kind, .string o.key, .string o.elem, .int .i64 (Xc9 (getN b).1)] :: .st (sl y.1 y.2 (b.drop (getN b).2)) :: Γ) w' := by
 have hkl := (Xko b).1
 have hn64 := Xkp b
 refine Xbq (v := fun y : Option Addr × Nat => .tuple ⟨[.slice y.1 (b.drop (getN b).2).length y.2, .bool (decide (0 < (getN b).2))]⟩) (B := fun y => .own bo 27 [.int .i64 o.kind, .string o.key, .string o.elem, .int .i64 (Xc9 (getN b).1)] :: .st (sl y.1 y.2 (b.drop (getN b).2)) :: Γ) func219 rfl ntmps219 rfl rfl _ ho ?_
 refine wz10 ?_
 refine JR.callV rfl (fun w1 hw => Xig w1 _ a c b hw.get) ?_
 refine wz4 ?_
 refine JR.callV rfl (fun w1 hw => Xmk w1 _ (getN b).1 hn64) ?_
 refine wz13 ?_
 refine Wf OpV.nilCheck rfl ?_
 refine wz9 ?_
 refine Xbs (L := b) (k := (getN b).2) rfl rfl hkl ?_
 intro a2 c2
 refine wz5 ?_
 refine CT.dn (a2, c2) ?_
 simp [Xac]
theorem X1n (hl : b.length ≤ 34359738368) (ho : Hold w0 F (.own bo 27 [.int .i64 o.kind, .string o.key, .string o.elem, .int .i64 o.n] :: .st (sl a c b) :: Γ) w) :
  Calls prog 223 ⟨[.pointer (some ⟨bo, 0, none⟩), .slice a b.length c]⟩ w fun x w' => ∃ y : Option Addr × Nat, x = .returned (.tuple ⟨[.slice y.1 (cutT b 8).2.1.length y.2, .bool (cutT b 8).2.2]⟩) ∧ Hold w0 F (.own bo 27 [.int .i64 o.kind, .string o.key, .string (cutT b 8).1, .int .i64 o.n] :: .st (sl y.1 y.2 (cutT b 8).2.1) :: Γ) w' := by
 refine Xbq (v := fun y : Option Addr × Nat => .tuple ⟨[.slice y.1 (cutT b 8).2.1.length y.2, .bool (cutT b 8).2.2]⟩) (B := fun y => .own bo 27 [.int .i64 o.kind, .string o.key, .string (cutT b 8).1, .int .i64 o.n] :: .st (sl y.1 y.2 (cutT b 8).2.1) :: Γ) func223 rfl ntmps223 rfl rfl _ ho ?_
 refine wz10 ?_
 refine JR.call1 (B := fun y : Option Addr × Nat => .st (sl y.1 y.2 (cutT b 8).2.1)) rfl (fun w1 hw => Xwg w1 _ a c b 8 hw.get hl (by decide)) ?_
 rintro ⟨a2, c2⟩
 dsimp only
 refine wz4 ?_
 refine Wf OpV.nilCheck rfl ?_
 refine wz9 ?_
 exact CT.dn (a2, c2) rfl
end
noncomputable def restOp (k : Nat) (key : ByteArray) (b : List UInt8) : Op_ × List UInt8 × Bool :=
 if k = 0 then (⟨0, key, .empty, Xc9 (getN b).1⟩, b.drop (getN b).2, decide (0 < (getN b).2)) else (⟨(k : Int), key, (cutT b 8).1, 0⟩, (cutT b 8).2.1, (cutT b 8).2.2)
noncomputable def getOp (b : List UInt8) : Op_ × List UInt8 × Int :=
 if (getN b).2 = 0 ∨ 4 ≤ (getN b).1 then (op0, [], 2) else
 if (cutT (b.drop (getN b).2) 8).2.2 = false then (op0, [], 2) else
 if (restOp (getN b).1 (cutT (b.drop (getN b).2) 8).1 (cutT (b.drop (getN b).2) 8).2.1).2.2 = true ∧ Xfi (restOp (getN b).1 (cutT (b.drop (getN b).2) 8).1 (cutT (b.drop (getN b).2) 8).2.1).1 = true then
  ((restOp (getN b).1 (cutT (b.drop (getN b).2) 8).1 (cutT (b.drop (getN b).2) 8).2.1).1, (restOp (getN b).1 (cutT (b.drop (getN b).2) 8).1 (cutT (b.drop (getN b).2) 8).2.1).2.1, 0) else (op0, [], 2)
theorem Xn3 (b : List UInt8) (m : Nat) : (cutT b m).2.1.length ≤ b.length := by
 unfold cutT
 split
 ·simp
 ·simp only [List.length_drop]; omega
theorem Xmm (k : Nat) (key : ByteArray) (b : List UInt8) : (restOp k key b).2.1.length ≤ b.length := by
 unfold restOp
 split
 ·simp only [List.length_drop]; omega
 ·exact Xn3 b 8
theorem Xi5 (k : Nat) (key : ByteArray) (b : List UInt8) (h : key.size ≤ 8) : (restOp k key b).1.key.size < 4611686018427387904 ∧ (restOp k key b).1.elem.size < 4611686018427387904 := by
 have := Xkq b 8
 unfold restOp
 split
 ·exact ⟨by show key.size < _; omega, (by decide : ByteArray.empty.size < 4611686018427387904)⟩
 ·exact ⟨by show key.size < _; omega, by show (cutT b 8).1.size < _; omega⟩
theorem Xwk (k : Nat) (h : k < 4) : ∃ (f1 f2 f3 : FuncId) (_ : Body prog f3), (Xbj kindsM (k : Int)).getD Xq7 = .agg ⟨[fnV f1, fnV f2, fnV f3]⟩ ∧
  ∀ (key : ByteArray) (b : List UInt8), b.length ≤ 34359738368 → ∀ (w0 w : World) (F : Nat → Prop) (Γ : List Fact) (bo : Nat) (a : Option Addr) (c : Nat),
   Hold w0 F (.own bo 27 [.int .i64 (k : Int), .string key, .string .empty, .int .i64 0] :: .st (sl a c b) :: Γ) w →
   Calls prog f3 ⟨[.pointer (some ⟨bo, 0, none⟩), .slice a b.length c]⟩ w fun x w' => ∃ y : Option Addr × Nat, x = .returned (.tuple ⟨[.slice y.1 (restOp k key b).2.1.length y.2, .bool (restOp k key b).2.2]⟩) ∧
    Hold w0 F (.own bo 27 [.int .i64 (restOp k key b).1.kind, .string (restOp k key b).1.key, .string (restOp k key b).1.elem, .int .i64 (restOp k key b).1.n] :: .st (sl y.1 y.2 (restOp k key b).2.1) :: Γ) w' := by
 by_cases h0 : k = 0
 ·subst h0
  refine ⟨_, _, 219, iI, rfl, fun key b hl w0 w F Γ bo a c ho => ?_⟩
  have := X1m (o := ⟨0, key, .empty, 0⟩) ho
  simp only [restOp, if_true]
  exact this
 ·refine ⟨221, 222, 223, iI, ?_, fun key b hl w0 w F Γ bo a c ho => ?_⟩
  ·obtain h1 | h1 | h1 : k = 1 ∨ k = 2 ∨ k = 3 := by omega
   ·subst h1; rfl
   ·subst h1; rfl
   ·subst h1; rfl
  ·have := X1n (o := ⟨(k : Int), key, .empty, 0⟩) hl ho
   simp only [restOp, if_neg h0]
   exact this
theorem X0b (a : Option Addr) (c : Nat) (b : List UInt8) (h : (sl a c b).holds F w) (hl : b.length ≤ 34359738368) :
  Gives prog 229 [.slice a b.length c] w F (fun y : Option Addr × Nat => .tuple ⟨[opV (getOp b).1, .slice y.1 (getOp b).2.1.length y.2, .int .i64 (getOp b).2.2]⟩) (fun y => [.st (sl y.1 y.2 (getOp b).2.1)]) := by
 have hkl := (Xko b).1
 have hn64 := Xkp b
 refine Xaa func229 rfl ntmps229 rfl rfl [.st (sl a c b)] (.start1 h) ?_
 (repeat (refine wE ?_; intro _)); refine wA ?_
 rename_i b2
 refine JR.callV rfl (fun w1 hw => Xig w1 _ a c b hw.get) ?_
 refine wz4 ?_
 refine JO.test 18 (fun h0 => ?_) (fun h0 => ?_)
 ·have e : getOp b = (op0, [], 2) := by unfold getOp; rw [if_pos (.inl (by omega))]
  rw [e]
  refine wz8 ?_
  refine Wf (OpV.build [.int .i64 0, .string .empty, .string .empty, .int .i64 0] (by kernel_rfl)) rfl ?_
  refine wz9 ?_
  exact CT.done (none, 0) rfl (fun w ho => (ho.ent : Hold _ _ [] w).add Xak)
 refine wX ?_
 refine JC.test (fun h1 => ?_) (fun h1 => ?_)
 ·have e : getOp b = (op0, [], 2) := by unfold getOp; rw [if_pos (.inr (by omega))]
  rw [e]
  refine wz14 ?_
  refine Wf (OpV.build [.int .i64 0, .string .empty, .string .empty, .int .i64 0] (by kernel_rfl)) rfl ?_
  refine wz9 ?_
  exact CT.done (none, 0) rfl (fun w ho => (ho.ent : Hold _ _ [] w).add Xak)
 obtain ⟨k, hk⟩ : ∃ k, k = (getN b).1 := ⟨_, rfl⟩
 have hk4 : k < 4 := by omega
 obtain ⟨B, hB⟩ : ∃ B, B = b.drop (getN b).2 := ⟨_, rfl⟩
 have hBl : B.length ≤ b.length := by rw [hB, List.length_drop]; omega
 have hg : getOp b = if (cutT B 8).2.2 = false then (op0, [], 2) else if (restOp k (cutT B 8).1 (cutT B 8).2.1).2.2 = true ∧ Xfi (restOp k (cutT B 8).1 (cutT B 8).2.1).1 = true then ((restOp k (cutT B 8).1 (cutT B 8).2.1).1, (restOp k (cutT B 8).1 (cutT B 8).2.1).2.1, 0) else (op0, [], 2) := by
  rw [hk, hB]; unfold getOp; rw [if_neg (by omega)]
 obtain ⟨f1, f2, f3, hbody, hlook, hget⟩ := Xwk k hk4
 rw [← hk]
 refine wz14 ?_
 refine Wf Xa6 rfl ?_
 refine JO.reslot 24 (.int .i64 (k : Int)) (by rw [Xcg (by omega)]) ?_
 refine wz13 ?_
 refine Wf (OpV.build [.int .i64 (k : Int), .string .empty, .string .empty, .int .i64 0] (by kernel_rfl)) rfl ?_
 (repeat (refine wF ?_; intro _)); refine wX ?_
 rename_i b7
 refine Xbs (L := b) (k := (getN b).2) rfl rfl hkl ?_
 rw [← hB]
 intro a1 c1
 refine wz13 ?_
 refine JR.call1 (B := fun y : Option Addr × Nat => .st (sl y.1 y.2 (cutT B 8).2.1)) rfl (fun w1 hw => Xwg w1 _ a1 c1 B 8 hw.get (by omega) (by decide)) ?_
 rintro ⟨a3, c3⟩
 dsimp only
 obtain ⟨key, T, is, hcut⟩ : ∃ key T is, cutT B 8 = (key, T, is) := ⟨_, _, _, rfl⟩
 have hks : key.size ≤ 8 := by have := Xkq B 8; rw [hcut] at this; exact this
 have hTl : T.length ≤ B.length := by have := Xn3 B 8; rw [hcut] at this; exact this
 rw [hcut] at hg ⊢
 dsimp only at hg ⊢
 refine wX ?_
 cases is with
 | false =>
  rw [if_pos rfl] at hg
  rw [hg]
  refine wX ?_
  skip
  refine Wf (OpV.build [.int .i64 0, .string .empty, .string .empty, .int .i64 0] (by kernel_rfl)) rfl ?_
  refine wz9 ?_
  exact CT.done (none, 0) rfl (fun w ho => (ho.ent : Hold _ _ [] w).add Xak)
 | true =>
  rw [if_neg (by simp)] at hg
  have hrt := Xi5 k key T hks
  have hrl := Xmm k key T
  have hget' := fun w0 w F Γ bo a c => hget key T (by omega) w0 w F Γ bo a c
  obtain ⟨o, R, ok, hro⟩ : ∃ o R ok, restOp k key T = (o, R, ok) := ⟨_, _, _, rfl⟩
  rw [hro] at hg hrt hrl hget'
  dsimp only at hg hrt hrl hget'
  refine wz8 ?_
  refine JC.drawP mixed ?_
  refine Xab 1 ?_
  refine JP.tv 2 [.own b7 27 [.int .i64 (k : Int), .string key, .string .empty, .int .i64 0]] ?_
  refine Xab 5 ?_
  refine Xal 0 rfl rfl (JR.call1 rfl (fun w1 hw => Xhm w1 _) fun mk => Wd (nO ?_))
  refine JP.take 3 [.omap mk (ents intV kindsM) kindsM.length] rfl (by kernel_rfl) rfl (Xbt (k : Int) Xf2 hlook) rfl rfl ?_
  refine JP.pure 4 rfl (by kernel_rfl) rfl (fun _ => Xmd (Xrh f1 f2 f3)) rfl rfl ?_
  refine JP.more (Γ' := .own b7 27 [.int .i64 (k : Int), .string key, .string .empty, .int .i64 0] :: .st (sl a3 c3 T) :: [.omap mk (ents intV kindsM) kindsM.length, .own b2 27 [.int .i64 0, .string .empty, .string .empty, .int .i64 0]]) (fun w1 ho => ho.ent) ?_
  refine Xal 6 rfl rfl (Xbi (v := fun y : Option Addr × Nat => .tuple ⟨[.slice y.1 R.length y.2, .bool ok]⟩) (B := fun y => .own b7 27 [.int .i64 o.kind, .string o.key, .string o.elem, .int .i64 o.n] :: .st (sl y.1 y.2 R) :: [.omap mk (ents intV kindsM) kindsM.length, .own b2 27 [.int .i64 0, .string .empty, .string .empty, .int .i64 0]]) rfl (fun w1 hw => hget' _ _ _ _ _ _ _ hw) fun y => Wd (nO ?_))
  refine Xab 7 ?_
  refine Xab 8 ?_
  refine Xab 9 ?_
  refine Xab 10 ?_
  refine Xab 11 ?_
  refine JP.nil (by kernel_rfl) ?_
  cases ok with
  | false =>
   rw [if_neg (by simp)] at hg
   rw [hg]
   refine wz8 ?_
   skip
   refine Wf (OpV.build [.int .i64 0, .string .empty, .string .empty, .int .i64 0] (by kernel_rfl)) rfl ?_
   refine wz9 ?_
   exact CT.done (none, 0) rfl (fun w ho => (ho.ent : Hold _ _ [] w).add Xak)
  | true =>
   refine wz1 ?_
   refine JR.callV rfl (fun w1 hw => Xq9 w1 _ o hrt.1 hrt.2) ?_
   cases hm : Xfi o with
   | false =>
    rw [if_neg (by simp [hm])] at hg
    rw [hg]
    refine wz8 ?_
    skip
    refine Wf (OpV.build [.int .i64 0, .string .empty, .string .empty, .int .i64 0] (by kernel_rfl)) rfl ?_
    refine wz9 ?_
    exact CT.done (none, 0) rfl (fun w ho => (ho.ent : Hold _ _ [] w).add Xak)
   | true =>
    rw [if_pos ⟨rfl, hm⟩] at hg
    rw [hg]
    refine wz7 ?_
    refine JC.drawP mixed ?_
    refine JP.tv 0 [.own b7 27 [.int .i64 o.kind, .string o.key, .string o.elem, .int .i64 o.n]] ?_
    refine Xab 1 ?_
    refine Xal 2 rfl rfl (JR.callBuf rfl (fun w1 hw => Xec w1 _ y.1 y.2 R hw.get (by omega)) fun a5 c5 => Wd (nO ?_))
    refine JP.more (fun w1 ho => ho.pub) ?_
    refine Xal 3 rfl rfl (Wi (Wd (nO ?_)))
    refine Xab 4 ?_
    refine Xab 5 ?_
    refine JP.nil (by kernel_rfl) ?_
    refine wz13 ?_
    exact CT.dn (a5, c5) rfl
end
section
attribute [local irreducible] JC JO JR JQ andThen inBlock OpV Gives Xae JM JS
noncomputable section
def numO (b : List UInt8) : Option (Nat × List UInt8) := if (getN b).2 = 0 then none else some ((getN b).1, b.drop (getN b).2)
def Xjg (m : Nat) (b : List UInt8) : Option (Nat × List UInt8) := if (getN b).2 = 0 ∨ m < (getN b).1 then none else some ((getN b).1, b.drop (getN b).2)
def Xee : Nat → List UInt8 → Option (List ID × List UInt8)
 | 0, b => some ([], b)
 | n + 1, b => if h : 32 ≤ b.length then (Xee n (b.drop 32)).map (fun q => (Xhp b h :: q.1, q.2)) else none
def finC (c : Commit) (b : List UInt8) : Option (Commit × List UInt8) := if may c = true then some (c, b) else none
def opC (n0 : Int) (n1 n2 : Nat) (ps : List ID) (b : List UInt8) : Option (Commit × List UInt8) :=
 if n0 = -1 then finC ⟨⟨n0, n1⟩, n2, ps, op0⟩ b else if (getOp b).2.2 = 0 then finC ⟨⟨n0, n1⟩, n2, ps, (getOp b).1⟩ (getOp b).2.1 else none
def getC (b : List UInt8) : Option (Commit × List UInt8) :=
 (numO b).bind fun q0 => (Xjg 1048576 q0.2).bind fun q1 => (Xjg 1048576 q1.2).bind fun q2 => (Xjg 8 q2.2).bind fun q3 => (Xee q3.1 q3.2).bind fun q4 =>
  opC (Xc9 q0.1) q1.1 q2.1 q4.1 q4.2
end
theorem Xkt (b : List UInt8) : (getOp b).1.key.size < 4611686018427387904 ∧ (getOp b).1.elem.size < 4611686018427387904 := by
 have h0 : op0.key.size < 4611686018427387904 ∧ op0.elem.size < 4611686018427387904 := by constructor <;> decide
 unfold getOp
 split
 ·exact h0
 ·split
  ·exact h0
  ·split
   ·exact Xi5 _ _ _ (Xkq _ 8)
   ·exact h0
theorem Xpr (b : List UInt8) : (getOp b).2.1.length ≤ b.length := by
 unfold getOp
 split
 ·simp
 ·split
  ·simp
  ·split
   ·refine Nat.le_trans (Xmm _ _ _) (Nat.le_trans (Xn3 _ 8) ?_)
    simp only [List.length_drop]; omega
   ·simp
structure ReadY (L : List UInt8) where
 c : Commit
 r : List UInt8
 ok : getC L = some (c, r)
 pa : Option Addr
 pc : Nat
 ra : Option Addr
 rc : Nat
section
variable {w0 w : World} {F : Nat → Prop} {Γ : List Fact} {br : Nat} {a : Option Addr} {c : Nat} {L : List UInt8}
theorem Xwl {b : List UInt8} (h : (getN b).2 = 0) : numO b = none := if_pos h
theorem Xwm {b : List UInt8} (h : (getN b).2 ≠ 0) : numO b = some ((getN b).1, b.drop (getN b).2) := if_neg h
theorem Xih {m : Nat} {b : List UInt8} (h : (getN b).2 = 0 ∨ m < (getN b).1) : Xjg m b = none := if_pos h
theorem Xii {m : Nat} {b : List UInt8} (h : ¬ ((getN b).2 = 0 ∨ m < (getN b).1)) : Xjg m b = some ((getN b).1, b.drop (getN b).2) := if_neg h
theorem Xwn (hl : L.length ≤ 34359738368) (ho : Hold w0 F (.own br 207 [.slice a L.length c] :: .st (sl a c L) :: Γ) w) :
  Ends prog 183 [.pointer (some ⟨br, 0, none⟩)] w w0 F (fun y : ReadY L => Xax y.c y.pa y.pc)
   (fun y => .own br 207 [.slice y.ra y.r.length y.rc] :: .st (sl y.ra y.rc y.r) :: .st (sl y.pa y.pc y.c.parents) :: Γ) (getC L = none) Xmj Γ := by
 refine Xzv func183 rfl ntmps183 rfl rfl _ ho ?_
 (repeat (refine wE ?_; intro _)); refine wA ?_
 rename_i bp
 obtain ⟨T, hT⟩ : ∃ T : List Value, T = [.int .i64 0, .int .i64 0, .int .i64 0, .slice none 0 0, .int .i64 0, .string .empty, .string .empty, .int .i64 0] := ⟨_, rfl⟩
 have hg : getC L = (numO L).bind fun q0 => (Xjg 1048576 q0.2).bind fun q1 => (Xjg 1048576 q1.2).bind fun q2 => (Xjg 8 q2.2).bind fun q3 => (Xee q3.1 q3.2).bind fun q4 => opC (Xc9 q0.1) q1.1 q2.1 q4.1 q4.2 := rfl
 by_cases h0 : (getN L).2 = 0
 ·rw [Xwl h0, Option.bind_none] at hg
  refine JR.more (Γ' := .own br 207 [.slice a L.length c] :: .st (sl a c L) :: Γ) (fun w ho => ho.ent) ?_
  refine Xcd (fun w1 hw => Xwf h0 hw) ?_
  refine z2z ?_
  exact .inr ⟨hg, CT.gone (fun w ho => ho)⟩
 rw [Xwm h0, Option.bind_some] at hg
 dsimp only at hg
 have hn0 := Xkp L
 refine JR.more (Γ' := .own br 207 [.slice a L.length c] :: .st (sl a c L) :: .own bp 29 [.int .i64 0, .int .i64 0, .int .i64 0, .slice none 0 0, .int .i64 0, .string .empty, .string .empty, .int .i64 0] :: Γ) (fun w ho => ho.ent) ?_
 refine Xbi (v := fun y : Option Addr × Nat => .int .u64 ((getN L).1 : Int)) (B := fun y => .own br 207 [.slice y.1 (L.drop (getN L).2).length y.2] :: .st (sl y.1 y.2 (L.drop (getN L).2)) :: .own bp 29 [.int .i64 0, .int .i64 0, .int .i64 0, .slice none 0 0, .int .i64 0, .string .empty, .string .empty, .int .i64 0] :: Γ) rfl (fun w1 hw => Xwe h0 hw) ?_
 rintro ⟨a1, c1⟩
 dsimp only
 have hB : (L.drop (getN L).2).length ≤ 34359738368 := by rw [List.length_drop]; omega
 generalize L.drop (getN L).2 = B at hB hg ⊢
 generalize (getN L).1 = m0 at hn0 hg ⊢
 refine wz13 ?_
 refine JR.callV rfl (fun w1 hw => Xmk w1 _ m0 hn0) ?_
 generalize Xc9 m0 = n0 at hg ⊢
 refine wz6 ?_
 refine JR.reslot 10 (.pointer (some ⟨bp, 0, none⟩)) rfl ?_
 refine Wi ?_
 refine wz10 ?_
 by_cases h1 : (getN B).2 = 0 ∨ 1048576 < (getN B).1
 ·rw [Xih h1, Option.bind_none] at hg
  refine JR.more (Γ' := .own br 207 [.slice a1 B.length c1] :: .st (sl a1 c1 B) :: Γ) (fun w ho => ho.ent) ?_
  refine Xcd (fun w1 hw => Xn2 1048576 (by decide) h1 hw) ?_
  refine z2z ?_
  exact .inr ⟨hg, CT.gone (fun w ho => ho)⟩
 rw [Xii h1, Option.bind_some] at hg
 dsimp only at hg
 have hn1 : (getN B).1 ≤ 1048576 := by omega
 refine JR.more (Γ' := .own br 207 [.slice a1 B.length c1] :: .st (sl a1 c1 B) :: .own bp 29 [.int .i64 n0, .int .i64 0, .int .i64 0, .slice none 0 0, .int .i64 0, .string .empty, .string .empty, .int .i64 0] :: Γ) (fun w ho => ho.ent) ?_
 refine Xbi (v := fun y : Option Addr × Nat => .int .i64 ((getN B).1 : Int)) (B := fun y => .own br 207 [.slice y.1 (B.drop (getN B).2).length y.2] :: .st (sl y.1 y.2 (B.drop (getN B).2)) :: .own bp 29 [.int .i64 n0, .int .i64 0, .int .i64 0, .slice none 0 0, .int .i64 0, .string .empty, .string .empty, .int .i64 0] :: Γ) rfl (fun w1 hw => Xrf 1048576 (by decide) (fun h => h1 (.inl h)) (by omega) hw) ?_
 rintro ⟨a2, c2⟩
 dsimp only
 replace hB : (B.drop (getN B).2).length ≤ 34359738368 := by rw [List.length_drop]; omega
 generalize B.drop (getN B).2 = B at hB hg ⊢
 generalize (getN _).1 = n1 at hn1 hg ⊢
 refine wz6 ?_
 by_cases h2 : (getN B).2 = 0 ∨ 1048576 < (getN B).1
 ·rw [Xih h2, Option.bind_none] at hg
  refine JR.more (Γ' := .own br 207 [.slice a2 B.length c2] :: .st (sl a2 c2 B) :: Γ) (fun w ho => ho.ent) ?_
  refine Xcd (fun w1 hw => Xn2 1048576 (by decide) h2 hw) ?_
  refine z2z ?_
  exact .inr ⟨hg, CT.gone (fun w ho => ho)⟩
 rw [Xii h2, Option.bind_some] at hg
 dsimp only at hg
 have hn2 : (getN B).1 ≤ 1048576 := by omega
 refine JR.more (Γ' := .own br 207 [.slice a2 B.length c2] :: .st (sl a2 c2 B) :: .own bp 29 [.int .i64 n0, .int .i64 0, .int .i64 0, .slice none 0 0, .int .i64 0, .string .empty, .string .empty, .int .i64 0] :: Γ) (fun w ho => ho.ent) ?_
 refine Xbi (v := fun y : Option Addr × Nat => .int .i64 ((getN B).1 : Int)) (B := fun y => .own br 207 [.slice y.1 (B.drop (getN B).2).length y.2] :: .st (sl y.1 y.2 (B.drop (getN B).2)) :: .own bp 29 [.int .i64 n0, .int .i64 0, .int .i64 0, .slice none 0 0, .int .i64 0, .string .empty, .string .empty, .int .i64 0] :: Γ) rfl (fun w1 hw => Xrf 1048576 (by decide) (fun h => h2 (.inl h)) (by omega) hw) ?_
 rintro ⟨a3, c3⟩
 dsimp only
 replace hB : (B.drop (getN B).2).length ≤ 34359738368 := by rw [List.length_drop]; omega
 generalize B.drop (getN B).2 = B at hB hg ⊢
 generalize (getN _).1 = n2 at hn2 hg ⊢
 refine wz9 ?_
 by_cases h3 : (getN B).2 = 0 ∨ 8 < (getN B).1
 ·rw [Xih h3, Option.bind_none] at hg
  refine JR.more (Γ' := .own br 207 [.slice a3 B.length c3] :: .st (sl a3 c3 B) :: Γ) (fun w ho => ho.ent) ?_
  refine Xcd (fun w1 hw => Xn2 8 (by decide) h3 hw) ?_
  refine z2z ?_
  exact .inr ⟨hg, CT.gone (fun w ho => ho)⟩
 rw [Xii h3, Option.bind_some] at hg
 dsimp only at hg
 have hn3 : (getN B).1 ≤ 8 := by omega
 refine JR.more (Γ' := .own br 207 [.slice a3 B.length c3] :: .st (sl a3 c3 B) :: .own bp 29 [.int .i64 n0, .int .i64 (n1 : Int), .int .i64 (n2 : Int), .slice none 0 0, .int .i64 0, .string .empty, .string .empty, .int .i64 0] :: Γ) (fun w ho => ho.ent) ?_
 refine Xbi (v := fun y : Option Addr × Nat => .int .i64 ((getN B).1 : Int)) (B := fun y => .own br 207 [.slice y.1 (B.drop (getN B).2).length y.2] :: .st (sl y.1 y.2 (B.drop (getN B).2)) :: .own bp 29 [.int .i64 n0, .int .i64 (n1 : Int), .int .i64 (n2 : Int), .slice none 0 0, .int .i64 0, .string .empty, .string .empty, .int .i64 0] :: Γ) rfl (fun w1 hw => Xrf 8 (by decide) (fun h => h3 (.inl h)) (by omega) hw) ?_
 rintro ⟨a4, c4⟩
 dsimp only
 replace hB : (B.drop (getN B).2).length ≤ 34359738368 := by rw [List.length_drop]; omega
 generalize B.drop (getN B).2 = B at hB hg ⊢
 generalize (getN _).1 = n3 at hn3 hg ⊢
 refine wz4 ?_
 generalize a4 = r1
 refine JC.more (Γ' := .res (buf (α := ID) none 0 81 []) :: .own br 207 [.slice r1 B.length c4] :: .st (sl r1 c4 B) :: .own bp 29 [.int .i64 n0, .int .i64 (n1 : Int), .int .i64 (n2 : Int), .slice none 0 0, .int .i64 0, .string .empty, .string .empty, .int .i64 0] :: Γ) (fun w ho => ho.bufNil) ?_
 refine Xnd (fun (i : Nat) (ps : List ID) (p : Option Addr × Nat) (B : List UInt8) (r : Option Addr × Nat) => [(0, .pointer (some ⟨br, 0, none⟩)), (2, .pointer (some ⟨bp, 0, none⟩)), (19, .int .i64 (n3 : Int)), (20, .int .i64 (i : Int))])
  (fun i ps p B r => .own br 207 [.slice r.1 B.length r.2] :: .st (sl r.1 r.2 B) :: .res (buf p.1 p.2 81 ps) :: .own bp 29 [.int .i64 n0, .int .i64 (n1 : Int), .int .i64 (n2 : Int), .slice p.1 ps.length p.2, .int .i64 0, .string .empty, .string .empty, .int .i64 0] :: Γ)
  (fun i ps p B r => i ≤ n3 ∧ ps.length = i ∧ B.length ≤ 34359738368 ∧ getC L = (Xee (n3 - i) B).bind fun q => opC n0 n1 n2 (ps ++ q.1) q.2) (fun i _ _ _ _ => n3 - i) 0 [] (none, 0) B (r1, c4) ⟨Nat.zero_le _, rfl, hB, hg⟩ iI ?_
 clear hg hB
 rintro i ps ⟨pa, pc⟩ B ⟨ra, rc⟩ ⟨hi, hlen, hB, hg⟩
 dsimp only
 refine wz11 ?_
 refine JC.test (fun h4 => ?_) (fun h4 => ?_)
 ·have hni : n3 - i = (n3 - (i + 1)) + 1 := by omega
  rw [hni] at hg
  refine wz14 ?_
  refine JC.drawP mixed ?_
  refine Xab 0 ?_
  refine JP.tv 1 [.own bp 29 [.int .i64 n0, .int .i64 (n1 : Int), .int .i64 (n2 : Int), .slice pa ps.length pc, .int .i64 0, .string .empty, .string .empty, .int .i64 0]] ?_
  refine Xab 2 ?_
  by_cases h32 : 32 ≤ B.length
  ·have hgi : Xee (n3 - (i + 1) + 1) B = (Xee (n3 - (i + 1)) (B.drop 32)).map (fun q => (Xhp B h32 :: q.1, q.2)) := dif_pos h32
   refine Xal 3 rfl rfl (Xbi (v := fun y : Option Addr × Nat => .agg ⟨idc (Xhp B h32)⟩) (B := fun y => .own br 207 [.slice y.1 (B.drop 32).length y.2] :: .st (sl y.1 y.2 (B.drop 32)) :: .res (buf pa pc 81 ps) :: .own bp 29 [.int .i64 n0, .int .i64 (n1 : Int), .int .i64 (n2 : Int), .slice pa ps.length pc, .int .i64 0, .string .empty, .string .empty, .int .i64 0] :: Γ) rfl (fun w1 hw => X15 h32 hw) fun y => Wd (nO ?_))
   refine Xal 4 rfl rfl (Ww rfl ⟨rfl, by decide, by decide, by decide⟩ fun lb => Wd (nO ?_))
   refine Xal 5 rfl rfl (Xa1 (L := ps) (u := Xhp B h32) rfl (by exact ⟨rfl, rfl, by decide⟩) (by omega) (fun pa2 pc2 => Wd (nO ?_)))
   refine Xab 6 ?_
   refine Xal 7 rfl rfl (Wi (Wd (nO ?_)))
   refine JP.nil (by kernel_rfl) ?_
   refine wz2 ?_
   refine ⟨i + 1, ps ++ [Xhp B h32], (pa2, pc2), B.drop 32, y, ⟨by omega, by simp [hlen], by rw [List.length_drop]; omega, ?_⟩, by omega, iI⟩
   rw [hg, hgi]
   cases Xee (n3 - (i + 1)) (B.drop 32) with
   | none => rfl
   | some q => simp
  ·have hgi : Xee (n3 - (i + 1) + 1) B = none := dif_neg h32
   rw [hgi, Option.bind_none] at hg
   refine JP.more (Γ' := .own br 207 [.slice ra B.length rc] :: .st (sl ra rc B) :: Γ) (fun w ho => ho.ent) ?_
   refine JP.gone 3 (by kernel_rfl) rfl rfl (Xcd (fun w1 hw => X1l (by omega) hw) ⟨_, rfl, ?_⟩)
   refine z2z ?_
   exact .inr ⟨hg, CT.gone (fun w ho => ho)⟩
 ·obtain rfl : i = n3 := by omega
  rw [Nat.sub_self] at hg
  have hg2 : getC L = opC n0 n1 n2 ps B := by rw [hg]; simp [Xee]
  refine wA ?_
  have hps : ps.length ≤ 8 := by omega
  refine JC.more (fun w ho => (ho.ent : Hold w0 F (.res (buf pa pc 81 ps) :: .own br 207 [.slice ra B.length rc] :: .st (sl ra rc B) :: .own bp 29 [.int .i64 n0, .int .i64 (n1 : Int), .int .i64 (n2 : Int), .slice pa ps.length pc, .int .i64 0, .string .empty, .string .empty, .int .i64 0] :: Γ) w).pub) ?_
  refine JC.test (fun h5 => ?_) (fun h5 => ?_)
  ·have e5 : getC L = if (getOp B).2.2 = 0 then finC ⟨⟨n0, n1⟩, n2, ps, (getOp B).1⟩ (getOp B).2.1 else none := by rw [hg2]; exact if_neg h5
   have htx := Xkt B
   have hol := Xpr B
   refine wz14 ?_
   refine Wf OpV.nilCheck rfl ?_
   refine wz6 ?_
   refine JR.call1 (B := fun y : Option Addr × Nat => .st (sl y.1 y.2 (getOp B).2.1)) rfl (fun w1 hw => X0b w1 _ ra rc B hw.get hB) ?_
   rintro ⟨ro, co⟩
   dsimp only
   obtain ⟨o, R, k, hk⟩ : ∃ o R k, getOp B = (o, R, k) := ⟨_, _, _, rfl⟩
   rw [hk] at e5 htx hol ⊢
   dsimp only at e5 htx hol ⊢
   (repeat (refine wE ?_; intro _)); refine wA ?_
   by_cases hk0 : k = 0
   ·rw [if_pos hk0] at e5
    refine JR.reslot 44 (.bool true) (by congr 1; exact decide_eq_true hk0) ?_
    refine JR.callV rfl (fun w1 hw => Xe2 w1 _) ?_
    refine wz9 ?_
    refine Wf OpV.nilCheck rfl ?_
    refine wz6 ?_
    refine JR.reslot 51 (.pointer (some ⟨br, 0, none⟩)) rfl ?_
    refine Wi ?_
    refine wz9 ?_
    refine JR.callV rfl (fun w1 hw => Xd3 w1 _ ⟨⟨n0, n1⟩, n2, ps, o⟩ pa pc (hw.get (A := sl pa pc ps)) htx) ?_
    cases hmay : may ⟨⟨n0, n1⟩, n2, ps, o⟩ with
    | false =>
     have hg : getC L = none := by rw [e5]; unfold finC; rw [hmay]; rfl
     refine wz13 ?_
     refine JR.more (Γ' := Γ) (fun w ho => ho.ent) ?_
     refine Xcd (fun w1 hw => Xd4 hw) ?_
     refine z2z ?_
     exact .inr ⟨hg, CT.gone (fun w ho => ho)⟩
    | true =>
     have hg : getC L = some (⟨⟨n0, n1⟩, n2, ps, o⟩, R) := by rw [e5]; unfold finC; rw [hmay]; rfl
     refine wz13 ?_
     refine JR.callV rfl (fun w1 hw => Xe2 w1 _) ?_
     refine wz9 ?_
     exact .inl (CT.done (⟨⟨⟨n0, n1⟩, n2, ps, o⟩, R, hg, pa, pc, ro, co⟩ : ReadY L) rfl (fun w ho => ho.ent))
   ·rw [if_neg hk0] at e5
    have hg := e5
    refine JR.reslot 44 (.bool false) (by congr 1; exact decide_eq_false hk0) ?_
    refine JR.more (Γ' := Γ) (fun w ho => ho.ent) ?_
    refine Xcd (fun w1 hw => Xd4 hw) ?_
    refine z2z ?_
    exact .inr ⟨hg, CT.gone (fun w ho => ho)⟩
  ·have e5 : getC L = finC ⟨⟨n0, n1⟩, n2, ps, op0⟩ B := by rw [hg2]; exact if_pos (by omega)
   refine wz1 ?_
   refine JR.callV rfl (fun w1 hw => Xd3 w1 _ ⟨⟨n0, n1⟩, n2, ps, op0⟩ pa pc (hw.get (A := sl pa pc ps)) (by unfold Xkj; exact (by decide : op0.key.size < 4611686018427387904 ∧ op0.elem.size < 4611686018427387904))) ?_
   cases hmay : may ⟨⟨n0, n1⟩, n2, ps, op0⟩ with
   | false =>
    have hg : getC L = none := by rw [e5]; unfold finC; rw [hmay]; rfl
    refine wz13 ?_
    refine JR.more (Γ' := Γ) (fun w ho => ho.ent) ?_
    refine Xcd (fun w1 hw => Xd4 hw) ?_
    refine z2z ?_
    exact .inr ⟨hg, CT.gone (fun w ho => ho)⟩
   | true =>
    have hg : getC L = some (⟨⟨n0, n1⟩, n2, ps, op0⟩, B) := by rw [e5]; unfold finC; rw [hmay]; rfl
    refine wz13 ?_
    refine JR.callV rfl (fun w1 hw => Xe2 w1 _) ?_
    refine wz9 ?_
    exact .inl (CT.done (⟨⟨⟨n0, n1⟩, n2, ps, op0⟩, B, hg, pa, pc, ra, rc⟩ : ReadY L) rfl (fun w ho => ho.ent))
end
end
section
variable {P : Program}
theorem Xl1 {ops : Array Oper} {R : Exit → Act → List Frame → World → Prop} {i : Nat} {rest : List Nat} {a : Act} {cs cs' : List Frame} {w : World} {o : Oper} {v : Value} (ho : ops[i]? = some o) (hw : Region.wanted o (yielded ops a.tmps) = true)
  (hr : (execOp a.eval o).run P w = .ok .recover w) (h4 : (match recoverD cs with | some (v, cs') => (v, cs') | none => (Value.nilIface, cs)) = (v, cs')) (h : wpOpsS P ops R rest (a.put o.dst v) cs' w) : wpOpsS P ops R (i :: rest) a cs w := by
 unfold wpOpsS
 rw [ho]
 dsimp only
 rw [if_pos hw, hr]
 dsimp only
 cases hd : recoverD cs with
 | none => rw [hd] at h4; cases h4; exact h
 | some p => rw [hd] at h4; cases h4; exact h
theorem Xps {ops : Array Oper} {R : Exit → Act → List Frame → World → Prop} {i : Nat} {rest : List Nat} {a : Act} {cs : List Frame} {w : World} {o : Oper} {v : Value} (ho : ops[i]? = some o) (hw : Region.wanted o (yielded ops a.tmps) = true)
  (hr : (execOp a.eval o).run P w = .ok (.value v) w) (h : wpOpsS P ops R rest (a.put o.dst v) cs w) : wpOpsS P ops R (i :: rest) a cs w := by
 unfold wpOpsS
 rw [ho]
 dsimp only
 rw [if_pos hw, hr]
 exact h
end
section
variable {P : Program} {w0 : World} {F : Nat → Prop} {Q : Cont} {e : E} {Γ Γ' : List Fact} [Dr]
def Xpt (P : Program) (w0 : World) (F : Nat → Prop) (g : FuncId) (us : List Value) (u u' : FrameMode) (Γ Γ' : List Fact) : Prop :=
 ∀ w, Hold w0 F Γ w → CallsD P g ⟨us⟩ u w fun x u1 w' => x = .returned (.tuple ⟨[]⟩) ∧ u1 = u' ∧ Hold w0 F Γ' w'
abbrev panR (v : Value) : List PanicEntry := [{ v := v, recovered := true }]
def X0c (P : Program) (w0 : World) (F : Nat → Prop) (rs : List ResultVar) {Y : Type} (v : Y → Value) (B : Y → List Fact) (g : FuncId) (us : List Value) : Cont := fun x e Γ =>
 ∃ Γ', (((x = .ret ∨ x = .normal) ∧ Xpt P w0 F g us .returning .returning Γ Γ') ∨ (∃ v0, x = .panic (pan v0) ∧ Xpt P w0 F g us (.panicking (pan v0)) (.panicking (panR v0)) Γ Γ')) ∧ Xae P w0 F rs v B .ret e Γ'
theorem Xri {f : FuncId} {fn : Func} {c : Code} {rs : List ResultVar} {args : List Value} {w : World} {Y : Type} {v : Y → Value} {B : Y → List Fact}
  {m : Nat} (hf : P.funcs[f]? = some fn) (hb : fn.body = some c) (hn : fn.ntmps = m) (hr : fn.results = ⟨rs⟩) (hl : Nat.ble args.length m = true) (Γ : List Fact) (ho : Hold w F Γ w)
  (h : JX P ⟨m, []⟩ w F c (fun n' x e Γ => ∃ g us, Body P g ∧ n' = ⟨m, [⟨.fn (.func g) ⟨us⟩, #[]⟩]⟩ ∧ X0c P w F rs v B g us x e Γ) (enum 0 args) Γ) : Gives P f args w F v B := by
 refine calls_of_wp_defers hf hb ?_
 rw [hn]
 refine wp_mono (h _ w (Fr.start hl) ho) ?_
 rintro x a w' ⟨n', e, Γ, ⟨g, us, hbd, rfl, Γ', hx, _, y, vs, hres, hpk, hB⟩, fr, ho'⟩
 have hi : ∀ w1, (invoke (.fn (.func g) ⟨us⟩) #[]).run P w1 = .ok (.enter g ⟨us⟩) w1 := fun w1 => by
  have e3 : (#[] : Array Value) ++ (⟨us⟩ : Array Value) = ⟨us⟩ := by apply Array.ext'; simp
  simp only [invoke, e3, hbd.ok]
 have hfin : ∀ w1, Hold w F Γ' w1 → Leaves P fn a.tmps (fun x w' => ∃ y, x = .returned (v y) ∧ Bel w.heap.size w w' ∧ Fresh w.heap.size F (B y) w') [] .returning w1 := fun w1 ho1 => by
  have fr' : Fr ⟨m, []⟩ e ⟨a.tmps, []⟩ := ⟨rfl, fr.size, fr.slot⟩
  have hrun := Xc5 (P := P) hr hres fr' ho1
  exact ⟨_, hrun, y, by rw [hpk], ho1.below, (hB w1 ho1).fresh⟩
 rcases hx with ⟨hx, hc⟩ | ⟨v0, rfl, hc⟩
 ·have : Leaves P fn a.tmps (fun x w' => ∃ y, x = .returned (v y) ∧ Bel w.heap.size w w' ∧ Fresh w.heap.size F (B y) w') a.defers .returning w' := by
   rw [fr.defers]
   refine leaves_cons (by simp) (hi w') ((hc w' ho').mono ?_)
   rintro x u' w1 ⟨rfl, rfl, ho1⟩
   exact hfin w1 ho1
  rcases hx with rfl | rfl <;> exact this
 ·show Leaves P fn a.tmps _ a.defers (.panicking (pan v0)) w'
  rw [fr.defers]
  refine leaves_cons (by simp) (hi w') ((hc w' ho').mono ?_)
  rintro x u' w1 ⟨rfl, rfl, ho1⟩
  exact hfin w1 ho1
theorem Xpu {g : FuncId} {fn : Func} {y : Code} {us : List Value} {m id d1 d2 : Nat} {t1 t2 : TypeId} {p1 p2 : String} {f1 f2 : Array Edge} {ats : Array TypeId} {u u' : FrameMode} {v0 : Value}
  (hu : (u = .returning ∧ u' = .returning ∧ v0 = .nilIface) ∨ (u = .panicking (pan v0) ∧ u' = .panicking (panR v0)))
  (hf : P.funcs[g]? = some fn) (hb : fn.body = some (.seq (.region id ⟨[⟨some d1, .call ⟨.builtin .recover, #[], ats⟩, t1, p1, f1, none⟩, ⟨some d2, .assign (.tmp d1), t2, p2, f2, none⟩]⟩ false) y)) (hn : fn.ntmps = m) (hr : fn.results = ⟨[]⟩)
  (hl : Nat.ble us.length m = true) (hd1 : Nat.blt d1 m = true) (hd2 : Nat.blt d2 m = true)
  (h : JC P ⟨m, []⟩ w0 F y (Xae P w0 F [] (fun _ : Unit => .tuple ⟨[]⟩) (fun _ => Γ')) ((d2, v0) :: (d1, v0) :: enum 0 us) Γ) : Xpt P w0 F g us u u' Γ Γ' := by
 intro w ho
 refine callsD_of_wpS hf hb fun c₀ cs hc => ?_
 rw [hn]
 have fr0 := Fr.start (args := us) hl
 have fr1 := (fr0.put hd1 v0)
 have fr2 := (fr1.put hd2 v0)
 refine wpS_seq (wpS_region ?_)
 have hrg : List.range (Array.size (⟨[⟨some d1, .call ⟨.builtin .recover, #[], ats⟩, t1, p1, f1, none⟩, ⟨some d2, .assign (.tmp d1), t2, p2, f2, none⟩]⟩ : Array Oper)) = [0, 1] := rfl
 rw [hrg]
 have hw : ∀ y (o : Oper), o.guard = none → Region.wanted o y = true := fun y o h => by unfold Region.wanted; rw [h]
 generalize hA : ({ tmps := (⟨us⟩ : Array Value) ++ Array.replicate (m - (⟨us⟩ : Array Value).size) undef, defers := [] } : Act) = a at fr0 fr1 fr2 ⊢
 have h1 : (execOp a.eval ⟨some d1, .call ⟨.builtin .recover, #[], ats⟩, t1, p1, f1, none⟩).run P w = .ok .recover w := by
  simp [execOp, Xag, invoke, builtin]
 have h2 : (execOp (a.put (some d1) v0).eval ⟨some d2, .assign (.tmp d1), t2, p2, f2, none⟩).run P w = .ok (.value v0) w := by
  have h3 : (a.put (some d1) v0).eval (.tmp d1) = v0 := (iI : Ev ((d1, v0) :: enum 0 us) (.tmp d1) v0).ok _ _ fr1
  simp [execOp, h3]
 have h4 : (match recoverD (c₀ :: cs) with | some (v, cs') => (v, cs') | none => (Value.nilIface, c₀ :: cs)) = (v0, { c₀ with mode := u' } :: cs) := by
  unfold recoverD
  rcases hu with ⟨rfl, rfl, rfl⟩ | ⟨rfl, rfl⟩
  ·cases c₀; simp at hc; subst hc; rfl
  ·cases c₀; simp at hc; subst hc; rfl
 refine Xl1 rfl (hw _ _ rfl) h1 h4 ?_
 refine Xps rfl (hw _ _ rfl) h2 ?_
 unfold wpOpsS
 refine wpS_of_wp (wp_mono (h _ w fr2 ho) ?_)
 rintro x a1 w1 ⟨e1, Γ1, ⟨hx, y1, vs, hres, hpk, hB⟩, fr, ho1⟩
 have hrun := Xc5 (P := P) hr hres fr ho1
 rw [hpk] at hrun
 rcases hx with rfl | rfl
 ·exact ⟨fr.defers, u', rfl, _, hrun, rfl, rfl, hB w1 ho1⟩
 ·exact ⟨fr.defers, u', rfl, _, hrun, rfl, rfl, hB w1 ho1⟩
end
section
variable {P : Program} {n : Nn} {w0 : World} {F : Nat → Prop} {d : Option Nat} {t : TypeId} {pos : String} {aft : Array Edge} {g : Option (Nat × Bool)} {e : E} {Γ : List Fact}
theorem Xrj [Dr] {x : Operand} {ty yt : TypeId} [hx : Ev e x .nilIface] (hu : P.underlying ty = some (.interface (P.methodsAt ty))) : OpV P n w0 F ⟨d, .binOp .neq ty x (.const .nilIface) yt, t, pos, aft, g⟩ e Γ (.bool false) :=
 fun a w fr _ => by
  have h2 : (Act.eval a (.const .nilIface)) = .nilIface := rfl
  have h4 : (eqGuard .neq ty x (.const .nilIface) .nilIface .nilIface).run P w = .ok () w := by simp [eqGuard]
  simp only [execOp, hx.ok n a fr, h2, Sem.run_bind, h4, Result.andThen_ok, run_neq_nil_nil w ty hu, Sem.run_pure]
theorem Xrk [Dr] {x : Operand} {ty yt u : TypeId} {v : Value} [hx : Ev e x (.iface u v)] (hu : P.underlying ty = some (.interface (P.methodsAt ty))) : OpV P n w0 F ⟨d, .binOp .neq ty x (.const .nilIface) yt, t, pos, aft, g⟩ e Γ (.bool true) :=
 fun a w fr _ => by
  have h2 : (Act.eval a (.const .nilIface)) = .nilIface := rfl
  have h4 : (eqGuard .neq ty x (.const .nilIface) (.iface u v) .nilIface).run P w = .ok () w := by simp [eqGuard]
  simp only [execOp, hx.ok n a fr, h2, Sem.run_bind, h4, Result.andThen_ok, run_neq_held_nil w ty u v hu, Sem.run_pure]
theorem Xpv [Dr] {x : Operand} {xt at_ : TypeId} {v : Value} [hx : Ev e x (.iface at_ v)] (hi : ∀ w, (Instr.typeAssert (.iface at_ v) xt at_ true).run P w = .ok (.tuple ⟨[v, .bool true]⟩) w) : OpV P n w0 F ⟨d, .typeAssert x xt at_ true, t, pos, aft, g⟩ e Γ (.tuple ⟨[v, .bool true]⟩) :=
 fun a w fr _ => by simp [execOp, hx.ok n a fr, hi w]
end
section
attribute [local irreducible] JC JO JR JQ andThen inBlock OpV Gives Xae JM JS
section
variable {w0 : World} {F : Nat → Prop} {b2 b3 b4 : Nat} {A B C : List Value} {v2 v3 v4 : List Value}
theorem Xwo {Γ : List Fact} : Xpt prog w0 F 182 [.pointer (some ⟨b2, 0, none⟩), .pointer (some ⟨b3, 0, none⟩), .pointer (some ⟨b4, 0, none⟩)] .returning .returning Γ Γ := by
 refine Xpu (.inl ⟨rfl, rfl, rfl⟩) func182 rfl ntmps182 rfl rfl rfl rfl ?_
 refine wz14 ?_
 refine Wf (Xrj (by kernel_rfl)) rfl ?_
 refine wz7 ?_
 exact Xde () rfl (fun w ho => ho)
theorem Xt9 : Xpt prog w0 F 182 [.pointer (some ⟨b2, 0, none⟩), .pointer (some ⟨b3, 0, none⟩), .pointer (some ⟨b4, 0, none⟩)] (.panicking Xmj) (.panicking (panR Xwd))
  [.own b2 29 [.int .i64 0, .int .i64 0, .int .i64 0, .slice none 0 0, .int .i64 0, .string .empty, .string .empty, .int .i64 0], .own b3 22 [.slice none 0 0], .own b4 32 [.int .i64 0]]
  [.own b2 29 [.int .i64 0, .int .i64 0, .int .i64 0, .slice none 0 0, .int .i64 0, .string .empty, .string .empty, .int .i64 0], .own b3 22 [.slice none 0 0], .own b4 32 [.int .i64 2]] := by
 refine Xpu (.inr ⟨rfl, rfl⟩) func182 rfl ntmps182 rfl rfl rfl rfl ?_
 refine wz14 ?_
 refine Wf (Xrk (by kernel_rfl)) rfl ?_
 refine wz8 ?_
 refine Wf (Xpv (fun w => by kernel_rfl)) rfl ?_
 (repeat (refine wE ?_; intro _)); refine wA ?_
 refine Wf (OpV.build [.int .i64 0, .int .i64 0, .int .i64 0, .slice none 0 0, .int .i64 0, .string .empty, .string .empty, .int .i64 0] (by kernel_rfl)) rfl ?_
 refine wz9 ?_
 exact Xvi () rfl
end
def com0 : Commit := ⟨⟨0, 0⟩, 0, [], op0⟩
noncomputable def getT (b : List UInt8) : Commit × List UInt8 × Int := match getC b with | some q => (q.1, q.2, 0) | none => (com0, [], 2)
structure GetY (b : List UInt8) where
 pa : Option Addr
 pc : Nat
 ra : Option Addr
 rc : Nat
theorem Xku {b : List UInt8} {c : Commit} {r : List UInt8} (h : getC b = some (c, r)) : getT b = (c, r, 0) := by unfold getT; rw [h]
theorem Xpw {b : List UInt8} (h : getC b = none) : getT b = (com0, [], 2) := by unfold getT; rw [h]
theorem Xmn : ∀ (n : Nat) (b : List UInt8) (q), Xee n b = some q → q.2.length ≤ b.length
 | 0, b, q, h => by cases h; exact Nat.le_refl _
 | n + 1, b, q, h => by
  unfold Xee at h
  split at h
  ·cases hq : Xee n (b.drop 32) with
   | none => rw [hq] at h; cases h
   | some q1 =>
    rw [hq] at h; cases h
    have := Xmn n _ q1 hq
    rw [List.length_drop] at this
    show q1.2.length ≤ _
    omega
  ·cases h
theorem Xyg {b : List UInt8} {q} (h : numO b = some q) : q.2.length ≤ b.length := by
 unfold numO at h
 split at h <;> cases h
 simp only [List.length_drop]; omega
theorem Xkv {m : Nat} {b : List UInt8} {q} (h : Xjg m b = some q) : q.2.length ≤ b.length := by
 unfold Xjg at h
 split at h <;> cases h
 simp only [List.length_drop]; omega
theorem Xss {c : Commit} {b : List UInt8} {q} (h : finC c b = some q) : q.2.length ≤ b.length := by
 unfold finC at h
 split at h <;> cases h
 exact Nat.le_refl _
theorem X0d {n0 : Int} {n1 n2 : Nat} {ps : List ID} {b : List UInt8} {q} (h : opC n0 n1 n2 ps b = some q) : q.2.length ≤ b.length := by
 unfold opC at h
 split at h
 ·exact Xss h
 ·split at h
  ·exact Nat.le_trans (Xss h) (Xpr b)
  ·cases h
theorem Xyh {b : List UInt8} {c : Commit} {r : List UInt8} (h : getC b = some (c, r)) : r.length ≤ b.length := by
 unfold getC at h
 obtain ⟨q0, h0, h⟩ := Option.bind_eq_some_iff.1 h
 obtain ⟨q1, h1, h⟩ := Option.bind_eq_some_iff.1 h
 obtain ⟨q2, h2, h⟩ := Option.bind_eq_some_iff.1 h
 obtain ⟨q3, h3, h⟩ := Option.bind_eq_some_iff.1 h
 obtain ⟨q4, h4, h⟩ := Option.bind_eq_some_iff.1 h
 have := Xyg h0; have := Xkv h1; have := Xkv h2; have := Xkv h3; have := Xmn _ _ _ h4; have := X0d h
 simp only at *
 omega
theorem X0e (a : Option Addr) (c : Nat) (b : List UInt8) (h : (sl a c b).holds F w) (hl : b.length ≤ 34359738368) :
  Gives prog 123 [.slice a b.length c] w F (fun y : GetY b => .tuple ⟨[Xax (getT b).1 y.pa y.pc, .slice y.ra (getT b).2.1.length y.rc, .int .i64 (getT b).2.2]⟩)
   (fun y => [.st (sl y.pa y.pc (getT b).1.parents), .st (sl y.ra y.rc (getT b).2.1)]) := by
 refine Xri (v := fun y : GetY b => .tuple ⟨[Xax (getT b).1 y.pa y.pc, .slice y.ra (getT b).2.1.length y.rc, .int .i64 (getT b).2.2]⟩) func123 rfl ntmps123 rfl rfl [.st (sl a c b)] (.start1 h) ?_
 refine JX.seq ?_
 (repeat (refine wE ?_; intro _)); refine wA ?_
 rename_i b2 b3 b4
 refine ⟨rfl, JX.defer rfl ?_⟩
 refine wz14 ?_
 refine Wf (OpV.build [.slice a b.length c] (by kernel_rfl)) rfl ?_
 (repeat (refine wE ?_; intro _)); refine wA ?_
 rename_i br
 refine JR.more (Γ' := .own br 207 [.slice a b.length c] :: .st (sl a c b) :: [.own b2 29 [.int .i64 0, .int .i64 0, .int .i64 0, .slice none 0 0, .int .i64 0, .string .empty, .string .empty, .int .i64 0], .own b3 22 [.slice none 0 0], .own b4 32 [.int .i64 0]]) (fun w ho => ho.ent) ?_
 refine Xxx rfl (fun w1 hw => Xwn hl hw) (fun y => ?_) (fun hn => ?_)
 ·obtain ⟨cm, r, hg, pa, pc, ra, rc⟩ := y
  dsimp only
  rw [Xku hg]
  dsimp only
  refine wz9 ?_
  have hc := Xyh hg
  refine JC.drawP mixed ?_
  refine JP.tv 0 [.own b2 29 [.int .i64 cm.ev.node, .int .i64 cm.ev.seq, .int .i64 cm.gen, .slice pa cm.parents.length pc, .int .i64 cm.op.kind, .string cm.op.key, .string cm.op.elem, .int .i64 cm.op.n]] ?_
  refine Xab 1 ?_
  refine Xab 2 ?_
  refine Xab 3 ?_
  refine JP.tv 4 [.own br 207 [.slice ra r.length rc]] ?_
  refine Xal 5 rfl rfl (JR.callBuf rfl (fun w1 hw => Xec w1 _ ra rc r hw.get (by omega)) fun a5 c5 => Wd (nO ?_))
  refine JP.more (fun w1 ho => ho.pub) ?_
  refine Xal 6 rfl rfl (Wi (Wd (nO ?_)))
  refine Xal 7 rfl rfl (Wi (Wd (nO ?_)))
  refine Xal 8 rfl rfl (Wi (Wd (nO ?_)))
  refine JP.nil (by kernel_rfl) ?_
  refine wz13 ?_
  refine ⟨182, _, iI, rfl, _, .inl ⟨.inl rfl, Xwo⟩, ?_⟩
  exact CT.dn (⟨pa, pc, a5, c5⟩ : GetY b) rfl
 ·rw [Xpw hn]
  dsimp only
  refine z2z ?_
  refine ⟨182, _, iI, rfl, _, .inr ⟨Xwd, rfl, Xt9⟩, ?_⟩
  exact CT.done (⟨none, 0, none, 0⟩ : GetY b) rfl (fun w ho => ((ho.ent : Hold _ _ [] w).add Xak).add Xak)
end
end Ab
end Go.Proofs.YtdgeffphifgflaaGreat
