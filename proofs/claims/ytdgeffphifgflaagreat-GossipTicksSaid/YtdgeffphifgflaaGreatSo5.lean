/- Lemmas for the walks, part 5 of 6: RefM, RfA, Mat, RfB, RfC, RfD, RfE, RfF, RfG, LawD, FrA, LoadP, Round, RoundX, LoadI, Load, Trip, StA, FrB, NdP, Lent, BrA, BrB, BrC, BrD, BrE, R3, R3b, R14, R15a, R14b, R5, R10a, R10p. -/
import Derived.Test.YtdgeffphifgflaaGreatSo4
import Derived.Test.YtdgeffphifgflaaGreatSo2
import Derived.Test.YtdgeffphifgflaaGreatSo3
import Derived.RangeFuncLeaves
import Derived.RangeFuncCalls
import Derived.RangeFuncRecord
import Derived.RangeFuncSeq
import Derived.ControlIn
import Derived.Test.YtdgeffphifgflaaGreatSo1
import Derived.RangeFuncIn
namespace Go.Proofs.YtdgeffphifgflaaGreat
namespace Ab
open Go Go.RowKit Tryz
set_option linter.unusedVariables false
set_option linter.unusedSimpArgs false
set_option synthInstance.maxSize 4000
set_option synthInstance.maxHeartbeats 400000
set_option maxHeartbeats 16000000
variable (w : World) (F : Nat → Prop)
section
attribute [local irreducible] JC JO JR JQ andThen inBlock OpV Gives Xan JM JS
attribute [local irreducible] sumI numL Xe2 Xdj
theorem Xl9 (c : Commit) (a : Option Addr) (k : Nat) (h : (sl a k c.parents).holds F w) (ht : Xht c) :
  GivesV prog 148 [Xax c a k] w F (.tuple ⟨[.agg ⟨idc (Xay c).1⟩, .int .i64 (Xay c).2]⟩) := by
 refine Xaa func148 rfl ntmps148 rfl rfl [.st (sl a k c.parents)] (.start1 h) ?_
 (repeat (refine wE ?_; intro _)); refine wA ?_
 rename_i bc bi
 refine Xbp (L := (Xat c).1) (us' := [.int .i64 (Xat c).2]) rfl (fun w1 hw => Xo6 w1 _ c a k hw.get ht) ?_
 intro p q
 refine wA ?_
 refine JC.test (fun h1 => ?_) (fun h1 => ?_)
 ·have hm : may c = false := by
   rw [← Bool.not_eq_true]
   intro hm
   simp [Xat, hm] at h1
  have h2 : Xay c = (Xrw, 1) := by simp [Xay, hm]
  have h3 : (Xat c).2 = 1 := by simp [Xat, hm]
  rw [h2, h3]
  refine wz14 ?_
  refine Wf (OpV.build (idc Xrw) (by kernel_rfl)) rfl ?_
  refine wz9 ?_
  exact Xab () rfl
 ·have hm : may c = true := by
   rw [← Bool.not_eq_false]
   intro hm
   simp [Xat, hm] at h1
  have h2 : Xay c = (sumI (Xbi c), 0) := by simp [Xay, hm]
  have h3 : Xat c = (Xbi c, 0) := by simp [Xat, hm]
  have hl := Xhg hm
  rw [h2, h3]
  refine wz14 ?_
  refine JR.callV rfl (fun w1 hw => Xzq w1 _ p q (Xbi c) hw.get (by omega)) ?_
  refine wz9 ?_
  exact Xab () rfl
attribute [local irreducible] Xay
theorem X2b (a b : Option Addr) (k m : Nat) (L : List Commit) (c : Commit) (h : (sl a k L).holds F w) (h' : (sl b m c.parents).holds F w) (hl : L.length < 34359738360) (hf : ∀ x ∈ L, fine x) (hc : fine c) :
  Xbw prog 155 [.slice a L.length k, Xax c b m] w F (Xbd L c) := by
 refine Xaa func155 rfl ntmps155 rfl rfl [.st (sl a k L), .st (sl b m c.parents)] (.start2 h h') ?_
 (repeat (refine wE ?_; intro _)); refine wA ?_
 rename_i bc
 refine JR.callV rfl (fun w1 hw => Xd2 w1 _ c b m hw.get hc.1) ?_
 refine wz9 ?_
 refine JR.callV rfl (fun w1 hw => Xex w1 _ c b m hw.get hc.1) ?_
 cases hmay : may c with
 | false =>
  have e1 : Xbd L c = L := by simp [Xbd, hmay]
  rw [e1]
  refine wz8 ?_
  exact CT.done (a, k) rfl (fun w ho => (ho.ent : Hold _ _ [.st (sl a k L)] w))
 | true =>
 cases hmer : merge c with
 | true =>
  have e1 : Xbd L c = L := by simp [Xbd, hmer]
  rw [e1]
  refine wz8 ?_
  exact CT.done (a, k) rfl (fun w ho => (ho.ent : Hold _ _ [.st (sl a k L)] w))
 | false =>
  refine wz7 ?_
  refine Xap (fun (i : Nat) => [(0, .slice a L.length k), (3, .pointer (some ⟨bc, 0, none⟩)), (7, .int .i64 (i : Int))])
   (fun i => [.st (sl a k L), .st (sl b m c.parents), .own bc 29 [.int .i64 c.ev.node, .int .i64 c.ev.seq, .int .i64 c.gen, .slice b c.parents.length m, .int .i64 c.op.kind, .string c.op.key, .string c.op.elem, .int .i64 c.op.n]])
   (fun i => i ≤ L.length ∧ (L.take i).any (fun d => decide (c = d)) = false) (fun i => L.length - i) 0 ⟨Nat.zero_le _, rfl⟩ iI ?_
  intro i ⟨hi, hno⟩
  refine wz11 ?_
  refine JC.test (fun hlt => ?_) (fun hge => ?_)
  ·have hlt' : i < L.length := by omega
   refine wz14 ?_
   refine Xa7 (L := L) (.slice a L.length k) i hlt' ?_
   intro b1 o1 p1 q1
   refine Xa6 mixed (by kernel_rfl) ?_
   refine wQ ?_
   refine JQ.call rfl rfl (fun w1 hw => Xvb w1 _ (L[i]) c p1 b q1 m hw.get hw.get) ?_
   refine wQ ?_
   refine wz10 ?_
   refine JC.test (fun he => ?_) (fun hne => ?_)
   ·have e1 : Xbd L c = L := by
     have : L.any (fun d => decide (c = d)) = true := List.any_eq_true.2 ⟨L[i], List.getElem_mem _, by simp [he]⟩
     simp only [Xbd, this, Bool.or_true, if_true]
    rw [e1]
    refine wz5 ?_
    exact CT.done (a, k) rfl (fun w ho => (ho.ent : Hold _ _ [.st (sl a k L)] w))
   ·refine wz2 ?_
    refine ⟨i + 1, ⟨by omega, ?_⟩, by omega, iI⟩
    rw [List.take_succ_eq_append_getElem hlt', List.any_append, hno]
    simp
    exact fun h => hne h.symm
  ·have hall : L.any (fun d => decide (c = d)) = false := by rwa [List.take_of_length_le (by omega)] at hno
   have e1 : Xbd L c = (L ++ [c]).drop (L.length + 1 - 8) := by simp only [Xbd, hmay, hmer, hall, Bool.not_true, Bool.or_self, Bool.false_eq_true, if_false]
   rw [e1]
   refine wz3 ?_
   refine Xck 4 mixed ?_
   refine JM.tv 0 ?_
   refine JM.tv 2 ?_
   refine Xxk 1 3 (by kernel_rfl) rfl rfl rfl rfl rfl rfl rfl rfl (JS.appendNil (L' := L) rfl (by exact ⟨rfl, rfl, by decide⟩) (by omega) fun a4 c4 => ?_) (Xq7 rfl ⟨rfl, by decide, by decide, by decide⟩ fun lb => ?_)
   ·refine JM.one 3 (by kernel_rfl) rfl rfl rfl rfl (Xq7 rfl ⟨rfl, by decide, by decide, by decide⟩ fun lb => ?_)
    refine Xa4 4 (by kernel_rfl) rfl rfl rfl (Xai (L := L) (u := c) rfl (by exact ⟨rfl, rfl, by decide⟩) (by omega) (fun a5 c5 => Wd ⟨rfl, ?_⟩))
    refine Xa4 5 (by kernel_rfl) rfl rfl rfl (Wf Vb rfl (Wd ⟨rfl, ?_⟩))
    refine JM.nil (by kernel_rfl) ?_
    refine Wa ?_
    refine JC.more (fun w1 ho => ho.pub) ?_
    refine wz14 ?_
    refine Xby (fun (d : Nat) (p : Option Addr) (q : Nat) => [(9, .slice p ((L ++ [c]).drop d).length q)]) (fun d p q => [.st (sl p q ((L ++ [c]).drop d))])
     (fun d _ _ => d ≤ L.length + 1 - 8) (fun d _ _ => L.length + 1 - d) 0 a5 c5 (Nat.zero_le _) (by rw [List.drop_zero]; infer_instance) ?_
    intro d p q hd
    have hdl : ((L ++ [c]).drop d).length = L.length + 1 - d := by simp
    refine wz5 ?_
    refine JC.test (fun h8 => ?_) (fun h8 => ?_)
    ·rw [hdl] at h8
     refine wz14 ?_
     refine Xa3 (L := (L ++ [c]).drop d) (k := 1) rfl rfl (by omega) ?_
     intro p2 q2
     refine wz2 ?_
     exact ⟨d + 1, p2, q2, by omega, by omega, by rw [← List.drop_drop]; infer_instance⟩
    ·rw [hdl] at h8
     have hde : d = L.length + 1 - 8 := by omega
     refine wz3 ?_
     rw [hde]
     exact CT.done (p, q) rfl (fun w ho => (ho.ent : Hold _ _ [.st (sl p q ((L ++ [c]).drop (L.length + 1 - 8)))] w))
   ·refine JM.one 1 (by kernel_rfl) rfl rfl rfl rfl (JS.appendNil (L' := L) rfl (by exact ⟨rfl, rfl, by decide⟩) (by omega) fun a4 c4 => ?_)
    refine Xa4 4 (by kernel_rfl) rfl rfl rfl (Xai (L := L) (u := c) rfl (by exact ⟨rfl, rfl, by decide⟩) (by omega) (fun a5 c5 => Wd ⟨rfl, ?_⟩))
    refine Xa4 5 (by kernel_rfl) rfl rfl rfl (Wf Vb rfl (Wd ⟨rfl, ?_⟩))
    refine JM.nil (by kernel_rfl) ?_
    refine Wa ?_
    refine JC.more (fun w1 ho => ho.pub) ?_
    refine wz14 ?_
    refine Xby (fun (d : Nat) (p : Option Addr) (q : Nat) => [(9, .slice p ((L ++ [c]).drop d).length q)]) (fun d p q => [.st (sl p q ((L ++ [c]).drop d))])
     (fun d _ _ => d ≤ L.length + 1 - 8) (fun d _ _ => L.length + 1 - d) 0 a5 c5 (Nat.zero_le _) (by rw [List.drop_zero]; infer_instance) ?_
    intro d p q hd
    have hdl : ((L ++ [c]).drop d).length = L.length + 1 - d := by simp
    refine wz5 ?_
    refine JC.test (fun h8 => ?_) (fun h8 => ?_)
    ·rw [hdl] at h8
     refine wz14 ?_
     refine Xa3 (L := (L ++ [c]).drop d) (k := 1) rfl rfl (by omega) ?_
     intro p2 q2
     refine wz2 ?_
     exact ⟨d + 1, p2, q2, by omega, by omega, by rw [← List.drop_drop]; infer_instance⟩
    ·rw [hdl] at h8
     have hde : d = L.length + 1 - 8 := by omega
     refine wz3 ?_
     rw [hde]
     exact CT.done (p, q) rfl (fun w ho => (ho.ent : Hold _ _ [.st (sl p q ((L ++ [c]).drop (L.length + 1 - 8)))] w))
end
section
attribute [local irreducible] JC JO JR JQ andThen inBlock OpV Gives Xan JM JS
section
attribute [local irreducible] Xay
def atI (I : List ID) (x : ID) : Int := match I.findIdx? (fun y => decide (y = x)) with | some i => (i : Int) | none => -1
theorem Xqm {I : List ID} {x : ID} {i : Nat} (h : I.findIdx? (fun y => decide (y = x)) = some i) : atI I x = (i : Int) := by simp [atI, h]
theorem X2c {I : List ID} {x : ID} (h : x ∉ I) : atI I x = -1 := by simp [atI, Xk4.2 h]
theorem Xso (a : Option Addr) (k : Nat) (I : List ID) (x : ID) (h : (sl a k I).holds F w) :
  GivesV prog 132 [.slice a I.length k, .agg ⟨idc x⟩] w F (.int .i64 (atI I x)) := by
 have hI : I.length < 9223372036854775807 := by have := h.2.2.1; simp only [lim] at this; omega
 refine Xaa func132 rfl ntmps132 rfl rfl [.st (sl a k I)] (.start1 h) ?_
 (repeat (refine wE ?_; intro _)); refine wA ?_
 rename_i bx
 refine Xap (fun (i : Nat) => [(0, .slice a I.length k), (3, .pointer (some ⟨bx, 0, none⟩)), (5, .int .i64 (i : Int))]) (fun i => [.st (sl a k I), .own bx 81 (idc x)])
  (fun i => i ≤ I.length ∧ ∀ j (hj : j < I.length), j < i → I[j] ≠ x) (fun i => I.length - i) 0 ⟨Nat.zero_le _, fun j hj h => by omega⟩ iI ?_
 intro i ⟨hi, hno⟩
 refine wz11 ?_
 refine JC.test (fun hlt => ?_) (fun hge => ?_)
 ·have hlt' : i < I.length := by omega
  refine wz14 ?_
  refine Xbq (L := I) (.slice a I.length k) i hlt' ?_
  intro bi oi
  refine Xa6 mixed (by kernel_rfl) ?_
  refine wQ ?_
  refine wz13 ?_
  refine JC.test (fun he => ?_) (fun hne => ?_)
  ·have hat : I.findIdx? (fun y => decide (y = x)) = some i := by
    rw [List.findIdx?_eq_some_iff_getElem]
    exact ⟨hlt', by simpa using he, fun j hj => by simpa using hno j (by omega) hj⟩
   rw [Xqm hat]
   refine wz5 ?_
   exact Xab () rfl
  ·refine wz2 ?_
   refine ⟨i + 1, ⟨by omega, fun j hj hji => ?_⟩, by omega, iI⟩
   by_cases hj' : j = i
   ·subst hj'; exact hne
   ·exact hno j hj (by omega)
 ·have hat : x ∉ I := by
   intro hx
   obtain ⟨j, hj, rfl⟩ := List.getElem_of_mem hx
   exact hno j hj (by omega) rfl
  rw [X2c hat]
  refine wz3 ?_
  exact Xab () rfl
theorem Xe4 (a : Option Addr) (k : Nat) (L : List Commit) (h : (sl a k L).holds F w) (hl : L.length < 34359738368) (hf : ∀ x ∈ L, fine x) :
  Xbw prog 82 [.slice a L.length k] w F (idsP L) := by
 refine Xaa func82 rfl ntmps82 rfl rfl [.st (sl a k L)] (.start1 h) ?_
 refine wz4 ?_
 refine JC.buf_nil (α := ID) 81 ?_
 refine Xby (fun (i : Nat) p q => [(0, .slice a L.length k), (3, .slice p (cids (L.take i)).length q), (4, .int .i64 (i : Int))])
  (fun i p q => [.res (buf p q 81 (cids (L.take i))), .st (sl a k L)])
  (fun i _ _ => i ≤ L.length ∧ ∀ c ∈ L.take i, may c = true) (fun i _ _ => L.length - i) 0 none 0 ⟨Nat.zero_le _, by simp⟩ (by rw [List.take_zero, show cids [] = [] from rfl]; infer_instance) ?_
 intro i p q ⟨hi, hm⟩
 refine wz11 ?_
 refine JC.test (fun hlt => ?_) (fun hge => ?_)
 ·have hlt' : i < L.length := by omega
  have hfx := hf _ (List.getElem_mem hlt')
  refine wz14 ?_
  refine Xaf rfl hlt' ?_
  intro b1 o1 p1 q1
  refine wz6 ?_
  refine JR.callV rfl (fun w1 hw => Xl9 w1 _ (L[i]) p1 q1 hw.get hfx.1) ?_
  (repeat (refine wE ?_; intro _)); refine wA ?_
  refine JC.test (fun h0 => ?_) (fun h0 => ?_)
  ·have hmay : may L[i] = false := by
    rw [← Bool.not_eq_true, ← Xc0]; exact h0
   refine wz5 ?_
   rw [Xj5 (List.getElem_mem hlt') hmay]
   exact CT.done (none, 0) rfl (fun w ho => (ho.ent : Hold _ _ [.st (sl a k L)] w).tail.add Xah)
  ·have hmay : may L[i] = true := (Xc0 _).1 (by simpa using h0)
   have h1 : (cids (L.take i)).length ≤ i := by simp [cids]; omega
   (repeat (refine wE ?_; intro _)); refine wA ?_
   refine Xai (u := idC L[i]) rfl (by exact ⟨rfl, rfl, by decide⟩) (by omega) ?_
   intro r s
   refine wz2 ?_
   refine ⟨i + 1, r, s, ⟨by omega, fun c hc => ?_⟩, by omega, by rw [Xgd hlt']; infer_instance⟩
   rw [List.take_succ_eq_append_getElem hlt', List.mem_append, List.mem_singleton] at hc
   rcases hc with hc | rfl
   ·exact hm c hc
   ·exact hmay
 ·obtain rfl : i = L.length := by omega
  rw [List.take_length] at hm ⊢
  refine JC.more (fun w1 ho => ho.pub) ?_
  refine wz3 ?_
  rw [Xea hm]
  exact CT.done (p, q) rfl (fun w ho => (ho.ent : Hold _ _ [.st (sl p q (cids L))] w))
end
end
structure RowP where
 b : Nat
 n : Nat
instance : Cell RowP where
 Ix := Unit
 sz := 1
 cells r _ := [.slice (some ⟨r.b, 0, none⟩) r.n r.n]
 facts _ _ := []
 len _ _ := rfl
 one r _ := by simp [Value.oneCell']
 pos := by decide
instance {Γ : List Fact} {b n : Nat} : Typed Γ [.slice (some ⟨b, 0, none⟩) n n] (RowP.mk b n) := ⟨(), rfl, by simp [Cell.facts]⟩
instance : Cell (List Bool) where
 Ix := Option Addr × Nat
 sz := 1
 cells l y := [.slice y.1 l.length y.2]
 facts l y := [sl y.1 y.2 l]
 len _ _ := rfl
 one l y := by simp [Value.oneCell']
 pos := by decide
def Xsp (B : List RowP) : List Nat := B.map RowP.b
def rowsHold (t : TypeId) (B : List RowP) (K : List (List Bool)) (w : World) : Prop :=
 B.length = K.length ∧ ∀ i (h : i < B.length) (h' : i < K.length), B[i].n = K[i].length ∧ w.heap[B[i].b]? = some (.cells (K[i].map Value.bool).toArray t (0, 0))
theorem rowsHold.keep {t : TypeId} {B : List RowP} {K : List (List Bool)} {w w' : World} (h : rowsHold t B K w) (hk : ∀ r ∈ B, r.b < w.heap.size → w'.heap[r.b]? = w.heap[r.b]?) : rowsHold t B K w' := by
 refine ⟨h.1, fun i hi hi' => ⟨(h.2 i hi hi').1, ?_⟩⟩
 have h1 := (h.2 i hi hi').2
 rw [hk _ (List.getElem_mem hi) (Array.getElem?_eq_some_iff.1 h1).1]
 exact h1
theorem rowsHold.lt {t : TypeId} {B : List RowP} {K : List (List Bool)} {w : World} (h : rowsHold t B K w) {r : RowP} (hr : r ∈ B) : r.b < w.heap.size := by
 obtain ⟨i, hi, rfl⟩ := List.getElem_of_mem hr
 exact (Array.getElem?_eq_some_iff.1 (h.2 i hi (by have := h.1; omega)).2).1
def Xda (t : TypeId) (B : List RowP) (K : List (List Bool)) : Res where
 owns k := ∃ r ∈ B, r.b = k
 holds F w := (Xsp B).Nodup ∧ rowsHold t B K w
 keep F G w w' h hF hk := ⟨h.1, h.2.keep fun r hr hlt => hk r.b hlt (.inr ⟨r, hr, rfl⟩)⟩
 lt F w h k hk := by obtain ⟨r, hr, rfl⟩ := hk; exact h.2.lt hr
def X4f (t : TypeId) (B : List RowP) (K : List (List Bool)) : Asn where
 holds F w := (∀ r ∈ B, F r.b) ∧ rowsHold t B K w
 mono F G w h hh := ⟨fun r hr => h _ (hh.1 r hr), hh.2⟩
 frame F w w' hk h := ⟨h.1, h.2.keep fun r hr _ => hk _ (h.1 r hr)⟩
 within F w h := ⟨fun r hr => ⟨h.1 r hr, h.2.lt hr⟩, h.2⟩
section
variable {P : Program} {n : Nn} {w0 : World} {F : Nat → Prop} {ops : Array Oper} {i d : Nat} {t : TypeId} {pos : String} {aft : Array Edge} {g : Option (Nat × Bool)} {os : List Oper} {Q : Cont} {e : E} {Γ : List Fact} [Dr]
theorem Hold.join {w : World} {f g h : Fact} (ho : Hold w0 F (f :: g :: Γ) w) (hown : ∀ k, h.owns k ↔ f.owns k ∨ g.owns k) (hs : h.sat (fp w0 F (h :: Γ)) w) : Hold w0 F (h :: Γ) w := by
 have hfree : ∀ k, fp w0 F (f :: g :: Γ) k → fp w0 F (h :: Γ) k := by
  refine fun k hk => ⟨hk.1, fun f' hf' hown' => ?_⟩
  rcases List.mem_cons.1 hf' with rfl | hf'
  ·rcases (hown k).1 hown' with h1 | h1
   ·exact hk.2 f (by simp) h1
   ·exact hk.2 g (by simp) h1
  ·exact hk.2 f' (by simp [hf']) hown'
 have hp := List.pairwise_cons.1 ho.dis
 have hp2 := List.pairwise_cons.1 hp.2
 refine ⟨ho.below, fun f' hf' => ?_, ?_, ?_⟩
 ·rcases List.mem_cons.1 hf' with rfl | hf'
  ·exact hs
  ·exact Fact.sat_keep (ho.sat f' (by simp [hf'])) (fun k hk _ => hfree k hk) (fun _ _ _ => rfl)
 ·refine List.pairwise_cons.2 ⟨fun f' hf' k hk => ?_, hp2.2⟩
  rcases (hown k).1 hk.1 with h1 | h1
  ·exact hp.1 f' (by simp [hf']) k ⟨h1, hk.2⟩
  ·exact hp2.1 f' hf' k ⟨h1, hk.2⟩
 ·intro f' hf' k hk
  rcases List.mem_cons.1 hf' with rfl | hf'
  ·rcases (hown k).1 hk with h1 | h1
   ·exact ho.new f (by simp) k h1
   ·exact ho.new g (by simp) k h1
  ·exact ho.new f' (by simp [hf']) k hk
theorem Hold.addRow {w : World} {b : Nat} {bt : TypeId} {r : List Bool} {B : List RowP} {K : List (List Bool)} (ho : Hold w0 F (.own b bt (r.map Value.bool) :: .res (Xda bt B K) :: Γ) w) :
  Hold w0 F (.res (Xda bt (B ++ [⟨b, r.length⟩]) (K ++ [r])) :: Γ) w := by
 have hb : w.heap[b]? = some (.cells (r.map Value.bool).toArray bt (0, 0)) := ho.sat (.own b bt _) (by simp)
 obtain ⟨h1, h2, h3⟩ : (Xda bt B K).holds _ w := ho.sat (.res (Xda bt B K)) (by simp)
 have hdis := (List.pairwise_cons.1 ho.dis).1 (.res (Xda bt B K)) (by simp)
 refine ho.join (fun k => ?_) ⟨?_, by simp [h2], fun i hi hi' => ?_⟩
 ·constructor
  ·rintro ⟨x, hx, rfl⟩
   rcases List.mem_append.1 hx with hx | hx
   ·exact .inr ⟨x, hx, rfl⟩
   ·simp only [List.mem_singleton] at hx; subst hx; exact .inl rfl
  ·rintro (rfl | ⟨x, hx, rfl⟩)
   ·exact ⟨⟨_, r.length⟩, by simp, rfl⟩
   ·exact ⟨x, by simp [hx], rfl⟩
 ·rw [Xsp, List.map_append, List.nodup_append]
  refine ⟨h1, by simp, fun x hx y hy e => ?_⟩
  simp only [List.map_cons, List.map_nil, List.mem_singleton] at hy
  subst e hy
  obtain ⟨z, hz, hzb⟩ := List.mem_map.1 hx
  exact hdis _ ⟨rfl, z, hz, hzb⟩
 ·by_cases hlt : i < B.length
  ·rw [List.getElem_append_left hlt, List.getElem_append_left (by omega)]
   exact h3 i hlt (by omega)
  ·have e1 : i = B.length := by simp at hi; omega
   subst e1
   rw [List.getElem_append_right (by omega), List.getElem_append_right (by omega)]
   simp [h2, hb]
class HasRows (Γ : List Fact) (bt : outParam TypeId) (B : outParam (List RowP)) (K : outParam (List (List Bool))) (Δ : outParam (List Fact)) : Prop where
 ok : Γ.Perm (.res (Xda bt B K) :: Δ)
instance (priority := 100) HasRows.miss {g : Fact} {bt : TypeId} {B : List RowP} {K : List (List Bool)} {Δ : List Fact} [h : HasRows Γ bt B K Δ] : HasRows (g :: Γ) bt B K (g :: Δ) :=
 ⟨(h.ok.cons g).trans (List.Perm.swap _ g Δ)⟩
instance (priority := 1000) HasRows.hit {bt : TypeId} {B : List RowP} {K : List (List Bool)} : HasRows (.res (Xda bt B K) :: Γ) bt B K Γ := ⟨List.Perm.refl _⟩
theorem Xhb {x : Operand} {b c k o : Nat} {el ty : TypeId} {B : List RowP} {sz by_ : Nat} {z : Value} {Δ : List Fact} {d : Option Nat}
  [hx : Ev e x (.pointer (some ⟨b, o, none⟩))] [hB : BufAt Γ b c el B Δ] {td2 : TypeId} [hT : Ty P ty (.slice td2) sz by_ z] (h : k < B.length) (ho' : o = k) (hsz : sz = 1) :
  OpV P n w0 F ⟨d, .load ty x, t, pos, aft, g⟩ e Γ (.slice (some ⟨B[k].b, 0, none⟩) B[k].n B[k].n) :=
 fun a w fr ho => by
  obtain ⟨q, cur, h0, h1, h2, hg, hnc, hcm, hcs, htk⟩ := Xh9 ((ho.perm hB.ok).sat (.res (buf (some ⟨b, 0, none⟩) c el B)) (by simp))
  have hqL : q.length = B.length := by rw [← h1]; simp
  have hkq : k < q.length := by omega
  have hqk : q[k].1 = B[k] := by simp [← h1]
  have hr : w.rangeAt b o [.slice (some ⟨B[k].b, 0, none⟩) B[k].n B[k].n] := by
   intro j v hj
   cases j with
   | zero =>
    simp only [List.getElem?_cons_zero, Option.some.injEq] at hj
    subst hj
    rw [Nat.add_zero, cell_of_row w b _ cur el _ hg, ho']
    have := Xme q k hkq 0 (.slice (some ⟨B[k].b, 0, none⟩) B[k].n B[k].n) (by rw [hqk]; rfl)
    rw [← htk, List.getElem?_take] at this
    split at this
    ·simpa [Cell.sz] using this
    ·cases this
   | succ j => simp at hj
  have hload := Xdq (P := P) (t := ty) (v := .slice (some ⟨B[k].b, 0, none⟩) B[k].n B[k].n) hr (by simp [hsz])
  simp [execOp, hx.ok n a fr, hload]
theorem Xo7 {x : Operand} {o k j : Nat} {bt ty : TypeId} {B : List RowP} {K : List (List Bool)} {sz by_ : Nat} {z : Value} {Δ : List Fact} {bb : Nat} {d : Option Nat}
  [hx : Ev e x (.pointer (some ⟨bb, o, none⟩))] [hB : HasRows Γ bt B K Δ] [hT : Ty P ty .bool sz by_ z] (h : k < B.length) (h' : k < K.length) (hj : j < K[k].length) (hb : bb = B[k].b) (ho' : o = j) (hsz : sz = 1) :
  OpV P n w0 F ⟨d, .load ty x, t, pos, aft, g⟩ e Γ (.bool K[k][j]) :=
 fun a w fr ho => by
  obtain ⟨_, _, h3⟩ : (Xda bt B K).holds _ w := (ho.perm hB.ok).sat (.res (Xda bt B K)) (by simp)
  have hg := (h3 k h h').2
  rw [← hb] at hg
  have hr : w.rangeAt bb o [.bool K[k][j]] := by
   intro y v hy
   cases y with
   | zero =>
    simp only [List.getElem?_cons_zero, Option.some.injEq] at hy
    subst hy
    rw [Nat.add_zero, cell_of_row w bb _ _ _ _ hg, ho']
    simp [hj]
   | succ y => simp at hy
  have hload := Xdq (P := P) (t := ty) (v := .bool K[k][j]) hr (by simp [hsz])
  simp [execOp, hx.ok n a fr, hload]
theorem Xsq {x y : Operand} {o k j : Nat} {bt ty : TypeId} {B : List RowP} {K : List (List Bool)} {u : Bool} {sz by_ : Nat} {z : Value} {Δ : List Fact} {bb : Nat}
  [hx : Ev e x (.pointer (some ⟨bb, o, none⟩))] [hB : HasRows Γ bt B K Δ] [hy : Ev e y (.bool u)] [hT : Ty P ty .bool sz by_ z] (h : k < B.length) (h' : k < K.length) (hj : j < K[k].length) (hb : bb = B[k].b) (ho' : o = j) (hsz : sz = 1)
  (kk : JO P n w0 F ops (i + 1) os Q e (.res (Xda bt B (K.set k (K[k].set j u))) :: Δ)) : JR P n w0 F ops i ⟨none, .store ty x y, t, pos, aft, g⟩ os Q e Γ :=
 Xhn fun a w fr ho => by
  have hp := ho.perm hB.ok
  obtain ⟨h1, h2, h3⟩ : (Xda bt B K).holds _ w := hp.sat (.res (Xda bt B K)) (by simp)
  have hg := (h3 k h h').2
  rw [← hb] at hg
  have hlay : o + [Value.bool u].length ≤ (K[k].map Value.bool).length ∧ (K[k].map Value.bool).take o ++ [Value.bool u] ++ (K[k].map Value.bool).drop (o + [Value.bool u].length) = (K[k].set j u).map Value.bool := by
   refine ⟨by simp; omega, ?_⟩
   rw [ho', List.map_set, List.set_eq_take_append_cons_drop, if_pos (by simpa using hj)]
   simp
  have hheap : ∀ q, q ≠ bb → (w.setRow bb ((K[k].set j u).map Value.bool).toArray).heap[q]? = w.heap[q]? := fun q hq => by
   simp only [World.setRow, Array.getElem?_modify]; rw [if_neg (by omega)]
  have hnew := setRow_heap w bb (K[k].map Value.bool).toArray ((K[k].set j u).map Value.bool).toArray bt _ hg
  have hown : ∀ q, (Fact.res (Xda bt B K)).owns q ↔ (Fact.res (Xda bt B (K.set k (K[k].set j u)))).owns q := fun q => Iff.rfl
  refine ⟨.skip, w.setRow bb ((K[k].set j u).map Value.bool).toArray, .res (Xda bt B (K.set k (K[k].set j u))) :: Δ, .inl rfl, ?_, ?_, kk⟩
  ·simp [execOp, hx.ok n a fr, hy.ok n a fr, Xgt (P := P) (ty := ty) (cs := [Value.bool u]) (r := (K[k].set j u).map Value.bool) hg (by simp [hsz]) hlay]
  ·have hbb : w0.heap.size ≤ bb := hp.new (.res (Xda bt B K)) (by simp) bb ⟨B[k], List.getElem_mem h, hb.symm⟩
   have hdis := List.pairwise_cons.1 hp.dis
   refine ⟨hp.below.trans ⟨rfl, rfl, rfl, by simp [World.setRow], fun q hq => hheap q (by omega), fun _ => Nat.le_refl _⟩, fun f hf => ?_, ?_, ?_⟩
   ·rcases List.mem_cons.1 hf with rfl | hf
    ·refine ⟨h1, by simp [h2], fun x hx1 hx2 => ?_⟩
     by_cases hxk : x = k
     ·subst hxk
      refine ⟨by simp [(h3 x h h').1], ?_⟩
      rw [List.getElem_set_self, ← hb]
      exact hnew
     ·have hx2' : x < K.length := by simpa using hx2
      rw [List.getElem_set_ne (Ne.symm hxk)]
      refine ⟨(h3 x hx1 hx2').1, ?_⟩
      rw [hheap _ ?_]
      ·exact (h3 x hx1 hx2').2
      ·rw [hb]
       intro e
       have hn := List.pairwise_iff_getElem.1 h1
       rcases Nat.lt_or_gt_of_ne hxk with hlt | hlt
       ·have := hn x k (by simpa [Xsp] using hx1) (by simpa [Xsp] using h) hlt
        simp only [Xsp, List.getElem_map] at this; exact this e
       ·have := hn k x (by simpa [Xsp] using h) (by simpa [Xsp] using hx1) hlt
        simp only [Xsp, List.getElem_map] at this; exact this e.symm
    ·refine Fact.sat_keep (hp.sat f (by simp [hf])) (fun q hq _ => ⟨hq.1, fun f' hf' => ?_⟩) (fun q _ hq => hheap q (fun e => ?_))
     ·rcases List.mem_cons.1 hf' with rfl | hf'
      ·exact hq.2 (.res (Xda bt B K)) (by simp)
      ·exact hq.2 f' (by simp [hf'])
     ·subst e
      have hmem : (Fact.res (Xda bt B K)).owns q := ⟨B[k], List.getElem_mem h, hb.symm⟩
      rcases hq with hq | hq
      ·exact hq.2 (.res (Xda bt B K)) (by simp) hmem
      ·exact hdis.1 f hf q ⟨hmem, hq⟩
   ·exact List.pairwise_cons.2 ⟨fun f' hf' q hq => hdis.1 f' hf' q ⟨hq.1, hq.2⟩, hdis.2⟩
   ·intro f' hf' q hq
    rcases List.mem_cons.1 hf' with rfl | hf'
    ·exact hp.new (.res (Xda bt B K)) (by simp) q hq
    ·exact hp.new f' (by simp [hf']) q hq
theorem Hold.pubRows {w : World} {bt : TypeId} {B : List RowP} {K : List (List Bool)} (ho : Hold w0 F (.res (Xda bt B K) :: Γ) w) : Hold w0 F (.st (X4f bt B K) :: Γ) w :=
 ho.publish fun hk => ⟨fun r hr => hk r.b (.inr ⟨r, hr, rfl⟩), (ho.sat (.res (Xda bt B K)) (by simp)).2⟩
end
theorem X2d {w : World} {F : Nat → Prop} {b : Nat} {L : List Bool} {t : TypeId} (h : w.heap[b]? = some (.cells (L.map Value.bool).toArray t (0, 0))) (hF : F b) (hmax : L.length ≤ 4096) : (sl (some ⟨b, 0, none⟩) L.length L).holds F w := by
 refine ⟨Nat.le_refl _, by simp [maxLen]; omega, by simp only [lim]; omega, fun hne => ⟨b, 0, rfl, hF, (Array.getElem?_eq_some_iff.1 h).1, fun i hi => ⟨(), ?_, by simp [Cell.facts]⟩⟩⟩
 intro j v hj
 simp only [Cell.cells, List.getElem?_singleton] at hj
 split at hj
 ·rename_i h0; subst h0
  injection hj with hj
  subst hj
  rw [cell_of_row w b _ _ _ _ h]
  simp [Cell.sz, hi]
 ·cases hj
theorem X4g {w : World} {F : Nat → Prop} {a : Option Addr} {c : Nat} {bt : TypeId} {B : List RowP} {K : List (List Bool)} (h : (sl a c B).holds F w) (h' : (X4f bt B K).holds F w) (hK : ∀ r ∈ K, r.length ≤ 4096) : (sl a c K).holds F w := by
 obtain ⟨h1, h2, h3⟩ := h'
 refine ⟨by rw [← h2]; exact h.1, h.2.1, by rw [← h2]; exact h.2.2.1, fun hne => ?_⟩
 obtain ⟨b, off, rfl, hb, hlt, hrow⟩ := h.2.2.2 (fun e => hne (List.eq_nil_of_length_eq_zero (by rw [← h2, e]; rfl)))
 refine ⟨b, off, rfl, hb, hlt, fun i hi => ?_⟩
 have hi' : i < B.length := by omega
 obtain ⟨_, hr, _⟩ := hrow i hi'
 obtain ⟨h4, h5⟩ := h3 i hi' hi
 refine ⟨(some ⟨B[i].b, 0, none⟩, B[i].n), ?_, fun A hA => ?_⟩
 ·have e : Cell.cells K[i] ((some ⟨B[i].b, 0, none⟩, B[i].n) : Cell.Ix (List Bool)) = Cell.cells B[i] (() : Cell.Ix RowP) := by
   show [Value.slice (some ⟨B[i].b, 0, none⟩) K[i].length B[i].n] = [Value.slice (some ⟨B[i].b, 0, none⟩) B[i].n B[i].n]
   rw [h4]
  rw [e]; exact hr
 ·simp only [Cell.facts, List.mem_singleton] at hA
  subst hA
  rw [h4]
  exact X2d h5 (h1 _ (List.getElem_mem hi')) (hK _ (List.getElem_mem hi))
theorem Xzu (c : Nat) : (madeCells (Value.cells (.bool false)) (c * 1)) = ((List.replicate c false).map Value.bool).toArray := by
 apply Array.ext
 ·simp [size_madeCells]
 ·intro i h1 h2
  simp [madeCells, Value.cells, Nat.mod_one]
section
variable {P : Program} {n : Nn} {w0 : World} {F : Nat → Prop} {ops : Array Oper} {i d : Nat} {t : TypeId} {pos : String} {aft : Array Edge} {g : Option (Nat × Bool)} {os : List Oper} {Q : Cont} {e : E} {Γ : List Fact}
theorem Xsr [Dr] {x y : Operand} {kk k2 : IntKind} {j j2 : Int} {l l2 : Nat} {ty el : TypeId} {ed : TypeDesc} {sz by_ : Nat} {z : Value}
  [hx : Ev e x (.int kk j)] [hk : NatI j l] [hy : Ev e y (.int k2 j2)] [hk2 : NatI j2 l2] [hT : Ty P ty (.slice el) sz by_ z] [hE : Ty P el ed 1 1 (.bool false)]
  (hd : Nat.blt d n.s = true) (he : l = l2) (hl : l ≤ 1073741824)
  (K : ∀ b, JO P n w0 F ops (i + 1) os Q ((d, .slice (some ⟨b, 0, none⟩) l l) :: e) (.own b el ((List.replicate l false).map Value.bool) :: Γ)) :
  JR P n w0 F ops i ⟨some d, .makeSlice ty x y, t, pos, aft, g⟩ os Q e Γ :=
 JR.value hd fun a w fr ho => by
  subst he
  obtain ⟨ti, hti, hti1, hti2, hti3⟩ := hE.some
  have hj := hk.ok
  have hj2 := hk2.ok
  subst hj hj2
  have hr := run_make (P := P) w ty el ti (.bool false) hT.und hti hti3 kk k2 (l : Int) (l : Int) (by omega) (by omega) (by rw [hti2]; omega) (by omega)
  simp only [Int.toNat_natCast, hti1, Xzu] at hr
  refine ⟨_, w.alloc (.cells ((List.replicate l false).map Value.bool).toArray el), _, ?_, ho.alloc el ((List.replicate l false).map Value.bool), K w.heap.size⟩
  simp [execOp, hx.ok n a fr, hy.ok n a fr, hr]
end
section
attribute [local irreducible] JC JO JR JQ andThen inBlock OpV Gives Xan JM JS
section
attribute [local irreducible] Xay
def get (K : List (List Bool)) (i j : Nat) : Bool := (K.getD i []).getD j false
theorem Xhh {K : List (List Bool)} {i j : Nat} (hi : i < K.length) (hj : j < K[i].length) : get K i j = K[i][j] := by simp [get, List.getD_eq_getElem?_getD, hi, hj]
theorem Xzv {K : List (List Bool)} {i j : Nat} (hi : i < K.length) (hj : j < K[i].length) (x y : Nat) : get (K.set i (K[i].set j true)) x y = if x = i ∧ y = j then true else get K x y := by
 unfold get
 simp only [List.getD_eq_getElem?_getD]
 by_cases hx : x = i
 ·subst hx
  rw [List.getElem?_set_self hi, List.getElem?_eq_getElem hi]
  by_cases hy : y = j
  ·subst hy; simp [hj]
  ·simp [hy, List.getElem?_set_ne (Ne.symm hy)]
 ·rw [List.getElem?_set_ne (Ne.symm hx)]; simp [hx]
def rowF (r : List Bool) : Nat := (r.filter fun b => !b).length
def cntF : List (List Bool) → Nat
 | [] => 0
 | r :: K => rowF r + cntF K
theorem Xzw : ∀ (r : List Bool) (j : Nat) (h : j < r.length), r[j] = false → rowF (r.set j true) < rowF r
 | [], j, h, _ => by cases h
 | b :: r, 0, _, hb => by
  have : b = false := hb
  subst this
  simp [rowF]
 | b :: r, j + 1, h, hb => by
  have := Xzw r j (by simpa using h) hb
  cases b <;> simp [rowF] at this ⊢ <;> omega
theorem Xzx : ∀ (K : List (List Bool)) (i : Nat) (h : i < K.length) (r : List Bool), rowF r < rowF K[i] → cntF (K.set i r) < cntF K
 | [], i, h, _, _ => by cases h
 | q :: K, 0, _, r, hr => by simp [cntF] at hr ⊢; omega
 | q :: K, i + 1, h, r, hr => by
  have := Xzx K i (by simpa using h) r hr
  simp [cntF]; omega
theorem Xzy {K : List (List Bool)} {i j : Nat} (hi : i < K.length) (hj : j < K[i].length) (h : get K i j = false) : cntF (K.set i (K[i].set j true)) < cntF K :=
 Xzx K i hi _ (Xzw _ j hj (by rw [← Xhh hi hj]; exact h))
def Square (n : Nat) (K : List (List Bool)) : Prop := K.length = n ∧ ∀ i (h : i < K.length), K[i].length = n
theorem Square.set {n : Nat} {K : List (List Bool)} (h : Square n K) {i j : Nat} (hi : i < K.length) : Square n (K.set i (K[i].set j true)) := by
 refine ⟨by simp [h.1], fun x hx => ?_⟩
 by_cases hxi : x = i
 ·subst hxi; simp [h.2 x hi]
 ·rw [List.getElem_set_ne (Ne.symm hxi)]; exact h.2 x (by simpa using hx)
theorem Xss (n : Nat) : Square n (List.replicate n (List.replicate n false)) := ⟨by simp, fun i h => by simp⟩
theorem Xzz (n i j : Nat) : get (List.replicate n (List.replicate n false)) i j = false := by
 unfold get
 simp only [List.getD_eq_getElem?_getD, List.getElem?_replicate]
 split
 ·simp only [Option.getD_some, List.getElem?_replicate]; split <;> rfl
 ·rfl
def Rule (K : List (List Bool)) (i p j : Nat) : Prop := (j = p ∨ get K p j = true) → get K i j = true
def Xst (L : List Commit) (K : List (List Bool)) (i : Nat) (q : ID) : Prop := ∀ p, (cids L).findIdx? (fun x => decide (x = q)) = some p → ∀ j, j < L.length → Rule K i p j
def Xwz (L : List Commit) (K : List (List Bool)) : Prop := ∀ i j, get K i j = true → Xdc L i j
structure KnowsR (L : List Commit) (K : List (List Bool)) : Prop where
 square : Square L.length K
 iff : ∀ i j, get K i j = true ↔ Xdc L i j
abbrev Xvk (L : List Commit) := { y : List (List Bool) × Option Addr × Nat // KnowsR L y.1 }
theorem Xz0 {L : List Commit} {K : List (List Bool)} (h1 : Square L.length K) (h2 : Xwz L K) (h3 : ∀ i (hi : i < L.length), ∀ q ∈ (L[i]).parents, Xst L K i q) : KnowsR L K := by
 refine ⟨h1, fun i j => ⟨h2 i j, fun hk => ?_⟩⟩
 have : (get K i j = true ∧ j < L.length) := by
  refine Xwr (K := fun i j => get K i j = true ∧ j < L.length) (fun i p hs => ?_) hk
  obtain ⟨hi, q, hq, hat⟩ := id hs
  have hp := (Xid hs).2
  exact ⟨⟨h3 i hi q hq p hat p hp (.inl rfl), hp⟩, fun j hj => ⟨h3 i hi q hq p hat j hj.2 (.inr hj.1), hj.2⟩⟩
 exact this.1
theorem Xsu (a d : Option Addr) (k m : Nat) (L : List Commit) (h : (sl a k L).holds F w) (h' : (sl d m (cids L)).holds F w) (hl : L.length ≤ 1000) (hf : ∀ x ∈ L, x.parents.length ≤ 1000) :
  Gives prog 129 [.slice a L.length k, .slice d (cids L).length m] w F (fun y : Xvk L => .slice y.1.2.1 y.1.1.length y.1.2.2) (fun y => [.st (sl y.1.2.1 y.1.2.2 y.1.1)]) := by
 refine Xaa func129 rfl ntmps129 rfl rfl [.st (sl a k L), .st (sl d m (cids L))] (.start2 h h') ?_
 refine wz4 ?_
 refine JC.buf_nil (α := RowP) 162 ?_
 refine JC.more (Γ' := [.res (Xda 4 [] []), .res (buf (α := RowP) none 0 162 []), .st (sl a k L), .st (sl d m (cids L))]) (fun w1 ho => (ho.res (R := Xda 4 [] []) (fun k hk => by obtain ⟨r, hr, _⟩ := hk; cases hr) ⟨List.nodup_nil, rfl, fun i hi => by cases hi⟩).ent) ?_
 refine Xb7 (fun (i : Nat) (B : List RowP) r s => [(0, .slice a L.length k), (1, .slice d (cids L).length m), (5, .slice r B.length s), (6, .int .i64 (i : Int))])
  (fun i B r s => [.res (Xda 4 B (List.replicate i (List.replicate L.length false))), .res (buf r s 162 B), .st (sl a k L), .st (sl d m (cids L))])
  (fun i B _ _ => i ≤ L.length ∧ B.length = i ∧ ∀ x ∈ B, x.n = L.length) (fun i _ _ _ => L.length - i) 0 [] none 0 ⟨Nat.zero_le _, rfl, by simp⟩ (by rw [List.replicate_zero]; infer_instance) ?_
 intro i B r s ⟨hi, hBl, hBn⟩
 refine wz11 ?_
 refine JC.test (fun hlt => ?_) (fun hge => ?_)
 ·have hlt' : i < L.length := by omega
  refine wA ?_
  refine Xsr rfl rfl (by omega) ?_
  intro bn
  (repeat (refine wE ?_; intro _)); refine wA ?_
  refine Xai (u := RowP.mk bn L.length) rfl (by exact ⟨rfl, rfl, by decide⟩) (by omega) ?_
  intro r2 s2
  refine JO.more (Γ' := [.res (Xda 4 (B ++ [⟨bn, L.length⟩]) (List.replicate (i + 1) (List.replicate L.length false))), .res (buf r2 s2 162 (B ++ [⟨bn, L.length⟩])), .st (sl a k L), .st (sl d m (cids L))]) (fun w1 ho => ?_) ?_
  ·have h1 : Hold _ _ (.own bn 4 ((List.replicate L.length false).map Value.bool) :: .res (Xda 4 B (List.replicate i (List.replicate L.length false))) :: .res (buf r2 s2 162 (B ++ [⟨bn, L.length⟩])) :: [.st (sl a k L), .st (sl d m (cids L))]) w1 := ho.ent
   have h2 := h1.addRow
   rw [List.length_replicate, ← List.replicate_succ'] at h2
   exact h2
  refine wz2 ?_
  refine ⟨i + 1, B ++ [⟨bn, L.length⟩], r2, s2, ⟨by omega, by simp [hBl], fun x hx => ?_⟩, by omega, iI⟩
  rcases List.mem_append.1 hx with hx | hx
  ·exact hBn x hx
  ·simp only [List.mem_singleton] at hx; subst hx; rfl
 obtain rfl : i = L.length := by omega
 obtain ⟨K0, hK0⟩ : ∃ K0, K0 = List.replicate L.length (List.replicate L.length false) := ⟨_, rfl⟩
 have hs0 : Square L.length K0 := hK0 ▸ Xss _
 have hd0 : Xwz L K0 := fun i j hg => by rw [hK0, Xzz] at hg; cases hg
 rw [← hK0]
 refine wA ?_
 refine Xcz (fun (K : List (List Bool)) (m_ : Bool) => [(0, .slice a L.length k), (1, .slice d (cids L).length m), (5, .slice r B.length s), (7, .bool m_)]) (fun K m_ => [.res (buf r s 162 B), .res (Xda 4 B K), .st (sl a k L), .st (sl d m (cids L))])
  (fun K m_ => Square L.length K ∧ Xwz L K ∧ (m_ = false → ∀ i (hi : i < L.length), ∀ q ∈ (L[i]).parents, Xst L K i q)) (fun K m_ => 2 * cntF K + (if m_ then 1 else 0)) K0 true ⟨hs0, hd0, fun h => by cases h⟩ iI ?_
 intro K m_ ⟨hsq, hsd, hrl⟩
 cases m_ with
 | false =>
  have hR := Xz0 hsq hsd (hrl rfl)
  refine JC.more (Γ' := [.st (sl r s K)]) (fun w1 ho => ?_) ?_
  ·have h1 : Hold _ _ (.res (buf r s 162 B) :: [.res (Xda 4 B K)]) w1 := ho.ent
   have h2 : Hold _ _ (.res (Xda 4 B K) :: [.st (sl r s B)]) w1 := (h1.pub).ent
   have h3 := h2.pubRows
   have h4 := h3.add (A := sl r s K) (X4g (h3.get (A := sl r s B)) (h3.get (A := X4f 4 B K)) (fun x hx => by obtain ⟨i, hi, rfl⟩ := List.getElem_of_mem hx; rw [hsq.2 i hi]; omega))
   exact h4.ent
  refine JC.reslot 5 (.slice r K.length s) (by rw [hBl, hsq.1]) ?_
  refine wA ?_
  exact Xab (Y := Xvk L) ⟨(K, r, s), hR⟩ rfl
 | true =>
  refine wz1 ?_
  refine Xby (fun (i : Nat) (K1 : List (List Bool)) (m1 : Bool) => [(0, .slice a L.length k), (1, .slice d (cids L).length m), (5, .slice r B.length s), (7, .bool m1), (8, .int .i64 (i : Int))]) (fun i K1 m1 => [.res (buf r s 162 B), .res (Xda 4 B K1), .st (sl a k L), .st (sl d m (cids L))])
   (fun i K1 m1 => i ≤ L.length ∧ Square L.length K1 ∧ Xwz L K1 ∧ (m1 = true → cntF K1 < cntF K) ∧ (m1 = false → K1 = K ∧ ∀ x (hx : x < L.length), x < i → ∀ q ∈ (L[x]).parents, Xst L K x q)) (fun i _ _ => L.length - i) 0 K false
   ⟨Nat.zero_le _, hsq, hsd, (fun h => by cases h), fun _ => ⟨rfl, fun x hx h => by omega⟩⟩ iI ?_
  intro i K1 m1 ⟨hi, hsq1, hsd1, hm1, hr1⟩
  refine wz11 ?_
  refine JC.test (fun hlt => ?_) (fun hge => ?_)
  ·have hlt' : i < L.length := by omega
   have hpf := hf _ (List.getElem_mem hlt')
   refine wz7 ?_
   refine Xby (fun (y : Nat) (K2 : List (List Bool)) (m2 : Bool) => [(0, .slice a L.length k), (1, .slice d (cids L).length m), (5, .slice r B.length s), (7, .bool m2), (8, .int .i64 (i : Int)), (9, .int .i64 (y : Int))]) (fun y K2 m2 => [.res (buf r s 162 B), .res (Xda 4 B K2), .st (sl a k L), .st (sl d m (cids L))])
    (fun y K2 m2 => y ≤ (L[i]).parents.length ∧ Square L.length K2 ∧ Xwz L K2 ∧ (m2 = true → cntF K2 < cntF K) ∧ (m2 = false → K2 = K ∧ (∀ x (hx : x < L.length), x < i → ∀ q ∈ (L[x]).parents, Xst L K x q) ∧ ∀ q ∈ (L[i]).parents.take y, Xst L K i q))
    (fun y _ _ => (L[i]).parents.length - y) 0 K1 m1 ⟨Nat.zero_le _, hsq1, hsd1, hm1, fun h => ⟨(hr1 h).1, (hr1 h).2, by simp⟩⟩ iI ?_
   intro y K2 m2 ⟨hy, hsq2, hsd2, hm2, hr2⟩
   refine wz14 ?_
   refine Xaf rfl hlt' ?_
   intro b1 o1 p1 q1
   refine wz11 ?_
   refine JC.test (fun hlty => ?_) (fun hgey => ?_)
   ·have hly : y < (L[i]).parents.length := by omega
    refine wz14 ?_
    refine Xaf rfl hlt' ?_
    intro b2 o2 p2 q2
    refine wz6 ?_
    refine Xa9 (L := (L[i]).parents) rfl hly ?_
    intro b3 o3
    refine wz6 ?_
    refine JR.callV rfl (fun w1 hw => Xso w1 _ d m (cids L) ((L[i]).parents[y]) hw.get) ?_
    refine wz4 ?_
    cases hat : (cids L).findIdx? (fun x => decide (x = (L[i]).parents[y])) with
    | none =>
     have hrp : Xst L K i ((L[i]).parents[y]) := fun p hp => by rw [hat] at hp; cases hp
     refine JC.reslot 10 (.int .i64 (-1)) (by simp [atI, hat]) ?_
     refine Xap (fun (_ : Unit) => [(0, .slice a L.length k), (1, .slice d (cids L).length m), (5, .slice r B.length s), (7, .bool m2), (8, .int .i64 (i : Int)), (9, .int .i64 (y : Int)), (10, .int .i64 (-1)), (11, .int .i64 0)]) (fun _ => [.res (buf r s 162 B), .res (Xda 4 B K2), .st (sl a k L), .st (sl d m (cids L))]) (fun _ => True) (fun _ => 0) () trivial iI ?_
     intro _ _
     refine wX ?_
     refine ⟨y + 1, K2, m2, ⟨by omega, hsq2, hsd2, hm2, fun h => ⟨(hr2 h).1, (hr2 h).2.1, fun q hq => ?_⟩⟩, by omega, iI⟩
     rcases (Xa0 hly).1 hq with hq | rfl
     ·exact (hr2 h).2.2 q hq
     ·exact hrp
    | some p =>
     have hstep : Xim L i p := ⟨hlt', _, List.getElem_mem hly, hat⟩
     have hpl := (Xid hstep).2
     refine JC.reslot 10 (.int .i64 (p : Int)) (by simp [atI, hat]) ?_
     refine Xby (fun (j : Nat) (K3 : List (List Bool)) (m3 : Bool) => [(0, .slice a L.length k), (1, .slice d (cids L).length m), (5, .slice r B.length s), (7, .bool m3), (8, .int .i64 (i : Int)), (9, .int .i64 (y : Int)), (10, .int .i64 (p : Int)), (11, .int .i64 (j : Int))]) (fun j K3 m3 => [.res (buf r s 162 B), .res (Xda 4 B K3), .st (sl a k L), .st (sl d m (cids L))])
      (fun j K3 m3 => j ≤ L.length ∧ Square L.length K3 ∧ Xwz L K3 ∧ (m3 = true → cntF K3 < cntF K) ∧ (m3 = false → K3 = K ∧ (∀ x (hx : x < L.length), x < i → ∀ q ∈ (L[x]).parents, Xst L K x q) ∧ (∀ q ∈ (L[i]).parents.take y, Xst L K i q) ∧ ∀ z, z < j → Rule K i p z))
      (fun j _ _ => L.length - j) 0 K2 m2 ⟨Nat.zero_le _, hsq2, hsd2, hm2, fun h => ⟨(hr2 h).1, (hr2 h).2.1, (hr2 h).2.2, fun z hz => by omega⟩⟩ iI ?_
     intro j K3 m3 ⟨hj, hsq3, hsd3, hm3, hr3⟩
     refine wA ?_
     refine JC.test (fun hltj => ?_) (fun hgej => ?_)
     ·have hjl : j < L.length := by omega
      have hBne : B ≠ [] := by
       intro e; subst e; simp at hBl; omega
      refine JC.pure (fun w1 ho => Xut (ho.sat (.res (buf r s 162 B)) (by simp)) hBne) ?_
      rintro ⟨bb, rfl⟩
      have hBi : i < B.length := by omega
      have hBp : p < B.length := by omega
      have hKi : i < K3.length := by rw [hsq3.1]; exact hlt'
      have hKp : p < K3.length := by rw [hsq3.1]; exact hpl
      have hji : j < K3[i].length := by rw [hsq3.2 i hKi]; exact hjl
      have hjp : j < K3[p].length := by rw [hsq3.2 p hKp]; exact hjl
      have hBin : B[i].n = L.length := hBn _ (List.getElem_mem hBi)
      have hBpn : B[p].n = L.length := hBn _ (List.getElem_mem hBp)
      have hle : cntF K3 ≤ cntF K := by
       cases m3 with
       | true => have := hm3 rfl; omega
       | false => rw [(hr3 rfl).1]; exact Nat.le_refl _
      refine wz14 ?_
      refine Wf (Xbr (k := i) hBi) rfl ?_
      refine We rfl ?_
      refine Wf (Xhb (k := i) hBi (by omega) rfl) rfl ?_
      refine JO.reslot 64 (.slice (some ⟨B[i].b, 0, none⟩) L.length L.length) (by rw [hBin]) ?_
      refine wz6 ?_
      refine Wf (Xbr (k := j) hjl) rfl ?_
      refine We rfl ?_
      refine Wf (Xo7 (k := i) (j := j) hBi hKi hji rfl (by omega) rfl) rfl ?_
      refine JO.reslot 67 (.bool (get K3 i j)) (by rw [Xhh hKi hji]) ?_
      cases hgij : get K3 i j with
      | true =>
       refine wX ?_
       refine ⟨j + 1, K3, m3, ⟨by omega, hsq3, hsd3, hm3, fun h => ⟨(hr3 h).1, (hr3 h).2.1, (hr3 h).2.2.1, fun z hz => ?_⟩⟩, by omega, iI⟩
       by_cases hze : z = j
       ·subst hze; intro _; rw [← (hr3 h).1]; exact hgij
       ·exact (hr3 h).2.2.2 z (by omega)
      | false =>
       refine wX ?_
       refine JO.test 73 (fun he => ?_) (fun hnp => ?_)
       ·have hkn : Xdc L i j := by
         have : j = p := by omega
         subst this; exact .single hstep
        refine wz8 ?_
        refine Wf (Xbr (k := i) hBi) rfl ?_
        refine We rfl ?_
        refine Wf (Xhb (k := i) hBi (by omega) rfl) rfl ?_
        refine JO.reslot 86 (.slice (some ⟨B[i].b, 0, none⟩) L.length L.length) (by rw [hBin]) ?_
        refine wz6 ?_
        refine Wf (Xbr (k := j) hjl) rfl ?_
        refine We rfl ?_
        refine Xsq (k := i) (j := j) hBi hKi hji rfl (by omega) rfl ?_
        refine wz2 ?_
        refine ⟨j + 1, K3.set i (K3[i].set j true), true, ⟨by omega, hsq3.set hKi, fun x z hg => ?_, fun _ => Nat.lt_of_lt_of_le (Xzy hKi hji hgij) hle, fun h => by cases h⟩, by omega, iI⟩
        rw [Xzv hKi hji] at hg
        split at hg
        ·rename_i hxz; obtain ⟨rfl, rfl⟩ := hxz; exact hkn
        ·exact hsd3 x z hg
       ·refine wz6 ?_
        refine Wf (Xbr (k := p) hBp) rfl ?_
        refine We rfl ?_
        refine Wf (Xhb (k := p) hBp (by omega) rfl) rfl ?_
        refine JO.reslot 77 (.slice (some ⟨B[p].b, 0, none⟩) L.length L.length) (by rw [hBpn]) ?_
        refine wz6 ?_
        refine Wf (Xbr (k := j) hjl) rfl ?_
        refine We rfl ?_
        refine Wf (Xo7 (k := p) (j := j) hBp hKp hjp rfl (by omega) rfl) rfl ?_
        refine JO.reslot 80 (.bool (get K3 p j)) (by rw [Xhh hKp hjp]) ?_
        cases hgpj : get K3 p j with
        | true =>
         have hkn : Xdc L i j := Relation.TransGen.trans (.single hstep) (hsd3 p j hgpj)
         refine wz8 ?_
         refine Wf (Xbr (k := i) hBi) rfl ?_
         refine We rfl ?_
         refine Wf (Xhb (k := i) hBi (by omega) rfl) rfl ?_
         refine JO.reslot 86 (.slice (some ⟨B[i].b, 0, none⟩) L.length L.length) (by rw [hBin]) ?_
         refine wz6 ?_
         refine Wf (Xbr (k := j) hjl) rfl ?_
         refine We rfl ?_
         refine Xsq (k := i) (j := j) hBi hKi hji rfl (by omega) rfl ?_
         refine wz2 ?_
         refine ⟨j + 1, K3.set i (K3[i].set j true), true, ⟨by omega, hsq3.set hKi, fun x z hg => ?_, fun _ => Nat.lt_of_lt_of_le (Xzy hKi hji hgij) hle, fun h => by cases h⟩, by omega, iI⟩
         rw [Xzv hKi hji] at hg
         split at hg
         ·rename_i hxz; obtain ⟨rfl, rfl⟩ := hxz; exact hkn
         ·exact hsd3 x z hg
        | false =>
         refine wX ?_
         refine ⟨j + 1, K3, m3, ⟨by omega, hsq3, hsd3, hm3, fun h => ⟨(hr3 h).1, (hr3 h).2.1, (hr3 h).2.2.1, fun z hz => ?_⟩⟩, by omega, iI⟩
         by_cases hze : z = j
         ·subst hze
          rintro (h1 | h1)
          ·exact (hnp (by omega)).elim
          ·rw [← (hr3 h).1, hgpj] at h1; cases h1
         ·exact (hr3 h).2.2.2 z (by omega)
     ·obtain rfl : j = L.length := by omega
      refine wz12 ?_
      refine ⟨y + 1, K3, m3, ⟨by omega, hsq3, hsd3, hm3, fun h => ⟨(hr3 h).1, (hr3 h).2.1, fun q hq => ?_⟩⟩, by omega, iI⟩
      rcases (Xa0 hly).1 hq with hq | rfl
      ·exact (hr3 h).2.2.1 q hq
      ·intro p' hp' z hz
       rw [hat] at hp'
       injection hp' with hp'
       subst hp'
       exact (hr3 h).2.2.2 z hz
   ·have hye : y = (L[i]).parents.length := by omega
    refine wz12 ?_
    refine ⟨i + 1, K2, m2, ⟨by omega, hsq2, hsd2, hm2, fun h => ⟨(hr2 h).1, fun x hx hxi => ?_⟩⟩, by omega, iI⟩
    by_cases hxe : x = i
    ·subst hxe
     have := (hr2 h).2.2
     rwa [hye, List.take_length] at this
    ·exact (hr2 h).2.1 x hx (by omega)
  ·obtain rfl : i = L.length := by omega
   refine wz12 ?_
   refine ⟨K1, m1, ⟨hsq1, hsd1, fun h x hx => ?_⟩, ?_, iI⟩
   ·have := (hr1 h).2 x hx hx
    rw [(hr1 h).1]; exact this
   ·cases m1 with
    | true => have := hm1 rfl; simp; omega
    | false => rw [(hr1 rfl).1]; simp
section
variable {P : Program} {n : Nn} {w0 : World} {F : Nat → Prop} {ops : Array Oper} {i d : Nat} {t : TypeId} {pos : String} {aft : Array Edge} {g : Option (Nat × Bool)} {os : List Oper} {Q : Cont} {e : E} {Γ : List Fact}
theorem Xja [Dr] {x ix : Operand} {v : Value} {L : List (List Bool)} {kk : IntKind} {j : Int} {k : Nat} {ty el : TypeId} {sz by_ eb : Nat} {z ez : Value} {ed : TypeDesc}
  [hx : Ev e x v] [hL : HasSl Γ v (List Bool) iI L] [hi : Ev e ix (.int kk j)] [hk : NatI j k] [hT : Ty P ty (.slice el) sz by_ z] [hE : Ty P el ed 1 eb ez] (hd : Nat.blt d n.s = true) (h : k < L.length)
  (K : ∀ b o p q, JO P n w0 F ops (i + 1) os Q ((d, .pointer (some ⟨b, o, none⟩)) :: e) (.st (ro b o [.slice p (L[k]'h).length q]) :: .st (sl p q (L[k]'h)) :: Γ)) :
  JR P n w0 F ops i ⟨some d, .indexAddr ty x ix, t, pos, aft, g⟩ os Q e Γ := JR.index hd rfl h fun b o (y : Option Addr × Nat) => K b o y.1 y.2
theorem Xo8 [Dr] {c : Code} (v : Value) {L : List (List Bool)} (k : Nat) [hL : HasSl Γ v (List Bool) iI L] (h : k < L.length)
  (K : ∀ b o p q, JC P n w0 F c Q e (.st (elA v k 1 b o) :: .st (ro b o [.slice p (L[k]'h).length q]) :: .st (sl p q (L[k]'h)) :: Γ)) : JC P n w0 F c Q e Γ :=
 JC.open_ k hL h fun b o (y : Option Addr × Nat) => K b o y.1 y.2
end
theorem X2e {L : List Commit} {p : ID} {x : Nat} (h : (cids L).findIdx? (fun y => decide (y = p)) = some x) (hx : x < L.length) : Xd4 L p = L[x].gen := by
 obtain ⟨h1, h2, h3⟩ := List.findIdx?_eq_some_iff_getElem.1 h
 rw [Xbm] at h2
 have hf : L.find? (fun c => decide (idC c = p)) = some L[x] := by
  rw [List.find?_eq_some_iff_getElem]
  refine ⟨h2, x, hx, rfl, fun j hj => ?_⟩
  have := h3 j hj
  rw [Xbm] at this
  simpa using this
 unfold Xd4
 rw [hf]
abbrev Xsv (L : List Commit) (i : Nat) := { b : Bool // b = true ↔ oneI L i }
theorem Xk6 {L : List Commit} {i : Nat} (hi : i < L.length) {p : ID} (hp : p ∈ L[i].parents) (h : p ∉ cids L) : false = true ↔ oneI L i :=
 ⟨fun h => (Bool.noConfusion h), fun ⟨_, h1, _⟩ => (h (h1 p hp)).elim⟩
theorem Xlp {L : List Commit} {i x y : Nat} (h1 : Xim L i x) (h2 : Xim L i y) (h : Xdc L x y) : false = true ↔ oneI L i :=
 ⟨fun h => (Bool.noConfusion h), fun ⟨_, _, h3, _⟩ => (h3 x y h1 h2 h).elim⟩
theorem X4h (a d e : Option Addr) (k m n : Nat) (L : List Commit) (K : List (List Bool)) (i : Nat) (hi : i < L.length) (h : (sl a k L).holds F w) (h' : (sl d m (cids L)).holds F w) (h2 : (sl e n K).holds F w) (hK : KnowsR L K)
  (hl : L.length ≤ 1000) (hp : (L[i]).parents.length ≤ 1000) (hg : ∀ c ∈ L, 1 ≤ c.gen ∧ c.gen ≤ 1048576) :
  Gives prog 131 [.slice a L.length k, .slice d (cids L).length m, .slice e K.length n, .int .i64 (i : Int)] w F (fun y : Xsv L i => .bool y.1) (fun _ => []) := by
 refine Xaa func131 rfl ntmps131 rfl rfl [.st (sl a k L), .st (sl d m (cids L)), .st (sl e n K)] (.start3 h h' h2) ?_
 refine wz10 ?_
 refine Xaf rfl hi ?_
 intro b1 o1 p1 q1
 (repeat (refine wE ?_; intro _)); refine wA ?_
 rename_i bc
 refine Xcz (fun (y : Nat) (g : Int) => [(0, .slice a L.length k), (1, .slice d (cids L).length m), (2, .slice e K.length n), (10, .pointer (some ⟨bc, 0, none⟩)), (9, .int .i64 g), (11, .int .i64 (y : Int))]) (fun y g => [.own bc 29 [.int .i64 (L[i]).ev.node, .int .i64 (L[i]).ev.seq, .int .i64 (L[i]).gen, .slice p1 (L[i]).parents.length q1, .int .i64 (L[i]).op.kind, .string (L[i]).op.key, .string (L[i]).op.elem, .int .i64 (L[i]).op.n], .st (sl a k L), .st (sl d m (cids L)), .st (sl e n K), .st (sl p1 q1 (L[i]).parents)])
  (fun y g => y ≤ (L[i]).parents.length ∧ g = Xeu L ((L[i]).parents.take y) ∧ 0 ≤ g ∧ g ≤ 1048576 ∧ (∀ q ∈ (L[i]).parents.take y, q ∈ cids L) ∧
   ∀ q ∈ (L[i]).parents.take y, ∀ u, (cids L).findIdx? (fun x => decide (x = q)) = some u → ∀ q2 ∈ (L[i]).parents, ∀ v, (cids L).findIdx? (fun x => decide (x = q2)) = some v → ¬ Xdc L u v)
  (fun y _ => (L[i]).parents.length - y) 0 0 ⟨Nat.zero_le _, by simp [Xeu], by decide, by decide, by simp, by simp⟩ iI ?_
 intro y g ⟨hy, hgm, hg0, hg1, hin, hpr⟩
 refine wz11 ?_
 refine JC.test (fun hlty => ?_) (fun hgey => ?_)
 ·have hly : y < (L[i]).parents.length := by omega
  refine wz1 ?_
  refine Xa9 (L := (L[i]).parents) rfl hly ?_
  intro b2 o2
  refine wz6 ?_
  refine JR.callV rfl (fun w1 hw => Xso w1 _ d m (cids L) ((L[i]).parents[y]) hw.get) ?_
  cases hat : (cids L).findIdx? (fun u => decide (u = (L[i]).parents[y])) with
  | none =>
   refine JO.reslot 32 (.int .i64 (-1)) (by simp [atI, hat]) ?_
   refine wX ?_
   exact Xab (Y := Xsv L i) ⟨false, Xk6 hi (List.getElem_mem hly) (Xk4.1 hat)⟩ rfl
  | some x =>
   have hsx : Xim L i x := ⟨hi, _, List.getElem_mem hly, hat⟩
   have hxl := (Xid hsx).2
   have hgx := hg _ (List.getElem_mem hxl)
   have hga := X2e hat hxl
   refine JO.reslot 32 (.int .i64 (x : Int)) (by simp [atI, hat]) ?_
   refine wz2 ?_
   refine Xaf (L := L) (k := x) rfl hxl ?_
   intro b3 o3 p3 q3
   refine wX ?_
   refine JC.test (fun hgt => ?_) (fun hgt => ?_)
   ·refine wz14 ?_
    refine Xaf (L := L) (k := x) rfl hxl ?_
    intro b4 o4 p4 q4
    refine wz1 ?_
    obtain ⟨g2, hg2⟩ : ∃ g2, g2 = Xeu L ((L[i]).parents.take (y + 1)) ∧ g2 = L[x].gen := ⟨L[x].gen, by rw [List.take_succ_eq_append_getElem hly, Xi8, ← hgm, hga]; omega, rfl⟩
    rw [← hg2.2]
    refine Xap (fun (z : Nat) => [(0, .slice a L.length k), (1, .slice d (cids L).length m), (2, .slice e K.length n), (10, .pointer (some ⟨bc, 0, none⟩)), (9, .int .i64 g2), (11, .int .i64 (y : Int)), (12, .int .i64 (x : Int)), (13, .int .i64 (z : Int))]) (fun z => [.own bc 29 [.int .i64 (L[i]).ev.node, .int .i64 (L[i]).ev.seq, .int .i64 (L[i]).gen, .slice p1 (L[i]).parents.length q1, .int .i64 (L[i]).op.kind, .string (L[i]).op.key, .string (L[i]).op.elem, .int .i64 (L[i]).op.n], .st (sl a k L), .st (sl d m (cids L)), .st (sl e n K), .st (sl p1 q1 (L[i]).parents)])
     (fun z => z ≤ (L[i]).parents.length ∧ (∀ q ∈ (L[i]).parents.take z, ∀ v, (cids L).findIdx? (fun u => decide (u = q)) = some v → ¬ Xdc L x v)) (fun z => (L[i]).parents.length - z) 0 ⟨Nat.zero_le _, by simp⟩ iI ?_
    intro z ⟨hz, hpair⟩
    refine wz11 ?_
    refine JC.test (fun hltz => ?_) (fun hgez => ?_)
    ·have hlz : z < (L[i]).parents.length := by omega
     refine wz1 ?_
     refine Xa9 (L := (L[i]).parents) rfl hlz ?_
     intro b5 o5
     refine wz6 ?_
     refine JR.callV rfl (fun w1 hw => Xso w1 _ d m (cids L) ((L[i]).parents[z]) hw.get) ?_
     cases hatz : (cids L).findIdx? (fun u => decide (u = (L[i]).parents[z])) with
     | none =>
      refine JO.reslot 60 (.int .i64 (-1)) (by simp [atI, hatz]) ?_
      refine wX ?_
      exact Xab (Y := Xsv L i) ⟨false, Xk6 hi (List.getElem_mem hlz) (Xk4.1 hatz)⟩ rfl
     | some v =>
      have hsv : Xim L i v := ⟨hi, _, List.getElem_mem hlz, hatz⟩
      have hvl := (Xid hsv).2
      have hKx : x < K.length := by rw [hK.square.1]; exact hxl
      have hKxl : K[x].length = L.length := hK.square.2 x hKx
      refine JO.reslot 60 (.int .i64 (v : Int)) (by simp [atI, hatz]) ?_
      refine wz2 ?_
      refine Xja (L := K) (k := x) rfl hKx ?_
      intro b6 o6 p6 q6
      refine wz6 ?_
      refine Xho (L := K[x]) (k := v) rfl (by omega) ?_
      intro b7 o7
      refine wz11 ?_
      refine JC.test (fun hkv => ?_) (fun hkv => ?_)
      ·have hk2 : Xdc L x v := (hK.iff x v).1 (by rw [Xhh hKx (by omega)]; exact hkv)
       refine wz5 ?_
       exact Xab (Y := Xsv L i) ⟨false, Xlp hsx hsv hk2⟩ rfl
      ·have hk2 : ¬ Xdc L x v := fun hk => by
        have := (hK.iff x v).2 hk
        rw [Xhh hKx (by omega)] at this
        exact hkv this
       refine wz2 ?_
       refine ⟨z + 1, ⟨by omega, fun q hq v' hv' => ?_⟩, by omega, iI⟩
       rcases (Xa0 hlz).1 hq with hq | rfl
       ·exact hpair q hq v' hv'
       ·rw [hatz] at hv'
        injection hv' with hv'
        subst hv'; exact hk2
    ·have hze : z = (L[i]).parents.length := by omega
     rw [hze, List.take_length] at hpair
     refine wz12 ?_
     refine ⟨y + 1, g2, ⟨by omega, hg2.1, by omega, by omega, fun q hq => ?_, fun q hq u hu q2 hq2 v hv => ?_⟩, by omega, iI⟩
     ·rcases (Xa0 hly).1 hq with hq | rfl
      ·exact hin q hq
      ·exact Classical.byContradiction fun hn => by rw [Xk4.2 hn] at hat; cases hat
     ·rcases (Xa0 hly).1 hq with hq | rfl
      ·exact hpr q hq u hu q2 hq2 v hv
      ·rw [hat] at hu
       injection hu with hu
       subst hu
       exact hpair q2 hq2 v hv
   ·refine wz7 ?_
    obtain ⟨g2, hg2⟩ : ∃ g2, g2 = Xeu L ((L[i]).parents.take (y + 1)) ∧ g2 = g := ⟨g, by rw [List.take_succ_eq_append_getElem hly, Xi8, ← hgm, hga]; omega, rfl⟩
    rw [← hg2.2]
    refine Xap (fun (z : Nat) => [(0, .slice a L.length k), (1, .slice d (cids L).length m), (2, .slice e K.length n), (10, .pointer (some ⟨bc, 0, none⟩)), (9, .int .i64 g2), (11, .int .i64 (y : Int)), (12, .int .i64 (x : Int)), (13, .int .i64 (z : Int))]) (fun z => [.own bc 29 [.int .i64 (L[i]).ev.node, .int .i64 (L[i]).ev.seq, .int .i64 (L[i]).gen, .slice p1 (L[i]).parents.length q1, .int .i64 (L[i]).op.kind, .string (L[i]).op.key, .string (L[i]).op.elem, .int .i64 (L[i]).op.n], .st (sl a k L), .st (sl d m (cids L)), .st (sl e n K), .st (sl p1 q1 (L[i]).parents)])
     (fun z => z ≤ (L[i]).parents.length ∧ (∀ q ∈ (L[i]).parents.take z, ∀ v, (cids L).findIdx? (fun u => decide (u = q)) = some v → ¬ Xdc L x v)) (fun z => (L[i]).parents.length - z) 0 ⟨Nat.zero_le _, by simp⟩ iI ?_
    intro z ⟨hz, hpair⟩
    refine wz11 ?_
    refine JC.test (fun hltz => ?_) (fun hgez => ?_)
    ·have hlz : z < (L[i]).parents.length := by omega
     refine wz1 ?_
     refine Xa9 (L := (L[i]).parents) rfl hlz ?_
     intro b5 o5
     refine wz6 ?_
     refine JR.callV rfl (fun w1 hw => Xso w1 _ d m (cids L) ((L[i]).parents[z]) hw.get) ?_
     cases hatz : (cids L).findIdx? (fun u => decide (u = (L[i]).parents[z])) with
     | none =>
      refine JO.reslot 60 (.int .i64 (-1)) (by simp [atI, hatz]) ?_
      refine wX ?_
      exact Xab (Y := Xsv L i) ⟨false, Xk6 hi (List.getElem_mem hlz) (Xk4.1 hatz)⟩ rfl
     | some v =>
      have hsv : Xim L i v := ⟨hi, _, List.getElem_mem hlz, hatz⟩
      have hvl := (Xid hsv).2
      have hKx : x < K.length := by rw [hK.square.1]; exact hxl
      have hKxl : K[x].length = L.length := hK.square.2 x hKx
      refine JO.reslot 60 (.int .i64 (v : Int)) (by simp [atI, hatz]) ?_
      refine wz2 ?_
      refine Xja (L := K) (k := x) rfl hKx ?_
      intro b6 o6 p6 q6
      refine wz6 ?_
      refine Xho (L := K[x]) (k := v) rfl (by omega) ?_
      intro b7 o7
      refine wz11 ?_
      refine JC.test (fun hkv => ?_) (fun hkv => ?_)
      ·have hk2 : Xdc L x v := (hK.iff x v).1 (by rw [Xhh hKx (by omega)]; exact hkv)
       refine wz5 ?_
       exact Xab (Y := Xsv L i) ⟨false, Xlp hsx hsv hk2⟩ rfl
      ·have hk2 : ¬ Xdc L x v := fun hk => by
        have := (hK.iff x v).2 hk
        rw [Xhh hKx (by omega)] at this
        exact hkv this
       refine wz2 ?_
       refine ⟨z + 1, ⟨by omega, fun q hq v' hv' => ?_⟩, by omega, iI⟩
       rcases (Xa0 hlz).1 hq with hq | rfl
       ·exact hpair q hq v' hv'
       ·rw [hatz] at hv'
        injection hv' with hv'
        subst hv'; exact hk2
    ·have hze : z = (L[i]).parents.length := by omega
     rw [hze, List.take_length] at hpair
     refine wz12 ?_
     refine ⟨y + 1, g2, ⟨by omega, hg2.1, by omega, by omega, fun q hq => ?_, fun q hq u hu q2 hq2 v hv => ?_⟩, by omega, iI⟩
     ·rcases (Xa0 hly).1 hq with hq | rfl
      ·exact hin q hq
      ·exact Classical.byContradiction fun hn => by rw [Xk4.2 hn] at hat; cases hat
     ·rcases (Xa0 hly).1 hq with hq | rfl
      ·exact hpr q hq u hu q2 hq2 v hv
      ·rw [hat] at hu
       injection hu with hu
       subst hu
       exact hpair q2 hq2 v hv
 ·have hye : y = (L[i]).parents.length := by omega
  rw [hye, List.take_length] at hgm hin hpr
  refine wX ?_
  refine Xab (Y := Xsv L i) ⟨decide ((L[i]).gen = g + 1), ?_⟩ rfl
  rw [decide_eq_true_eq]
  constructor
  ·intro hge
   refine ⟨hi, hin, ?_, by rw [hge, hgm]⟩
   rintro u v ⟨_, q, hq, hu⟩ ⟨_, q2, hq2, hv⟩
   exact hpr q hq u hu q2 hq2 v hv
  ·rintro ⟨_, _, _, hge⟩
   rw [hge, hgm]
structure GoodI (L : List Commit) (i : Nat) : Prop where
 lt : i < L.length
 merge : merge L[i] = false
 one : oneI L i
 at_ : (cids L).findIdx? (fun x => decide (x = idC L[i])) = some i
 ev : ∀ j, j < i → evI L i j
theorem Xnk (L : List Commit) (hm : ∀ c ∈ L, may c = true) : Closed L ↔ ∀ i, i < L.length → GoodI L i := by
 rw [Xsc]
 constructor
 ·rintro ⟨_, h⟩ i hi
  obtain ⟨h1, h2, h3, h4⟩ := h i hi
  exact ⟨hi, h1, h2, h3, h4⟩
 ·intro h
  refine ⟨hm, fun i hi => ?_⟩
  have := h i hi
  exact ⟨this.merge, this.one, this.at_, this.ev⟩
theorem Xfg {L : List Commit} (hm : ∀ c ∈ L, may c = true) {i : Nat} (hi : i < L.length) (h : ¬ GoodI L i) : false = true ↔ Closed L :=
 ⟨fun h => (Bool.noConfusion h), fun hc => (h ((Xnk L hm).1 hc i hi)).elim⟩
theorem Xk7 (a : Option Addr) (k : Nat) (L : List Commit) (h : (sl a k L).holds F w) (hl : L.length ≤ 1000) (hf : ∀ x ∈ L, fine x) (hq : ∀ x ∈ L, x.parents.length ≤ 1000) :
  Gives prog 64 [.slice a L.length k] w F (fun y : Xc9 L => .bool y.1) (fun _ => []) := by
 refine Xaa func64 rfl ntmps64 rfl rfl [.st (sl a k L)] (.start1 h) ?_
 refine wz10 ?_
 refine JR.callSl rfl (fun w1 hw => Xe4 w1 _ a k L hw.get (by omega) hf) ?_
 intro d m
 refine wA ?_
 refine JC.test (fun hne => ?_) (fun heq => ?_)
 ·have hno : ¬ Closed L := fun hc => hne (by rw [Xea hc.may]; simp [cids])
  refine wz9 ?_
  exact Xab (Y := Xc9 L) ⟨false, ⟨fun h => (Bool.noConfusion h), fun hc => (hno hc).elim⟩⟩ rfl
 have hmay : ∀ c ∈ L, may c = true := by
  intro c hc
  rw [← Bool.not_eq_false]
  intro hn
  have h1 : (idsP L).length = L.length := by omega
  rw [Xj5 hc hn, List.length_nil] at h1
  have := List.length_pos_of_mem hc
  omega
 have hids := Xea hmay
 have hcl := Xa2 L
 have hgen : ∀ c ∈ L, 1 ≤ c.gen ∧ c.gen ≤ 1048576 := fun c hc => Xqg (hmay c hc)
 rw [hids]
 refine wz14 ?_
 refine JR.call1 (v := fun y : Xvk L => .slice y.1.2.1 y.1.1.length y.1.2.2) (B := fun y => .st (sl y.1.2.1 y.1.2.2 y.1.1)) rfl (fun w1 hw => Xsu w1 _ a d k m L hw.get hw.get hl hq) ?_
 rintro ⟨⟨K, e, n⟩, hK⟩
 dsimp only at hK ⊢
 refine wz4 ?_
 refine Xap (fun (i : Nat) => [(0, .slice a L.length k), (3, .slice d (cids L).length m), (4, .slice e K.length n), (5, .int .i64 (i : Int))]) (fun i => [.st (sl a k L), .st (sl d m (cids L)), .st (sl e n K)]) (fun i => i ≤ L.length ∧ ∀ x, x < i → GoodI L x) (fun i => L.length - i) 0 ⟨Nat.zero_le _, fun x hx => by omega⟩ iI ?_
 intro i ⟨hil, hgood⟩
 refine wz11 ?_
 refine JC.test (fun hlt => ?_) (fun hge => ?_)
 ·have hi : i < L.length := by omega
  have him := List.getElem_mem hi
  have hfx := hf _ him
  have hxe : (cids L)[i]'(by omega) = idC L[i] := Xbm L i (by omega)
  have hKi : i < K.length := by rw [hK.square.1]; exact hi
  have hKil : K[i].length = L.length := hK.square.2 i hKi
  refine wz14 ?_
  refine Xaf rfl hi ?_
  intro b1 o1 p1 q1
  refine wz6 ?_
  refine JR.callV rfl (fun w1 hw => Xex w1 _ (L[i]) p1 q1 hw.get hfx.1) ?_
  refine wz10 ?_
  refine JR.call (v := fun y : Xsv L i => .bool y.1) (B := fun _ => []) rfl (fun w1 hw => X4h w1 _ a d e k m n L K i hi hw.get hw.get hw.get hK hl (hq _ him) hgen) ?_
  rintro ⟨b, hb⟩
  simp only [List.nil_append]
  refine wz10 ?_
  cases hmer : merge L[i] with
  | true =>
   have hbad : ¬ GoodI L i := fun h => by have := h.merge; rw [hmer] at this; cases this
   refine wz8 ?_
   exact Xab (Y := Xc9 L) ⟨false, Xfg hmay hi hbad⟩ rfl
  | false =>
  cases b with
  | false =>
   have hbad : ¬ GoodI L i := fun h => by have := hb.2 h.one; cases this
   refine wz8 ?_
   exact Xab (Y := Xc9 L) ⟨false, Xfg hmay hi hbad⟩ rfl
  | true =>
  have hone := hb.1 rfl
  refine wz7 ?_
  refine Xa9 (L := cids L) (k := i) rfl (by omega) ?_
  intro b2 o2
  rw [hxe]
  refine wz6 ?_
  refine JR.callV rfl (fun w1 hw => Xso w1 _ d m (cids L) (idC L[i]) hw.get) ?_
  refine wX ?_
  refine JC.test (fun hat => ?_) (fun hat => ?_)
  ·have hbad : ¬ GoodI L i := fun h => hat (by rw [Xqm h.at_])
   refine wz5 ?_
   exact Xab (Y := Xc9 L) ⟨false, Xfg hmay hi hbad⟩ rfl
  have hati : (cids L).findIdx? (fun x => decide (x = idC L[i])) = some i := by
   cases hfi : (cids L).findIdx? (fun x => decide (x = idC L[i])) with
   | none =>
    rw [show atI (cids L) (idC L[i]) = -1 by simp [atI, hfi]] at hat
    omega
   | some x =>
    rw [Xqm hfi] at hat
    exact congrArg some (by omega)
  refine wz7 ?_
  refine Xap (fun (j : Nat) => [(0, .slice a L.length k), (3, .slice d (cids L).length m), (4, .slice e K.length n), (5, .int .i64 (i : Int)), (8, .int .i64 (j : Int))]) (fun j => [.st (sl a k L), .st (sl d m (cids L)), .st (sl e n K)]) (fun j => j ≤ i ∧ ∀ x, x < j → evI L i x) (fun j => i - j) 0 ⟨Nat.zero_le _, fun x hx => by omega⟩ iI ?_
  intro j ⟨hji, hev⟩
  refine wz11 ?_
  refine JC.test (fun hltj => ?_) (fun hgej => ?_)
  ·have hj : j < L.length := by omega
   have hKj : j < K.length := by rw [hK.square.1]; exact hj
   have hKjl : K[j].length = L.length := hK.square.2 j hKj
   have hnext : evI L i j → ∀ x, x < j + 1 → evI L i x := fun h x hx => by
    by_cases hxe : x = j
    ·subst hxe; exact h
    ·exact hev x (by omega)
   refine wz14 ?_
   refine Xa7 (L := L) (.slice a L.length k) i hi ?_
   intro b3 o3 p3 q3
   refine Xa7 (L := L) (.slice a L.length k) j hj ?_
   intro b4 o4 p4 q4
   refine Xa6 mixed (by kernel_rfl) ?_
   refine wQ ?_
   refine wz13 ?_
   refine JC.test (fun hnd => ?_) (fun hnd => ?_)
   ·refine wz12 ?_
    exact ⟨j + 1, ⟨by omega, hnext ⟨hi, hj, fun h => (hnd h).elim⟩⟩, by omega, iI⟩
   have hnd' : (L[i]).ev.node = (L[j]).ev.node := by simpa using hnd
   refine wz14 ?_
   refine Xo8 (L := K) (.slice e K.length n) i hKi ?_
   intro b5 o5 p5 q5
   refine Xmj (L := K[i]) (.slice p5 K[i].length q5) j (by omega) ?_
   intro b6 o6
   refine Xo8 (L := K) (.slice e K.length n) j hKj ?_
   intro b7 o7 p7 q7
   refine Xmj (L := K[j]) (.slice p7 K[j].length q7) i (by omega) ?_
   intro b8 o8
   refine Xa6 mixed (by kernel_rfl) ?_
   refine wY ?_
   by_cases hsq : (L[i]).ev.seq = (L[j]).ev.seq
   ·have hbad : ¬ GoodI L i := fun h => by
     obtain ⟨_, _, h1⟩ := h.ev j (by omega)
     exact (h1 hnd').1 hsq
    refine JQ.reslot 81 (.bool true) (congrArg Value.bool (decide_eq_true hsq)) ?_
    refine wY ?_
    refine wz8 ?_
    exact Xab (Y := Xc9 L) ⟨false, Xfg hmay hi hbad⟩ rfl
   refine JQ.reslot 81 (.bool false) (congrArg Value.bool (decide_eq_false hsq)) ?_
   refine wY ?_
   by_cases hgt : (L[j]).ev.seq < (L[i]).ev.seq
   ·refine JQ.reslot 95 (.bool true) (congrArg Value.bool (decide_eq_true hgt)) ?_
    refine wY ?_
    cases hkk : K[i][j]'(by omega) with
    | false =>
     have hbad : ¬ GoodI L i := fun h => by
      obtain ⟨_, _, h1⟩ := h.ev j (by omega)
      have := (hK.iff i j).2 ((h1 hnd').2.1 hgt)
      rw [Xhh hKi (by omega), hkk] at this
      cases this
     refine wY ?_
     refine wz8 ?_
     exact Xab (Y := Xc9 L) ⟨false, Xfg hmay hi hbad⟩ rfl
    | true =>
     have hk2 : Xdc L i j := (hK.iff i j).1 (by rw [Xhh hKi (by omega)]; exact hkk)
     refine wY ?_
     refine JQ.reslot 120 (.bool false) (congrArg Value.bool (decide_eq_false (by omega))) ?_
     refine wY ?_
     refine wz2 ?_
     exact ⟨j + 1, ⟨by omega, hnext ⟨hi, hj, fun _ => ⟨hsq, fun _ => hk2, fun h => by omega⟩⟩⟩, by omega, iI⟩
   ·refine JQ.reslot 95 (.bool false) (congrArg Value.bool (decide_eq_false hgt)) ?_
    refine wY ?_
    have hlt2 : (L[i]).ev.seq < (L[j]).ev.seq := by omega
    refine JQ.reslot 120 (.bool true) (congrArg Value.bool (decide_eq_true hlt2)) ?_
    refine wY ?_
    cases hkk : K[j][i]'(by omega) with
    | false =>
     have hbad : ¬ GoodI L i := fun h => by
      obtain ⟨_, _, h1⟩ := h.ev j (by omega)
      have := (hK.iff j i).2 ((h1 hnd').2.2 hlt2)
      rw [Xhh hKj (by omega), hkk] at this
      cases this
     skip
     refine wz8 ?_
     exact Xab (Y := Xc9 L) ⟨false, Xfg hmay hi hbad⟩ rfl
    | true =>
     have hk2 : Xdc L j i := (hK.iff j i).1 (by rw [Xhh hKj (by omega)]; exact hkk)
     skip
     refine wz2 ?_
     exact ⟨j + 1, ⟨by omega, hnext ⟨hi, hj, fun _ => ⟨hsq, fun h => by omega, fun _ => hk2⟩⟩⟩, by omega, iI⟩
  ·have hje : j = i := by omega
   subst hje
   refine wz12 ?_
   refine ⟨j + 1, ⟨by omega, fun x hx => ?_⟩, by omega, iI⟩
   by_cases hxe2 : x = j
   ·subst hxe2; exact ⟨hi, hmer, hone, hati, hev⟩
   ·exact hgood x (by omega)
 ·obtain rfl : i = L.length := by omega
  refine wz3 ?_
  exact Xab (Y := Xc9 L) ⟨true, ⟨fun _ => (Xnk L hmay).2 hgood, fun _ => rfl⟩⟩ rfl
def hitI (L : List Commit) (A : List ID) (i j : Nat) : Prop := ∃ y, ∃ hy : y < L.length, y < j ∧ idC L[y] ∈ A ∧ Xdc L y i
theorem Xz1 {L : List Commit} {A : List ID} {i : Nat} : ¬ hitI L A i 0 := fun ⟨_, _, h, _⟩ => by omega
theorem Xkb {L : List Commit} {A : List ID} {i j : Nat} (hj : j < L.length) : hitI L A i (j + 1) ↔ hitI L A i j ∨ (idC L[j] ∈ A ∧ Xdc L j i) := by
 constructor
 ·rintro ⟨y, hy, hyj, h⟩
  by_cases e : y = j
  ·subst e; exact .inr h
  ·exact .inl ⟨y, hy, by omega, h⟩
 ·rintro (⟨y, hy, hyj, h⟩ | h)
  ·exact ⟨y, hy, by omega, h⟩
  ·exact ⟨j, hj, by omega, h⟩
theorem Xz2 {L : List Commit} (hc : Closed L) {A : List ID} {i : Nat} (hi : i < L.length) : Xqh L A (idC L[i]) ↔ idC L[i] ∈ A ∨ hitI L A i L.length := by
 have hx : idC L[i] ∈ cids L := List.mem_map_of_mem (List.getElem_mem hi)
 constructor
 ·rintro ⟨_, h | ⟨y, hy, hk⟩⟩
  ·exact .inl h
  ·have hyc := (Xj2 hk).1
   obtain ⟨z, hz, hze⟩ := List.getElem_of_mem hyc
   have hz' : z < L.length := by rw [← Xa2]; exact hz
   rw [Xbm L z hz] at hze
   subst hze
   exact .inr ⟨z, hz', hz', hy, (Xd1 hc.nodup hz' hi).2 hk⟩
 ·rintro (h | ⟨z, hz, _, hA, hk⟩)
  ·exact ⟨hx, .inl h⟩
  ·exact ⟨hx, .inr ⟨_, hA, (Xd1 hc.nodup hz hi).1 hk⟩⟩
theorem X4i {L : List Commit} (hc : Closed L) {A out : List ID} (h : ∀ x, x ∈ out ↔ ∃ i, ∃ hi : i < L.length, i < L.length ∧ x = idC L[i] ∧ Xqh L A x) : AncR L A (Xcm (Xc2 out)) := by
 refine ⟨Xbz _, (Xce _).nodup_iff.2 (Xcs _), fun _ x => ?_, fun hn => (hn hc).elim⟩
 rw [Xfj, Xdi, h]
 constructor
 ·rintro ⟨_, _, _, _, h⟩; exact h
 ·intro h
  obtain ⟨i, hi, hie⟩ := List.getElem_of_mem h.1
  have hi' : i < L.length := by rw [← Xa2]; exact hi
  exact ⟨i, hi', hi', by rw [← hie, Xbm L i hi], h⟩
theorem X4j (a d : Option Addr) (k m : Nat) (L : List Commit) (A : List ID) (h : (sl a k L).holds F w) (h' : (sl d m A).holds F w) (hl : L.length ≤ 1000) (hf : ∀ x ∈ L, fine x) (hq : ∀ x ∈ L, x.parents.length ≤ 1000) :
  Gives prog 85 [.slice a L.length k, .slice d A.length m] w F (fun y : AncY L A => .slice y.1.2.1 y.1.1.length y.1.2.2) (fun y => [.st (sl y.1.2.1 y.1.2.2 y.1.1)]) := by
 refine Xaa func85 rfl ntmps85 rfl rfl [.st (sl a k L), .st (sl d m A)] (.start2 h h') ?_
 refine wz10 ?_
 refine JR.call (v := fun y : Xc9 L => .bool y.1) (B := fun _ => []) rfl (fun w1 hw => Xk7 w1 _ a k L hw.get hl hf hq) ?_
 rintro ⟨b, hb⟩
 simp only [List.nil_append]
 cases b with
 | false =>
  have hno : ¬ Closed L := fun hc => by have := hb.2 hc; cases this
  refine wz8 ?_
  exact CT.done (Y := AncY L A) ⟨([], none, 0), ⟨List.Pairwise.nil, List.nodup_nil, fun hc => (hno hc).elim, fun _ => rfl⟩⟩ rfl (fun w ho => (Hold.add (A := sl (α := ID) none 0 []) (ho.ent : Hold _ _ [] w) Xah))
 | true =>
 have hc := hb.1 rfl
 have hids := Xea hc.may
 have hcl := Xa2 L
 refine wz7 ?_
 refine JR.callSl rfl (fun w1 hw => Xe4 w1 _ a k L hw.get (by omega) hf) ?_
 intro e n
 rw [hids]
 refine wz10 ?_
 refine JR.call1 (v := fun y : Xvk L => .slice y.1.2.1 y.1.1.length y.1.2.2) (B := fun y => .st (sl y.1.2.1 y.1.2.2 y.1.1)) rfl (fun w1 hw => Xsu w1 _ a e k n L hw.get hw.get hl hq) ?_
 rintro ⟨⟨K, f, o⟩, hK⟩
 dsimp only at hK ⊢
 refine wz4 ?_
 refine JC.buf_nil (α := ID) 81 ?_
 refine Xb7 (fun (i : Nat) (out : List ID) r s => [(0, .slice a L.length k), (1, .slice d A.length m), (6, .slice e (cids L).length n), (7, .slice f K.length o), (8, .slice r out.length s), (9, .int .i64 (i : Int))])
  (fun i out r s => [.res (buf r s 81 out), .st (sl e n (cids L)), .st (sl f o K), .st (sl a k L), .st (sl d m A)])
  (fun i out r s => i ≤ L.length ∧ out.length ≤ i ∧ ∀ x, x ∈ out ↔ ∃ y, ∃ hy : y < L.length, y < i ∧ x = idC L[y] ∧ Xqh L A x) (fun i _ _ _ => L.length - i) 0 [] none 0 ⟨Nat.zero_le _, by simp, fun x => by simp⟩ iI ?_
 intro i out r s ⟨hi, hol, hom⟩
 refine wz11 ?_
 refine JC.test (fun hlt => ?_) (fun hge => ?_)
 ·have hlt' : i < L.length := by omega
  have hxe : (cids L)[i]'(by omega) = idC L[i] := Xbm L i (by omega)
  have hnx : ∀ x, (∃ y, ∃ hy : y < L.length, y < i + 1 ∧ x = idC L[y] ∧ Xqh L A x) ↔ x ∈ out ∨ (x = idC L[i] ∧ Xqh L A x) := fun x => by
   rw [hom]
   constructor
   ·rintro ⟨y, hy, hyi, h⟩
    by_cases e : y = i
    ·subst e; exact .inr h
    ·exact .inl ⟨y, hy, by omega, h⟩
   ·rintro (⟨y, hy, hyi, h⟩ | h)
    ·exact ⟨y, hy, by omega, h⟩
    ·exact ⟨i, hlt', by omega, h⟩
  refine wz14 ?_
  refine Xa9 (L := cids L) (k := i) rfl (by omega) ?_
  intro b1 o1
  rw [hxe]
  refine wz6 ?_
  refine JR.callV rfl (fun w1 hw => Xew w1 _ d m A (idC L[i]) hw.get) ?_
  refine wz4 ?_
  refine Xcz (fun (j : Nat) (b : Bool) => [(0, .slice a L.length k), (1, .slice d A.length m), (6, .slice e (cids L).length n), (7, .slice f K.length o), (8, .slice r out.length s), (9, .int .i64 (i : Int)), (10, .bool b), (11, .int .i64 (j : Int))]) (fun j b => [.res (buf r s 81 out), .st (sl e n (cids L)), .st (sl f o K), .st (sl a k L), .st (sl d m A)])
   (fun j b => j ≤ L.length ∧ (b = true ↔ idC L[i] ∈ A ∨ hitI L A i j)) (fun j _ => L.length - j) 0 (decide (idC L[i] ∈ A)) ⟨Nat.zero_le _, by rw [decide_eq_true_iff]; exact ⟨.inl, fun h => h.elim id fun h => (Xz1 h).elim⟩⟩ iI ?_
  intro j b ⟨hj, hbj⟩
  refine wz11 ?_
  refine JC.test (fun hltj => ?_) (fun hgej => ?_)
  ·have hj' : j < L.length := by omega
   have hKj : j < K.length := by rw [hK.square.1]; exact hj'
   have hKjl : K[j].length = L.length := hK.square.2 j hKj
   have hye : (cids L)[j]'(by omega) = idC L[j] := Xbm L j (by omega)
   refine wz14 ?_
   refine Xa9 (L := cids L) (k := j) rfl (by omega) ?_
   intro b2 o2
   rw [hye]
   refine wz6 ?_
   refine JR.callV rfl (fun w1 hw => Xew w1 _ d m A (idC L[j]) hw.get) ?_
   cases b with
   | true =>
    refine wX ?_
    exact ⟨j + 1, true, ⟨by omega, ⟨fun _ => (hbj.1 rfl).imp id fun h => (Xkb hj').2 (.inl h), fun _ => rfl⟩⟩, by omega, iI⟩
   | false =>
    cases hhas : decide (idC L[j] ∈ A) with
    | true =>
     have hA := of_decide_eq_true hhas
     refine wz10 ?_
     refine Xja (L := K) (k := j) rfl hKj ?_
     intro b6 o6 p6 q6
     refine wz6 ?_
     refine Xho (L := K[j]) (k := i) rfl (by omega) ?_
     intro b7 o7
     refine wX ?_
     refine ⟨j + 1, K[j][i]'(by omega), ⟨by omega, ?_⟩, by omega, iI⟩
     have h1 := hK.iff j i
     rw [Xhh hKj (by omega)] at h1
     rw [h1]
     constructor
     ·exact fun h => .inr ((Xkb hj').2 (.inr ⟨hA, h⟩))
     ·rintro (h | h)
      ·have := hbj.2 (.inl h); cases this
      ·rcases (Xkb hj').1 h with h | h
       ·have := hbj.2 (.inr h); cases this
       ·exact h.2
    | false =>
     have hA := of_decide_eq_false hhas
     refine wX ?_
     refine ⟨j + 1, false, ⟨by omega, ⟨fun h => Bool.noConfusion h, fun h => hbj.2 (Or.imp id (fun h => ?_) h)⟩⟩, by omega, iI⟩
     exact ((Xkb hj').1 h).elim id fun h => (hA h.1).elim
  ·obtain rfl : j = L.length := by omega
   have hin : Xqh L A (idC L[i]) ↔ b = true := (Xz2 hc hlt').trans hbj.symm
   refine wz3 ?_
   cases b with
   | true =>
    refine wz8 ?_
    refine Xa9 (L := cids L) (k := i) rfl (by omega) ?_
    intro b3 o3
    rw [hxe]
    (repeat (refine wE ?_; intro _)); refine wA ?_
    refine Xai (u := idC L[i]) rfl (by exact ⟨rfl, rfl, by decide⟩) (by omega) ?_
    intro r2 s2
    refine wz2 ?_
    refine ⟨i + 1, out ++ [idC L[i]], r2, s2, ⟨by omega, by simp; omega, fun x => ?_⟩, by omega, iI⟩
    rw [hnx, List.mem_append, List.mem_singleton]
    exact or_congr_right ⟨fun h => ⟨h, h ▸ hin.2 rfl⟩, fun h => h.1⟩
   | false =>
    refine wz2 ?_
    refine ⟨i + 1, out, r, s, ⟨by omega, by omega, fun x => ?_⟩, by omega, iI⟩
    rw [hnx]
    refine ⟨.inl, fun h => h.elim id fun h => ?_⟩
    have := hin.1 (h.1 ▸ h.2)
    cases this
 ·obtain rfl : i = L.length := by omega
  refine JC.more (fun w1 ho => ho.pub) ?_
  refine wz3 ?_
  refine JR.callSl rfl (fun w1 hw => Xql w1 _ r s out hw.get (by omega)) ?_
  intro p2 q2
  refine wz10 ?_
  exact Xab (Y := AncY L A) ⟨(Xcm (Xc2 out), p2, q2), X4i hc hom⟩ rfl
instance : Cell Nat where
 Ix := Unit
 sz := 1
 cells n _ := [natV n]
 facts _ _ := []
 len _ _ := rfl
 one _ _ := One.ok
 pos := by decide
instance {Γ : List Fact} {n : Nat} : Typed Γ [natV n] n := ⟨(), rfl, by simp [Cell.facts]⟩
instance {Γ : List Fact} {n : Nat} : Typed Γ [.int .i64 (n : Int)] n := ⟨(), rfl, by simp [Cell.facts]⟩
section
variable {P : Program} {n : Nn} {w0 : World} {F : Nat → Prop} {ops : Array Oper} {i d : Nat} {t : TypeId} {pos : String} {aft : Array Edge} {g : Option (Nat × Bool)} {os : List Oper} {Q : Cont} {e : E} {Γ : List Fact}
theorem Xnl [Dr] {x ix : Operand} {v : Value} {L : List Nat} {kk : IntKind} {j : Int} {k : Nat} {ty el : TypeId} {sz by_ eb : Nat} {z ez : Value} {ed : TypeDesc}
  [hx : Ev e x v] [hL : HasSl Γ v Nat iI L] [hi : Ev e ix (.int kk j)] [hk : NatI j k] [hT : Ty P ty (.slice el) sz by_ z] [hE : Ty P el ed 1 eb ez] (hd : Nat.blt d n.s = true) (h : k < L.length)
  (K : ∀ b o, JO P n w0 F ops (i + 1) os Q ((d, .pointer (some ⟨b, o, none⟩)) :: e) (.st (ro b o [.int .i64 ((L[k]'h : Nat) : Int)]) :: Γ)) :
  JR P n w0 F ops i ⟨some d, .indexAddr ty x ix, t, pos, aft, g⟩ os Q e Γ := JR.index hd rfl h fun b o _ => K b o
end
theorem Xz3 (c d : Commit) : leS c d ∨ leS d c := by
 rcases Int.lt_trichotomy c.gen d.gen with h | h | h
 ·exact .inl (.inl h)
 ·cases hx : idLt (idC d) (idC c) with
  | false => exact .inl (.inr ⟨h, hx⟩)
  | true => exact .inr (.inr ⟨h.symm, Xia hx⟩)
 ·exact .inr (.inl h)
theorem Xz4 {a b c : Commit} (h1 : leS a b) (h2 : leS b c) : leS a c := by
 rcases h1 with h1 | ⟨h1, h3⟩ <;> rcases h2 with h2 | ⟨h2, h4⟩
 ·exact .inl (by omega)
 ·exact .inl (by omega)
 ·exact .inl (by omega)
 ·exact .inr ⟨by omega, Xfd h3 h4⟩
def atC (L : List Commit) (i : Nat) : Commit := L.getD i Xdt
theorem Xz5 {L : List Commit} {i : Nat} (h : i < L.length) : atC L i = L[i] := by simp [atC, List.getD_eq_getElem?_getD, h]
structure Ins (L : List Commit) (i : Nat) (O : List Nat) : Prop where
 perm : O.Perm (List.range i)
 sorted : O.Pairwise (fun x y => leS (atC L x) (atC L y))
theorem Ins.length {L : List Commit} {i : Nat} {O : List Nat} (h : Ins L i O) : O.length = i := by rw [h.perm.length_eq, List.length_range]
theorem Ins.lt {L : List Commit} {i : Nat} {O : List Nat} (h : Ins L i O) {j : Nat} (hj : j < O.length) : O[j] < i := List.mem_range.1 (h.perm.mem_iff.1 (List.getElem_mem hj))
theorem Ins.next {L : List Commit} {i : Nat} {O : List Nat} (h : Ins L i O) (at_ : Nat) (hle : at_ ≤ O.length) (hup : ∀ j (hj : j < O.length), at_ ≤ j → leS (atC L i) (atC L O[j]))
  (hdn : ∀ (h0 : 0 < at_), leS (atC L (O[at_ - 1]'(by omega))) (atC L i)) : Ins L (i + 1) (O.take at_ ++ [i] ++ O.drop at_) := by
 refine ⟨?_, ?_⟩
 ·rw [List.range_succ, List.append_assoc]
  refine List.Perm.trans ((List.perm_append_comm (l₁ := [i]) (l₂ := O.drop at_)).append_left _) ?_
  rw [← List.append_assoc, List.take_append_drop]
  exact h.perm.append_right _
 ·have hs2 : (O.take at_ ++ O.drop at_).Pairwise (fun x y => leS (atC L x) (atC L y)) := by rw [List.take_append_drop]; exact h.sorted
  rw [List.pairwise_append] at hs2
  rw [List.append_assoc, List.pairwise_append]
  refine ⟨hs2.1, ?_, ?_⟩
  ·rw [List.singleton_append, List.pairwise_cons]
   refine ⟨fun y hy => ?_, hs2.2.1⟩
   obtain ⟨j, hj, rfl⟩ := List.getElem_of_mem hy
   rw [List.length_drop] at hj
   rw [List.getElem_drop]
   exact hup _ (by omega) (by omega)
  ·intro y hy z hz
   rcases List.mem_append.1 hz with hz | hz
   ·rw [List.mem_singleton.1 hz]
    obtain ⟨j, hj, rfl⟩ := List.getElem_of_mem hy
    rw [List.length_take] at hj
    have h0 : 0 < at_ := by omega
    rw [List.getElem_take]
    by_cases hja : j = at_ - 1
    ·subst hja; exact hdn h0
    ·exact Xz4 (List.pairwise_iff_getElem.1 h.sorted j (at_ - 1) (by omega) (by omega) (by omega)) (hdn h0)
   ·exact hs2.2.2 y hy z hz
theorem Xw0 (a : Option Addr) (k : Nat) (L : List Commit) (h : (sl a k L).holds F w) (hl : L.length ≤ 1000) (hf : ∀ x ∈ L, fine x) (hq : ∀ x ∈ L, x.parents.length ≤ 1000) :
  Gives prog 153 [.slice a L.length k] w F (fun y : Xwt L => .slice y.1.2.1 y.1.1.length y.1.2.2) (fun y => [.st (sl y.1.2.1 y.1.2.2 y.1.1)]) := by
 refine Xaa func153 rfl ntmps153 rfl rfl [.st (sl a k L)] (.start1 h) ?_
 refine wz10 ?_
 refine JR.call (v := fun y : Xc9 L => .bool y.1) (B := fun _ => []) rfl (fun w1 hw => Xk7 w1 _ a k L hw.get hl hf hq) ?_
 rintro ⟨b, hb⟩
 simp only [List.nil_append]
 cases b with
 | false =>
  have hno : ¬ Closed L := fun hc => by have := hb.2 hc; cases this
  refine wz8 ?_
  exact CT.done (Y := Xwt L) ⟨([], none, 0), ⟨fun hc => (hno hc).elim, fun hc => (hno hc).elim, fun _ => rfl⟩⟩ rfl (fun w ho => (Hold.add (A := sl (α := Commit) none 0 []) (ho.ent : Hold _ _ [] w) Xah))
 | true =>
 have hc := hb.1 rfl
 have hids := Xea hc.may
 have hcl := Xa2 L
 refine wz7 ?_
 refine JR.callSl rfl (fun w1 hw => Xe4 w1 _ a k L hw.get (by omega) hf) ?_
 intro e n
 rw [hids]
 refine wz4 ?_
 refine JC.more (Γ' := [.st (sl (α := Nat) none 0 []), .st (sl e n (cids L)), .st (sl a k L)]) (fun w1 ho => (Hold.add (A := sl (α := Nat) none 0 []) (ho.ent : Hold _ _ [.st (sl e n (cids L)), .st (sl a k L)] w1) Xah)) ?_
 refine Xb7 (fun (i : Nat) (O : List Nat) (p : Option Addr) (q : Nat) => [(0, .slice a L.length k), (4, .slice e (cids L).length n), (5, .slice p O.length q), (6, .int .i64 (i : Int))]) (fun i O p q => [.st (sl p q O), .st (sl e n (cids L)), .st (sl a k L)])
  (fun i O _ _ => i ≤ L.length ∧ Ins L i O) (fun i _ _ _ => L.length - i) 0 [] none 0 ⟨Nat.zero_le _, ⟨List.Perm.refl _, List.Pairwise.nil⟩⟩ iI ?_
 intro i O p q ⟨hi, hO⟩
 refine wz11 ?_
 refine JC.test (fun hlt => ?_) (fun hge => ?_)
 ·have hlt' : i < L.length := by omega
  have hol := hO.length
  refine wA ?_
  refine Xap (fun (at_ : Nat) => [(0, .slice a L.length k), (4, .slice e (cids L).length n), (5, .slice p O.length q), (6, .int .i64 (i : Int)), (7, .int .i64 (at_ : Int))]) (fun at_ => [.st (sl p q O), .st (sl e n (cids L)), .st (sl a k L)])
   (fun at_ => at_ ≤ O.length ∧ ∀ j (hj : j < O.length), at_ ≤ j → leS (atC L i) (atC L O[j])) (fun at_ => at_) O.length ⟨Nat.le_refl _, fun j hj h => by omega⟩ iI ?_
  intro at_ ⟨hat, hup⟩
  refine wz5 ?_
  refine JC.test (fun h0 => ?_) (fun h0 => ?_)
  ·have hat1 : at_ - 1 < O.length := by omega
   obtain ⟨j, hj⟩ : ∃ j, j = O[at_ - 1] := ⟨_, rfl⟩
   have hjl : j < L.length := by have := hO.lt hat1; omega
   have hie : atC L i = L[i] := Xz5 hlt'
   have hje : atC L j = L[j] := Xz5 hjl
   have hxe : (cids L)[i]'(by omega) = idC L[i] := Xbm L i (by omega)
   have hye : (cids L)[j]'(by omega) = idC L[j] := Xbm L j (by omega)
   have hnext : ¬ leS L[j] L[i] → ∀ x (hx : x < O.length), at_ - 1 ≤ x → leS (atC L i) (atC L O[x]) := fun hn x hx hle => by
    by_cases hxa : x = at_ - 1
    ·subst hxa
     rw [← hj, hie, hje]
     exact (Xz3 _ _).resolve_right hn
    ·exact hup x hx (by omega)
   have hbrk : leS L[j] L[i] → Ins L (i + 1) (O.take at_ ++ [i] ++ O.drop at_) := fun hs => hO.next at_ hat hup (fun _ => by rw [← hj, hie, hje]; exact hs)
   refine wA ?_
   refine Xnl (L := O) (k := at_ - 1) rfl hat1 ?_
   intro b1 o1
   rw [← hj]
   refine wz9 ?_
   refine Xbq (L := cids L) (.slice e (cids L).length n) i (by omega) ?_
   intro b2 o2
   refine Xbq (L := cids L) (.slice e (cids L).length n) j (by omega) ?_
   intro b3 o3
   rw [hxe, hye]
   refine Xa6 mixed (by kernel_rfl) ?_
   refine wQ ?_
   refine JQ.call rfl rfl (fun w1 hw => Xqk w1 _ _ _) ?_
   refine wQ ?_
   refine wz14 ?_
   refine Xa7 (L := L) (.slice a L.length k) j hjl ?_
   intro b4 o4 p4 q4
   refine Xa7 (L := L) (.slice a L.length k) i hlt' ?_
   intro b5 o5 p5 q5
   refine Xa6 mixed (by kernel_rfl) ?_
   refine wY ?_
   by_cases hgt : (L[j]).gen < (L[i]).gen
   ·have hins := hbrk (.inl hgt)
    refine JQ.reslot 54 (.bool true) (congrArg Value.bool (decide_eq_true hgt)) ?_
    refine wY ?_
    refine wz12 ?_
    refine Xc7 (L := O) (k := at_) rfl rfl hat ?_
    intro a1 c1
    refine wz13 ?_
    refine JR.appendNil (L' := O.take at_) rfl (by exact ⟨rfl, rfl, by decide⟩) (by rw [List.length_take]; omega) ?_
    intro a2 c2
    (repeat (refine wF ?_; intro _)); refine wX ?_
    refine Xai (L := O.take at_) (u := i) rfl (by exact ⟨rfl, rfl, by decide⟩) (by rw [List.length_take]; omega) ?_
    intro a4 c4
    refine wz10 ?_
    refine Xa3 (L := O) (k := at_) rfl rfl hat ?_
    intro a5 c5
    refine wz13 ?_
    refine Xau (L := O.take at_ ++ [i]) (L' := O.drop at_) rfl (by exact ⟨rfl, rfl, by decide⟩) (by rw [List.length_append, List.length_take, List.length_drop, List.length_singleton]; omega) ?_
    intro a6 c6
    obtain ⟨O2, hO2⟩ : ∃ O2, O2 = O.take at_ ++ [i] ++ O.drop at_ := ⟨_, rfl⟩
    rw [← hO2] at hins ⊢
    refine JO.more (fun w1 ho => ho.pub) ?_
    refine wz2 ?_
    exact ⟨i + 1, O2, a6, c6, ⟨by omega, hins⟩, by omega, iI⟩
   refine JQ.reslot 54 (.bool false) (congrArg Value.bool (decide_eq_false hgt)) ?_
   refine wY ?_
   by_cases heq : (L[j]).gen = (L[i]).gen
   ·refine JQ.reslot 66 (.bool true) (congrArg Value.bool (decide_eq_true heq)) ?_
    refine wY ?_
    cases hls : idLt (idC L[i]) (idC L[j]) with
    | false =>
     have hins := hbrk (.inr ⟨heq, hls⟩)
     skip
     refine wz12 ?_
     refine Xc7 (L := O) (k := at_) rfl rfl hat ?_
     intro a1 c1
     refine wz13 ?_
     refine JR.appendNil (L' := O.take at_) rfl (by exact ⟨rfl, rfl, by decide⟩) (by rw [List.length_take]; omega) ?_
     intro a2 c2
     (repeat (refine wF ?_; intro _)); refine wX ?_
     refine Xai (L := O.take at_) (u := i) rfl (by exact ⟨rfl, rfl, by decide⟩) (by rw [List.length_take]; omega) ?_
     intro a4 c4
     refine wz10 ?_
     refine Xa3 (L := O) (k := at_) rfl rfl hat ?_
     intro a5 c5
     refine wz13 ?_
     refine Xau (L := O.take at_ ++ [i]) (L' := O.drop at_) rfl (by exact ⟨rfl, rfl, by decide⟩) (by rw [List.length_append, List.length_take, List.length_drop, List.length_singleton]; omega) ?_
     intro a6 c6
     obtain ⟨O2, hO2⟩ : ∃ O2, O2 = O.take at_ ++ [i] ++ O.drop at_ := ⟨_, rfl⟩
     rw [← hO2] at hins ⊢
     refine JO.more (fun w1 ho => ho.pub) ?_
     refine wz2 ?_
     exact ⟨i + 1, O2, a6, c6, ⟨by omega, hins⟩, by omega, iI⟩
    | true =>
     skip
     refine wX ?_
     refine ⟨at_ - 1, ⟨by omega, hnext ?_⟩, by omega, iI⟩
     rintro (h | ⟨_, h⟩)
     ·exact hgt h
     ·rw [hls] at h; cases h
   ·refine JQ.reslot 66 (.bool false) (congrArg Value.bool (decide_eq_false heq)) ?_
    refine wY ?_
    refine wX ?_
    refine ⟨at_ - 1, ⟨by omega, hnext ?_⟩, by omega, iI⟩
    rintro (h | ⟨h, _⟩)
    ·exact hgt h
    ·exact heq h
  ·have hins := hO.next at_ hat hup (fun h => by omega)
   refine wz3 ?_
   refine Xc7 (L := O) (k := at_) rfl rfl hat ?_
   intro a1 c1
   refine wz13 ?_
   refine JR.appendNil (L' := O.take at_) rfl (by exact ⟨rfl, rfl, by decide⟩) (by rw [List.length_take]; omega) ?_
   intro a2 c2
   (repeat (refine wF ?_; intro _)); refine wX ?_
   refine Xai (L := O.take at_) (u := i) rfl (by exact ⟨rfl, rfl, by decide⟩) (by rw [List.length_take]; omega) ?_
   intro a4 c4
   refine wz10 ?_
   refine Xa3 (L := O) (k := at_) rfl rfl hat ?_
   intro a5 c5
   refine wz13 ?_
   refine Xau (L := O.take at_ ++ [i]) (L' := O.drop at_) rfl (by exact ⟨rfl, rfl, by decide⟩) (by rw [List.length_append, List.length_take, List.length_drop, List.length_singleton]; omega) ?_
   intro a6 c6
   obtain ⟨O2, hO2⟩ : ∃ O2, O2 = O.take at_ ++ [i] ++ O.drop at_ := ⟨_, rfl⟩
   rw [← hO2] at hins ⊢
   refine JO.more (fun w1 ho => ho.pub) ?_
   refine wz2 ?_
   exact ⟨i + 1, O2, a6, c6, ⟨by omega, hins⟩, by omega, iI⟩
 obtain rfl : i = L.length := by omega
 have hol := hO.length
 refine wA ?_
 refine JC.buf_nil (α := Commit) 29 ?_
 refine Xb7 (fun (z : Nat) (M : List Commit) r s => [(0, .slice a L.length k), (5, .slice p O.length q), (11, .slice r M.length s), (12, .int .i64 (z : Int))])
  (fun z M r s => [.res (buf r s 29 M), .st (sl p q O), .st (sl a k L)])
  (fun z M _ _ => z ≤ O.length ∧ M = (O.take z).map (atC L)) (fun z _ _ _ => O.length - z) 0 [] none 0 ⟨Nat.zero_le _, rfl⟩ iI ?_
 intro z M r s ⟨hz, hM⟩
 refine wz11 ?_
 refine JC.test (fun hlt => ?_) (fun hge => ?_)
 ·have hzl : z < O.length := by omega
  obtain ⟨j, hj⟩ : ∃ j, j = O[z] := ⟨_, rfl⟩
  have hjl : j < L.length := by have := hO.lt hzl; omega
  have hMl : M.length = z := by rw [hM, List.length_map, List.length_take]; omega
  refine wz14 ?_
  refine Xnl (L := O) (k := z) rfl hzl ?_
  intro b1 o1
  rw [← hj]
  refine wz6 ?_
  refine Xaf (L := L) (k := j) rfl hjl ?_
  intro b2 o2 p2 q2
  (repeat (refine wE ?_; intro _)); refine wA ?_
  refine Xai (u := L[j]) rfl (by exact ⟨rfl, rfl, by decide⟩) (by omega) ?_
  intro r2 s2
  refine wz2 ?_
  exact ⟨z + 1, M ++ [L[j]], r2, s2, ⟨by omega, by rw [List.take_succ_eq_append_getElem hzl, List.map_append, ← hM, ← hj, ← Xz5 hjl]; rfl⟩, by omega, iI⟩
 ·have hze : z = O.length := by omega
  rw [hze, List.take_length] at hM
  refine JC.more (fun w1 ho => ho.pub) ?_
  refine wz3 ?_
  refine Xab (Y := Xwt L) ⟨(M, r, s), ⟨fun _ => ?_, fun _ => ?_, fun hn => (hn hc).elim⟩⟩ rfl
  ·rw [hM]; exact Xqf hO.perm
  ·rw [hM, List.pairwise_map]; exact hO.sorted
end
section
attribute [local irreducible] Xay idA l0 l1 ents
theorem Xh1 {L : List Commit} {b c : Bool} (h : b = true ↔ Closed L) (k : c = true ↔ Closed L) : b = c := Bool.eq_iff_iff.2 (h.trans k.symm)
theorem PartR.unique {L : List Commit} {A : List ID} {M N : List Commit} (h : PartR L A M) (k : PartR L A N) : M = N := by
 by_cases hc : Closed L
 ·rw [h.part hc, k.part hc]
 ·rw [h.not hc, k.not hc]
theorem SortedR.unique {L M N : List Commit} (h : SortedR L M) (k : SortedR L N) : M = N := by
 by_cases hc : Closed L
 ·exact Xoe hc.nodup (h.perm hc) (k.perm hc) (h.sorted hc) (k.sorted hc)
 ·rw [h.not hc, k.not hc]
theorem Xjb (a : Option Addr) (k : Nat) (L : List Commit) (b : Bool) (h : (sl a k L).holds F w) (hl : L.length ≤ 1000) (hf : ∀ x ∈ L, fine x) (hb : b = true ↔ Closed L) :
  GivesV prog 25 [.slice a L.length k] w F (.bool b) := by
 have h0 := Xk5 w F a k L h (by omega) hf
 unfold Gives at h0
 unfold GivesV Gives
 refine Calls.mono h0 ?_
 rintro e w' ⟨y, rfl, h1, hB⟩
 refine ⟨(), ?_, h1, hB⟩
 have := Xh1 y.2 hb
 dsimp only
 rw [this]
theorem Xjc (a : Option Addr) (k : Nat) (L : List Commit) (b : Bool) (h : (sl a k L).holds F w) (hl : L.length ≤ 1000) (hf : ∀ x ∈ L, fine x) (hq : ∀ x ∈ L, x.parents.length ≤ 1000) (hb : b = true ↔ Closed L) :
  GivesV prog 64 [.slice a L.length k] w F (.bool b) := by
 have h0 := Xk7 w F a k L h hl hf hq
 unfold Gives at h0
 unfold GivesV Gives
 refine Calls.mono h0 ?_
 rintro e w' ⟨y, rfl, h1, hB⟩
 refine ⟨(), ?_, h1, hB⟩
 have := Xh1 y.2 hb
 dsimp only
 rw [this]
theorem Xvl (a d : Option Addr) (k m : Nat) (L : List Commit) (A M : List ID) (h : (sl a k L).holds F w) (h' : (sl d m A).holds F w) (hl : L.length ≤ 1000) (hf : ∀ x ∈ L, fine x) (hq : ∀ x ∈ L, x.parents.length ≤ 1000) (hM : AncR L A M) :
  Xbw prog 85 [.slice a L.length k, .slice d A.length m] w F M := by
 have h0 := X4j w F a d k m L A h h' hl hf hq
 unfold Gives at h0
 unfold Xbw Gives
 refine Calls.mono h0 ?_
 rintro e w' ⟨⟨⟨N, p, q⟩, hN⟩, rfl, hb, hB⟩
 have : N = M := hN.unique hM
 subst this
 exact ⟨(p, q), rfl, hb, hB⟩
theorem Xsw (a d : Option Addr) (k m : Nat) (L M : List Commit) (A : List ID) (h : (sl a k L).holds F w) (h' : (sl d m A).holds F w) (hl : L.length ≤ 1000) (hf : ∀ x ∈ L, fine x) (hM : PartR L A M) :
  Xbw prog 44 [.slice a L.length k, .slice d A.length m] w F M := by
 have h0 := X1w w F a d k m L A h h' hl hf
 unfold Gives at h0
 unfold Xbw Gives
 refine Calls.mono h0 ?_
 rintro e w' ⟨⟨⟨N, p, q⟩, hN⟩, rfl, hb, hB⟩
 have : N = M := hN.unique hM
 subst this
 exact ⟨(p, q), rfl, hb, hB⟩
theorem Xub (a : Option Addr) (k : Nat) (L M : List Commit) (h : (sl a k L).holds F w) (hl : L.length ≤ 1000) (hf : ∀ x ∈ L, fine x) (hq : ∀ x ∈ L, x.parents.length ≤ 1000) (hM : SortedR L M) :
  Xbw prog 153 [.slice a L.length k] w F M := by
 have h0 := Xw0 w F a k L h hl hf hq
 unfold Gives at h0
 unfold Xbw Gives
 refine Calls.mono h0 ?_
 rintro e w' ⟨⟨⟨N, p, q⟩, hN⟩, rfl, hb, hB⟩
 have : N = M := hN.unique hM
 subst this
 exact ⟨(p, q), rfl, hb, hB⟩
theorem Xnm (a : Option Addr) (k : Nat) (L M : List Commit) (h : (sl a k L).holds F w) (hl : L.length ≤ 1000) (hf : ∀ x ∈ L, fine x) (hM : SortedR L M) :
  Xbw prog 26 [.slice a L.length k] w F M := by
 have h0 := Xwv w F a k L h hl hf
 unfold Gives at h0
 unfold Xbw Gives
 refine Calls.mono h0 ?_
 rintro e w' ⟨⟨⟨N, p, q⟩, hN⟩, rfl, hb, hB⟩
 have : N = M := hN.unique hM
 subst this
 exact ⟨(p, q), rfl, hb, hB⟩
theorem Xfx {c : Commit} (h : may c = true) : c.parents.length ≤ 8 := by
 unfold may at h
 split at h
 ·cases h
 ·rename_i hn
  simp only [Bool.or_eq_true, not_or, decide_eq_true_eq] at hn
  omega
theorem Xnn : ∀ {L : List Commit}, (∀ c ∈ L, may c = true) → (Xav L).length ≤ 8 * L.length
 | [], _ => by simp [Xav]
 | c :: L, h => by
  have h1 := Xnn (L := L) fun d hd => h d (by simp [hd])
  have h2 := Xfx (h c (by simp))
  simp only [Xav, List.flatMap_cons, List.length_append, List.length_cons] at h1 ⊢
  omega
theorem Xuc (a : Option Addr) (k : Nat) (L : List Commit) (h : (sl a k L).holds F w) (hl : L.length ≤ 1000) (hf : ∀ x ∈ L, fine x) :
  Xbw prog 46 [.slice a L.length k] w F (frontF L) := by
 refine Xaa func46 rfl ntmps46 rfl rfl [.st (sl a k L)] (.start1 h) ?_
 refine wz10 ?_
 refine JR.callV rfl (fun w1 hw => Xjb w1 _ a k L (closedB L) hw.get (by omega) hf Xcf) ?_
 cases hb : closedB L with
 | false =>
  refine wz8 ?_
  rw [Xsl (fun hc => by rw [Xfw hc] at hb; cases hb)]
  exact CT.done (none, 0) rfl (fun w ho => (ho.ent : Hold _ _ [] w).add Xah)
 | true =>
 have hc := Xcf.1 hb
 have hpl := Xnn hc.may
 refine wA ?_
 refine JC.buf_nil (α := ID) 81 ?_
 refine Xby (fun (i : Nat) p q => [(0, .slice a L.length k), (3, .slice p (Xav (L.take i)).length q), (9, .slice a L.length k), (10, .int .i64 (L.length : Int)), (11, .int .i64 (i : Int))])
  (fun i p q => [.res (buf p q 81 (Xav (L.take i))), .st (sl a k L)]) (fun i _ _ => i ≤ L.length) (fun i _ _ => L.length - i) 0 none 0 (Nat.zero_le _) (by rw [List.take_zero, show Xav [] = [] from rfl]; infer_instance) ?_
 intro i p q hi
 refine wz11 ?_
 refine JC.test (fun hlt => ?_) (fun hge => ?_)
 ·have hlt' : i < L.length := by omega
  have h2 := Xi7 L (i + 1)
  rw [Xcb L i hlt', List.length_append] at h2
  refine wz14 ?_
  refine Xaf rfl hlt' ?_
  intro b1 o1 p1 q1
  (repeat (refine wE ?_; intro _)); refine wA ?_
  refine Xau rfl (by exact ⟨rfl, rfl, by decide⟩) (by omega) ?_
  intro r s
  refine wz2 ?_
  exact ⟨i + 1, r, s, by omega, by omega, by rw [Xcb L i hlt']; infer_instance⟩
 ·obtain rfl : i = L.length := by omega
  rw [List.take_length]
  refine JC.more (fun w1 ho => ho.pub) ?_
  refine wz3 ?_
  refine JR.callSl (L := cids L) rfl (fun w1 hw => by have := Xy4 w1 _ a k L hw.get (by omega) hf; rwa [Xea hc.may] at this) ?_
  intro a1 k1
  refine wz6 ?_
  refine JR.callBuf rfl (fun w1 hw => Xfl w1 _ a1 p k1 q (cids L) (Xav L) hw.get hw.get (by rw [Xa2]; omega)) ?_
  intro a2 k2
  refine JO.more (fun w1 ho => ho.pub) ?_
  refine wz10 ?_
  have e1 : frontF L = Xbg (cids L) (Xav L) false := by rw [frontF, hb]; rfl
  rw [e1]
  exact Xab (a2, k2) rfl
end
noncomputable section
def decL : List (List UInt8) → List Commit
 | [] => []
 | b :: l => match getC b with
  | some (c, []) => c :: decL l
  | _ => []
open Classical in
def Xb0 (acc : List Commit) : List Commit → List Commit
 | [] => acc
 | c :: l => if Closed (acc ++ [c]) then Xb0 (acc ++ [c]) l else acc
def Xcc (b : List UInt8) : List Commit := Xb0 [] (decL (readL b))
def Xb5 (b : List UInt8) : Nat := (Xak ((readL b).take (Xcc b).length)).length
end
theorem Xno (b : List UInt8) (l : List (List UInt8)) : (∃ c, getC b = some (c, []) ∧ decL (b :: l) = c :: decL l) ∨ ((¬ ∃ c, getC b = some (c, [])) ∧ decL (b :: l) = []) := by
 rw [decL]
 split
 ·rename_i c h; exact .inl ⟨c, h, rfl⟩
 ·rename_i h; exact .inr ⟨fun ⟨c, hc⟩ => h c hc, rfl⟩
theorem Xh2 : ∀ l : List (List UInt8), (decL l).length ≤ l.length
 | [] => Nat.le_refl _
 | b :: l => by
  have := Xh2 l
  rcases Xno b l with ⟨c, _, h⟩ | ⟨_, h⟩ <;> rw [h] <;> simp <;> omega
theorem Xk8 : ∀ (l : List (List UInt8)) (i : Nat) (h : i < (decL l).length) (h2 : i < l.length), getC l[i] = some ((decL l)[i], [])
 | [], i, h, _ => by cases h
 | b :: l, i, h, h2 => by
  rcases Xno b l with ⟨c, hc, hd⟩ | ⟨_, hd⟩
  ·cases i with
   | zero => simp only [hd, List.getElem_cons_zero]; exact hc
   | succ i =>
    simp only [hd, List.getElem_cons_succ]
    exact Xk8 l i (by rw [hd] at h; simpa using h) (by simpa using h2)
  ·rw [hd] at h; cases h
theorem Xqn : ∀ (l : List (List UInt8)) (h : (decL l).length < l.length), ¬ ∃ c, getC (l[(decL l).length]) = some (c, [])
 | [], h => by cases h
 | b :: l, h => by
  rcases Xno b l with ⟨c, hc, hd⟩ | ⟨hn, hd⟩
  ·simp only [hd, List.length_cons, List.getElem_cons_succ]
   exact Xqn l (by rw [hd] at h; simpa using h)
  ·simp only [hd, List.length_nil, List.getElem_cons_zero]; exact hn
theorem Xo9 : ∀ (l acc : List Commit), ∃ k, k ≤ l.length ∧ Xb0 acc l = acc ++ l.take k
 | [], acc => ⟨0, Nat.le_refl _, by simp [Xb0]⟩
 | c :: l, acc => by
  unfold Xb0
  split
  ·obtain ⟨k, hk, h⟩ := Xo9 l (acc ++ [c])
   exact ⟨k + 1, by simpa using hk, by rw [h]; simp⟩
  ·exact ⟨0, Nat.zero_le _, by simp⟩
theorem Xnp {l : List Commit} {i : Nat} (hi : i < l.length) (h : Xb0 [] l = Xb0 (l.take i) (l.drop i)) (hc : Closed (l.take (i + 1))) : Xb0 [] l = Xb0 (l.take (i + 1)) (l.drop (i + 1)) := by
 rw [h, List.drop_eq_getElem_cons hi, Xb0, ← List.take_succ_eq_append_getElem hi, if_pos hc]
theorem Xnq {l : List Commit} {i : Nat} (hi : i < l.length) (h : Xb0 [] l = Xb0 (l.take i) (l.drop i)) (hc : ¬ Closed (l.take (i + 1))) : Xb0 [] l = l.take i := by
 rw [h, List.drop_eq_getElem_cons hi, Xb0, ← List.take_succ_eq_append_getElem hi, if_neg hc]
theorem Xjd : ∀ (f : Nat) (b : List UInt8), ∀ x ∈ readF f b, x.length ≤ 4000
 | 0, _, x, h => by cases h
 | f + 1, b, x, h => by
  unfold readF at h
  cases hs : readStep b with
  | none => rw [hs] at h; cases h
  | some q =>
   rw [hs] at h
   rcases List.mem_cons.1 h with rfl | h
   ·exact (Xd9 (x := q.1) (r := q.2) hs).1
   ·exact Xjd f _ x h
theorem Xgq : ∀ (f : Nat) (b : List UInt8), Xak (readF f b) <+: b
 | 0, b => List.nil_prefix
 | f + 1, b => by
  unfold readF
  cases hs : readStep b with
  | none => exact List.nil_prefix
  | some q =>
   dsimp only
   rw [Xga]
   have h1 := (Xd9 (x := q.1) (r := q.2) hs).2
   obtain ⟨t, ht⟩ := Xgq f q.2
   exact ⟨t, by rw [List.append_assoc, ht, ← h1]⟩
theorem Xh3 (l : List (List UInt8)) (i : Nat) : (Xak (l.take i)).length ≤ (Xak l).length := by
 conv => rhs; rw [← List.take_append_drop i l]
 rw [Xdk, List.length_append]; omega
theorem Xer (l : List (List UInt8)) : 5 * l.length ≤ (Xak l).length := by
 induction l with
 | nil => simp
 | cons y l ih => rw [Xga, List.length_append, Xct, List.length_cons]; have := Xu6 y.length; omega
theorem Xlq {l : List (List UInt8)} {i : Nat} (hi : i < l.length) : (Xak (l.take (i + 1))).length = (Xak (l.take i)).length + (Xbv l[i]).length := by
 rw [List.take_succ_eq_append_getElem hi, Xdk, Xg6, List.length_append]
theorem Xvm {c0 c : Commit} {b r : List UInt8} (h : finC c0 b = some (c, r)) : may c = true ∧ c = c0 := by
 unfold finC at h
 split at h
 ·cases h; exact ⟨by assumption, rfl⟩
 ·cases h
theorem Xma {b r : List UInt8} {c : Commit} (h : getC b = some (c, r)) : may c = true ∧ Xht c := by
 unfold getC at h
 obtain ⟨q0, h0, h⟩ := Option.bind_eq_some_iff.1 h
 obtain ⟨q1, h1, h⟩ := Option.bind_eq_some_iff.1 h
 obtain ⟨q2, h2, h⟩ := Option.bind_eq_some_iff.1 h
 obtain ⟨q3, h3, h⟩ := Option.bind_eq_some_iff.1 h
 obtain ⟨q4, h4, h⟩ := Option.bind_eq_some_iff.1 h
 unfold opC at h
 split at h
 ·obtain ⟨h5, h6⟩ := Xvm h
  refine ⟨h5, ?_⟩
  rw [h6]
  unfold Xht
  exact (by decide : op0.key.size < 4611686018427387904 ∧ op0.elem.size < 4611686018427387904)
 ·split at h
  ·obtain ⟨h5, h6⟩ := Xvm h
   refine ⟨h5, ?_⟩
   rw [h6]
   exact Xi6 q4.2
  ·cases h
end
abbrev rnd (l : Nat) : Fence := Fence.wide.inRound l
def Xmb : Oper → Bool
 | ⟨_, .defer _, _, _, _, _⟩ => false
 | _ => true
theorem Xud {o : Oper} (h : Xmb o = true) (c : Call) : o.op ≠ .defer c := by
 obtain ⟨d, op, t, p, a, g⟩ := o
 rintro rfl
 cases h
section
variable {P : Program} {ops : Array Oper} {Q : Exit → Act → World → Prop} {l m : Nat}
theorem X4k {F : Fence} (hdp : F.depth = none) (hfn : ∀ f, F.fn f) (hcalls : ∀ {f args w R}, Calls P f args w R → CallsIn F (m - 1) P f args w R) (hrows : ∀ {row args w R}, Rows P row args w R → RowsIn F (m - 1) P row args w R)
  {o : Oper} {a : Act} {K K' : Act → World → Prop} (hK : ∀ a w, K a w → K' a w) (r : Result Next) (h : o.upon P a K Q r) : o.uponIn F m P a K' Q r := by
 have hn : F.depth.isSome = true → 1 ≤ m := by rw [hdp]; intro h; cases h
 cases r with
 | halt x w' => cases x <;> exact h
 | ok x w' =>
  cases x with
  | value v => exact hK _ _ h
  | skip => exact hK _ _ h
  | defer d => exact hK _ _ h
  | enter f args =>
   refine ⟨hn, hcalls (Calls.mono h ?_)⟩
   intro e w'' he
   cases e with
   | returned v => exact hK _ _ he
   | panicked c => exact he
   | outgrown => exact he
  | row row args => exact ⟨hn, (hrows h).mono fun v w'' h => hK _ _ h⟩
  | round l f tmps assign body => exact h.elim
  | _ => exact h
theorem Xkc (hd : ∀ o ∈ ops, Xmb o = true) (hQ : ¬ LetsOut Q) : ∀ (is : List Nat) (a : Act) (w : World), wpOps P ops Q is a w → wpOpsIn (rnd l) m P ops Q is a w
 | [], a, w, h => h
 | i :: is, a, w, h => by
  unfold wpOps at h
  unfold wpOpsIn
  cases ho : ops[i]? with
  | none => rw [ho] at h; exact Xkc hd hQ is a w h
  | some o =>
   rw [ho] at h
   dsimp only at h ⊢
   by_cases hw : Region.wanted o (yielded ops a.tmps) = true
   ·rw [if_pos hw] at h ⊢
    rcases h with h | h
    ·refine ⟨fun _ _ => trivial, ?_⟩
     have hm : o ∈ ops := Array.mem_of_getElem? ho
     rw [Oper.semAt_eq _ _ _ (Xud (hd o hm))]
     exact X4k rfl (fun _ => trivial) (fun h => CallsIn.inRound l (callsIn_wide.2 h)) (fun h c cs _ => let ⟨v, w', r, s⟩ := h c cs; ⟨v, w', r, stepsIn_wide.2 s⟩) (fun a w h => Xkc hd hQ is a w h) _ h
    ·exact (hQ h.2).elim
   ·rw [if_neg hw] at h ⊢
    exact ⟨fun _ _ => trivial, Xkc hd hQ is _ w h⟩
end
section
variable {P : Program} {n : Nn} {w0 : World} {F : Nat → Prop} {l : Nat} {Q : Cont} {e : E} {Γ : List Fact} [Dr]
def JI (P : Program) (n : Nn) (w0 : World) (F : Nat → Prop) (l : Nat) (c : Code) (Q : Cont) (e : E) (Γ : List Fact) : Prop :=
 (∀ e Γ, ¬ Q .outgrown e Γ) → ∀ a w, Fr n e a → Hold w0 F Γ w → c.wpIn (rnd l) 1 P (up n w0 F Q) a w
theorem JI.skip (h : Q .normal e Γ) : JI P n w0 F l .skip Q e Γ := fun _ _ _ fr ho => wpIn_skip ⟨e, Γ, h, fr, ho⟩
theorem JI.ret (h : Q .ret e Γ) : JI P n w0 F l .ret Q e Γ := fun _ _ _ fr ho => wpIn_ret ⟨e, Γ, h, fr, ho⟩
theorem JI.seq {x y : Code} (h : JI P n w0 F l x (andThen (JI P n w0 F l y Q) Q) e Γ) : JI P n w0 F l (.seq x y) Q e Γ := by
 intro hq a w fr ho
 refine wpIn_seq (wpIn_mono (h hq a w fr ho) ?_)
 rintro x a w ⟨e, Γ, h, fr, ho⟩
 cases x <;> first | exact h hq a w fr ho | exact ⟨e, Γ, h, fr, ho⟩
theorem Xd3 {c : Operand} {x y : Code} [hc : Ev e c (.bool true)] (h : JI P n w0 F l x Q e Γ) : JI P n w0 F l (.cond c x y) Q e Γ :=
 fun hq a w fr ho => wpIn_cond_true (hc.ok n a fr) (h hq a w fr ho)
theorem Xdb {c : Operand} {x y : Code} [hc : Ev e c (.bool false)] (h : JI P n w0 F l y Q e Γ) : JI P n w0 F l (.cond c x y) Q e Γ :=
 fun hq a w fr ho => wpIn_cond_false (hc.ok n a fr) (h hq a w fr ho)
theorem JI.block {id : Nat} {c : Code} (h : JI P n w0 F l c (inBlock id Q) e Γ) : JI P n w0 F l (.block id c) Q e Γ := by
 intro hq a w fr ho
 refine wpIn_block (wpIn_mono (h hq a w fr ho) ?_)
 rintro x a w ⟨e, Γ, hq, fr, ho⟩
 cases x with
 | exit id' =>
  simp only [inBlock, Exit.inBlock] at *
  split
  ·rename_i he; rw [if_pos he] at hq; exact ⟨e, Γ, hq, fr, ho⟩
  ·rename_i he; rw [if_neg he] at hq; exact ⟨e, Γ, hq, fr, ho⟩
 | _ => exact ⟨e, Γ, hq, fr, ho⟩
theorem JI.more {c : Code} {Γ' : List Fact} (h : ∀ w, Hold w0 F Γ w → Hold w0 F Γ' w) (k : JI P n w0 F l c Q e Γ') : JI P n w0 F l c Q e Γ := fun hq a w fr ho => k hq a w fr (h w ho)
theorem X25 (hq : ∀ e Γ, ¬ Q .outgrown e Γ) : ¬ LetsOut (up n w0 F Q) := by
 rintro ⟨a, w, e, Γ, h, _⟩
 exact hq e Γ h
theorem JI.region {id : Nat} {os : List Oper} (hd : os.all Xmb = true) (h : JO P n w0 F ⟨os⟩ 0 os Q e Γ) : JI P n w0 F l (.region id ⟨os⟩ false) Q e Γ := by
 intro hq a w fr ho
 refine wpIn_region ?_
 have e1 : List.range (Array.size ⟨os⟩ : Nat) = List.range' 0 os.length := by simp [List.range_eq_range']
 rw [e1]
 refine Xkc (fun o ho => ?_) (X25 hq) _ _ _ (h rfl a w fr ho)
 exact List.all_eq_true.1 hd o (by simpa using ho)
theorem JI.drawP {id : Nat} {ops : List Oper} (hm : P.follows .mixedOrders = true) (hd : ops.all Xmb = true) (h : JP P n w0 F ops [] ops.length (List.replicate ops.length false) Q e Γ) : JI P n w0 F l (.region id ⟨ops⟩ true) Q e Γ := by
 intro hq a w fr ho
 refine wpIn_region_draw fun t => ?_
 simp only [Region.schedule, hm, Bool.true_or, if_true]
 refine Xkc (fun o ho => List.all_eq_true.1 hd o (by simpa using ho)) (X25 hq) _ _ _ ?_
 have := Xti Xuv _ _ _ _ (h a w.drew fr ho.drew)
 have e1 : (⟨List.replicate ops.length false⟩ : Array Bool) = Array.replicate (⟨ops⟩ : Array Oper).size false := by apply Array.ext'; simp
 rw [e1] at this
 exact wpAny_sound _ t _ a _ this
def JY (P : Program) (n : Nn) (w0 : World) (F : Nat → Prop) (ops : Array Oper) (i : Nat) (os : List Oper) (Q : Cont) (e : E) (Γ : List Fact) : Prop :=
 ops.toList.drop i = os → ∀ a w, Fr n e a → Hold w0 F Γ w → wpOpsIn Fence.wide 2 P ops (up n w0 F Q) (List.range' i os.length) a w
theorem Xw1 {id : Nat} {os : List Oper} (h : JY P n w0 F ⟨os⟩ 0 os Q e Γ) : JC P n w0 F (.region id ⟨os⟩ false) Q e Γ := by
 intro a w fr ho
 refine (wpIn_wide (n := 2)).1 (wpIn_region ?_)
 have e1 : List.range (Array.size ⟨os⟩ : Nat) = List.range' 0 os.length := by simp [List.range_eq_range']
 rw [e1]
 exact h rfl a w fr ho
theorem JY.nil {ops : Array Oper} {i : Nat} (h : Q .normal e Γ) : JY P n w0 F ops i [] Q e Γ :=
 fun _ a w fr ho => by show wpOpsIn Fence.wide 2 P ops (up n w0 F Q) [] a w; unfold wpOpsIn; exact ⟨e, Γ, h, fr, ho⟩
section
variable {ops : List Oper} {i d : Nat} {op : Op} {t : TypeId} {pos : String} {aft : Array Edge} {g : Option (Nat × Bool)} {os : List Oper}
theorem JY.val {v : Value} (hg : Xcd ops e g = some true) (h : OpV P n w0 F ⟨some d, op, t, pos, aft, g⟩ e Γ v) (hd : Nat.blt d n.s = true) (k : JY P n w0 F ⟨ops⟩ (i + 1) os Q ((d, v) :: e) Γ) : JY P n w0 F ⟨ops⟩ i (⟨some d, op, t, pos, aft, g⟩ :: os) Q e Γ := by
 intro hdr a w fr ho
 obtain ⟨h1, h2⟩ := Xef hdr
 simp only [List.length_cons, List.range'_succ, wpOpsIn]
 rw [h1]
 simp only [Xbx (o := ⟨some d, op, t, pos, aft, g⟩) hg fr, if_true]
 refine ⟨fun _ _ => trivial, ?_⟩
 show Oper.uponIn _ _ _ _ _ _ _ ((execOp a.eval ⟨some d, op, t, pos, aft, g⟩).run P w)
 rw [h a w fr ho]
 exact k h2 _ w (fr.put hd v) ho
theorem JY.omit (hg : Xcd ops e g = some false) (hd : Nat.blt d n.s = true) (k : JY P n w0 F ⟨ops⟩ (i + 1) os Q ((d, undef) :: e) Γ) : JY P n w0 F ⟨ops⟩ i (⟨some d, op, t, pos, aft, g⟩ :: os) Q e Γ := by
 intro hdr a w fr ho
 obtain ⟨h1, h2⟩ := Xef hdr
 simp only [List.length_cons, List.range'_succ, wpOpsIn]
 rw [h1]
 simp only [Xbx (o := ⟨some d, op, t, pos, aft, g⟩) hg fr, Bool.false_eq_true, if_false]
 exact ⟨fun _ _ => trivial, k h2 _ w (fr.put hd _) ho⟩
theorem JY.skip (hg : Xx1 ops e g = true) (hd : Nat.blt d n.s = true) (k : JY P n w0 F ⟨ops⟩ (i + 1) os Q ((d, undef) :: e) Γ) : JY P n w0 F ⟨ops⟩ i (⟨some d, op, t, pos, aft, g⟩ :: os) Q e Γ := by
 intro hdr a w fr ho
 obtain ⟨h1, h2⟩ := Xef hdr
 simp only [List.length_cons, List.range'_succ, wpOpsIn]
 rw [h1]
 simp only [Xpy (o := ⟨some d, op, t, pos, aft, g⟩) hg fr, Bool.false_eq_true, if_false]
 exact ⟨fun _ _ => trivial, k h2 _ w (fr.put hd _) ho⟩
theorem JY.test (s : Nat) {b : Bool} {p : Prop} [hc : Lk e s (.bool b)] [hp : Says b p] (ht : p → JY P n w0 F ⟨ops⟩ i os Q ((s, .bool true) :: e) Γ) (hf : ¬ p → JY P n w0 F ⟨ops⟩ i os Q ((s, .bool false) :: e) Γ) : JY P n w0 F ⟨ops⟩ i os Q e Γ := by
 intro hd a w fr ho
 have key : Fr n ((s, .bool b) :: e) a := fr.again hc.ok
 cases b with
 | true => exact ht (hp.ok.1 rfl) hd a w key ho
 | false => exact hf (fun h => by have := hp.ok.2 h; cases this) hd a w key ho
theorem JY.reslot (s : Nat) {v : Value} (u : Value) [hs : Lk e s v] (h : v = u) (k : JY P n w0 F ⟨ops⟩ i os Q ((s, u) :: e) Γ) : JY P n w0 F ⟨ops⟩ i os Q e Γ :=
 fun hd a w fr ho => k hd a w (fr.again (by rw [← h]; exact hs.ok)) ho
theorem JY.more {Γ' : List Fact} (h : ∀ w, Hold w0 F Γ w → Hold w0 F Γ' w) (k : JY P n w0 F ⟨ops⟩ i os Q e Γ') : JY P n w0 F ⟨ops⟩ i os Q e Γ := fun hd a w fr ho => k hd a w fr (h w ho)
theorem JY.yield {f : Operand} {args : Array Operand} {ats : Array TypeId} {vs : List Value} {l : Nat} {κ ξ : Type} {Γt : ξ → List Fact} {Γf : κ → List Fact} (hg : Xcd ops e g = some true) [hf : Ev e f (.func (.yield l) #[] #[])] [hv : ArgVs e args.toList vs] (hd : Nat.blt d n.s = true)
  (h : ∀ w, Hold w0 F Γ w → YieldAt Fence.wide 1 P l ⟨vs⟩ w fun x w' => (x = .returned (.bool true) ∧ ∃ s, Hold w0 F (Γt s) w') ∨ (x = .returned (.bool false) ∧ ∃ k, Hold w0 F (Γf k) w'))
  (kt : ∀ s, JY P n w0 F ⟨ops⟩ (i + 1) os Q ((d, .bool true) :: e) (Γt s)) (kf : ∀ k, JY P n w0 F ⟨ops⟩ (i + 1) os Q ((d, .bool false) :: e) (Γf k)) :
  JY P n w0 F ⟨ops⟩ i (⟨some d, .call ⟨.value f, args, ats⟩, t, pos, aft, g⟩ :: os) Q e Γ := by
 intro hdr a w fr ho
 obtain ⟨h1, h2⟩ := Xef hdr
 simp only [List.length_cons, List.range'_succ, wpOpsIn]
 rw [h1]
 simp only [Xbx (o := ⟨some d, .call ⟨.value f, args, ats⟩, t, pos, aft, g⟩) hg fr, if_true]
 refine ⟨fun _ _ => trivial, ?_⟩
 obtain ⟨fn, tmps, assign, body, hy, hR⟩ := h w ho
 have e1 := hf.ok n a fr
 have e2 : args.map a.eval = ⟨vs⟩ := by apply Array.ext'; simp [hv.ok n a fr]
 have hrun : (execOp a.eval ⟨some d, .call ⟨.value f, args, ats⟩, t, pos, aft, g⟩).run P w = .ok (.round l fn tmps assign body) w := by
  have e3 : (resolve a.eval ⟨.value f, args, ats⟩ t).run P w = .ok ⟨.fn (.yield l) #[], ⟨vs⟩⟩ w := by
   simp [resolve, e1, Deferred.ofValue]
   apply Array.ext'; simp [hv.ok n a fr]
  have e4 : (⟨vs⟩ : Array Value) ++ (#[] : Array Value) = ⟨vs⟩ := by apply Array.ext'; simp
  simp only [execOp, Sem.run_bind, e3, Result.andThen_ok, invoke]
  simpa [e4] using hy
 show Oper.uponIn _ _ _ _ _ _ _ ((execOp a.eval ⟨some d, .call ⟨.value f, args, ats⟩, t, pos, aft, g⟩).run P w)
 rw [hrun]
 refine ⟨fun h => (by cases h), hR.mono ?_⟩
 rintro x w' (⟨rfl, s, ho'⟩ | ⟨rfl, k, ho'⟩)
 ·exact kt s h2 _ w' (fr.put hd _) ho'
 ·exact kf k h2 _ w' (fr.put hd _) ho'
end
end
theorem X4l (p1 p2 : Nat) (v1 v2 : Value) (T : Array Value) : ((#[p1, p2] : Array Nat).zip (⟨[v1, v2]⟩ : Array Value)).foldl (fun t (p, v) => t.setIfInBounds p v) T = (T.setIfInBounds p1 v1).setIfInBounds p2 v2 := by
 simp
def tru (p : Prop) : Asn where
 holds _ _ := p
 mono _ _ _ _ h := h
 frame _ _ _ _ h := h
 within _ _ h := h
section
variable {P : Program} {n : Nn} {w0 : World} {F : Nat → Prop} {l : Nat} {Q : Cont} {e : E} {Γ : List Fact}
theorem JI.know [Dr] {c : Code} {p : Prop} (h : ∀ w, Hold w0 F Γ w → p) (k : p → JI P n w0 F l c Q e Γ) : JI P n w0 F l c Q e Γ := fun hq a w fr ho => k (h w ho) hq a w fr ho
end
section
variable {P : Program} {n : Nn} {w0 : World} {F : Nat → Prop} {l : Nat} {e : E} {Γ : List Fact} [Dr]
theorem Hold.turn {w : World} {r : Nat} {o o' : Obj} {Δ : List Fact} (h : Hold w0 F (.obj r o :: Δ) w) : Hold w0 F (.obj r o' :: Δ) (w.putObj r o') := Xok h
theorem Hold.objAt {w : World} {r : Nat} {o : Obj} {Δ : List Fact} (h : Hold w0 F (.obj r o :: Δ) w) : w.heap[r]? = some o := h.sat (.obj r o) (by simp)
def Iter (P : Program) (w0 : World) (F : Nat → Prop) (gf : FuncId) (lb : List Value) (N : Nat) {ι : Type} (v1 v2 : Nat → ι → Value) (G : Nat → ι → List Fact) (Γi : List Fact) : Prop :=
 ∀ (l : Nat) (κ ξ : Type) (M : Nat → ξ → List Fact) (X : κ → List Fact),
  (∀ i, i < N → ∀ (u : ι) (s : ξ) (Γ : List Fact) w, Hold w0 F (G i u ++ Γ ++ M i s) w → YieldAt Fence.wide 1 P l ⟨[v1 i u, v2 i u]⟩ w fun x w' => (x = .returned (.bool true) ∧ ∃ s, Hold w0 F (Γ ++ M (i + 1) s) w') ∨ (x = .returned (.bool false) ∧ ∃ k, Hold w0 F (Γ ++ X k) w')) →
  ∀ s w, Hold w0 F (Γi ++ M 0 s) w → Calls P gf ⟨.func (.yield l) #[] #[] :: lb⟩ w fun x w' => (∃ v, x = .returned v) ∧ ((∃ s, Hold w0 F (M N s) w') ∨ ∃ k, Hold w0 F (X k) w')
theorem JX.range {Q : Nn → Cont} {g : Operand} {p1 p2 : Nat} {assign body : Code} {gf : FuncId} {lb : List Value} {N : Nat} {ι ζ κ ξ : Type} {v1 v2 : Nat → ι → Value} {G : Nat → ι → List Fact} {Γi : List Fact}
  (M : Nat → ξ → List Fact) (X : κ → List Fact) (E2 : Nat → ι → ξ → ζ → E) (N2 : Nat → ι → ξ → ζ → List Fact) (s0 : ξ)
  [hg : Ev e g (.func (.func gf) #[] ⟨lb⟩)] [hb : Body P gf] (h1 : Nat.blt p1 n.s = true) (h2 : Nat.blt p2 n.s = true)
  (hi : Iter P w0 F gf lb N v1 v2 G Γi) (h0 : ∀ w, Hold w0 F Γ w → Hold w0 F (Γi ++ M 0 s0) w)
  (ha : ∀ i, i < N → ∀ (u : ι) (s : ξ) (Γ : List Fact) l, JI P ⟨n.s, []⟩ w0 F l assign (fun x e' Γ' => x = .normal ∧ ∃ z, Ent e' Γ' (E2 i u s z) (N2 i u s z ++ Γ)) ((p2, v2 i u) :: (p1, v1 i u) :: e) (G i u ++ M i s ++ Γ))
  (hbd : ∀ i, i < N → ∀ (u : ι) (s : ξ) (z : ζ) (Γ : List Fact) l, JI P ⟨n.s, []⟩ w0 F l body (fun x e' Γ' => (x = .normal ∧ ∃ s, ∀ w, Hold w0 F Γ' w → Hold w0 F (M (i + 1) s ++ Γ) w) ∨ (x = .ret ∧ ∃ k, ∀ w, Hold w0 F Γ' w → Hold w0 F (X k ++ Γ) w)) (E2 i u s z) (N2 i u s z ++ Γ))
  (kn : ∀ D s, Q ⟨n.s, ⟨.collected D, #[]⟩ :: n.ds⟩ .normal e (.obj D (.deferred (some [])) :: M N s))
  (kr : ∀ D k, Q ⟨n.s, ⟨.collected D, #[]⟩ :: n.ds⟩ .ret e (.obj D (.deferred (some [])) :: X k)) :
  JX P n w0 F (.rangeFunc g #[p1, p2] assign body) Q e Γ := by
 intro a w fr ho
 refine (wpIn_wide (n := 3)).1 (wpIn_rangeFunc ?_)
 intro fn hfn
 obtain ⟨rec, hrec⟩ : ∃ rec : LoopState → Option Code → Loop, rec = fun st pe => { state := st, pending := pe, fn, tmps := a.tmps, params := #[p1, p2], assign, body, defers := w.heap.size } := ⟨_, rfl⟩
 have ho1 : Hold w0 F (.obj (w.heap.size + 1) (.loop (rec .ready none)) :: .obj w.heap.size (.deferred (some [])) :: (Γi ++ M 0 s0)) ((w.alloc (.deferred (some []))).alloc (.loop (rec .ready none))) := by
  have a1 := (h0 w ho).push (f := .obj w.heap.size (.deferred (some []))) (fun _ => Iff.rfl) (fun _ _ h => h)
  have a2 := a1.push (f := .obj (w.alloc (.deferred (some []))).heap.size (.loop (rec .ready none))) (fun _ => Iff.rfl) (fun _ _ h => h)
  simpa only [World.size_alloc] using a2
 obtain ⟨W1, hW1⟩ : ∃ W1, (w.alloc (.deferred (some []))).alloc (.loop (rec .ready none)) = W1 := ⟨_, rfl⟩
 rw [hW1] at ho1
 obtain ⟨D, hD⟩ : ∃ D, D = w.heap.size := ⟨_, rfl⟩
 have eg := hg.ok n a fr
 have e3 : (#[.func (.yield (D + 1)) #[] #[]] : Array Value) ++ (⟨lb⟩ : Array Value) = ⟨.func (.yield (D + 1)) #[] #[] :: lb⟩ := by apply Array.ext'; simp
 have hLr : ∀ st pe, (rec st pe).state = st := fun st pe => by rw [hrec]
 have fr0 : Fr ⟨n.s, []⟩ e ⟨a.tmps, []⟩ := ⟨rfl, fr.size, fr.slot⟩
 refine ⟨D + 1, [{ target := .collected D, args := #[] }], W1, { target := .fn (.func gf) ⟨lb⟩, args := #[.func (.yield (D + 1)) #[] #[]] }, W1, gf, ⟨.func (.yield (D + 1)) #[] #[] :: lb⟩, W1, ?_, ?_, ?_, ?_, fun h => (by cases h), ?_⟩
 ·rw [← hW1, hrec, hD]; exact run_enterLoop_outer _ _ _ _ _
 ·simp only [resolve, eg]
  simp [go_sem, Deferred.ofValue]
 ·intro f' _; trivial
 ·simp only [invoke, e3, hb.ok]
 ·rw [← hD] at ho1
  let M' : Nat → ξ → List Fact := fun i s => .obj (D + 1) (.loop (rec .ready none)) :: .obj D (.deferred (some [])) :: M i s
  let X' : κ → List Fact := fun k => .obj (D + 1) (.loop { rec .ready none with state := .done, pending := some .ret }) :: .obj D (.deferred (some [])) :: X k
  refine callsIn_wide.2 (Calls.mono (hi (D + 1) κ ξ M' X' ?_ s0 W1 (ho1.perm ?_)) ?_)
  ·intro i hin u s Γ W hW
   have hW' : Hold w0 F (.obj (D + 1) (.loop (rec .ready none)) :: (G i u ++ M i s ++ .obj D (.deferred (some [])) :: Γ)) W := by
    refine hW.perm ?_
    show (G i u ++ Γ ++ .obj (D + 1) (.loop (rec .ready none)) :: .obj D (.deferred (some [])) :: M i s).Perm _
    refine List.perm_middle.trans (List.Perm.cons _ ?_)
    refine List.perm_middle.trans ((List.Perm.cons _ ?_).trans List.perm_middle.symm)
    rw [List.append_assoc, List.append_assoc]
    exact List.Perm.append_left _ List.perm_append_comm
   have hl := hW'.objAt
   have hy := run_yield (P := P) (args := ⟨[v1 i u, v2 i u]⟩) hl (by rw [hrec]; rfl)
   refine ⟨_, _, _, _, hy, roundIn_of_wpIn trivial ?_⟩
   have etm : ((rec .ready none).params.zip (⟨[v1 i u, v2 i u]⟩ : Array Value)).foldl (fun t (p, v) => t.setIfInBounds p v) (rec .ready none).tmps = (a.tmps.setIfInBounds p1 (v1 i u)).setIfInBounds p2 (v2 i u) := by
    rw [hrec]; exact X4l p1 p2 _ _ _
   have ea : (rec .ready none).assign = assign := by rw [hrec]
   have eb : (rec .ready none).body = body := by rw [hrec]
   rw [etm, ea, eb]
   have fr1 := (fr0.put h1 (v1 i u)).put h2 (v2 i u)
   have hW2 : Hold w0 F (G i u ++ M i s ++ (.obj (D + 1) (.loop (rec .ready none)) :: .obj D (.deferred (some [])) :: Γ)) W := hW'.perm List.perm_middle.symm
   refine wpIn_mono (ha i hin u s _ (D + 1) (fun _ _ h => by cases h.1) _ W fr1 hW2) ?_
   rintro x a2 W2 ⟨e2, Γ2, ⟨rfl, z, hent⟩, fr2, ho2⟩
   have ho3 : Hold w0 F (.obj (D + 1) (.loop (rec .ready none)) :: (N2 i u s z ++ .obj D (.deferred (some [])) :: Γ)) W2 := (hent.facts w0 F W2 ho2).perm List.perm_middle
   have fr3 := hent.slots _ _ fr2
   refine ⟨_, run_beginRound ho3.objAt (hLr _ _), ?_⟩
   have ho4 := (ho3.turn (o' := .loop { rec .ready none with state := .busy })).perm (List.perm_middle (l₁ := N2 i u s z)).symm
   refine wpIn_mono (hbd i hin u s z _ (D + 1) (fun _ _ h => by rcases h with h | h <;> cases h.1) _ _ fr3 ho4) ?_
   rintro x a5 W5 ⟨e5, Γ5, hx, fr5, ho5⟩
   rcases hx with ⟨rfl, s2, hm⟩ | ⟨rfl, k, hm⟩
   ·have ho6 := (hm _ ho5).perm (List.perm_middle (l₁ := M (i + 1) s2))
    refine ⟨_, _, run_endRound none ho6.objAt, .inl ⟨rfl, s2, ?_⟩⟩
    have ho7 := ho6.turn (o' := .loop (rec .ready none))
    have er : (Obj.loop { ({ rec .ready none with state := .busy } : Loop) with state := if (none : Option Code).isNone then .ready else .done, pending := none }) = .loop (rec .ready none) := by rw [hrec]; rfl
    rw [er]
    refine ho7.perm ?_
    show List.Perm _ (Γ ++ .obj (D + 1) (.loop (rec .ready none)) :: .obj D (.deferred (some [])) :: M (i + 1) s2)
    refine (List.Perm.cons _ ?_).trans List.perm_middle.symm
    refine List.perm_middle.trans ((List.Perm.cons _ List.perm_append_comm).trans List.perm_middle.symm)
   ·have ho6 := (hm _ ho5).perm (List.perm_middle (l₁ := X k))
    refine ⟨_, _, run_endRound (some .ret) ho6.objAt, .inr ⟨rfl, k, ?_⟩⟩
    have ho7 := ho6.turn (o' := .loop { rec .ready none with state := .done, pending := some .ret })
    have er : (Obj.loop { ({ rec .ready none with state := .busy } : Loop) with state := if (some Code.ret : Option Code).isNone then .ready else .done, pending := some .ret }) = .loop { rec .ready none with state := .done, pending := some .ret } := by rfl
    rw [er]
    refine ho7.perm ?_
    show List.Perm _ (Γ ++ .obj (D + 1) (.loop { rec .ready none with state := .done, pending := some .ret }) :: .obj D (.deferred (some [])) :: X k)
    refine (List.Perm.cons _ ?_).trans List.perm_middle.symm
    refine List.perm_middle.trans ((List.Perm.cons _ List.perm_append_comm).trans List.perm_middle.symm)
  ·show List.Perm _ (Γi ++ .obj (D + 1) (.loop (rec .ready none)) :: .obj D (.deferred (some [])) :: M 0 s0)
   refine (List.Perm.trans ?_ List.perm_middle.symm)
   exact List.Perm.cons _ List.perm_middle.symm
  ·have frD : ∀ {W}, Hold w0 F Γ W → Fr ⟨n.s, ⟨.collected D, #[]⟩ :: n.ds⟩ e { a with defers := [⟨.collected D, #[]⟩] ++ a.defers } := fun _ => ⟨by show [_] ++ a.defers = _; rw [fr.defers]; rfl, fr.size, fr.slot⟩
   have frE := frD ho
   rintro x W3 ⟨⟨v, rfl⟩, ⟨s, hM⟩ | ⟨k, hX⟩⟩
   ·refine ⟨none, W3.putObj (D + 1) (.loop { rec .ready none with state := .exhausted }), ?_, ?_⟩
    ·have := run_endLoop (P := P) hM.objAt (by rw [hLr]; simp)
     have ep : (rec .ready none).pending = none := by rw [hrec]
     exact this.trans (congrArg (fun x => Result.ok x _) ep)
    ·have ho9 := (hM.turn (o' := .loop { rec .ready none with state := .exhausted })).tail
     exact ⟨_, e, _, kn D s, frE, ho9⟩
   ·refine ⟨some .ret, _, run_endLoop (P := P) hX.objAt (by simp), ?_⟩
    have ho9 := (hX.turn (o' := .loop { ({ rec .ready none with state := .done, pending := some .ret } : Loop) with state := .exhausted })).tail
    exact wpIn_ret ⟨_, e, _, kr D k, frE, ho9⟩
theorem X4m {Q : Nn → Cont} {x y : Code} (h : JX P n w0 F x (fun n' => andThen (JC P n' w0 F y (Q n')) (Q n')) e Γ) : JX P n w0 F (.seq x y) Q e Γ := by
 intro a w fr ho
 refine wp_seq (wp_mono (h a w fr ho) ?_)
 rintro z a w ⟨n', e, Γ, hq, fr, ho⟩
 cases z <;> first | exact wp_mono (hq a w fr ho) (fun x a w ⟨e, Γ, hq⟩ => ⟨n', e, Γ, hq⟩) | exact ⟨n', e, Γ, hq, fr, ho⟩
theorem JX.block {Q : Nn → Cont} {id : Nat} {c : Code} (h : JX P n w0 F c (fun n' => inBlock id (Q n')) e Γ) : JX P n w0 F (.block id c) Q e Γ := by
 intro a w fr ho
 refine wp_block (wp_mono (h a w fr ho) ?_)
 rintro x a w ⟨n', e, Γ, hq, fr, ho⟩
 cases x with
 | exit id' =>
  simp only [inBlock, Exit.inBlock] at *
  split
  ·rename_i he; rw [if_pos he] at hq; exact ⟨n', e, Γ, hq, fr, ho⟩
  ·rename_i he; rw [if_neg he] at hq; exact ⟨n', e, Γ, hq, fr, ho⟩
 | _ => exact ⟨n', e, Γ, hq, fr, ho⟩
theorem Xue {f : FuncId} {fn : Func} {c : Code} {rs : List ResultVar} {args : List Value} {w : World} {Y : Type} {v : Y → Value} {B : Y → List Fact}
  {m : Nat} (hf : P.funcs[f]? = some fn) (hb : fn.body = some c) (hn : fn.ntmps = m) (hr : fn.results = ⟨rs⟩) (hl : Nat.ble args.length m = true) (Γ : List Fact) (ho : Hold w F Γ w)
  (h : JX P ⟨m, []⟩ w F c (fun n' x e Γ => ∃ D Γ', n' = ⟨m, [⟨.collected D, #[]⟩]⟩ ∧ (x = .ret ∨ x = .normal) ∧ (∀ w1, Hold w F Γ w1 → Hold w F (.obj D (.deferred (some [])) :: Γ') w1) ∧ Xan P w F rs v B .ret e Γ') (enum 0 args) Γ) : Gives P f args w F v B := by
 refine callsIn_wide.1 (callsIn_of_wp_marks (F := Fence.wide) (n := 3) hf hb trivial ?_)
 rw [hn]
 refine wpIn_mono ((wpIn_wide (n := 3)).2 (h _ w (Fr.start hl) ho)) ?_
 rintro x a w' ⟨n', e, Γ, ⟨D, Γ', rfl, hx, hΓ, _, y, vs, hres, hpk, hB⟩, fr, ho'⟩
 have ho1 := hΓ w' ho'
 have ho2 := (ho1.turn (o' := .deferred none)).tail
 have fr' : Fr ⟨m, []⟩ e ⟨a.tmps, []⟩ := ⟨rfl, fr.size, fr.slot⟩
 have hrun := Xeg (P := P) hr hres fr' ho2
 have key : LeavesInM Fence.wide 3 P fn a.tmps (fun x w' => ∃ y, x = .returned (v y) ∧ Bel w.heap.size w w' ∧ Fresh w.heap.size F (B y) w') a.defers .returning w' := by
  rw [fr.defers]
  refine ⟨by simp, .inl ⟨D, _, rfl, run_takeDeferred ho1.objAt, ?_⟩⟩
  exact ⟨_, hrun, y, by rw [hpk], ho2.below, (hB _ ho2).fresh⟩
 rcases hx with rfl | rfl <;> exact key
end
section
attribute [local irreducible] JC JO JR JQ andThen inBlock OpV Gives Xan JM JS
section
attribute [local irreducible] JY JI JX
theorem Xqo (a : Option Addr) (c : Nat) (b : List UInt8) (h : (sl a c b).holds F w) :
  Gives prog 61 [.slice a b.length c] w F (fun y : Nat => .func (.func 121) #[] ⟨[.pointer (some ⟨y, 0, none⟩)]⟩) (fun y => [.own y 22 [.slice a b.length c]]) := by
 refine Xaa func61 rfl ntmps61 rfl rfl [.st (sl a c b)] (.start1 h) ?_
 (repeat (refine wE ?_; intro _)); refine wA ?_
 rename_i bx
 exact Xab bx rfl
noncomputable def comAt (b : List UInt8) (i : Nat) : Commit := (decL (readL b)).getD i com0
noncomputable def endAt (b : List UInt8) (i : Nat) : Nat := (Xak ((readL b).take (i + 1))).length
theorem Xsx (w0 : World) (F : Nat → Prop) (bx : Nat) (a : Option Addr) (c : Nat) (b : List UInt8) (hb : b.length ≤ 1048576) :
  Iter prog w0 F 121 [.pointer (some ⟨bx, 0, none⟩)] (decL (readL b)).length (ι := Option Addr × Nat) (fun i u => Xax (comAt b i) u.1 u.2) (fun i u => .int .i64 (endAt b i : Int))
   (fun i u => [.st (sl u.1 u.2 (comAt b i).parents)]) [.own bx 22 [.slice a b.length c], .st (sl a c b)] := by
 intro l κ ξ M X hY s0 w ho
 have hpre : Xak (readL b) <+: b := Xgq _ _
 have hfl : (Xak (readL b)).length ≤ b.length := hpre.length_le
 have hrl := Xer (readL b)
 have hsm : ∀ x ∈ readL b, x.length ≤ 4000 := Xjd _ _
 have hdl := Xh2 (readL b)
 refine Calls.mono (R := fun x w' => ∃ y : ξ ⊕ κ, x = .returned (.tuple ⟨[]⟩) ∧ Hold w0 F (match y with | .inl s => M (decL (readL b)).length s | .inr k => X k) w') ?key ?mono
 case mono =>
  rintro x w' ⟨y, rfl, hy⟩
  cases y with
  | inl s => exact ⟨⟨_, rfl⟩, .inl ⟨s, hy⟩⟩
  | inr k => exact ⟨⟨_, rfl⟩, .inr ⟨k, hy⟩⟩
 refine Xb6 (Y := ξ ⊕ κ) (v := fun _ => .tuple ⟨[]⟩) (B := fun y => match y with | .inl s => M (decL (readL b)).length s | .inr k => X k) func121 rfl ntmps121 rfl rfl
  (.own bx 22 [.slice a b.length c] :: .st (sl a c b) :: M 0 s0) ho ?_
 refine wz9 ?_
 refine Xbp rfl (fun w1 hw => X1o w1 _ a c b hw.get hb) ?_
 intro a3 c3
 generalize hrs : readL b = rs at hY hpre hfl hrl hsm hdl ⊢
 refine wz4 ?_
 refine JC.reslot 5 (.int .i64 ((Xak (rs.take 0)).length : Int)) rfl ?_
 refine Xcz (fun (i : Nat) (s : ξ) => [(0, .func (.yield l) #[] #[]), (5, .int .i64 ((Xak (rs.take i)).length : Int)), (18, .slice a3 rs.length c3), (19, .int .i64 (rs.length : Int)), (20, .int .i64 (i : Int))])
  (fun i s => .st (sl a3 c3 rs) :: M i s) (fun i _ => i ≤ (decL rs).length) (fun i _ => rs.length - i) 0 s0 (Nat.zero_le _) iI ?_
 intro i s hi
 refine wz11 ?_
 refine JC.test (fun h1 => ?_) (fun h1 => ?_)
 ·have hlt : i < rs.length := by omega
  refine wz14 ?_
  have hx := hsm rs[i] (List.getElem_mem hlt)
  have hfr : Xft rs[i] = (Xbv rs[i], 0) := if_neg (by omega)
  refine Xd7 (k := i) rfl hlt ?_
  intro b5 o5 a5 c5
  refine wz9 ?_
  refine Xbp rfl (fun w1 hw => Xrz w1 _ a5 c5 rs[i] hw.get) ?_
  rw [hfr]
  intro a6 c6
  dsimp only
  have hnx := Xlq hlt
  have hle := Xh3 rs (i + 1)
  refine wA ?_
  refine Xf2 (B := fun y : GetY rs[i] => .st (sl y.pa y.pc (getT rs[i]).1.parents)) (C := fun y : GetY rs[i] => .st (sl y.ra y.rc (getT rs[i]).2.1)) rfl (fun w1 hw => X30 w1 _ a5 c5 rs[i] hw.get (by omega)) ?_
  rintro ⟨pa, pc, ra, rc⟩
  dsimp only
  by_cases hd : i < (decL rs).length
  ·have hg := Xk8 rs i hd hlt
   have hT : getT rs[i] = ((decL rs)[i], [], 0) := Xgn hg
   rw [hT]
   dsimp only
   have hcm : comAt b i = (decL rs)[i] := by unfold comAt; rw [hrs, List.getD_eq_getElem?_getD, List.getElem?_eq_getElem hd]; rfl
   have hend : endAt b i = (Xak (rs.take (i + 1))).length := by unfold endAt; rw [hrs]
   generalize (decL rs)[i] = cm at hg hcm ⊢
   repeat (first|refine Wd ?_|refine We rfl ?_|refine Wf (by first|exact Va|exact Vb|exact Vc|exact Vd|exact Ve|exact Vf|exact Vg|exact Vh|exact Vi|exact Vj|exact Vk (by omega)|exact Vl|exact Vm|exact Vn|exact Vo|exact Vp|exact Vq|exact Vr|exact Vs (by omega)|exact Vt (by omega)|exact Vu (by omega)|exact Vv (by omega)|exact Vw|exact Vx|exact Vy|exact Vz|exact VA|exact VB|exact VC|exact VD|exact VE|exact VF) rfl ?_|(refine Wg rfl ?_; intro _)|(refine Wh rfl ?_; intro _)|refine Wi ?_|refine Wv rfl rfl ?_)
   rename_i bc
   refine Wa ?_
   refine Wb ?_
   refine Xw1 ?_
   refine z7z ?_
   refine JY.reslot 49 (.int .i64 ((Xak (rs.take (i + 1))).length : Int)) (by congr 1; omega) ?_
   refine JY.reslot 5 (.int .i64 ((Xak (rs.take (i + 1))).length : Int)) (by congr 1; omega) ?_
   refine JY.yield (l := l) (κ := κ) (ξ := ξ) (Γt := fun s => .st (sl a3 c3 rs) :: M (i + 1) s) (Γf := fun k => .st (sl a3 c3 rs) :: X k) rfl rfl (fun w1 ho => ?_) (fun s2 => ?_) (fun k => ?_)
   ·have hy := hY i hd (pa, pc) s [.st (sl a3 c3 rs)] w1
    dsimp only at hy
    rw [hcm, hend] at hy
    exact hy (ho.ent : Hold w0 F (.st (sl pa pc cm.parents) :: .st (sl a3 c3 rs) :: M i s) w1)
   ·refine z7z ?_
    refine wz2 ?_
    exact ⟨i + 1, s2, by omega, by omega, iI⟩
   ·refine z7z ?_
    refine wz8 ?_
    exact Xab (.inr k) rfl
  ·obtain rfl : i = (decL rs).length := by omega
   have hne := Xqn rs hlt
   cases hg : getC (rs[(decL rs).length]) with
   | none =>
    rw [Xfu hg]
    dsimp only
    (repeat (refine wF ?_; intro _)); refine wX ?_
    exact Xab (.inl s) rfl
   | some q =>
    obtain ⟨cm, R⟩ := q
    rw [Xgn hg]
    dsimp only
    have hR : 0 < R.length := by
     cases R with
     | nil => exact (hne ⟨cm, hg⟩).elim
     | cons r R => simp
    (repeat (refine wF ?_; intro _)); refine wX ?_
    refine JO.test 46 (fun h6 => ?_) (fun h6 => absurd h6 (by omega))
    refine wz8 ?_
    exact Xab (.inl s) rfl
 ·obtain rfl : i = (decL rs).length := by omega
  refine wz3 ?_
  exact Xx2 (.inl s) rfl
end
section
attribute [local irreducible] JY JI JX Xay
theorem Xvn {l : List (List UInt8)} {c : Commit} (h : c ∈ decL l) : fine c := by
 obtain ⟨i, hi, rfl⟩ := List.getElem_of_mem h
 obtain ⟨h1, h2⟩ := Xma (Xk8 l i hi (Nat.lt_of_lt_of_le hi (Xh2 l)))
 exact ⟨h2, by have := Xfx h1; omega⟩
theorem Xw2 (a : Option Addr) (c : Nat) (b : List UInt8) (h : (sl a c b).holds F w) (hb : b.length ≤ 1048576) :
  Xcr prog 17 [.slice a b.length c] w F (Xcc b) [.int .i64 (Xb5 b : Int)] := by
 obtain ⟨xs, hxs⟩ : ∃ xs, xs = decL (readL b) := ⟨_, rfl⟩
 obtain ⟨rs, hrs⟩ : ∃ rs, rs = readL b := ⟨_, rfl⟩
 refine Xue func17 rfl ntmps17 rfl rfl [.st (sl a c b)] (.start1 h) ?_
 refine JX.seq ?_
 (repeat (refine wE ?_; intro _)); refine wA ?_
 rename_i b2 b3
 refine ⟨rfl, JX.seq ?_⟩
 (repeat (refine wE ?_; intro _)); refine wA ?_
 rename_i b4
 refine ⟨rfl, JX.seq ?_⟩
 (repeat (refine wE ?_; intro _)); refine wA ?_
 rename_i b5
 refine ⟨rfl, X4m (JX.seq ?_)⟩
 refine wz14 ?_
 refine JR.call1 (B := fun y : Nat => .own y 22 [.slice a b.length c]) rfl (fun w1 hw => Xqo w1 _ a c b hw.get) ?_
 intro bx
 refine wz10 ?_
 refine ⟨rfl, JX.block ?_⟩
 let E0 : E := [(2, .pointer (some ⟨b2, 0, none⟩)), (3, .pointer (some ⟨b3, 0, none⟩)), (4, .pointer (some ⟨b4, 0, none⟩)), (5, .pointer (some ⟨b5, 0, none⟩))]
 have hiter := Xsx w F bx a c b hb
 rw [← hxs] at hiter
 refine JX.range (ξ := Option Addr × Nat) (κ := Option Addr × Nat) (ζ := Nat)
  (fun i s => [.own b2 35 [.slice none 0 0], .own b3 3 [.int .i64 0], .own b4 35 [.slice s.1 (xs.take i).length s.2], .own b5 3 [.int .i64 ((Xak (rs.take i)).length : Int)], .res (buf s.1 s.2 29 (xs.take i)), .st (tru (Xb0 [] xs = Xb0 (xs.take i) (xs.drop i)))])
  (fun k => [.own b2 35 [.slice k.1 (Xcc b).length k.2], .own b3 3 [.int .i64 (Xb5 b : Int)], .st (sl k.1 k.2 (Xcc b))])
  (fun i u s z => (7, .int .i64 (endAt b i : Int)) :: (6, .pointer (some ⟨z, 0, none⟩)) :: E0)
  (fun i u s z => [.own z 29 [.int .i64 (comAt b i).ev.node, .int .i64 (comAt b i).ev.seq, .int .i64 (comAt b i).gen, .slice u.1 (comAt b i).parents.length u.2, .int .i64 (comAt b i).op.kind, .string (comAt b i).op.key, .string (comAt b i).op.elem, .int .i64 (comAt b i).op.n], .st (sl u.1 u.2 (comAt b i).parents),
   .own b2 35 [.slice none 0 0], .own b3 3 [.int .i64 0], .own b4 35 [.slice s.1 (xs.take i).length s.2], .own b5 3 [.int .i64 ((Xak (rs.take i)).length : Int)], .res (buf s.1 s.2 29 (xs.take i)), .st (tru (Xb0 [] xs = Xb0 (xs.take i) (xs.drop i)))])
  (none, 0) rfl rfl hiter ?h0 ?ha ?hbd ?kn ?kr
 case h0 =>
  intro w1 ho
  show Hold w F [.own bx 22 [.slice a b.length c], .st (sl a c b), .own b2 35 [.slice none 0 0], .own b3 3 [.int .i64 0], .own b4 35 [.slice none 0 0], .own b5 3 [.int .i64 0], .res (buf (α := Commit) none 0 29 []), .st (tru (Xb0 [] xs = Xb0 (xs.take 0) (xs.drop 0)))] w1
  have := ((ho.ent : Hold w F [.own bx 22 [.slice a b.length c], .st (sl a c b), .own b2 35 [.slice none 0 0], .own b3 3 [.int .i64 0], .own b4 35 [.slice none 0 0], .own b5 3 [.int .i64 0]] w1).add (A := tru (Xb0 [] xs = Xb0 (xs.take 0) (xs.drop 0))) rfl)
  exact (this.bufNil (α := Commit) (el := 29) (Γ' := .st (tru (Xb0 [] xs = Xb0 (xs.take 0) (xs.drop 0))) :: [.own bx 22 [.slice a b.length c], .st (sl a c b), .own b2 35 [.slice none 0 0], .own b3 3 [.int .i64 0], .own b4 35 [.slice none 0 0], .own b5 3 [.int .i64 0]])).ent
 case ha =>
  rintro i hi ⟨pa, pc⟩ ⟨p, q⟩ Γ l
  dsimp only [List.cons_append, List.nil_append]
  repeat (first|refine Wa ?_|refine JI.seq ?_|refine JI.region rfl ?_|refine Wd ?_|refine We rfl ?_|refine Wf (by first|exact Va|exact Vb|exact Vc|exact Vd|exact Ve|exact Vf|exact Vg|exact Vh|exact Vi|exact Vj|exact Vk (by omega)|exact Vl|exact Vm|exact Vn|exact Vo|exact Vp|exact Vq|exact Vr|exact Vs (by omega)|exact Vt (by omega)|exact Vu (by omega)|exact Vv (by omega)|exact Vw|exact Vx|exact Vy|exact Vz|exact VA|exact VB|exact VC|exact VD|exact VE|exact VF) rfl ?_|(refine Wg rfl ?_; intro _)|(refine Wh rfl ?_; intro _)|refine Wi ?_|refine Xd3 ?_|refine Xdb ?_|refine JI.skip ?_|refine JI.ret ?_|refine Wt ?_|refine JI.block ?_|refine Wr ?_|refine Wu ?_|refine Wv rfl rfl ?_|(refine Ww rfl ⟨rfl, by decide, by decide, by decide⟩ ?_; intro _))
  rename_i z
  exact ⟨rfl, z, iI⟩
 case hbd =>
  rintro i hi ⟨pa, pc⟩ ⟨p, q⟩ z Γ l
  dsimp only [List.cons_append, List.nil_append]
  have hxi : comAt b i = xs[i] := by unfold comAt; rw [← hxs, List.getD_eq_getElem?_getD, List.getElem?_eq_getElem hi]; rfl
  have hfn : ∀ x ∈ xs.take (i + 1), fine x := fun x hx => Xvn (by rw [← hxs]; exact List.mem_of_mem_take hx)
  have hdl := Xh2 (readL b)
  have hrl := Xer (readL b)
  have hpre : (Xak (readL b)).length ≤ b.length := (Xgq _ _ : Xak (readL b) <+: b).length_le
  rw [← hxs] at hdl
  have hlen : (xs.take i).length = i := by rw [List.length_take]; omega
  have hnext : xs.take (i + 1) = xs.take i ++ [comAt b i] := by rw [hxi]; exact List.take_succ_eq_append_getElem hi
  refine JI.know (fun w1 ho => (ho.get (A := tru (Xb0 [] xs = Xb0 (xs.take i) (xs.drop i))))) ?_
  intro hcl
  generalize comAt b i = cm at hnext hxi ⊢
  repeat (first|refine Wa ?_|refine JI.seq ?_|refine JI.region rfl ?_|refine Wd ?_|refine We rfl ?_|refine Wf (by first|exact Va|exact Vb|exact Vc|exact Vd|exact Ve|exact Vf|exact Vg|exact Vh|exact Vi|exact Vj|exact Vk (by omega)|exact Vl|exact Vm|exact Vn|exact Vo|exact Vp|exact Vq|exact Vr|exact Vs (by omega)|exact Vt (by omega)|exact Vu (by omega)|exact Vv (by omega)|exact Vw|exact Vx|exact Vy|exact Vz|exact VA|exact VB|exact VC|exact VD|exact VE|exact VF) rfl ?_|(refine Wg rfl ?_; intro _)|(refine Wh rfl ?_; intro _)|refine Wi ?_|refine Xd3 ?_|refine Xdb ?_|refine JI.skip ?_|refine JI.ret ?_|refine Wt ?_|refine JI.block ?_|refine Wr ?_|refine Wu ?_|refine Wv rfl rfl ?_|(refine Ww rfl ⟨rfl, by decide, by decide, by decide⟩ ?_; intro _))
  rename_i bl
  refine Xai (L := xs.take i) (u := cm) rfl (by exact ⟨rfl, rfl, by decide⟩) (by omega) ?_
  intro a6 c6
  rw [← hnext]
  repeat (first|refine Wa ?_|refine JI.seq ?_|refine JI.region rfl ?_|refine Wd ?_|refine We rfl ?_|refine Wf (by first|exact Va|exact Vb|exact Vc|exact Vd|exact Ve|exact Vf|exact Vg|exact Vh|exact Vi|exact Vj|exact Vk (by omega)|exact Vl|exact Vm|exact Vn|exact Vo|exact Vp|exact Vq|exact Vr|exact Vs (by omega)|exact Vt (by omega)|exact Vu (by omega)|exact Vv (by omega)|exact Vw|exact Vx|exact Vy|exact Vz|exact VA|exact VB|exact VC|exact VD|exact VE|exact VF) rfl ?_|(refine Wg rfl ?_; intro _)|(refine Wh rfl ?_; intro _)|refine Wi ?_|refine Xd3 ?_|refine Xdb ?_|refine JI.skip ?_|refine JI.ret ?_|refine Wt ?_|refine JI.block ?_|refine Wr ?_|refine Wu ?_|refine Wv rfl rfl ?_|(refine Ww rfl ⟨rfl, by decide, by decide, by decide⟩ ?_; intro _))
  have hend : endAt b i = (Xak (rs.take (i + 1))).length := by unfold endAt; rw [← hrs]
  rw [hend]
  have hlen1 : (xs.take (i + 1)).length = i + 1 := by rw [List.length_take]; omega
  by_cases hc : Closed (xs.take (i + 1))
  ·have hst := Xnp hi hcl hc
   refine JR.callV rfl (fun w1 hw => (Xww w1 (fun _ => True) a6 c6 (xs.take (i + 1)) (Hold.bufSlOf (α := Commit) (a := a6) (c := c6) (el := 29) (L := xs.take (i + 1)) hw) (by omega) hfn hc).any) ?_
   repeat (first|refine Wa ?_|refine JI.seq ?_|refine JI.region rfl ?_|refine Wd ?_|refine We rfl ?_|refine Wf (by first|exact Va|exact Vb|exact Vc|exact Vd|exact Ve|exact Vf|exact Vg|exact Vh|exact Vi|exact Vj|exact Vk (by omega)|exact Vl|exact Vm|exact Vn|exact Vo|exact Vp|exact Vq|exact Vr|exact Vs (by omega)|exact Vt (by omega)|exact Vu (by omega)|exact Vv (by omega)|exact Vw|exact Vx|exact Vy|exact Vz|exact VA|exact VB|exact VC|exact VD|exact VE|exact VF) rfl ?_|(refine Wg rfl ?_; intro _)|(refine Wh rfl ?_; intro _)|refine Wi ?_|refine Xd3 ?_|refine Xdb ?_|refine JI.skip ?_|refine JI.ret ?_|refine Wt ?_|refine JI.block ?_|refine Wr ?_|refine Wu ?_|refine Wv rfl rfl ?_|(refine Ww rfl ⟨rfl, by decide, by decide, by decide⟩ ?_; intro _))
   refine .inl ⟨rfl, (a6, c6), fun w1 ho => ?_⟩
   exact (ho.add (A := tru (Xb0 [] xs = Xb0 (xs.take (i + 1)) (xs.drop (i + 1)))) hst).ent
  ·have hst : Xcc b = xs.take i := by unfold Xcc; rw [← hxs]; exact Xnq hi hcl hc
   have hle : Xb5 b = (Xak (rs.take i)).length := by unfold Xb5; rw [hst, hlen, ← hrs]
   rw [hst, hle]
   refine JR.callV rfl (fun w1 hw => (Xzd w1 (fun _ => True) a6 c6 (xs.take (i + 1)) (Hold.bufSlOf (α := Commit) (a := a6) (c := c6) (el := 29) (L := xs.take (i + 1)) hw) (by omega) hfn hc).any) ?_
   repeat (first|refine Wa ?_|refine JI.seq ?_|refine JI.region rfl ?_|refine Wd ?_|refine We rfl ?_|refine Wf (by first|exact Va|exact Vb|exact Vc|exact Vd|exact Ve|exact Vf|exact Vg|exact Vh|exact Vi|exact Vj|exact Vk (by omega)|exact Vl|exact Vm|exact Vn|exact Vo|exact Vp|exact Vq|exact Vr|exact Vs (by omega)|exact Vt (by omega)|exact Vu (by omega)|exact Vv (by omega)|exact Vw|exact Vx|exact Vy|exact Vz|exact VA|exact VB|exact VC|exact VD|exact VE|exact VF) rfl ?_|(refine Wg rfl ?_; intro _)|(refine Wh rfl ?_; intro _)|refine Wi ?_|refine Xd3 ?_|refine Xdb ?_|refine JI.skip ?_|refine JI.ret ?_|refine Wt ?_|refine JI.block ?_|refine Wr ?_|refine Wu ?_|refine Wv rfl rfl ?_|(refine Ww rfl ⟨rfl, by decide, by decide, by decide⟩ ?_; intro _))
   refine JI.more (Γ' := .st (sl a6 c6 (xs.take (i + 1))) :: .own b2 35 [.slice none 0 0] :: .own b3 3 [.int .i64 0] :: .own b4 35 [.slice a6 (xs.take (i + 1)).length c6] :: .own b5 3 [.int .i64 ((Xak (rs.take i)).length : Int)] :: Γ) (fun w1 ho => (ho.ent : Hold w F (.res (buf a6 c6 29 (xs.take (i + 1))) :: .own b2 35 [.slice none 0 0] :: .own b3 3 [.int .i64 0] :: .own b4 35 [.slice a6 (xs.take (i + 1)).length c6] :: .own b5 3 [.int .i64 ((Xak (rs.take i)).length : Int)] :: Γ) w1).pub) ?_
   refine JI.drawP mixed rfl ?_
   refine JP.tv 0 [.own b4 35 [.slice a6 (xs.take (i + 1)).length c6]] ?_
   refine JP.tv 1 [.own b4 35 [.slice a6 (xs.take (i + 1)).length c6]] ?_
   refine Xad 2 ?_
   refine JP.pure 3 rfl (by kernel_rfl) rfl (fun _ => Vv (by omega)) rfl rfl ?_
   refine JP.reslot 22 (.int .i64 (i : Int)) (by congr 1; omega) ?_
   refine JP.take 4 [.st (sl a6 c6 (xs.take (i + 1)))] rfl (by kernel_rfl) rfl (Xca (k := i) (fun w1 ho => by have := (Hold.get (A := sl a6 c6 (xs.take (i + 1))) ho).1; omega)) rfl rfl ?_
   refine JP.tv 5 [.own b5 3 [.int .i64 ((Xak (rs.take i)).length : Int)]] ?_
   refine Xar 6 rfl rfl (Wi (Wd (nO ?_)))
   refine Xar 7 rfl rfl (Wi (Wd (nO ?_)))
   refine JP.nil (by kernel_rfl) ?_
   repeat (first|refine Wa ?_|refine JI.seq ?_|refine JI.region rfl ?_|refine Wd ?_|refine We rfl ?_|refine Wf (by first|exact Va|exact Vb|exact Vc|exact Vd|exact Ve|exact Vf|exact Vg|exact Vh|exact Vi|exact Vj|exact Vk (by omega)|exact Vl|exact Vm|exact Vn|exact Vo|exact Vp|exact Vq|exact Vr|exact Vs (by omega)|exact Vt (by omega)|exact Vu (by omega)|exact Vv (by omega)|exact Vw|exact Vx|exact Vy|exact Vz|exact VA|exact VB|exact VC|exact VD|exact VE|exact VF) rfl ?_|(refine Wg rfl ?_; intro _)|(refine Wh rfl ?_; intro _)|refine Wi ?_|refine Xd3 ?_|refine Xdb ?_|refine JI.skip ?_|refine JI.ret ?_|refine Wt ?_|refine JI.block ?_|refine Wr ?_|refine Wu ?_|refine Wv rfl rfl ?_|(refine Ww rfl ⟨rfl, by decide, by decide, by decide⟩ ?_; intro _))
   refine .inr ⟨rfl, (a6, c6), fun w1 ho => ?_⟩
   have e1 := Xez (k := i) (c' := c6) (ho.get (A := sl a6 c6 (xs.take (i + 1)))) (by omega) ⟨by have := (ho.get (A := sl a6 c6 (xs.take (i + 1)))).1; omega, Nat.le_refl _⟩
   rw [List.take_take, Nat.min_eq_left (by omega)] at e1
   have e2 := ho.add (A := sl a6 c6 (xs.take i)) e1
   dsimp only
   rw [hlen]
   exact e2.ent
 case kn =>
  rintro D ⟨p, q⟩
  refine Wr ?_
  refine Wa ?_
  dsimp only
  refine JC.know (fun w1 ho => (ho.get (A := tru (Xb0 [] xs = Xb0 (xs.take xs.length) (xs.drop xs.length))))) ?_
  intro hcl
  rw [List.take_length, List.drop_length] at hcl ⊢
  have hst : Xcc b = xs := by unfold Xcc; rw [← hxs]; exact hcl
  have hle : Xb5 b = (Xak (rs.take xs.length)).length := by unfold Xb5; rw [hst, ← hrs]
  rw [hst, hle]
  refine JC.more (Γ' := .st (sl p q xs) :: .obj D (.deferred (some [])) :: .own b2 35 [.slice none 0 0] :: .own b3 3 [.int .i64 0] :: .own b4 35 [.slice p xs.length q] :: [.own b5 3 [.int .i64 ((Xak (rs.take xs.length)).length : Int)]]) (fun w1 ho => (ho.ent : Hold w F (.res (buf p q 29 xs) :: .obj D (.deferred (some [])) :: .own b2 35 [.slice none 0 0] :: .own b3 3 [.int .i64 0] :: .own b4 35 [.slice p xs.length q] :: [.own b5 3 [.int .i64 ((Xak (rs.take xs.length)).length : Int)]]) w1).pub) ?_
  refine Wb ?_
  refine JC.drawP mixed ?_
  refine JP.tv 0 [.own b4 35 [.slice p xs.length q]] ?_
  refine JP.tv 1 [.own b5 3 [.int .i64 ((Xak (rs.take xs.length)).length : Int)]] ?_
  refine Xar 2 rfl rfl (Wi (Wd (nO ?_)))
  refine Xar 3 rfl rfl (Wi (Wd (nO ?_)))
  refine JP.nil (by kernel_rfl) ?_
  refine wz13 ?_
  refine ⟨D, [.own b2 35 [.slice p xs.length q], .own b3 3 [.int .i64 ((Xak (rs.take xs.length)).length : Int)], .st (sl p q xs)], rfl, .inl rfl, fun w1 ho => ho.ent, ?_⟩
  exact Xab (p, q) rfl
 case kr =>
  rintro D ⟨p, q⟩
  refine Wu ?_
  refine Wt ?_
  refine ⟨D, [.own b2 35 [.slice p (Xcc b).length q], .own b3 3 [.int .i64 (Xb5 b : Int)], .st (sl p q (Xcc b))], rfl, .inl rfl, fun w1 ho => ho.ent, ?_⟩
  exact Xab (p, q) rfl
end
section
attribute [local irreducible] Xay
theorem Xsy (b : List UInt8) : ∃ k, k ≤ (decL (readL b)).length ∧ Xcc b = (decL (readL b)).take k := by
 obtain ⟨k, hk, h⟩ := Xo9 (decL (readL b)) []
 exact ⟨k, hk, h⟩
def Xje (l : List Commit) (node : Int) : Int := l.foldl (fun n c => if c.ev.node = node then max n c.ev.seq else n) 0
theorem Xpa (l : List Commit) (node : Int) (i : Nat) (h : i < l.length) : Xje (l.take (i + 1)) node = if l[i].ev.node = node then max (Xje (l.take i) node) l[i].ev.seq else Xje (l.take i) node := by
 unfold Xje
 rw [List.take_succ_eq_append_getElem h, List.foldl_append]
 rfl
theorem Xw3 (a : Option Addr) (c : Nat) (l : List Commit) (node : Int) (h : (sl a c l).holds F w) :
  GivesV prog 22 [.slice a l.length c, .int .i64 node] w F (.int .i64 (Xje l node)) := by
 have hl : l.length < 9223372036854775807 := by have := h.2.2.1; simp only [lim] at this; omega
 refine Xaa func22 rfl ntmps22 rfl rfl [.st (sl a c l)] (.start1 h) ?_
 refine wz4 ?_
 refine JC.reslot 5 (.int .i64 (Xje (l.take 0) node)) rfl ?_
 refine Xap (fun (i : Nat) => [(1, .int .i64 node), (5, .int .i64 (Xje (l.take i) node)), (8, .slice a l.length c), (9, .int .i64 (l.length : Int)), (10, .int .i64 (i : Int))])
  (fun i => [.st (sl a c l)]) (fun i => i ≤ l.length) (fun i => l.length - i) 0 (Nat.zero_le _) iI ?_
 intro i hi
 refine wz11 ?_
 refine JC.test (fun h1 => ?_) (fun h1 => ?_)
 ·have hlt : i < l.length := by omega
  have hn := Xpa l node i hlt
  refine wz14 ?_
  refine Xaf (k := i) rfl hlt ?_
  intro b5 o5 p5 q5
  (repeat (refine wE ?_; intro _)); refine wA ?_
  refine JC.test (fun h2 => ?_) (fun h2 => ?_)
  ·rw [if_pos h2] at hn
   refine wz9 ?_
   refine Wf OpV.max rfl ?_
   rw [← hn]
   refine wz2 ?_
   exact ⟨i + 1, by omega, by omega, iI⟩
  ·rw [if_neg h2] at hn
   refine wz2 ?_
   exact ⟨i + 1, by omega, by omega, by rw [hn]; infer_instance⟩
 ·obtain rfl : i = l.length := by omega
  rw [List.take_length]
  refine wz3 ?_
  exact Xab () rfl
end
section
attribute [local irreducible] Xay idA l0 l1 ents
theorem Xkd (a : Option Addr) (c : Nat) (L : List Commit) (h : (sl a c L).holds F w) (hl : L.length ≤ 34359738368) :
  GivesBuf prog 206 [.slice a L.length c] w F 29 L := by
 refine Xaa func206 rfl ntmps206 rfl rfl [.st (sl a c L)] (.start1 h) ?_
 refine wA ?_
 refine JC.test (fun ha => ?_) (fun ha => ?_)
 ·cases a with
  | some a => cases ha
  | none =>
   obtain rfl := Xfk h
   refine wz9 ?_
   exact CT.done (none, 0) rfl (fun w ho => ho.bufNil)
 ·refine wz14 ?_
  refine Xmi (α := Commit) rfl ?_
  intro a2
  refine wz6 ?_
  refine Xau rfl (by exact ⟨rfl, rfl, by decide⟩) (by simpa using hl) ?_
  intro a3 c3
  rw [List.nil_append]
  refine wz10 ?_
  exact Xab (a3, c3) rfl
end
section
attribute [local irreducible] Xay
structure Nd where
 no : Int
 disk : List UInt8
 room : Int
 l : List Commit
 wait : List Commit
 seq : Int
 up : Bool
 peers : List Int
 next : Int
 miss : Int
structure Na where
 d : Option Addr
 dk : Nat
 l : Option Addr
 lk : Nat
 w : Option Addr
 wk : Nat
 p : Option Addr
 pk : Nat
abbrev ndC (n : Nd) (y : Na) : List Value := [.int .i64 n.no, .slice y.d n.disk.length y.dk, .int .i64 n.room, .slice y.l n.l.length y.lk, .slice y.w n.wait.length y.wk, .int .i64 n.seq, .bool n.up, .slice y.p n.peers.length y.pk, .int .i64 n.next, .int .i64 n.miss]
abbrev ndV (n : Nd) (y : Na) : Value := .agg ⟨ndC n y⟩
abbrev ndB (n : Nd) (y : Na) : List Fact := [.st (sl y.d y.dk n.disk), .st (sl y.l y.lk n.l), .st (sl y.w y.wk n.wait), .st (sl y.p y.pk n.peers)]
def nd0 : Nd := ⟨0, [], 0, [], [], 0, false, [], 0, 0⟩
def na0 : Na := ⟨none, 0, none, 0, none, 0, none, 0⟩
structure Mg where
 kind : Int
 ids : List ID
 commits : List Commit
structure Ma where
 i : Option Addr
 ik : Nat
 c : Option Addr
 ck : Nat
abbrev mgC (m : Mg) (y : Ma) : List Value := [.int .i64 m.kind, .slice y.i m.ids.length y.ik, .slice y.c m.commits.length y.ck]
abbrev mgV (m : Mg) (y : Ma) : Value := .agg ⟨mgC m y⟩
abbrev mgB (m : Mg) (y : Ma) : List Fact := [.st (sl y.i y.ik m.ids), .st (sl y.c y.ck m.commits)]
def mg0 : Mg := ⟨0, [], []⟩
def ma0 : Ma := ⟨none, 0, none, 0⟩
def Xfy (no room : Int) : Bool := decide (0 ≤ no) && decide (no < 8) && decide (0 ≤ room) && decide (room ≤ 1048576)
def Xc1 (no seq : Int) (c : Commit) : Bool := decide (c.ev.node ≠ no) || decide (c.ev.seq ≤ seq)
def Xbo (no seq : Int) (I : List ID) (c : Commit) : Bool := may c && !merge c && !decide (idC c ∈ I) && Xc1 no seq c
noncomputable section
def Xeb (n : Nd) : Bool :=
 if !Xfy n.no n.room || decide (n.room < (n.disk.length : Int)) then false
 else if !n.up then decide (n.l = []) && decide (n.wait = []) && decide (n.seq = 0)
 else decide (Xcc n.disk = n.l) && decide (Xb5 n.disk = n.disk.length) && decide (n.seq = Xje n.l n.no) && decide (n.wait.length ≤ 8) && n.wait.all (Xbo n.no n.seq (idsP n.l))
def Xh4 (n : Nd) (c : Commit) : Nd := if (storeT n.disk n.room c).2 = 0 then { n with disk := (storeT n.disk n.room c).1, l := n.l ++ [c] } else n
def Xen (n : Nd) (c : Commit) (rest : List Commit) : Nd :=
 if closedB (n.l ++ [c]) then Xh4 { n with wait := rest } c else { n with wait := rest }
def Xge : Nat → Nd → Nd
 | 0, n => n
 | f + 1, n =>
  if (Xa8 n.wait (idsP n.l)).2.2 then Xge f (Xen n (Xa8 n.wait (idsP n.l)).1 (Xa8 n.wait (idsP n.l)).2.1) else n
def Xcg (n : Nd) : Nd := Xge n.wait.length n
def Xdn (n : Nd) (c : Commit) : Nd := if Xbo n.no n.seq (idsP n.l) c then Xcg { n with wait := Xbd n.wait c } else n
def Xbu (n : Nd) (l : List Commit) : Nd := if Xeb n && n.up then l.foldl Xdn n else n
def newN (no room : Int) : Nd × Bool := if Xfy no room then ({ nd0 with no := no, room := room, up := true }, true) else (nd0, false)
def Xhl (m : Mg) : Bool :=
 if m.kind = 0 ∨ m.kind = 1 then decide (m.ids.length ≤ 16) && Xei m.ids && decide (m.commits = [])
 else if m.kind = 2 then decide (m.ids = []) && decide (m.commits.length ≤ 6) && m.commits.all (fun c => may c && !merge c)
 else false
theorem Xz6 (L : List Commit) : ∃ M, SortedR L M := by
 by_cases hc : Closed L
 ·refine ⟨L.mergeSort (fun a b => decide (a.gen < b.gen) || (decide (a.gen = b.gen) && !idLt (idC b) (idC a))), ⟨fun _ => List.mergeSort_perm _ _, fun _ => ?_, fun h => (h hc).elim⟩⟩
  have := List.pairwise_mergeSort (le := fun a b : Commit => decide (a.gen < b.gen) || (decide (a.gen = b.gen) && !idLt (idC b) (idC a))) (fun a b c h1 h2 => ?_) (fun a b => ?_) L
  ·refine this.imp ?_
   intro a b h
   simp only [Bool.or_eq_true, decide_eq_true_eq, Bool.and_eq_true, Bool.not_eq_true'] at h
   exact h
  ·simp only [Bool.or_eq_true, decide_eq_true_eq, Bool.and_eq_true, Bool.not_eq_true'] at *
   rcases h1 with h1 | ⟨h1, h3⟩ <;> rcases h2 with h2 | ⟨h2, h4⟩
   ·exact .inl (by omega)
   ·exact .inl (by omega)
   ·exact .inl (by omega)
   ·exact .inr ⟨by omega, Xfd h3 h4⟩
  ·simp only [Bool.or_eq_true, decide_eq_true_eq, Bool.and_eq_true, Bool.not_eq_true']
   by_cases h : a.gen < b.gen
   ·exact .inl (.inl h)
   ·by_cases h' : b.gen < a.gen
    ·exact .inr (.inl h')
    ·cases h2 : idLt (idC b) (idC a) with
     | false => exact .inl (.inr ⟨by omega, rfl⟩)
     | true => exact .inr (.inr ⟨by omega, Xia h2⟩)
 ·exact ⟨[], ⟨fun h => (hc h).elim, fun h => (hc h).elim, fun _ => rfl⟩⟩
def Xcy (L : List Commit) : List Commit := Classical.choose (Xz6 L)
theorem Xfc (L : List Commit) : SortedR L (Xcy L) := Classical.choose_spec (Xz6 L)
theorem Xif {L : List Commit} (h : Closed L) : (Xcy L).Perm L := (Xfc L).perm h
theorem Xlr {L : List Commit} (h : Closed L) : Closed (Xcy L) := h.perm (Xif h).symm
def Xcn (l : List ID) : Mg × Bool := if l = [] then (mg0, false) else (⟨1, l.take 16, []⟩, true)
def Xch (l : List Commit) : Mg × Bool := if l = [] then (mg0, false) else (⟨2, [], l.take 6⟩, true)
def Xco (L : List Commit) (ids : List ID) : Mg × Bool :=
 if Xbg ids (idsP L) false = [] then Xch (partF (Xcy L) (Xbg (idsP L) (ancF L ids) false)) else Xcn (Xbg ids (idsP L) false)
def Xci (n : Nd) (m : Mg) : Nd × Mg × Bool :=
 if Xeb n && n.up && Xhl m then
  if m.kind = 0 then ({ n with miss := 0 }, Xco n.l m.ids)
  else if m.kind = 1 then ({ n with miss := 0 }, Xch (partF (Xcy n.l) m.ids))
  else (Xbu { n with miss := 0 } m.commits, Xcn (Xhk (Xbu { n with miss := 0 } m.commits).wait (idsP (Xbu { n with miss := 0 } m.commits).l)))
 else (n, mg0, false)
def Xc6 (n : Nd) : Mg × Int := if Xeb n then (if n.up then (⟨0, frontF n.l, []⟩, 0) else (mg0, 6)) else (mg0, 1)
def Xhm (x : UInt32) : UInt32 :=
 let x := if x = 0 then 1 else x
 let y := x ^^^ Xcl x 13
 let z := y ^^^ Xdw y 17
 z ^^^ Xcl z 5
def Xin (miss : Int) : Int := (2 ^ (min (max miss 0) 6).toNat : Nat)
end
end
end
section
variable [Dr]
theorem GivesBuf.plain {P : Program} {f : FuncId} {args : List Value} {w : World} {F G : Nat → Prop} {α : Type} [Cell α] {el : TypeId} {L : List α} (hn : ∀ (u : α) y, Cell.facts u y = []) (h : GivesBuf P f args w F el L) : GivesBuf P f args w G el L :=
 Calls.mono h fun x w' ⟨y, hx, hb, hf⟩ => ⟨y, hx, hb, ⟨fun g hg => by
  rw [List.mem_singleton] at hg
  subst hg
  obtain ⟨h0, r, h1, h2, h3⟩ := hf.sat (.res (buf y.1 y.2 el L)) (by simp)
  exact ⟨h0, r, h1, h2, fun p hp A hA => by rw [hn] at hA; cases hA⟩, hf.dis, hf.new⟩⟩
class Lend (f : Fact) (A : outParam Asn) : Prop where
 ok : ∀ (w0 : World) (F : Nat → Prop) (Γ : List Fact) (w : World), Hold w0 F Γ w → f ∈ Γ → A.holds (fun _ => True) w
instance {A : Asn} : Lend (.st A) A := ⟨fun w0 F Γ w h hf => A.mono _ _ _ (fun _ _ => trivial) (h.sat (.st A) hf)⟩
instance {b : Nat} {t : TypeId} {vs : List Value} : Lend (.own b t vs) (ro b 0 vs) := ⟨fun w0 F Γ w h hf =>
 ⟨trivial, Fact.owned_lt (f := .own b t vs) (h.sat (.own b t vs) hf) rfl, Xmc (h.sat (.own b t vs) hf)⟩⟩
instance {α : Type} [Cell α] {a : Option Addr} {c : Nat} {el : TypeId} {L : List α} : Lend (.res (buf a c el L)) (sl a c L) := ⟨fun w0 F Γ w h hf => by
 obtain ⟨s, t, rfl⟩ := List.append_of_mem hf
 exact Hold.bufSl (h.perm List.perm_middle)⟩
theorem Hold.pubAt {α : Type} [ic : Cell α] {w0 w : World} {F : Nat → Prop} {Γ Δ : List Fact} (a : Option Addr) (c : Nat) {el : TypeId} {L : List α} [h : HasBuf Γ (.slice a L.length c) α ic el L Δ] (ho : Hold w0 F Γ w) : Hold w0 F (.st (sl a c L) :: Δ) w := by
 obtain ⟨a', q, hv, hp⟩ := h.ok
 injection hv with e1 e2 e3
 subst e1 e3
 exact (ho.perm hp).pub
class Lends (Γ : List Fact) (Δ : outParam (List Fact)) : Prop where
 ok : ∀ (w0 : World) (F : Nat → Prop) (Γ' : List Fact) (w : World), Hold w0 F Γ' w → (∀ f ∈ Γ, f ∈ Γ') → Hold w (fun _ => True) Δ w
instance (priority := 10) Lends.none {Γ : List Fact} : Lends Γ [] := ⟨fun w0 F Γ' w h _ => .start w _⟩
instance {f : Fact} {A : Asn} {Γ Δ : List Fact} [h1 : Lend f A] [h2 : Lends Γ Δ] : Lends (f :: Γ) (.st A :: Δ) := ⟨fun w0 F Γ' w h hs => by
 have ho := h2.ok w0 F Γ' w h (fun f hf => hs f (List.mem_cons_of_mem _ hf))
 have hA := h1.ok w0 F Γ' w h (hs f (List.mem_cons_self ..))
 refine ho.add ((A.mono _ _ _ (fun k hk => ?_) (A.within _ _ hA)))
 refine ⟨.inl trivial, fun g hg hk2 => ?_⟩
 have h3 := ho.new g hg k hk2
 have h4 := hk.2
 omega⟩
theorem Hold.lend {w0 w : World} {F : Nat → Prop} {Γ Δ : List Fact} [h : Lends Γ Δ] (ho : Hold w0 F Γ w) : Hold w (fun _ => True) Δ w := h.ok w0 F Γ w ho (fun _ h => h)
end
section
variable {P : Program} {n : Nn} {w0 : World} {F : Nat → Prop} {Q : Cont} {e : E} {Γ : List Fact}
theorem Xz7 [Dr] {c : Code} {Δ : List Fact} [hl : Lends Γ Δ] (h : ∀ w, JC P n w (fun _ => True) c (fun x e' _ => Q x e' Γ) e Δ) : JC P n w0 F c Q e Γ := by
 intro a w fr ho
 refine wp_mono (h w a w fr ho.lend) ?_
 rintro x a' w' ⟨e', Δ', hq, fr', ho'⟩
 exact ⟨e', Γ, hq, fr', ho.of_below ho'.below⟩
end
section
attribute [local irreducible] JC JO JR JQ andThen inBlock OpV Gives Xan JM JS
section
attribute [local irreducible] Xay
theorem Xsz (a : Option Addr) (c : Nat) (L : List UInt8) (h : (sl a c L).holds F w) (hl : L.length ≤ 34359738368) :
  GivesBuf prog 142 [.slice a L.length c] w F 5 L := by
 refine Xaa func142 rfl ntmps142 rfl rfl [.st (sl a c L)] (.start1 h) ?_
 refine wA ?_
 refine JC.test (fun ha => ?_) (fun ha => ?_)
 ·cases a with
  | some a => cases ha
  | none =>
   obtain rfl := Xfk h
   refine wz9 ?_
   exact CT.done (none, 0) rfl (fun w ho => ho.bufNil)
 ·refine wz14 ?_
  refine Xmi (α := UInt8) rfl ?_
  intro a2
  refine wz6 ?_
  refine Xau rfl (by exact ⟨rfl, rfl, by decide⟩) (by simpa using hl) ?_
  intro a3 c3
  rw [List.nil_append]
  refine wz10 ?_
  exact Xab (a3, c3) rfl
theorem Xpb (a : Option Addr) (c : Nat) (L : List Int) (h : (sl a c L).holds F w) (hl : L.length ≤ 34359738368) :
  GivesBuf prog 143 [.slice a L.length c] w F 3 L := by
 refine Xaa func143 rfl ntmps143 rfl rfl [.st (sl a c L)] (.start1 h) ?_
 refine wA ?_
 refine JC.test (fun ha => ?_) (fun ha => ?_)
 ·cases a with
  | some a => cases ha
  | none =>
   obtain rfl := Xfk h
   refine wz9 ?_
   exact CT.done (none, 0) rfl (fun w ho => ho.bufNil)
 ·refine wz14 ?_
  refine Xmi (α := Int) rfl ?_
  intro a2
  refine wz6 ?_
  refine Xau rfl (by exact ⟨rfl, rfl, by decide⟩) (by simpa using hl) ?_
  intro a3 c3
  rw [List.nil_append]
  refine wz10 ?_
  exact Xab (a3, c3) rfl
theorem Xk9 (a : Option Addr) (k : Nat) (L : List Commit) (h : (sl a k L).holds F w) (hl : L.length < 34359738368) (hf : ∀ x ∈ L, fine x) :
  GivesBuf prog 43 [.slice a L.length k] w F 81 (idsP L) := by
 refine Xaa func43 rfl ntmps43 rfl rfl [.st (sl a k L)] (.start1 h) ?_
 refine wz4 ?_
 refine JC.buf_nil (α := ID) 81 ?_
 refine Xby (fun (i : Nat) p q => [(3, .slice p (cids (L.take i)).length q), (8, .slice a L.length k), (9, .int .i64 (L.length : Int)), (10, .int .i64 (i : Int))])
  (fun i p q => [.res (buf p q 81 (cids (L.take i))), .st (sl a k L)])
  (fun i _ _ => i ≤ L.length ∧ ∀ c ∈ L.take i, may c = true) (fun i _ _ => L.length - i) 0 none 0 ⟨Nat.zero_le _, by simp⟩ (by rw [List.take_zero, show cids [] = [] from rfl]; infer_instance) ?_
 intro i p q ⟨hi, hm⟩
 refine wz11 ?_
 refine JC.test (fun hlt => ?_) (fun hge => ?_)
 ·have hlt' : i < L.length := by omega
  have hfx := hf _ (List.getElem_mem hlt')
  refine wz14 ?_
  refine Xaf rfl hlt' ?_
  intro b1 o1 p1 q1
  (repeat (refine wE ?_; intro _)); refine wA ?_
  refine JR.callV rfl (fun w1 hw => Xfp w1 _ (L[i]) p1 q1 hw.get hfx.1) ?_
  (repeat (refine wE ?_; intro _)); refine wA ?_
  refine JC.test (fun h0 => ?_) (fun h0 => ?_)
  ·have hmay : may L[i] = false := by
    rw [← Bool.not_eq_true, ← Xc0]; exact h0
   refine JC.buf_nil (α := ID) 81 ?_
   refine wz5 ?_
   rw [Xj5 (List.getElem_mem hlt') hmay]
   exact Xab (none, 0) rfl
  ·have hmay : may L[i] = true := (Xc0 _).1 (by simpa using h0)
   have h1 : (cids (L.take i)).length ≤ i := by simp [cids]; omega
   (repeat (refine wE ?_; intro _)); refine wA ?_
   refine Xai (u := idC L[i]) rfl (by exact ⟨rfl, rfl, by decide⟩) (by omega) ?_
   intro r s
   refine wz2 ?_
   refine ⟨i + 1, r, s, ⟨by omega, fun c hc => ?_⟩, by omega, by rw [Xgd hlt']; infer_instance⟩
   rw [List.take_succ_eq_append_getElem hlt', List.mem_append, List.mem_singleton] at hc
   rcases hc with hc | rfl
   ·exact hm c hc
   ·exact hmay
 ·obtain rfl : i = L.length := by omega
  rw [List.take_length] at hm ⊢
  refine wz3 ?_
  rw [Xea hm]
  exact Xab (p, q) rfl
theorem Xnr (no room : Int) : GivesV prog 95 [.int .i64 no, .int .i64 room] w F (.bool (Xfy no room)) := by
 refine Xaa func95 rfl ntmps95 rfl rfl [] (.start w F) ?_
 refine wz10 ?_
 refine JO.test 7 (fun h1 => ?_) (fun h1 => ?_)
 ·refine wX ?_
  refine JO.test 11 (fun h2 => ?_) (fun h2 => ?_)
  ·refine wX ?_
   refine JO.test 15 (fun h3 => ?_) (fun h3 => ?_)
   ·refine wX ?_
    refine Xab () ?_
    simp only [Xae, Xfy, decide_eq_true h1, decide_eq_true h2, decide_eq_true h3, Bool.true_and]
   ·refine wz8 ?_
    refine Xab () ?_
    simp only [Xae, Xfy, decide_eq_false h3, Bool.and_false, Bool.false_and]
  ·refine wz8 ?_
   refine Xab () ?_
   simp only [Xae, Xfy, decide_eq_false h2, Bool.and_false, Bool.false_and]
 ·refine wz8 ?_
  refine Xab () ?_
  simp only [Xae, Xfy, decide_eq_false h1, Bool.and_false, Bool.false_and]
theorem Xla (a : Option Addr) (c : Nat) (L : List Commit) (h : (sl a c L).holds F w) (hl : L.length ≤ 34359738368) (hf : ∀ x ∈ L, fine x) :
  GivesBuf prog 105 [.slice a L.length c] w F 29 L := by
 refine Xaa func105 rfl ntmps105 rfl rfl [.st (sl a c L)] (.start1 h) ?_
 refine JC.buf_nil (α := Commit) 29 ?_
 refine wz4 ?_
 refine Xb7 (fun (k : Nat) (out : List Commit) p q => [(3, .slice p out.length q), (6, .slice a L.length c), (7, .int .i64 (L.length : Int)), (8, .int .i64 (k : Int))]) (fun (k : Nat) (out : List Commit) p q => [.st (sl a c L), .res (buf p q 29 out)])
  (fun k out p q => k ≤ L.length ∧ out = L.take k) (fun k _ _ _ => L.length - k) 0 [] none 0 ⟨Nat.zero_le _, rfl⟩ iI ?_
 intro k out p q ⟨hk, hout⟩
 refine wz11 ?_
 refine JC.test (fun hlt => ?_) (fun hge => ?_)
 ·have hlt' : k < L.length := by omega
  refine wz14 ?_
  refine Xaf rfl (by omega) ?_
  intro b o p' q'
  (repeat (refine wE ?_; intro _)); refine wA ?_
  refine JR.callSl rfl (fun w hw => Xju w _ p' q' _ (hw.sat (.st (sl p' q' _)) (by simp)) (hf _ (List.getElem_mem hlt')).2) ?_
  intro a' c'
  (repeat (refine wE ?_; intro _)); refine wA ?_
  refine Xai rfl (by exact ⟨rfl, rfl, by decide⟩) (by subst hout; simp; omega) ?_
  intro a2 c2
  refine wz2 ?_
  exact ⟨k + 1, out ++ [L[k]], a2, c2, ⟨by omega, by rw [hout, List.take_succ_eq_append_getElem (by omega)]⟩, by omega, iI⟩
 ·refine wz3 ?_
  obtain rfl : out = L := by rw [hout, List.take_of_length_le (by omega)]
  exact Xab (p, q) rfl
theorem X2f {L M : List Commit} (hl : L.length = M.length) {k : Nat} (hk : k < L.length) (h : L.take k = M.take k) : L.take (k + 1) = M.take (k + 1) ↔ L[k] = M[k]'(hl ▸ hk) := by
 rw [List.take_succ_eq_append_getElem hk, List.take_succ_eq_append_getElem (hl ▸ hk), h, List.append_cancel_left_eq]
 simp
theorem Xlb (a b : Option Addr) (c m : Nat) (L M : List Commit) (h : (sl a c L).holds F w) (h' : (sl b m M).holds F w) :
  GivesV prog 157 [.slice a L.length c, .slice b M.length m, .func (.func 158) #[] #[]] w F (.bool (decide (L = M))) := by
 have hL : L.length < 9223372036854775807 := by have := h.2.2.1; simp only [lim] at this; omega
 refine Xaa func157 rfl ntmps157 rfl rfl [.st (sl a c L), .st (sl b m M)] (.start2 h h') ?_
 refine wA ?_
 refine JC.test (fun h1 => ?_) (fun h1 => ?_)
 ·have hne : L ≠ M := by rintro rfl; exact h1 rfl
  refine wz9 ?_
  refine Xab () ?_
  rw [decide_eq_false hne]; rfl
 have hlm : L.length = M.length := by omega
 refine wA ?_
 refine Xap (fun k : Nat => [(0, .slice a L.length c), (1, .slice b M.length m), (2, .func (.func 158) #[] #[]), (15, .slice a L.length c), (16, .int .i64 (L.length : Int)), (17, .int .i64 (k : Int))]) (fun _ => [.st (sl a c L), .st (sl b m M)])
  (fun k => k ≤ L.length ∧ L.take k = M.take k) (fun k => L.length - k) 0 ⟨Nat.zero_le _, by simp⟩ iI ?_
 intro k ⟨hk, hno⟩
 refine wz11 ?_
 refine JC.test (fun hlt => ?_) (fun hge => ?_)
 ·have hlt' : k < L.length := by omega
  have hft := X2f hlm hlt' hno
  refine wz14 ?_
  refine Xaf rfl hlt' ?_
  intro b1 o1 p1 q1
  (repeat (refine wE ?_; intro _)); refine wA ?_
  refine Xaf (k := k) rfl (by omega) ?_
  intro b2 o2 p2 q2
  (repeat (refine wE ?_; intro _)); refine wA ?_
  refine JR.callV rfl (fun w1 hw => Xm5 w1 _ L[k] (M[k]'(by omega)) p1 p2 q1 q2 hw.get hw.get) ?_
  refine wz7 ?_
  refine JC.test (fun hy => ?_) (fun hn => ?_)
  ·have hne : L ≠ M := by rintro rfl; exact hy rfl
   refine wz5 ?_
   refine Xab () ?_
   rw [decide_eq_false hne]; rfl
  ·refine wz2 ?_
   exact ⟨k + 1, ⟨by omega, hft.2 (Classical.not_not.1 hn)⟩, by omega, iI⟩
 ·obtain rfl : k = L.length := by omega
  have heq : L = M := by
   rw [List.take_length] at hno
   rw [hno, List.take_of_length_le (by omega)]
  refine wz3 ?_
  refine Xab () ?_
  rw [decide_eq_true heq]; rfl
theorem Xuf (a b : Option Addr) (c m : Nat) (L M : List Commit) (h : (sl a c L).holds F w) (h' : (sl b m M).holds F w) :
  GivesV prog 96 [.slice a L.length c, .slice b M.length m] w F (.bool (decide (L = M))) := by
 refine Xaa func96 rfl ntmps96 rfl rfl [.st (sl a c L), .st (sl b m M)] (.start2 h h') ?_
 refine wz10 ?_
 refine JR.callV rfl (fun w1 hw => Xlb w1 _ a b c m L M hw.get hw.get) ?_
 refine wz10 ?_
 refine Xab () ?_
 rfl
theorem Xi0 (n : Nd) (y : Na) (c : Commit) (a : Option Addr) (k : Nat) :
  GivesV prog 98 [ndV n y, Xax c a k] w F (.bool (Xc1 n.no n.seq c)) := by
 refine Xaa func98 rfl ntmps98 rfl rfl [] (.start w F) ?_
 (repeat (refine wE ?_; intro _)); refine wA ?_
 refine JO.test 11 (fun h1 => ?_) (fun h1 => ?_)
 ·refine wz8 ?_
  refine Xab () ?_
  simp only [Xae, Xc1, decide_eq_true h1, Bool.true_or]
 ·refine wX ?_
  refine Xab () ?_
  simp only [Xae, Xc1, decide_eq_false h1, Bool.false_or]
theorem X2g (c : Commit) (a : Option Addr) (k : Nat) (h : (sl a k c.parents).holds F w) (ht : Xht c) :
  GivesV prog 99 [Xax c a k] w F (.bool (!may c || merge c)) := by
 refine Xaa func99 rfl ntmps99 rfl rfl [.st (sl a k c.parents)] (.start1 h) ?_
 (repeat (refine wE ?_; intro _)); refine wA ?_
 refine JR.callV rfl (fun w1 hw => Xfe w1 _ c a k hw.get ht) ?_
 refine wz7 ?_
 refine JO.test 6 (fun h1 => ?_) (fun h1 => ?_)
 ·refine wz8 ?_
  refine Xab () ?_
  simp only [Xae, h1, Bool.not_false, Bool.true_or]
 ·refine wz6 ?_
  refine JR.callV rfl (fun w1 hw => Xdy w1 _ c a k hw.get ht) ?_
  refine wz5 ?_
  refine Xab () ?_
  have h2 : may c = true := Classical.not_not.1 h1
  simp only [Xae, h2, Bool.not_true, Bool.false_or]
theorem Xqp {n : Nd} (h1 : Xfy n.no n.room = true) (h2 : ¬ n.room < (n.disk.length : Int)) (h3 : n.up = true) :
  Xeb n = (decide (Xcc n.disk = n.l) && decide (Xb5 n.disk = n.disk.length) && decide (n.seq = Xje n.l n.no) && decide (n.wait.length ≤ 8) && n.wait.all (Xbo n.no n.seq (idsP n.l))) := by
 unfold Xeb
 rw [h1, decide_eq_false h2, h3]
 rfl
theorem Xpc {n : Nd} (h1 : Xfy n.no n.room = true) (h2 : ¬ n.room < (n.disk.length : Int)) (h3 : n.up = false) :
  Xeb n = (decide (n.l = []) && decide (n.wait = []) && decide (n.seq = 0)) := by
 unfold Xeb
 rw [h1, decide_eq_false h2, h3]
 rfl
theorem Xke {no room : Int} (h : Xfy no room = true) : 0 ≤ no ∧ no < 8 ∧ 0 ≤ room ∧ room ≤ 1048576 := by
 unfold Xfy at h
 simp only [Bool.and_eq_true, decide_eq_true_eq] at h
 omega
theorem Xns {b : List UInt8} : ∀ x ∈ Xcc b, fine x := by
 intro x hx
 obtain ⟨k, hk, h⟩ := Xsy b
 rw [h] at hx
 have hx := List.mem_of_mem_take hx
 obtain ⟨i, hi, hxi⟩ := List.getElem_of_mem hx
 have h2 := Xk8 (readL b) i hi (Nat.lt_of_lt_of_le hi (Xh2 _))
 rw [hxi] at h2
 obtain ⟨h3, h4⟩ := Xma h2
 refine ⟨h4, ?_⟩
 unfold may at h3
 split at h3
 ·cases h3
 ·rename_i h5
  simp only [Bool.or_eq_true, not_or, decide_eq_true_eq] at h5
  omega
theorem Xpd (b : List UInt8) : (Xcc b).length ≤ b.length := by
 obtain ⟨k, hk, h⟩ := Xsy b
 have h1 := Xer (readL b)
 have h2 : (Xak (readL b)).length ≤ b.length := (Xgq _ _ : Xak (readL b) <+: b).length_le
 have h3 := Xh2 (readL b)
 rw [h, List.length_take]
 omega
theorem Xqq {p : Commit → Bool} {L : List Commit} {k : Nat} (hk : k < L.length) (h : (L.take k).all p = true) : (L.take (k + 1)).all p = p L[k] := by
 rw [List.take_succ_eq_append_getElem hk, List.all_append, h]
 simp
theorem Xug {p : Commit → Bool} {L : List Commit} {k : Nat} (hk : k < L.length) (h : p L[k] = false) : L.all p = false := by
 rw [List.all_eq_false]
 exact ⟨L[k], List.getElem_mem hk, by rw [h]; exact Bool.false_ne_true⟩
theorem Xig (n : Nd) (y : Na) (hd : (sl y.d y.dk n.disk).holds F w) (hl : (sl y.l y.lk n.l).holds F w) (hw : (sl y.w y.wk n.wait).holds F w) (hwf : ∀ x ∈ n.wait, fine x) :
  GivesV prog 39 [ndV n y] w F (.bool (Xeb n)) := by
 have hwl : n.wait.length < 9223372036854775807 := by have := hw.2.2.1; simp only [lim] at this; omega
 have hll : n.l.length < 9223372036854775807 := by have := hl.2.2.1; simp only [lim] at this; omega
 rcases n with ⟨no, disk, room, l, wait, seq, up, peers, next, miss⟩
 rcases y with ⟨ad, kd, al, kl, aw, kw, ap, kp⟩
 dsimp only [ndV, ndC] at *
 refine Xaa func39 rfl ntmps39 rfl rfl [.st (sl ad kd disk), .st (sl al kl l), .st (sl aw kw wait)] (.start3 hd hl hw) ?_
 (repeat (refine wE ?_; intro _)); refine wA ?_
 rename_i bn
 refine JR.callV rfl (fun w1 hw => Xnr w1 _ no room) ?_
 cases hfit : Xfy no room with
 | false =>
  refine wz8 ?_
  refine Xab () ?_
  simp only [Xae]
  unfold Xeb; rw [hfit]; rfl
 | true =>
 obtain ⟨f1, f2, f3, f4⟩ := Xke hfit
 refine wX ?_
 refine JC.test (fun h2 => ?_) (fun h2 => ?_)
 ·have h2' : room < (disk.length : Int) := by omega
  refine wz9 ?_
  refine Xab () ?_
  simp only [Xae]
  unfold Xeb; rw [hfit, decide_eq_true h2']; rfl
 have h2' : ¬ room < (disk.length : Int) := by omega
 refine wz1 ?_
 cases up with
 | false =>
  rw [Xpc hfit h2' rfl]
  dsimp only
  refine wX ?_
  refine JO.test 31 (fun h3 => ?_) (fun h3 => ?_)
  ·obtain rfl : l = [] := List.eq_nil_of_length_eq_zero (by omega)
   refine wX ?_
   refine JO.test 37 (fun h4 => ?_) (fun h4 => ?_)
   ·obtain rfl : wait = [] := List.eq_nil_of_length_eq_zero (by omega)
    refine wX ?_
    refine Xab () ?_
    simp only [Xae]
    simp
   ·have : wait ≠ [] := by rintro rfl; exact h4 rfl
    refine wz8 ?_
    refine Xab () ?_
    simp only [Xae]
    simp [this]
  ·have : l ≠ [] := by rintro rfl; exact h3 rfl
   refine wz8 ?_
   refine Xab () ?_
   simp only [Xae]
   simp [this]
 | true =>
 rw [Xqp hfit h2' rfl]
 dsimp only
 refine wX ?_
 refine Xbp rfl (fun w1 hw => Xw2 w1 _ ad kd disk hw.get (by omega)) ?_
 intro a1 k1
 refine wz4 ?_
 refine Xa6 mixed (by kernel_rfl) ?_
 refine wY ?_
 refine JQ.call rfl rfl (fun w1 hw => Xuf w1 _ a1 al k1 kl (Xcc disk) l hw.get hw.get) ?_
 by_cases hA : Xcc disk = l
 case neg =>
  refine JQ.reslot 51 (.bool false) (by rw [decide_eq_false hA]) ?_
  refine wY ?_
  refine wz8 ?_
  refine Xab () ?_
  simp only [Xae]
  simp [hA]
 refine JQ.reslot 51 (.bool true) (by rw [decide_eq_true hA]) ?_
 refine wY ?_
 by_cases hB : Xb5 disk = disk.length
 case neg =>
  refine JQ.reslot 60 (.bool true) (by congr 1; exact decide_eq_true (by omega)) ?_
  refine wY ?_
  refine wz8 ?_
  refine Xab () ?_
  simp only [Xae]
  simp [hB]
 refine JQ.reslot 60 (.bool false) (by congr 1; exact decide_eq_false (by omega)) ?_
 refine wY ?_
 refine JQ.call rfl rfl (fun w1 hw => Xw3 w1 _ a1 k1 (Xcc disk) no hw.get) ?_
 refine wY ?_
 subst hA
 by_cases hC : seq = Xje (Xcc disk) no
 case neg =>
  refine JQ.reslot 69 (.bool true) (by congr 1; exact decide_eq_true hC) ?_
  refine wY ?_
  refine wz8 ?_
  refine Xab () ?_
  simp only [Xae]
  simp [hC]
 refine JQ.reslot 69 (.bool false) (by congr 1; exact decide_eq_false (fun h => h hC)) ?_
 refine wY ?_
 refine wz13 ?_
 refine JC.test (fun h7 => ?_) (fun h7 => ?_)
 ·have : ¬ wait.length ≤ 8 := by omega
  refine wz9 ?_
  refine Xab () ?_
  simp only [Xae]
  simp [this]
 have h8 : wait.length ≤ 8 := by omega
 rw [decide_eq_true rfl, decide_eq_true hB, decide_eq_true hC, decide_eq_true h8]
 simp only [Bool.true_and]
 refine wz14 ?_
 refine JR.callBuf rfl (fun w1 hw => Xk9 w1 _ a1 k1 (Xcc disk) hw.get (by have := Xpd disk; omega) Xns) ?_
 intro a2 k2
 refine wX ?_
 generalize hI : idsP (Xcc disk) = I
 refine JC.more (fun w ho => ho.pub) ?_
 refine Xap (fun (k : Nat) => [(1, .pointer (some ⟨bn, 0, none⟩)), (5, .slice a2 I.length k2), (78, .slice aw wait.length kw), (79, .int .i64 (wait.length : Int)), (80, .int .i64 (k : Int))])
  (fun _ => [.st (sl a2 k2 I), .own bn 50 [.int .i64 no, .slice ad disk.length kd, .int .i64 room, .slice al (Xcc disk).length kl, .slice aw wait.length kw, .int .i64 seq, .bool true, .slice ap peers.length kp, .int .i64 next, .int .i64 miss], .st (sl aw kw wait)])
  (fun k => k ≤ wait.length ∧ (wait.take k).all (Xbo no seq I) = true) (fun k => wait.length - k) 0 ⟨Nat.zero_le _, by simp⟩ iI ?_
 rintro k ⟨hk, hall⟩
 refine wz11 ?_
 refine JC.test (fun hlt => ?_) (fun hge => ?_)
 ·have hlt' : k < wait.length := by omega
  have hx := hwf _ (List.getElem_mem hlt')
  have hcut := Xug (p := Xbo no seq I) hlt'
  have htk := Xqq hlt' hall
  refine wz14 ?_
  refine Xaf rfl hlt' ?_
  intro b3 o3 p3 q3
  (repeat (refine wE ?_; intro _)); refine wA ?_
  refine JR.callV rfl (fun w1 hw => Xfp w1 _ wait[k] p3 q3 hw.get hx.1) ?_
  (repeat (refine wE ?_; intro _)); refine wA ?_
  refine JO.test 91 (fun h1 => ?_) (fun h1 => ?_)
  ·have hm : may wait[k] = false := by rw [← Bool.not_eq_true, ← Xc0]; exact h1
   refine wz8 ?_
   refine Xab () ?_
   simp only [Xae]
   rw [hcut (by unfold Xbo; rw [hm]; rfl)]
  have hm : may wait[k] = true := (Xc0 _).1 (by simpa using h1)
  refine wz6 ?_
  refine JR.callV rfl (fun w1 hw => Xdy w1 _ wait[k] p3 q3 hw.get hx.1) ?_
  cases hg : merge wait[k] with
  | true =>
   refine wz8 ?_
   refine Xab () ?_
   simp only [Xae]
   rw [hcut (by unfold Xbo; rw [hm, hg]; rfl)]
  | false =>
  refine wz11 ?_
  refine JR.callV rfl (fun w1 hw => Xtl w1 _ a2 k2 I (Xay wait[k]).1 hw.get) ?_
  by_cases hin : (Xay wait[k]).1 ∈ I
  ·refine JO.reslot 98 (.bool true) (by rw [decide_eq_true hin]) ?_
   refine wz8 ?_
   refine Xab () ?_
   simp only [Xae]
   rw [hcut (by unfold Xbo idC; rw [hm, hg, decide_eq_true hin]; rfl)]
  refine JO.reslot 98 (.bool false) (by rw [decide_eq_false hin]) ?_
  refine wz11 ?_
  refine JR.callV rfl (fun w1 hw => Xi0 w1 _ ⟨no, disk, room, Xcc disk, wait, seq, true, peers, next, miss⟩ ⟨ad, kd, al, kl, aw, kw, ap, kp⟩ wait[k] p3 q3) ?_
  dsimp only
  cases hst : Xc1 no seq wait[k] with
  | false =>
   refine wz8 ?_
   refine Xab () ?_
   simp only [Xae]
   rw [hcut (by unfold Xbo idC; rw [hm, hg, decide_eq_false hin, hst]; rfl)]
  | true =>
  refine wX ?_
  exact ⟨k + 1, ⟨by omega, by rw [htk]; unfold Xbo idC; rw [hm, hg, decide_eq_false hin, hst]; rfl⟩, by omega, iI⟩
 ·obtain rfl : k = wait.length := by omega
  rw [List.take_length] at hall
  refine wz3 ?_
  refine Xab () ?_
  simp only [Xae]
  rw [hall]
abbrev repF (br : Nat) (n : Nd) (y : Na) : List Fact := [.own br 136 (ndC n y), .res (buf y.l y.lk 29 n.l), .st (sl y.d y.dk n.disk), .st (sl y.w y.wk n.wait), .st (sl y.p y.pk n.peers)]
section
variable {w0 w : World} {F : Nat → Prop} {Γ : List Fact} {br : Nat}
theorem X2h (n : Nd) (y : Na) (c : Commit) (a : Option Addr) (k : Nat) (ht : Xht c) (hb : n.disk.length ≤ 1048576) (hl : n.l.length < 34359738368) (ho : Hold w0 F (repF br n y ++ .st (sl a k c.parents) :: Γ) w) :
  Calls prog 207 ⟨[.pointer (some ⟨br, 0, none⟩), Xax c a k]⟩ w fun x w' => ∃ y' : Na, x = .returned (.int .i64 (storeT n.disk n.room c).2) ∧ Hold w0 F (repF br (Xh4 n c) y' ++ Γ) w' := by
 refine Xb6 (v := fun y : Na => .int .i64 (storeT n.disk n.room c).2) (B := fun y' => repF br (Xh4 n c) y' ++ Γ) func207 rfl ntmps207 rfl rfl _ ho ?_
 rcases n with ⟨no, disk, room, l, wait, seq, up, peers, next, miss⟩
 rcases y with ⟨ad, kd, al, kl, aw, kw, ap, kp⟩
 dsimp only [repF, ndC, List.cons_append, List.nil_append] at *
 (repeat (refine wE ?_; intro _)); refine wA ?_
 rename_i bc
 refine JC.drawP mixed ?_
 refine Xad 0 ?_
 refine Xad 1 ?_
 refine Xad 2 ?_
 refine Xad 3 ?_
 refine JP.tv 4 [.own br 136 [.int .i64 no, .slice ad disk.length kd, .int .i64 room, .slice al l.length kl, .slice aw wait.length kw, .int .i64 seq, .bool up, .slice ap peers.length kp, .int .i64 next, .int .i64 miss]] ?_
 refine Xad 5 ?_
 refine Xad 6 ?_
 refine Xad 7 ?_
 refine Xad 8 ?_
 refine JP.tv 9 [.own br 136 [.int .i64 no, .slice ad disk.length kd, .int .i64 room, .slice al l.length kl, .slice aw wait.length kw, .int .i64 seq, .bool up, .slice ap peers.length kp, .int .i64 next, .int .i64 miss]] ?_
 refine JP.tv 10 [.own bc 29 [.int .i64 c.ev.node, .int .i64 c.ev.seq, .int .i64 c.gen, .slice a c.parents.length k, .int .i64 c.op.kind, .string c.op.key, .string c.op.elem, .int .i64 c.op.n]] ?_
 refine Xar 11 rfl rfl (JR.call1 (v := fun y : Option Addr × Nat => .tuple ⟨[.slice y.1 (storeT disk room c).1.length y.2, .int .i64 (storeT disk room c).2]⟩) (B := fun y => .res (buf y.1 y.2 5 (storeT disk room c).1)) rfl (fun w1 hw => Xyw w1 _ ad a kd k disk room c hw.get hw.get ht hb) (fun z => Wd (nO ?_)))
 rcases z with ⟨ad2, kd2⟩
 dsimp only
 refine Xad 12 ?_
 refine Xad 13 ?_
 refine Xad 14 ?_
 refine Xad 15 ?_
 refine Xad 16 ?_
 refine JP.nil (by kernel_rfl) ?_
 refine wz4 ?_
 refine JC.test (fun h1 => ?_) (fun h1 => ?_)
 ·have e1 : Xh4 ⟨no, disk, room, l, wait, seq, up, peers, next, miss⟩ c = ⟨no, (storeT disk room c).1, room, l ++ [c], wait, seq, up, peers, next, miss⟩ := if_pos h1
  rw [e1]
  dsimp only
  skip
  refine JC.more (fun w ho => ho.pub) ?_
  refine JC.drawP mixed ?_
  refine Xad 0 ?_
  refine Xad 1 ?_
  refine Xad 2 ?_
  refine Xad 3 ?_
  refine Xad 4 ?_
  refine Xad 5 ?_
  refine Xad 6 ?_
  refine JP.tv 7 [.own br 136 [.int .i64 no, .slice ad disk.length kd, .int .i64 room, .slice al l.length kl, .slice aw wait.length kw, .int .i64 seq, .bool up, .slice ap peers.length kp, .int .i64 next, .int .i64 miss]] ?_
  refine JP.tv 8 [.own bc 29 [.int .i64 c.ev.node, .int .i64 c.ev.seq, .int .i64 c.gen, .slice a c.parents.length k, .int .i64 c.op.kind, .string c.op.key, .string c.op.elem, .int .i64 c.op.n]] ?_
  refine Xar 9 rfl rfl (Ww rfl ⟨rfl, by decide, by decide, by decide⟩ (fun bl => Wd (nO ?_)))
  refine Xar 10 rfl rfl (Xai (u := c) rfl (by exact ⟨rfl, rfl, by decide⟩) hl (fun al2 kl2 => Wd (nO ?_)))
  refine Xad 11 ?_
  refine Xad 12 ?_
  refine Xad 13 ?_
  refine JP.reslot 37 (.pointer (some ⟨br, 1, none⟩)) rfl ?_
  refine Xar 14 rfl rfl (Wi (Wd (nO ?_)))
  refine Xad 15 ?_
  refine Xad 16 ?_
  refine Xad 17 ?_
  refine JP.reslot 40 (.pointer (some ⟨br, 3, none⟩)) rfl ?_
  refine Xar 18 rfl rfl (Wi (Wd (nO ?_)))
  refine JP.nil (by kernel_rfl) ?_
  refine wz10 ?_
  exact Xab ⟨ad2, kd2, al2, kl2, aw, kw, ap, kp⟩ rfl
 ·have e1 : Xh4 ⟨no, disk, room, l, wait, seq, up, peers, next, miss⟩ c = ⟨no, disk, room, l, wait, seq, up, peers, next, miss⟩ := if_neg h1
  rw [e1]
  dsimp only
  refine wz1 ?_
  exact Xab ⟨ad, kd, al, kl, aw, kw, ap, kp⟩ rfl
end
theorem X2i {c : Commit} (h : may c = true) : Xat c = (Xbi c, 0) := by simp [Xat, h]
theorem Xuh {b : List UInt8} {room : Int} {c : Commit} (h : (storeT b room c).2 = 0) : ((storeT b room c).1.length : Int) ≤ room ∧ (storeT b room c).1 = b ++ Xbv (Xbi c) ∧ may c = true := by
 unfold storeT at h ⊢
 split at h
 ·rename_i h1
  rw [if_pos h1]
  have hm : may c = true := by
   unfold Xat at h1
   split at h1
   ·assumption
   ·cases h1
  rw [X2i hm] at h ⊢
  unfold Xdz at h ⊢
  split at h
  ·cases h
  ·split at h
   ·cases h
   ·rename_i h2 h3
    rw [if_neg h2, if_neg h3]
    refine ⟨?_, rfl, hm⟩
    rw [List.length_append]
    omega
 ·rename_i h1; exact absurd h h1
structure NdOk (N : Nat) (n : Nd) : Prop where
 fl : ∀ x ∈ n.l, fine x
 fw : ∀ x ∈ n.wait, fine x
 disk : n.disk.length ≤ 1048576
 room : n.room ≤ 1048576
 len : n.l.length + n.wait.length ≤ N
theorem Xhc {L rl : List Commit} {H : List ID} {rc : Commit} (h : Xa8 L H = (rc, rl, true)) : rc ∈ L ∧ rl.length + 1 = L.length ∧ (∀ x ∈ rl, x ∈ L) ∧ ∃ i, ∃ hi : i < L.length, rc = L[i] ∧ rl = L.eraseIdx i ∧ Xej H L[i] = true := by
 unfold Xa8 at h
 split at h
 ·rename_i i hi
  obtain ⟨h1, h2, _⟩ := List.findIdx?_eq_some_iff_getElem.1 hi
  injection h with h3 h4
  injection h4 with h4 _
  have h5 : L.getD i Xdt = L[i] := by simp [h1]
  rw [h5] at h3
  subst h3 h4
  exact ⟨List.getElem_mem h1, by rw [List.length_eraseIdx, if_pos h1]; omega, fun x hx => List.mem_of_mem_eraseIdx hx, i, h1, rfl, rfl, h2⟩
 ·injection h with h3 h4
  injection h4 with h4 h5
  cases h5
theorem Xqr (n : Nd) (c : Commit) : (Xh4 n c).wait = n.wait := by unfold Xh4; split <;> rfl
theorem Xey (n : Nd) (c : Commit) (rest : List Commit) : (Xen n c rest).wait = rest := by
 unfold Xen; split
 ·rw [Xqr]
 ·rfl
theorem Xls {n : Nd} {rc : Commit} {rl : List Commit} (h : Xa8 n.wait (idsP n.l) = (rc, rl, true)) : Xcg n = Xcg (Xen n rc rl) := by
 have h1 := (Xhc h).2.1
 unfold Xcg
 rw [Xey, ← h1, Xge, h]
 rfl
theorem Xnt {n : Nd} {rc : Commit} {rl : List Commit} (h : Xa8 n.wait (idsP n.l) = (rc, rl, false)) : Xcg n = n := by
 unfold Xcg
 cases hw : n.wait.length with
 | zero => rfl
 | succ f => rw [Xge, h]; rfl
theorem X2j {N : Nat} {n : Nd} {c : Commit} (h : NdOk N n) (hc : fine c) : NdOk (N + 1) (Xh4 n c) := by
 unfold Xh4
 split
 ·rename_i h1
  have h2 := (Xuh h1).1
  have h3 := h.room
  have h4 := h.len
  refine ⟨fun x hx => ?_, h.fw, ?_, h.room, ?_⟩
  ·rcases List.mem_append.1 hx with hx | hx
   ·exact h.fl x hx
   ·rw [List.mem_singleton] at hx; subst hx; exact hc
  ·show (storeT n.disk n.room c).1.length ≤ 1048576; omega
  ·show (n.l ++ [c]).length + n.wait.length ≤ N + 1
   rw [List.length_append, List.length_singleton]; omega
 ·exact ⟨h.fl, h.fw, h.disk, h.room, by have := h.len; omega⟩
theorem X4n {N : Nat} {n : Nd} {rc : Commit} {rl : List Commit} (h : NdOk (N + 1) n) (hr : Xa8 n.wait (idsP n.l) = (rc, rl, true)) : NdOk N { n with wait := rl } := by
 obtain ⟨h1, h2, h3, _⟩ := Xhc hr
 exact ⟨h.fl, fun x hx => h.fw x (h3 x hx), h.disk, h.room, by have := h.len; show n.l.length + rl.length ≤ N; omega⟩
theorem Xlc {N : Nat} {n : Nd} {rc : Commit} {rl : List Commit} (h : NdOk N n) (hr : Xa8 n.wait (idsP n.l) = (rc, rl, true)) : NdOk N (Xen n rc rl) := by
 obtain ⟨h1, h2, h3, _⟩ := Xhc hr
 have hN : 1 ≤ N := by have := h.len; omega
 obtain ⟨M, rfl⟩ : ∃ M, N = M + 1 := ⟨N - 1, by omega⟩
 have hr' := X4n h hr
 unfold Xen
 split
 ·exact X2j hr' (h.fw rc h1)
 ·exact ⟨hr'.fl, hr'.fw, hr'.disk, hr'.room, by have := hr'.len; omega⟩
section
variable {w0 w : World} {F : Nat → Prop} {Γ : List Fact} {br : Nat}
theorem Xui (n : Nd) (y : Na) (hok : NdOk 900 n) (ho : Hold w0 F (repF br n y ++ Γ) w) :
  Calls prog 164 ⟨[.pointer (some ⟨br, 0, none⟩)]⟩ w fun x w' => ∃ y' : Na, x = .returned (.tuple ⟨[]⟩) ∧ Hold w0 F (repF br (Xcg n) y' ++ Γ) w' := by
 refine Xb6 (v := fun y : Na => .tuple ⟨[]⟩) (B := fun y' => repF br (Xcg n) y' ++ Γ) func164 rfl ntmps164 rfl rfl _ ho ?_
 dsimp only [repF, List.cons_append, List.nil_append]
 refine wz14 ?_
 refine Xcz (fun (m : Nd) (z : Na) => [(0, .pointer (some ⟨br, 0, none⟩))])
  (fun m z => .own br 136 (ndC m z) :: .res (buf z.l z.lk 29 m.l) :: .st (sl z.d z.dk m.disk) :: .st (sl z.w z.wk m.wait) :: .st (sl z.p z.pk m.peers) :: Γ)
  (fun m z => NdOk 900 m ∧ Xcg m = Xcg n) (fun m _ => m.wait.length) n y ⟨hok, rfl⟩ iI ?_
 rintro ⟨no, disk, room, l, wait, seq, up, peers, next, miss⟩ ⟨ad, kd, al, kl, aw, kw, ap, kp⟩ ⟨hm, hS⟩
 obtain ⟨hfl, hfw, hdk, hrm, hln⟩ := id hm
 dsimp only [ndC] at *
 obtain ⟨⟨rc, rl, rb⟩, hR⟩ : ∃ R, Xa8 wait (idsP l) = R := ⟨_, rfl⟩
 refine wz14 ?_
 refine Xgg (fun y : (Option Addr × Nat) × (Option Addr × Nat) × Nat => [(0, .pointer (some ⟨br, 0, none⟩)), (2, .pointer (some ⟨y.2.2, 0, none⟩)), (3, .slice y.2.1.1 rl.length y.2.1.2), (4, .bool rb)])
  (fun y => .own y.2.2 29 [.int .i64 rc.ev.node, .int .i64 rc.ev.seq, .int .i64 rc.gen, .slice y.1.1 rc.parents.length y.1.2, .int .i64 rc.op.kind, .string rc.op.key, .string rc.op.elem, .int .i64 rc.op.n] :: .st (sl y.1.1 y.1.2 rc.parents) :: .st (sl y.2.1.1 y.2.1.2 rl) :: .own br 136 [.int .i64 no, .slice ad disk.length kd, .int .i64 room, .slice al l.length kl, .slice aw wait.length kw, .int .i64 seq, .bool up, .slice ap peers.length kp, .int .i64 next, .int .i64 miss] :: .res (buf al kl 29 l) :: .st (sl ad kd disk) :: .st (sl aw kw wait) :: .st (sl ap kp peers) :: Γ) ?_ ?_
 ·refine JC.drawP mixed ?_
  refine Xad 0 ?_
  refine Xad 1 ?_
  refine Xad 2 ?_
  refine Xad 3 ?_
  refine Xad 4 ?_
  refine JP.tv 5 [.own br 136 [.int .i64 no, .slice ad disk.length kd, .int .i64 room, .slice al l.length kl, .slice aw wait.length kw, .int .i64 seq, .bool up, .slice ap peers.length kp, .int .i64 next, .int .i64 miss]] ?_
  refine Xad 6 ?_
  refine Xad 7 ?_
  refine Xad 8 ?_
  refine Xad 9 ?_
  refine Xad 10 ?_
  refine JP.tv 11 [.own br 136 [.int .i64 no, .slice ad disk.length kd, .int .i64 room, .slice al l.length kl, .slice aw wait.length kw, .int .i64 seq, .bool up, .slice ap peers.length kp, .int .i64 next, .int .i64 miss]] ?_
  refine JP.both 12 18 (by kernel_rfl) rfl rfl rfl rfl (JR.callBuf rfl (fun w1 hw => (Xk9 w1 (fun _ => True) al kl l hw.bufSlOf (by omega) hfl).plain (fun _ _ => rfl)) (fun ai ki => Wd (nO ?_))) (Wg rfl (fun bc => Wd (nO ?_)))
  ·refine JP.more (fun w1 ho => ho.pub) ?_
   refine JP.both 13 18 (by kernel_rfl) rfl rfl rfl rfl (Xf2 (v := fun y : (Option Addr × Nat) × (Option Addr × Nat) => .tuple ⟨[Xax rc y.1.1 y.1.2, .slice y.2.1 rl.length y.2.2, .bool rb]⟩) (B := fun y => .st (sl y.1.1 y.1.2 rc.parents)) (C := fun y => .st (sl y.2.1 y.2.2 rl)) rfl (fun w1 hw => Xqi w1 _ aw ai kw ki wait (idsP l) rc rl rb hR hw.get hw.get (by omega) hfw) (fun z => Wd (nO ?_))) (Wg rfl (fun bc => Wd (nO ?_)))
   ·rcases z with ⟨⟨a2, k2⟩, ⟨a3, k3⟩⟩
    dsimp only
    refine Xad 14 ?_
    refine Xad 15 ?_
    refine Xad 16 ?_
    refine Xad 17 ?_
    refine Xar 18 rfl rfl (Wg rfl (fun bc => Wd (nO ?_)))
    refine Xar 19 rfl rfl (Wi (Wd (nO ?_)))
    refine Xad 20 ?_
    refine Xad 21 ?_
    exact JP.nil (by kernel_rfl) ⟨rfl, ((a2, k2), (a3, k3), bc), iI⟩
   ·refine Xar 13 rfl rfl (Xf2 (v := fun y : (Option Addr × Nat) × (Option Addr × Nat) => .tuple ⟨[Xax rc y.1.1 y.1.2, .slice y.2.1 rl.length y.2.2, .bool rb]⟩) (B := fun y => .st (sl y.1.1 y.1.2 rc.parents)) (C := fun y => .st (sl y.2.1 y.2.2 rl)) rfl (fun w1 hw => Xqi w1 _ aw ai kw ki wait (idsP l) rc rl rb hR hw.get hw.get (by omega) hfw) (fun z => Wd (nO ?_)))
    rcases z with ⟨⟨a2, k2⟩, ⟨a3, k3⟩⟩
    dsimp only
    refine Xad 14 ?_
    refine Xad 15 ?_
    refine Xad 16 ?_
    refine Xad 17 ?_
    refine Xar 19 rfl rfl (Wi (Wd (nO ?_)))
    refine Xad 20 ?_
    refine Xad 21 ?_
    exact JP.nil (by kernel_rfl) ⟨rfl, ((a2, k2), (a3, k3), bc), iI⟩
  ·refine Xar 12 rfl rfl (JR.callBuf rfl (fun w1 hw => (Xk9 w1 (fun _ => True) al kl l hw.bufSlOf (by omega) hfl).plain (fun _ _ => rfl)) (fun ai ki => Wd (nO ?_)))
   refine JP.more (fun w1 ho => ho.pub) ?_
   refine Xar 13 rfl rfl (Xf2 (v := fun y : (Option Addr × Nat) × (Option Addr × Nat) => .tuple ⟨[Xax rc y.1.1 y.1.2, .slice y.2.1 rl.length y.2.2, .bool rb]⟩) (B := fun y => .st (sl y.1.1 y.1.2 rc.parents)) (C := fun y => .st (sl y.2.1 y.2.2 rl)) rfl (fun w1 hw => Xqi w1 _ aw ai kw ki wait (idsP l) rc rl rb hR hw.get hw.get (by omega) hfw) (fun z => Wd (nO ?_)))
   rcases z with ⟨⟨a2, k2⟩, ⟨a3, k3⟩⟩
   dsimp only
   refine Xad 14 ?_
   refine Xad 15 ?_
   refine Xad 16 ?_
   refine Xad 17 ?_
   refine Xar 19 rfl rfl (Wi (Wd (nO ?_)))
   refine Xad 20 ?_
   refine Xad 21 ?_
   exact JP.nil (by kernel_rfl) ⟨rfl, ((a2, k2), (a3, k3), bc), iI⟩
 rintro ⟨⟨a2, k2⟩, ⟨a3, k3⟩, bc⟩
 dsimp only
 cases rb with
 | false =>
  have h1 := Xnt (n := ⟨no, disk, room, l, wait, seq, up, peers, next, miss⟩) hR
  rw [h1] at hS
  rw [← hS]
  dsimp only
  refine wz8 ?_
  exact Xab (Y := Na) ⟨ad, kd, al, kl, aw, kw, ap, kp⟩ rfl
 | true =>
  obtain ⟨hrcm, hrll, hrlm, _⟩ := Xhc hR
  have hrc := hfw rc hrcm
  have hstep := Xls (n := ⟨no, disk, room, l, wait, seq, up, peers, next, miss⟩) hR
  have hok1 := Xlc hm hR
  have hw1 := Xey ⟨no, disk, room, l, wait, seq, up, peers, next, miss⟩ rc rl
  refine wz7 ?_
  refine Wf OpV.nilCheck rfl ?_
  refine wz9 ?_
  have hfa : ∀ x ∈ l ++ [rc], fine x := fun x hx => by
   rcases List.mem_append.1 hx with hx | hx
   ·exact hfl x hx
   ·rw [List.mem_singleton] at hx; subst hx; exact hrc
  refine Xgg (fun _ : Unit => [(0, .pointer (some ⟨br, 0, none⟩)), (2, .pointer (some ⟨bc, 0, none⟩)), (3, .slice a3 rl.length k3), (4, .bool true), (41, .bool (closedB (l ++ [rc])))])
   (fun _ => .own bc 29 [.int .i64 rc.ev.node, .int .i64 rc.ev.seq, .int .i64 rc.gen, .slice a2 rc.parents.length k2, .int .i64 rc.op.kind, .string rc.op.key, .string rc.op.elem, .int .i64 rc.op.n] :: .st (sl a2 k2 rc.parents) :: .st (sl a3 k3 rl) :: .own br 136 [.int .i64 no, .slice ad disk.length kd, .int .i64 room, .slice al l.length kl, .slice a3 rl.length k3, .int .i64 seq, .bool up, .slice ap peers.length kp, .int .i64 next, .int .i64 miss] :: .res (buf al kl 29 l) :: .st (sl ad kd disk) :: .st (sl aw kw wait) :: .st (sl ap kp peers) :: Γ) ?_ ?_
  ·refine Xz7 fun w2 => ?_
   refine JC.drawP mixed ?_
   refine Xad 0 ?_
   refine Xad 1 ?_
   refine Xad 2 ?_
   refine Xad 3 ?_
   refine Xad 4 ?_
   refine JP.tv 5 [.st (ro br 0 [.int .i64 no, .slice ad disk.length kd, .int .i64 room, .slice al l.length kl, .slice a3 rl.length k3, .int .i64 seq, .bool up, .slice ap peers.length kp, .int .i64 next, .int .i64 miss])] ?_
   refine JP.tv 7 [.st (ro bc 0 [.int .i64 rc.ev.node, .int .i64 rc.ev.seq, .int .i64 rc.gen, .slice a2 rc.parents.length k2, .int .i64 rc.op.kind, .string rc.op.key, .string rc.op.elem, .int .i64 rc.op.n])] ?_
   refine JP.both 6 8 (by kernel_rfl) rfl rfl rfl rfl (JR.callBuf rfl (fun w1 hw => Xkd w1 _ al kl l hw.get (by omega)) (fun a4 k4 => Wd (nO ?_))) (Ww rfl ⟨rfl, by decide, by decide, by decide⟩ (fun bl => Wd (nO ?_)))
   ·refine Xar 8 rfl rfl (Ww rfl ⟨rfl, by decide, by decide, by decide⟩ (fun bl => Wd (nO ?_)))
    refine Xar 9 rfl rfl (Xai (u := rc) rfl (by exact ⟨rfl, rfl, by decide⟩) (by omega) (fun a5 k5 => Wd (nO ?_)))
    refine Xar 10 rfl rfl (JR.callV rfl (fun w1 hw => (Xjb w1 (fun _ => True) a5 k5 (l ++ [rc]) (closedB (l ++ [rc])) hw.bufSlOf (by simp; omega) hfa Xcf).any) (Wd (nO ?_)))
    exact JP.nil (by kernel_rfl) ⟨rfl, (), iI⟩
   ·refine Xar 6 rfl rfl (JR.callBuf rfl (fun w1 hw => Xkd w1 _ al kl l hw.get (by omega)) (fun a4 k4 => Wd (nO ?_)))
    refine Xar 9 rfl rfl (Xai (u := rc) rfl (by exact ⟨rfl, rfl, by decide⟩) (by omega) (fun a5 k5 => Wd (nO ?_)))
    refine Xar 10 rfl rfl (JR.callV rfl (fun w1 hw => (Xjb w1 (fun _ => True) a5 k5 (l ++ [rc]) (closedB (l ++ [rc])) hw.bufSlOf (by simp; omega) hfa Xcf).any) (Wd (nO ?_)))
    exact JP.nil (by kernel_rfl) ⟨rfl, (), iI⟩
  rintro ⟨⟩
  cases hcl : closedB (l ++ [rc]) with
  | false =>
   have e1 : Xen ⟨no, disk, room, l, wait, seq, up, peers, next, miss⟩ rc rl = ⟨no, disk, room, l, rl, seq, up, peers, next, miss⟩ := if_neg (by rw [hcl]; exact Bool.false_ne_true)
   rw [e1] at hok1 hw1 hstep
   refine wz2 ?_
   exact ⟨⟨no, disk, room, l, rl, seq, up, peers, next, miss⟩, ⟨ad, kd, al, kl, a3, k3, ap, kp⟩, ⟨hok1, by rw [← hstep]; exact hS⟩, by show rl.length < wait.length; omega, iI⟩
  | true =>
   have e1 : Xen ⟨no, disk, room, l, wait, seq, up, peers, next, miss⟩ rc rl = Xh4 ⟨no, disk, room, l, rl, seq, up, peers, next, miss⟩ rc := if_pos hcl
   rw [e1] at hok1 hw1 hstep
   refine wz8 ?_
   refine JC.drawP mixed ?_
   refine Xad 0 ?_
   refine Xad 1 ?_
   refine Xad 2 ?_
   refine JP.tv 3 [.own bc 29 [.int .i64 rc.ev.node, .int .i64 rc.ev.seq, .int .i64 rc.gen, .slice a2 rc.parents.length k2, .int .i64 rc.op.kind, .string rc.op.key, .string rc.op.elem, .int .i64 rc.op.n]] ?_
   refine JP.more (Γ' := repF br ⟨no, disk, room, l, rl, seq, up, peers, next, miss⟩ ⟨ad, kd, al, kl, a3, k3, ap, kp⟩ ++ .st (sl a2 k2 rc.parents) :: Γ) (fun w1 ho => (ho.ent : Hold _ _ (.own br 136 [.int .i64 no, .slice ad disk.length kd, .int .i64 room, .slice al l.length kl, .slice a3 rl.length k3, .int .i64 seq, .bool up, .slice ap peers.length kp, .int .i64 next, .int .i64 miss] :: .res (buf al kl 29 l) :: .st (sl ad kd disk) :: .st (sl a3 k3 rl) :: .st (sl ap kp peers) :: .st (sl a2 k2 rc.parents) :: Γ) w1)) ?_
   refine Xar 4 rfl rfl (Xbk (v := fun y : Na => .int .i64 (storeT disk room rc).2) (B := fun y' => repF br (Xh4 ⟨no, disk, room, l, rl, seq, up, peers, next, miss⟩ rc) y' ++ Γ) rfl (fun w1 hw => X2h ⟨no, disk, room, l, rl, seq, up, peers, next, miss⟩ ⟨ad, kd, al, kl, a3, k3, ap, kp⟩ rc a2 k2 hrc.1 hdk (by show l.length < _; omega) hw) (fun y2 => Wd (nO ?_)))
   generalize Xh4 ⟨no, disk, room, l, rl, seq, up, peers, next, miss⟩ rc = n2 at hok1 hw1 hstep
   dsimp only [repF, List.cons_append, List.nil_append]
   refine JP.nil (by kernel_rfl) ?_
   refine wz2 ?_
   exact ⟨n2, y2, ⟨hok1, by rw [← hstep]; exact hS⟩, by rw [hw1]; show rl.length < wait.length; omega, iI⟩
end
theorem Xjf {L : List Commit} {c x : Commit} (h : x ∈ Xbd L c) : x ∈ L ∨ x = c := by
 unfold Xbd at h
 split at h
 ·exact .inl h
 ·have := List.mem_of_mem_drop h
  rcases List.mem_append.1 this with h | h
  ·exact .inl h
  ·exact .inr (List.mem_singleton.1 h)
theorem Xw4 (L : List Commit) (c : Commit) : (Xbd L c).length ≤ L.length + 1 := by
 unfold Xbd
 split
 ·omega
 ·rw [List.length_drop, List.length_append, List.length_singleton]; omega
theorem Xz8 {N : Nat} {n : Nd} {c : Commit} (h : NdOk N n) (hc : fine c) : NdOk (N + 1) { n with wait := Xbd n.wait c } := by
 refine ⟨h.fl, fun x hx => ?_, h.disk, h.room, ?_⟩
 ·rcases Xjf hx with hx | rfl
  ·exact h.fw x hx
  ·exact hc
 ·have := h.len
  have := Xw4 n.wait c
  show n.l.length + (Xbd n.wait c).length ≤ N + 1
  omega
section
variable {w0 w : World} {F : Nat → Prop} {Γ : List Fact} {br : Nat}
theorem Xz9 (n : Nd) (y : Na) (c : Commit) (a : Option Addr) (k : Nat) (hc : fine c) (hok : NdOk 899 n) (ho : Hold w0 F (repF br n y ++ .st (sl a k c.parents) :: Γ) w) :
  Calls prog 106 ⟨[.pointer (some ⟨br, 0, none⟩), Xax c a k]⟩ w fun x w' => ∃ y' : Na, x = .returned (.tuple ⟨[]⟩) ∧ Hold w0 F (repF br (Xdn n c) y' ++ Γ) w' := by
 refine Xb6 (v := fun y : Na => .tuple ⟨[]⟩) (B := fun y' => repF br (Xdn n c) y' ++ Γ) func106 rfl ntmps106 rfl rfl _ ho ?_
 rcases n with ⟨no, disk, room, l, wait, seq, up, peers, next, miss⟩
 rcases y with ⟨ad, kd, al, kl, aw, kw, ap, kp⟩
 obtain ⟨hfl, hfw, hdk, hrm, hln⟩ := id hok
 dsimp only [repF, ndC, List.cons_append, List.nil_append] at *
 (repeat (refine wE ?_; intro _)); refine wA ?_
 rename_i bc
 refine JR.callV rfl (fun w1 hw => Xfp w1 _ c a k hw.get hc.1) ?_
 (repeat (refine wE ?_; intro _)); refine wA ?_
 rename_i bi
 refine Xgg (fun _ : Unit => [(0, .pointer (some ⟨br, 0, none⟩)), (3, .pointer (some ⟨bc, 0, none⟩)), (37, .bool (!Xbo no seq (idsP l) c))])
  (fun _ => .own bc 29 [.int .i64 c.ev.node, .int .i64 c.ev.seq, .int .i64 c.gen, .slice a c.parents.length k, .int .i64 c.op.kind, .string c.op.key, .string c.op.elem, .int .i64 c.op.n] :: .st (sl a k c.parents) :: .own br 136 [.int .i64 no, .slice ad disk.length kd, .int .i64 room, .slice al l.length kl, .slice aw wait.length kw, .int .i64 seq, .bool up, .slice ap peers.length kp, .int .i64 next, .int .i64 miss] :: .res (buf al kl 29 l) :: .st (sl ad kd disk) :: .st (sl aw kw wait) :: .st (sl ap kp peers) :: Γ) ?_ ?_
 ·refine Xz7 fun w2 => ?_
  refine JC.drawP mixed ?_
  refine Xad 0 ?_
  refine Xad 1 ?_
  refine Xad 2 ?_
  by_cases h1 : may c = true
  case neg =>
   have h1' : may c = false := by rw [← Bool.not_eq_true]; exact h1
   have hfr : Xbo no seq (idsP l) c = false := by unfold Xbo; rw [h1']; rfl
   rw [hfr, Bool.not_false]
   refine JP.reslot 13 (.bool true) (by congr 1; exact decide_eq_true (fun h => h1 ((Xc0 c).1 h))) ?_
   refine JP.ov 3 ?_
   refine JP.ov 4 ?_
   refine Xad 5 ?_
   refine Xad 6 ?_
   refine JP.ov 7 ?_
   refine JP.ov 8 ?_
   refine JP.ov 9 ?_
   refine JP.ov 10 ?_
   refine JP.ov 11 ?_
   refine JP.ov 12 ?_
   refine JP.ov 13 ?_
   refine JP.ov 14 ?_
   refine JP.ov 15 ?_
   refine Xad 16 ?_
   refine Xad 17 ?_
   refine JP.ov 18 ?_
   refine JP.ov 19 ?_
   refine JP.ov 20 ?_
   refine JP.ov 21 ?_
   refine JP.ov 22 ?_
   refine JP.ov 23 ?_
   refine JP.ov 24 ?_
   refine JP.ov 25 ?_
   refine Xad 26 ?_
   exact JP.nil (by kernel_rfl) ⟨rfl, (), iI⟩
  refine JP.reslot 13 (.bool false) (by congr 1; exact decide_eq_false (fun h => h ((Xc0 c).2 h1))) ?_
  refine JP.tv 3 [.st (ro bc 0 [.int .i64 c.ev.node, .int .i64 c.ev.seq, .int .i64 c.gen, .slice a c.parents.length k, .int .i64 c.op.kind, .string c.op.key, .string c.op.elem, .int .i64 c.op.n])] ?_
  refine Xar 4 rfl rfl (JR.callV rfl (fun w1 hw => Xdy w1 _ c a k hw.get hc.1) (Wd (nO ?_)))
  cases h2 : merge c with
  | true =>
   have hfr : Xbo no seq (idsP l) c = false := by unfold Xbo; rw [h1, h2]; rfl
   rw [hfr, Bool.not_false]
   refine Xad 5 ?_
   refine Xad 6 ?_
   refine JP.ov 7 ?_
   refine JP.ov 8 ?_
   refine JP.ov 9 ?_
   refine JP.ov 10 ?_
   refine JP.ov 11 ?_
   refine JP.ov 12 ?_
   refine JP.ov 13 ?_
   refine JP.ov 14 ?_
   refine JP.ov 15 ?_
   refine Xad 16 ?_
   refine Xad 17 ?_
   refine JP.ov 18 ?_
   refine JP.ov 19 ?_
   refine JP.ov 20 ?_
   refine JP.ov 21 ?_
   refine JP.ov 22 ?_
   refine JP.ov 23 ?_
   refine JP.ov 24 ?_
   refine JP.ov 25 ?_
   refine Xad 26 ?_
   exact JP.nil (by kernel_rfl) ⟨rfl, (), iI⟩
  | false =>
  refine Xad 5 ?_
  refine Xad 6 ?_
  refine Xad 7 ?_
  refine Xad 8 ?_
  refine Xad 9 ?_
  refine Xad 10 ?_
  refine Xad 11 ?_
  refine JP.tv 12 [.st (ro br 0 [.int .i64 no, .slice ad disk.length kd, .int .i64 room, .slice al l.length kl, .slice aw wait.length kw, .int .i64 seq, .bool up, .slice ap peers.length kp, .int .i64 next, .int .i64 miss])] ?_
  refine JP.tv 14 [.st (ro bi 0 (idc (Xay c).1))] ?_
  refine Xar 13 rfl rfl (JR.callBuf rfl (fun w1 hw => Xk9 w1 _ al kl l hw.get (by omega) hfl) (fun ai ki => Wd (nO ?_)))
  refine Xar 15 rfl rfl (JR.callV rfl (fun w1 hw => (Xtl w1 (fun _ => True) ai ki (idsP l) (Xay c).1 hw.bufSlOf).any) (Wd (nO ?_)))
  by_cases h3 : (Xay c).1 ∈ idsP l
  case pos =>
   have hfr : Xbo no seq (idsP l) c = false := by unfold Xbo idC; rw [h1, h2, decide_eq_true h3]; rfl
   rw [hfr, Bool.not_false]
   refine JP.reslot 26 (.bool true) (by rw [decide_eq_true h3]) ?_
   refine Xad 16 ?_
   refine Xad 17 ?_
   refine JP.ov 18 ?_
   refine JP.ov 19 ?_
   refine JP.ov 20 ?_
   refine JP.ov 21 ?_
   refine JP.ov 22 ?_
   refine JP.ov 23 ?_
   refine JP.ov 24 ?_
   refine JP.ov 25 ?_
   refine Xad 26 ?_
   exact JP.nil (by kernel_rfl) ⟨rfl, (), iI⟩
  refine JP.reslot 26 (.bool false) (by rw [decide_eq_false h3]) ?_
  refine Xad 16 ?_
  refine Xad 17 ?_
  refine Xad 18 ?_
  refine Xad 19 ?_
  refine Xad 20 ?_
  refine Xad 21 ?_
  refine JP.tv 22 [.st (ro br 0 [.int .i64 no, .slice ad disk.length kd, .int .i64 room, .slice al l.length kl, .slice aw wait.length kw, .int .i64 seq, .bool up, .slice ap peers.length kp, .int .i64 next, .int .i64 miss])] ?_
  refine JP.tv 23 [.st (ro bc 0 [.int .i64 c.ev.node, .int .i64 c.ev.seq, .int .i64 c.gen, .slice a c.parents.length k, .int .i64 c.op.kind, .string c.op.key, .string c.op.elem, .int .i64 c.op.n])] ?_
  refine Xar 24 rfl rfl (JR.callV rfl (fun w1 hw => Xi0 w1 _ ⟨no, disk, room, l, wait, seq, up, peers, next, miss⟩ ⟨ad, kd, al, kl, aw, kw, ap, kp⟩ c a k) (Wd (nO ?_)))
  have hfr : Xbo no seq (idsP l) c = Xc1 no seq c := by unfold Xbo idC; rw [h1, h2, decide_eq_false h3]; rfl
  rw [hfr]
  dsimp only
  refine Xad 25 ?_
  refine Xad 26 ?_
  exact JP.nil (by kernel_rfl) ⟨rfl, (), iI⟩
 rintro ⟨⟩
 cases hfr : Xbo no seq (idsP l) c with
 | false =>
  have e1 : Xdn ⟨no, disk, room, l, wait, seq, up, peers, next, miss⟩ c = ⟨no, disk, room, l, wait, seq, up, peers, next, miss⟩ := if_neg (by show ¬ Xbo no seq (idsP l) c = true; rw [hfr]; exact Bool.false_ne_true)
  rw [e1]
  dsimp only
  refine wz8 ?_
  exact Xab (Y := Na) ⟨ad, kd, al, kl, aw, kw, ap, kp⟩ rfl
 | true =>
  have e1 : Xdn ⟨no, disk, room, l, wait, seq, up, peers, next, miss⟩ c = Xcg ⟨no, disk, room, l, Xbd wait c, seq, up, peers, next, miss⟩ := if_pos hfr
  rw [e1]
  have hok2 := Xz8 hok hc
  refine wz7 ?_
  refine JC.drawP mixed ?_
  refine Xad 0 ?_
  refine Xad 1 ?_
  refine Xad 2 ?_
  refine Xad 3 ?_
  refine Xad 4 ?_
  refine Xad 5 ?_
  refine JP.tv 6 [.own br 136 [.int .i64 no, .slice ad disk.length kd, .int .i64 room, .slice al l.length kl, .slice aw wait.length kw, .int .i64 seq, .bool up, .slice ap peers.length kp, .int .i64 next, .int .i64 miss]] ?_
  refine JP.tv 7 [.own bc 29 [.int .i64 c.ev.node, .int .i64 c.ev.seq, .int .i64 c.gen, .slice a c.parents.length k, .int .i64 c.op.kind, .string c.op.key, .string c.op.elem, .int .i64 c.op.n]] ?_
  refine Xar 8 rfl rfl (JR.callSl rfl (fun w1 hw => X1d w1 _ aw a kw k wait c hw.get hw.get (by omega) hfw hc) (fun a3 k3 => Wd (nO ?_)))
  refine Xad 9 ?_
  refine Xad 10 ?_
  refine Xad 11 ?_
  refine Xad 12 ?_
  refine JP.reslot 50 (.pointer (some ⟨br, 4, none⟩)) rfl ?_
  refine Xar 13 rfl rfl (Wi (Wd (nO ?_)))
  refine JP.nil (by kernel_rfl) ?_
  refine wz14 ?_
  refine JR.more (Γ' := repF br ⟨no, disk, room, l, Xbd wait c, seq, up, peers, next, miss⟩ ⟨ad, kd, al, kl, a3, k3, ap, kp⟩ ++ Γ) (fun w1 ho => (ho.ent : Hold _ _ (.own br 136 [.int .i64 no, .slice ad disk.length kd, .int .i64 room, .slice al l.length kl, .slice a3 (Xbd wait c).length k3, .int .i64 seq, .bool up, .slice ap peers.length kp, .int .i64 next, .int .i64 miss] :: .res (buf al kl 29 l) :: .st (sl ad kd disk) :: .st (sl a3 k3 (Xbd wait c)) :: .st (sl ap kp peers) :: Γ) w1)) ?_
  refine Xbk (v := fun y : Na => .tuple ⟨[]⟩) (B := fun y' => repF br (Xcg ⟨no, disk, room, l, Xbd wait c, seq, up, peers, next, miss⟩) y' ++ Γ) rfl (fun w1 hw => Xui _ _ hok2 hw) ?_
  intro y2
  refine wz10 ?_
  exact Xep y2 rfl (fun w ho => ho)
end
end
theorem X5j {b : List UInt8} {k : Nat} (hk : k < b.length) (hg : ∀ c ∈ b.take k, 128 ≤ c.toNat) (hs : b[k].toNat < 128) :
  getN b = if numL (numV (b.take (k + 1)) % 18446744073709551616) = b.take (k + 1) then (numV (b.take (k + 1)) % 18446744073709551616, k + 1) else (0, 0) := by
 have hlen : (b.take (k + 1)).length = k + 1 := by rw [List.length_take]; omega
 split
 ·rename_i h
  rw [Xp8 (b := b) (Nat.mod_lt _ (by decide)) ⟨b.drop (k + 1), by rw [h]; exact List.take_append_drop _ _⟩, h, hlen]
 ·rename_i h
  refine Xgl ?_
  rintro ⟨n, hn, t, ht⟩
  obtain ⟨hv, i, l, e1, hd⟩ := Xel hn
  have hb : b = b.take k ++ b[k] :: b.drop (k + 1) := by
   rw [← List.drop_eq_getElem_cons hk, List.take_append_drop]
  have h1 : i ++ l :: t = b.take k ++ b[k] :: b.drop (k + 1) := by
   rw [← hb, ← ht, e1]; simp
  obtain ⟨h2, h3, _⟩ := Xg5 hd.great hg hd.small hs h1
  apply h
  have h4 : numL n = b.take (k + 1) := by rw [e1, h2, h3]; exact (List.take_succ_eq_append_getElem hk).symm
  rw [← h4, hv, Nat.mod_eq_of_lt hn]
theorem X2k {b : List UInt8} {i : Nat} (h : i < b.length) : numV (b.take (i + 1)) % 18446744073709551616 = (numV (b.take i) % 18446744073709551616 + (128 ^ i % 18446744073709551616 * (b[i].toNat % 128)) % 18446744073709551616) % 18446744073709551616 := by
 rw [Xrx h, ← pow7, Nat.mul_comm (b[i].toNat % 128)]
 conv => rhs; rw [Nat.mod_mul_mod]
 rw [← Nat.add_mod]
theorem X5k (x : UInt8) : ((x.toNat : Int).tmod 128) = ((x.toNat % 128 : Nat) : Int) := rfl
theorem Xkf (a : Option Addr) (c : Nat) (b : List UInt8) (h : (sl a c b).holds F w) :
  GivesV prog 124 [.slice a b.length c] w F (.tuple ⟨[.int .u64 ((getN b).1 : Int), .int .i64 ((getN b).2 : Int)]⟩) := by
 have hL : b.length < 9223372036854775807 := by have := h.2.2.1; simp only [lim] at this; omega
 refine Xaa func124 rfl ntmps124 rfl rfl [.st (sl a c b)] (.start1 h) ?_
 refine wz4 ?_
 refine JC.reslot 4 (.int .u64 ((numV (b.take 0) % 18446744073709551616 : Nat) : Int)) (by simp [numV]) ?_
 refine JC.reslot 5 (.int .u64 ((128 ^ 0 % 18446744073709551616 : Nat) : Int)) (by simp) ?_
 refine Xap (fun (i : Nat) => [(0, .slice a b.length c), (4, .int .u64 ((numV (b.take i) % 18446744073709551616 : Nat) : Int)), (5, .int .u64 ((128 ^ i % 18446744073709551616 : Nat) : Int)), (6, .int .i64 (i : Int))]) (fun _ => [.st (sl a c b)])
  (fun i => i ≤ b.length ∧ i ≤ 10 ∧ ∀ x ∈ b.take i, 128 ≤ x.toNat) (fun i => b.length - i) 0 ⟨Nat.zero_le _, by decide, by simp⟩ iI ?_
 rintro i ⟨hi, hi10, hg⟩
 refine wz11 ?_
 by_cases hlt : i < b.length
 case neg =>
  have e1 : getN b = (0, 0) := Xky (fun x hx => hg x (by
   have : i = b.length := by omega
   rw [this, List.take_length]
   exact List.mem_of_mem_take hx))
  rw [e1]
  refine JO.reslot 11 (.bool false) (by congr 1; exact decide_eq_false (by omega)) ?_
  refine wX ?_
  exact Xab () rfl
 refine JO.reslot 11 (.bool true) (by congr 1; exact decide_eq_true (by omega)) ?_
 refine wX ?_
 by_cases h10 : i < 10
 case neg =>
  have e1 : getN b = (0, 0) := Xky (fun x hx => hg x (by
   have : i = 10 := by omega
   rw [this]; exact hx))
  rw [e1]
  refine JC.reslot 14 (.bool false) (by congr 1; exact decide_eq_false (by omega)) ?_
  refine wX ?_
  exact Xab () rfl
 refine JC.reslot 14 (.bool true) (by congr 1; exact decide_eq_true (by omega)) ?_
 have hnv := X2k hlt
 have hat := X5j hlt hg
 have htk : ∀ x ∈ b.take (i + 1), x ∈ b.take i ∨ x = b[i] := fun x hx => by
  rw [List.take_succ_eq_append_getElem hlt, List.mem_append, List.mem_singleton] at hx
  exact hx
 have hx256 := b[i].toNat_lt
 refine wz1 ?_
 refine JR.indexByte (k := i) rfl hlt ?_
 intro b5 o5
 generalize hbi : b[i] = bi at hnv hat htk hx256 ⊢
 have hpw : 128 ^ i % 18446744073709551616 * 128 % 18446744073709551616 = 128 ^ (i + 1) % 18446744073709551616 := by rw [Nat.mod_mul_mod, Nat.pow_succ]
 generalize numV (b.take i) % 18446744073709551616 = N at hnv ⊢
 generalize 128 ^ i % 18446744073709551616 = P at hnv hpw ⊢
 generalize hP2 : 128 ^ (i + 1) % 18446744073709551616 = P2 at hpw
 generalize hN2 : numV (b.take (i + 1)) % 18446744073709551616 = N2 at hnv hat
 refine wz6 ?_
 refine Wf (OpV.rem (by decide)) rfl ?_
 refine JO.reslot 23 (.int .u8 ((bi.toNat % 128 : Nat) : Int)) (by rw [X5k]) ?_
 refine wz13 ?_
 refine Wf Xaq rfl ?_
 refine JO.reslot 24 (.int .u64 ((bi.toNat % 128 : Nat) : Int)) (by rw [Xbn, Nat.mod_eq_of_lt (by omega)]) ?_
 refine wz13 ?_
 refine Wf Xh6 rfl ?_
 refine JO.reslot 25 (.int .u64 ((P * (bi.toNat % 128) % 18446744073709551616 : Nat) : Int)) (by rw [← Int.natCast_mul, Xbn]) ?_
 refine wz13 ?_
 refine Wf Xgs rfl ?_
 refine JO.reslot 26 (.int .u64 (N2 : Int)) (by rw [← Int.natCast_add, Xbn, hnv]) ?_
 refine wz10 ?_
 refine Wf Xh6 rfl ?_
 refine JO.reslot 28 (.int .u64 (P2 : Int)) (by rw [show (128 : Int) = ((128 : Nat) : Int) from rfl, ← Int.natCast_mul, Xbn, hpw]) ?_
 refine wz10 ?_
 refine JR.indexByte (k := i) rfl hlt ?_
 intro b6 o6
 rw [hbi]
 refine We rfl ?_
 refine Wf Vc rfl ?_
 refine We rfl ?_
 refine Wf Vg rfl ?_
 by_cases hs : bi.toNat < 128
 ·refine JO.reslot 33 (.bool true) (congrArg Value.bool (decide_eq_true (by omega))) ?_
  refine Wd ?_
  refine Wa ?_
  refine Wj ?_
  have hat := hat hs
  have hN : N2 < 18446744073709551616 := by rw [← hN2]; exact Nat.mod_lt _ (by decide)
  have htl : (b.take (i + 1)).length = i + 1 := by rw [List.length_take]; omega
  clear hpw hnv hP2 hN2 hg htk
  refine wz14 ?_
  refine JC.more (Γ' := [.st (sl a c (b.take (i + 1))), .st (sl a c b)]) (fun w1 ho => ?_) ?_
  ·exact (ho.add (A := sl a c (b.take (i + 1))) (Xez (k := i + 1) (c' := c) (ho.get (A := sl a c b)) hlt ⟨by have h9 := (ho.get (A := sl a c b)).1; clear hat hN; omega, Nat.le_refl _⟩)).ent
  refine JC.drawP mixed ?_
  refine Xad 0 ?_
  refine Xad 3 ?_
  refine Xad 4 ?_
  refine JP.pure 5 rfl (by kernel_rfl) rfl (fun _ => Vt (by omega)) rfl rfl ?_
  refine JP.reslot 39 (.int .i64 ((i + 1 : Nat) : Int)) rfl ?_
  refine JP.take 6 [.st (sl a c b)] rfl (by kernel_rfl) rfl (Xca (k := i + 1) (fun w1 ho => by have := (Hold.get (A := sl a c b) ho).1; omega)) rfl rfl ?_
  refine JP.reslot 40 (.slice a (b.take (i + 1)).length c) (by rw [htl]) ?_
  refine JP.take 7 [.st (sl a c (b.take (i + 1)))] rfl (by kernel_rfl) rfl (Xcq (L := b.take (i + 1))) rfl rfl ?_
  refine Xar 1 rfl rfl (JR.callBuf rfl (fun w1 hw => Xg9 N2 hN w1 _) fun a5 c5 => Wd (nO ?_))
  refine JP.more (fun w1 ho => ho.pub) ?_
  refine JP.take 2 [.st (sl a5 c5 (numL N2))] rfl (by kernel_rfl) rfl (Xcq (L := numL N2)) rfl rfl ?_
  refine Xad 8 ?_
  refine JP.nil (by kernel_rfl) ?_
  refine Wa ?_
  have hss : ∀ x y : List UInt8, strB x = strB y ↔ x = y := fun _ _ => Xu7
  by_cases hsame : numL N2 = b.take (i + 1)
  ·rw [if_pos hsame] at hat
   rw [hat]
   refine JC.reslot 42 (.bool true) (congrArg Value.bool (decide_eq_true ((hss _ _).2 hsame))) ?_
   refine wX ?_
   exact Xab () rfl
  ·rw [if_neg hsame] at hat
   rw [hat]
   refine JC.reslot 42 (.bool false) (congrArg Value.bool (decide_eq_false (fun h => hsame ((hss _ _).1 h)))) ?_
   refine wX ?_
   exact Xab () rfl
 ·refine JO.reslot 33 (.bool false) (congrArg Value.bool (decide_eq_false (by omega))) ?_
  refine wz2 ?_
  exact ⟨i + 1, ⟨by omega, by omega, fun x hx => by
   rcases htk x hx with hx | rfl
   ·exact hg x hx
   ·omega⟩, by omega, by rw [hN2, hP2]; infer_instance⟩
theorem Xpe (m : Nat) (h : m < 18446744073709551616) : GivesV prog 125 [.int .u64 (m : Int)] w F (.int .i64 (Xb9 m)) := by
 have e1 : (m : Int).tmod 2 = ((m % 2 : Nat) : Int) := by rw [Int.tmod_eq_emod_of_nonneg (by omega)]; rfl
 have e2 : (m : Int).tdiv 2 = ((m / 2 : Nat) : Int) := by rw [Int.tdiv_eq_ediv_of_nonneg (by omega)]; rfl
 refine Xaa func125 rfl ntmps125 rfl rfl [] (.start w F) ?_
 refine wz10 ?_
 refine Wf (OpV.rem (by decide)) rfl ?_
 refine JO.reslot 4 (.int .u64 ((m % 2 : Nat) : Int)) (by rw [e1]) ?_
 refine We rfl ?_
 refine Wf Vl rfl ?_
 refine Wd ?_
 refine Wa ?_
 refine JC.test (fun hs => ?_) (fun hs => ?_)
 ·refine wz14 ?_
  refine Wf (OpV.quo (by decide)) rfl ?_
  refine JO.reslot 7 (.int .u64 ((m / 2 : Nat) : Int)) (by rw [e2, Xbn, Nat.mod_eq_of_lt (by omega)]) ?_
  refine We rfl ?_
  refine Wf Xaq rfl ?_
  refine JO.reslot 8 (.int .i64 (Xb9 m)) (by rw [Xb2 (by omega), Xb9, if_pos (by omega)]) ?_
  refine wz9 ?_
  exact Xab () rfl
 ·refine wz14 ?_
  refine Wf (OpV.quo (by decide)) rfl ?_
  refine JO.reslot 10 (.int .u64 ((m / 2 : Nat) : Int)) (by rw [e2, Xbn, Nat.mod_eq_of_lt (by omega)]) ?_
  refine We rfl ?_
  refine Wf Xaq rfl ?_
  refine JO.reslot 11 (.int .i64 ((m / 2 : Nat) : Int)) (by rw [Xb2 (by omega)]) ?_
  refine We rfl ?_
  refine Wf (Vv (by omega)) rfl ?_
  refine JO.reslot 12 (.int .i64 (Xb9 m)) (by rw [Xb9, if_neg (by omega)]) ?_
  refine wz10 ?_
  exact Xab () rfl
theorem X0a (a : Option Addr) (c : Nat) (b : List UInt8) (m : Nat) (h : (sl a c b).holds F w) (hl : b.length ≤ 34359738368) (hm : m ≤ 1048576) :
  Gives prog 184 [.slice a b.length c, .int .i64 (m : Int)] w F (fun y : Option Addr × Nat => .tuple ⟨[.string (cutT b m).1, .slice y.1 (cutT b m).2.1.length y.2, .bool (cutT b m).2.2]⟩) (fun y => [.st (sl y.1 y.2 (cutT b m).2.1)]) := by
 have hkl := (Xfq b).1
 have hn64 := Xdu b
 refine Xaa func184 rfl ntmps184 rfl rfl [.st (sl a c b)] (.start1 h) ?_
 refine wz10 ?_
 refine JR.callV rfl (fun w1 hw => Xkf w1 _ a c b hw.get) ?_
 refine wz4 ?_
 refine JO.test 17 (fun h0 => ?_) (fun h0 => ?_)
 ·have e : cutT b m = (.empty, [], false) := by unfold cutT; rw [if_pos (.inl (by omega))]
  rw [e]
  refine wz8 ?_
  exact CT.done (none, 0) rfl (fun w ho => (ho.ent : Hold _ _ [] w).add Xah)
 refine wz11 ?_
 refine Wf Xaq rfl ?_
 refine JO.reslot 24 (.int .u64 (m : Int)) (by rw [Xbn]; congr 2; omega) ?_
 refine wz5 ?_
 refine JO.test 27 (fun h1 => ?_) (fun h1 => ?_)
 ·have e : cutT b m = (.empty, [], false) := by unfold cutT; rw [if_pos (.inr (.inl (by omega)))]
  rw [e]
  refine wz8 ?_
  exact CT.done (none, 0) rfl (fun w ho => (ho.ent : Hold _ _ [] w).add Xah)
 refine wX ?_
 refine Wf Xaq rfl ?_
 refine JO.reslot 33 (.int .u64 ((b.length - (getN b).2 : Nat) : Int)) (by
  rw [Xbn]; congr 2; omega) ?_
 refine wz5 ?_
 refine JC.test (fun h2 => ?_) (fun h2 => ?_)
 ·have e : cutT b m = (.empty, [], false) := by unfold cutT; rw [if_pos (.inr (.inr (by omega)))]
  rw [e]
  refine wz9 ?_
  exact CT.done (none, 0) rfl (fun w ho => (ho.ent : Hold _ _ [] w).add Xah)
 have e : cutT b m = (strB ((b.drop (getN b).2).take (getN b).1), (b.drop (getN b).2).drop (getN b).1, true) := by unfold cutT; rw [if_neg (by omega)]
 rw [e]
 obtain ⟨n, hn⟩ : ∃ n, n = (getN b).1 := ⟨_, rfl⟩
 obtain ⟨l, hl'⟩ : ∃ l, l = (getN b).2 := ⟨_, rfl⟩
 rw [← hn] at h1 h2 hn64 ⊢
 rw [← hl'] at h0 h2 hkl ⊢
 refine wz14 ?_
 refine Wf Xaq rfl ?_
 refine JO.reslot 38 (.int .i64 (n : Int)) (by rw [Xb2 (by omega)]) ?_
 refine wX ?_
 refine JC.reslot 9 (.int .i64 ((l + n : Nat) : Int)) rfl ?_
 rw [List.drop_drop]
 have hm2 : ((b.take (l + n)).drop l).length = n := by rw [List.length_drop, List.length_take]; omega
 refine JC.more (Γ' := [.st (sl (Xcu a c l 1) (c - l) ((b.drop l).take n)), .st (sl (Xcu a c (l + n) 1) (c - (l + n)) (b.drop (l + n))), .st (sl a c b)]) (fun w1 ho => ?_) ?_
 ·have h1 := ho.add (A := sl (Xcu a c (l + n) 1) (c - (l + n)) (b.drop (l + n))) (Xhq (k := l + n) (ho.get (A := sl a c b)) (by omega))
  have h2 := h1.add (A := sl (Xcu a c l 1) (c - l) (b.drop l)) (Xhq (k := l) (h1.get (A := sl a c b)) (by omega))
  have h3 := h2.add (A := sl (Xcu a c l 1) (c - l) ((b.drop l).take n)) (Xez (k := n) (c' := c - l) (h2.get (A := sl (Xcu a c l 1) (c - l) (b.drop l))) (by rw [List.length_drop]; omega) ⟨by have := (h2.get (A := sl a c b)).1; omega, Nat.le_refl _⟩)
  exact h3.ent
 refine JC.drawP mixed ?_
 refine Xad 0 ?_
 refine Xad 1 ?_
 refine Xad 2 ?_
 refine JP.take 3 [.st (sl a c b)] rfl (by kernel_rfl) rfl (Xe9 (l := l) (h := l + n) (s := 1) rfl (fun w1 ho => ⟨by omega, by have := (Hold.get (A := sl a c b) ho).1; omega⟩)) rfl rfl ?_
 refine JP.reslot 43 (.slice (Xcu a c l 1) ((b.drop l).take n).length (c - l)) (by congr 1; rw [List.length_take, List.length_drop]; omega) ?_
 refine JP.take 4 [.st (sl (Xcu a c l 1) (c - l) ((b.drop l).take n))] rfl (by kernel_rfl) rfl (Xcq (L := (b.drop l).take n)) rfl rfl ?_
 refine Xad 5 ?_
 refine Xad 6 ?_
 refine JP.take 7 [.st (sl a c b)] rfl (by kernel_rfl) rfl (Xde (l := l + n) (s := 1) rfl (fun w1 ho => ⟨by omega, (Hold.get (A := sl a c b) ho).1⟩)) rfl rfl ?_
 refine JP.reslot 47 (.slice (Xcu a c (l + n) 1) (b.drop (l + n)).length (c - (l + n))) (by congr 1; rw [List.length_drop]) ?_
 refine Xar 8 rfl rfl (JR.appendNil (L' := b.drop (l + n)) rfl (by exact ⟨rfl, rfl, by decide⟩) (by rw [List.length_drop]; omega) fun a5 c5 => Wd (nO ?_))
 refine JP.more (fun w1 ho => ho.pub) ?_
 refine Xad 9 ?_
 refine Xad 10 ?_
 refine Xad 11 ?_
 refine JP.nil (by kernel_rfl) ?_
 refine wz13 ?_
 exact Xab (a5, c5) rfl
theorem Xnu (a : Option Addr) (c : Nat) (L : List UInt8) (h : (sl a c L).holds F w) :
  Xcr prog 65 [.slice a L.length c] w F (Xft L).1 [.int .i64 (Xft L).2] := by
 obtain ⟨s0, s1, s2, s3, r, h1, h2⟩ := four (Xfn L)
 have hq : Xj1 L = [s0, s1, s2, s3] := h2
 have hi : idc (sumI L) = (s0 :: s1 :: s2 :: s3 :: r).map Xaj := by
  show (sumI L).1.map Xaj = _
  rw [Xu4, h1]
 have hm : (s0 :: s1 :: s2 :: s3 :: r).length = 32 := by rw [← h1]; exact Xfn L
 refine Xaa func65 rfl ntmps65 rfl rfl [.st (sl a c L)] (.start1 h) ?_
 refine wz5 ?_
 refine JC.test (fun h4 => ?_) (fun h4 => ?_)
 ·have e : Xft L = ([], 5) := if_pos (by omega)
  rw [e]
  refine wz9 ?_
  exact CT.done (none, 0) rfl (fun w ho => (ho.ent : Hold _ _ [] w).add Xah)
 ·have e : Xft L = (Xbv L, 0) := if_neg (by omega)
  rw [e]
  refine wz14 ?_
  refine JR.callV rfl (fun w1 hw => Xzq w1 _ a c L hw.get (by omega)) ?_
  (repeat (refine wE ?_; intro _)); refine wA ?_
  rename_i b4
  refine Wf Xaq rfl ?_
  refine JO.reslot 13 (.int .u64 (L.length : Int)) (by rw [Xbn]; congr 2; omega) ?_
  refine wz13 ?_
  refine JR.callBuf rfl (fun w1 hw => Xg9 L.length (by omega) w1 _) ?_
  intro a5 c5
  refine wz6 ?_
  refine Xau (L' := L) rfl (by exact ⟨rfl, rfl, by decide⟩) (by have := Xaw L.length; omega) ?_
  intro a6 c6
  refine wz10 ?_
  refine JR.more (Γ' := [.own b4 81 ((s0 :: s1 :: s2 :: s3 :: r).map Xaj), .res (buf a6 c6 5 (numL L.length ++ L))]) (fun w1 ho => by rw [← hi]; exact ho.ent) ?_
  refine Wf (Xac (k := 0) (by decide)) rfl ?_
  refine We rfl ?_
  refine Wf (Xam (L := s0 :: s1 :: s2 :: s3 :: r) 0 (by rw [hm]; decide) rfl rfl) rfl ?_
  refine JO.reslot 19 (Xaj s0) rfl ?_
  refine We rfl ?_
  refine Wf (Xac (k := 1) (by decide)) rfl ?_
  refine We rfl ?_
  refine Wf (Xam (L := s0 :: s1 :: s2 :: s3 :: r) 1 (by rw [hm]; decide) rfl rfl) rfl ?_
  refine JO.reslot 21 (Xaj s1) rfl ?_
  refine We rfl ?_
  refine Wf (Xac (k := 2) (by decide)) rfl ?_
  refine We rfl ?_
  refine Wf (Xam (L := s0 :: s1 :: s2 :: s3 :: r) 2 (by rw [hm]; decide) rfl rfl) rfl ?_
  refine JO.reslot 23 (Xaj s2) rfl ?_
  refine We rfl ?_
  refine Wf (Xac (k := 3) (by decide)) rfl ?_
  refine We rfl ?_
  refine Wf (Xam (L := s0 :: s1 :: s2 :: s3 :: r) 3 (by rw [hm]; decide) rfl rfl) rfl ?_
  refine JO.reslot 25 (Xaj s3) rfl ?_
  refine We rfl ?_
  refine Ww rfl ⟨rfl, by decide, by decide, by decide⟩ ?_
  intro bl
  refine We rfl ?_
  refine Xdd (M := Xj1 L) rfl (by rw [hq]; rfl) rfl (Xf9 L) (by exact ⟨rfl, rfl, by decide⟩) (by have := Xaw L.length; rw [List.length_append]; omega) ?_
  intro a7 c7
  refine wz10 ?_
  exact CT.done (a7, c7) rfl (fun w ho => (ho.ent : Hold _ _ [.res (buf a7 c7 5 (numL L.length ++ L ++ Xj1 L))] w).pub)
theorem X0b (a a2 : Option Addr) (c c2 : Nat) (b L : List UInt8) (room : Int) (h : (sl a c b).holds F w) (h2 : (sl a2 c2 L).holds F w) (hb : b.length ≤ 34359730000) :
  Xcr prog 60 [.slice a b.length c, .int .i64 room, .slice a2 L.length c2] w F (Xdz b room L).1 [.int .i64 (Xdz b room L).2] := by
 refine Xaa func60 rfl ntmps60 rfl rfl [.st (sl a c b), .st (sl a2 c2 L)] (.start2 h h2) ?_
 refine wz10 ?_
 refine Xbp rfl (fun w1 hw => Xnu w1 _ a2 c2 L hw.get) ?_
 intro a3 c3
 by_cases h4 : 4000 < L.length
 ·have e : Xft L = ([], 5) := if_pos h4
  have e2 : Xdz b room L = ([], 5) := if_pos h4
  rw [e, e2]
  dsimp only
  refine wA ?_
  exact CT.done (none, 0) rfl (fun w ho => (ho.ent : Hold _ _ [] w).add Xah)
 ·have e : Xft L = (Xbv L, 0) := if_neg h4
  have hfl := Xct L
  have hnl := Xaw L.length
  rw [e]
  dsimp only
  refine wA ?_
  refine JC.test (fun h5 => ?_) (fun h5 => ?_)
  ·have e2 : Xdz b room L = ([], 4) := by unfold Xdz; rw [if_neg h4, if_pos (by omega)]
   rw [e2]
   refine wz9 ?_
   exact CT.done (none, 0) rfl (fun w ho => (ho.ent : Hold _ _ [] w).add Xah)
  ·have e2 : Xdz b room L = (b ++ Xbv L, 0) := by unfold Xdz; rw [if_neg h4, if_neg (by omega)]
   rw [e2]
   refine wz14 ?_
   refine JR.appendNil (L' := b) rfl (by exact ⟨rfl, rfl, by decide⟩) (by omega) ?_
   intro a5 c5
   refine wz6 ?_
   refine Xau (L' := Xbv L) rfl (by exact ⟨rfl, rfl, by decide⟩) (by omega) ?_
   intro a6 c6
   refine wz10 ?_
   exact CT.done (a6, c6) rfl (fun w ho => (ho.ent : Hold _ _ [.res (buf a6 c6 5 (b ++ Xbv L))] w).pub)
theorem X0c (a a2 : Option Addr) (k k2 : Nat) (b : List UInt8) (room : Int) (c : Commit) (h : (sl a k b).holds F w) (h2 : (sl a2 k2 c.parents).holds F w) (ht : Xht c) (hb : b.length ≤ 1048576) :
  Xcr prog 16 [.slice a b.length k, .int .i64 room, Xax c a2 k2] w F (storeT b room c).1 [.int .i64 (storeT b room c).2] := by
 refine Xaa func16 rfl ntmps16 rfl rfl [.st (sl a k b), .st (sl a2 k2 c.parents)] (.start2 h h2) ?_
 (repeat (refine wE ?_; intro _)); refine wA ?_
 refine Xbp rfl (fun w1 hw => Xo6 w1 _ c a2 k2 hw.get ht) ?_
 intro a3 c3
 refine wA ?_
 refine JC.test (fun h5 => ?_) (fun h5 => ?_)
 ·have e2 : storeT b room c = ([], (Xat c).2) := if_neg h5
  rw [e2]
  refine wz9 ?_
  exact CT.done (none, 0) rfl (fun w ho => (ho.ent : Hold _ _ [] w).add Xah)
 ·have e2 : storeT b room c = Xdz b room (Xat c).1 := if_pos (by omega)
  rw [e2]
  refine wz14 ?_
  refine Xbp rfl (fun w1 hw => X0b w1 _ a a3 k c3 b (Xat c).1 room hw.get hw.get (by omega)) ?_
  intro a6 c6
  refine wA ?_
  exact Xab (a6, c6) rfl
theorem X2l (a : Option Addr) (c : Nat) (l : List Commit) (node : Int) (h : (sl a c l).holds F w) :
  GivesV prog 23 [.slice a l.length c, .int .i64 node] w F (.int .i64 (Xje l node)) := by
 have hl : l.length < 9223372036854775807 := by have := h.2.2.1; simp only [lim] at this; omega
 refine Xaa func23 rfl ntmps23 rfl rfl [.st (sl a c l)] (.start1 h) ?_
 refine wz4 ?_
 refine JC.reslot 5 (.int .i64 (Xje (l.take 0) node)) rfl ?_
 refine Xap (fun (i : Nat) => [(0, .slice a l.length c), (1, .int .i64 node), (5, .int .i64 (Xje (l.take i) node)), (6, .int .i64 (i : Int))])
  (fun i => [.st (sl a c l)]) (fun i => i ≤ l.length) (fun i => l.length - i) 0 (Nat.zero_le _) iI ?_
 intro i hi
 refine wz11 ?_
 refine JC.test (fun hlt => ?_) (fun hge => ?_)
 ·have hi' : i < l.length := by omega
  have hn := Xpa l node i hi'
  refine wz14 ?_
  refine Xaf (k := i) rfl hi' ?_
  intro b5 o5 p5 q5
  refine wz6 ?_
  by_cases h2 : l[i].ev.node = node
  case neg =>
   rw [if_neg h2] at hn
   refine JO.reslot 21 (.bool false) (congrArg Value.bool (decide_eq_false h2)) ?_
   refine wX ?_
   exact ⟨i + 1, by omega, by omega, by rw [hn]; infer_instance⟩
  rw [if_pos h2] at hn
  refine JO.reslot 21 (.bool true) (congrArg Value.bool (decide_eq_true h2)) ?_
  refine wz6 ?_
  refine Xaf (k := i) rfl hi' ?_
  intro b6 o6 p6 q6
  refine wX ?_
  refine JC.test (fun h3 => ?_) (fun h3 => ?_)
  ·refine wz14 ?_
   refine Xaf (k := i) rfl hi' ?_
   intro b7 o7 p7 q7
   refine wX ?_
   exact ⟨i + 1, by omega, by omega, by rw [hn, Int.max_eq_right (by omega)]; infer_instance⟩
  ·refine wz2 ?_
   exact ⟨i + 1, by omega, by omega, by rw [hn, Int.max_eq_left (by omega)]; infer_instance⟩
 ·obtain rfl : i = l.length := by omega
  rw [List.take_length]
  refine wz3 ?_
  exact Xab () rfl
theorem Xw5 {R : List UInt8} (h0 : (getN R).2 ≠ 0) (hl : (getN R).2 + (getN R).1 + 4 ≤ R.length) :
  (Xbv ((R.drop (getN R).2).take (getN R).1) = R.take ((getN R).2 + (getN R).1 + 4)) ↔ Xj1 ((R.drop (getN R).2).take (getN R).1) = (R.drop ((getN R).2 + (getN R).1)).take 4 := by
 obtain ⟨h1, h2, h3, h4⟩ := Xjz (b := R) h0
 generalize (getN R).1 = n at *
 generalize (getN R).2 = k at *
 have hx : ((R.drop k).take n).length = n := by rw [List.length_take, List.length_drop]; omega
 have hR : R.take (k + n + 4) = numL n ++ (R.drop k).take n ++ (R.drop (k + n)).take 4 := by
  conv => lhs; rw [h3]
  rw [List.take_append, List.take_of_length_le (l := numL n) (by omega), h2, show (numL n).length + n + 4 - (numL n).length = n + 4 by omega, List.take_add, List.append_assoc, List.drop_drop]
 rw [hR, Xbv, hx, List.append_cancel_left_eq]
theorem X2m (a : Option Addr) (c : Nat) (b : List UInt8) (h : (sl a c b).holds F w) (hb : b.length ≤ 1048576) :
  Xcr prog 62 [.slice a b.length c] w F (readL b) [.int .i64 (readEnd b : Int)] := by
 refine Xaa func62 rfl ntmps62 rfl rfl [.st (sl a c b)] (.start1 h) ?_
 refine wz4 ?_
 refine JC.more (Γ' := .res (buf (α := List UInt8) none 0 22 []) :: [.st (sl a c b)]) (fun w ho => ho.bufNil) ?_
 refine Xby (fun (l : List (List UInt8)) (R : List UInt8) (p : Option Addr × Nat) => [(0, .slice a b.length c), (4, .slice p.1 l.length p.2), (5, .int .i64 ((Xak l).length : Int))])
  (fun l R p => [.st (sl a c b), .res (buf p.1 p.2 22 l)]) (fun l R p => b = Xak l ++ R ∧ readL b = l ++ readL R) (fun l R p => R.length) [] b (none, 0) ⟨rfl, rfl⟩ (show Ent _ _ [(0, .slice a b.length c), (4, .slice none 0 0), (5, .int .i64 0)] [.st (sl a c b), .res (buf (α := List UInt8) none 0 22 [])] from iI) ?_
 rintro l R ⟨p, q⟩ ⟨hb1, hb2⟩
 dsimp only at hb1 hb2 ⊢
 have hbl : b.length = (Xak l).length + R.length := by rw [hb1, List.length_append]
 have hdrop : b.drop (Xak l).length = R := by rw [hb1]; exact List.drop_left' rfl
 refine wz11 ?_
 refine JC.test (fun h9 => ?_) (fun h9 => ?_)
 case refine_2 =>
  have hs : readStep R = none := by
   have hR0 : R = [] := List.eq_nil_of_length_eq_zero (by omega)
   rw [hR0]
   exact if_pos (.inl (by have := (Xfq []).1; simpa using this))
  have hL : readL b = l := by rw [hb2, Xc8 hs, List.append_nil]
  have hE : readEnd b = (Xak l).length := by unfold readEnd; rw [hL]
  rw [hL, hE]
  refine wz3 ?_
  exact CT.done (p, q) rfl (fun w ho => (ho.ent : Hold _ _ [.res (buf p q 22 l)] w).pub)
 refine wz14 ?_
 refine Xa3 (L := b) (k := (Xak l).length) rfl rfl (by omega) ?_
 rw [hdrop]
 intro a1 c1
 refine wz13 ?_
 refine JR.callV rfl (fun w1 hw => Xkf w1 _ a1 c1 R hw.get) ?_
 have hk10 := Xfq R
 have hn64 := Xdu R
 have hsame := Xw5 (R := R)
 refine wz4 ?_
 refine JO.test 24 (fun h0 => ?_) (fun h0 => ?_)
 ·have hs : readStep R = none := if_pos (.inl (by omega))
  have hL : readL b = l := by rw [hb2, Xc8 hs, List.append_nil]
  have hE : readEnd b = (Xak l).length := by unfold readEnd; rw [hL]
  rw [hL, hE]
  refine wz12 ?_
  exact CT.done (p, q) rfl (fun w ho => (ho.ent : Hold _ _ [.res (buf p q 22 l)] w).pub)
 refine wz5 ?_
 refine JO.test 28 (fun h1 => ?_) (fun h1 => ?_)
 ·have hs : readStep R = none := if_pos (.inr (.inl (by omega)))
  have hL : readL b = l := by rw [hb2, Xc8 hs, List.append_nil]
  have hE : readEnd b = (Xak l).length := by unfold readEnd; rw [hL]
  rw [hL, hE]
  refine wz12 ?_
  exact CT.done (p, q) rfl (fun w ho => (ho.ent : Hold _ _ [.res (buf p q 22 l)] w).pub)
 refine wX ?_
 refine Wf Xaq rfl ?_
 refine JO.reslot 33 (.int .i64 ((getN R).1 : Int)) (by rw [Xb2 (by omega)]) ?_
 refine wX ?_
 refine JC.test (fun h2 => ?_) (fun h2 => ?_)
 ·have hs : readStep R = none := if_pos (.inr (.inr (by omega)))
  have hL : readL b = l := by rw [hb2, Xc8 hs, List.append_nil]
  have hE : readEnd b = (Xak l).length := by unfold readEnd; rw [hL]
  rw [hL, hE]
  refine wz12 ?_
  exact CT.done (p, q) rfl (fun w ho => (ho.ent : Hold _ _ [.res (buf p q 22 l)] w).pub)
 replace hsame := hsame (by omega) (by omega)
 refine wX ?_
 generalize hk : (getN R).2 = k at *
 generalize hn : (getN R).1 = n at *
 obtain ⟨x, hx⟩ : ∃ x, x = (R.drop k).take n := ⟨_, rfl⟩
 have hxl : x.length = n := by rw [hx, List.length_take, List.length_drop]; omega
 obtain ⟨m, hm⟩ : ∃ m, m = (Xak l).length := ⟨_, rfl⟩
 rw [← hm] at hbl hdrop
 have hxb : (b.drop (m + k)).take (m + k + n - (m + k)) = x := by
  rw [← List.drop_drop, hdrop, hx, show m + k + n - (m + k) = n by omega]
 have hft : Xft x = (Xbv x, 0) := if_neg (by omega)
 have hfl := Xct x
 have hnl := Xaw x.length
 obtain ⟨_, g2, _, _⟩ := Xjz (b := R) (by omega)
 rw [hk, hn, ← hxl] at g2
 rw [← hx] at hsame
 rw [← hm]
 refine Wf Xaq rfl ?_
 refine JO.reslot 48 (.int .i64 (n : Int)) (by rw [Xb2 (by omega)]) ?_
 refine wX ?_
 refine JR.reslot 43 (.int .i64 ((m + k : Nat) : Int)) rfl ?_
 refine JR.reslot 49 (.int .i64 ((m + k + n : Nat) : Int)) rfl ?_
 refine Xmr (L := b) (l := m + k) (k := m + k + n) rfl rfl ⟨by omega, by omega⟩ ?_
 rw [hxb]
 intro ax cx
 refine wz13 ?_
 refine JR.appendNil (L' := x) rfl (by exact ⟨rfl, rfl, by decide⟩) (by omega) ?_
 intro a5 c5
 refine JO.more (fun w ho => ho.pub) ?_
 refine wz10 ?_
 refine Xbp rfl (fun w1 hw => Xnu w1 _ a5 c5 x hw.get) ?_
 intro a6 c6
 rw [hft]
 dsimp only
 refine wz4 ?_
 have hfk : (Xbv x).length = k + n + 4 := by omega
 have htb : (b.drop m).take (Xbv x).length = R.take (k + n + 4) := by rw [hdrop, hfk]
 have htl : (R.take (k + n + 4)).length = (Xbv x).length := by rw [List.length_take]; omega
 refine JC.more (Γ' := .st (sl (Xcu a c m 1) (c - m) (R.take (k + n + 4))) :: .st (sl a6 c6 (Xbv x)) :: .st (sl a5 c5 x) :: [.st (sl a c b), .res (buf p q 22 l)]) (fun w1 ho => ?_) ?_
 ·have e2 := X2y (l := m) (m := (Xbv x).length) (ho.get (A := sl a c b)) (by omega)
  rw [htb] at e2
  exact (ho.add e2).ent
 refine JC.drawP mixed ?_
 refine Xad 0 ?_
 refine JP.take 1 [.st (sl a6 c6 (Xbv x))] rfl (by kernel_rfl) rfl (Xcq (L := Xbv x)) rfl rfl ?_
 refine Xad 2 ?_
 refine Xad 3 ?_
 refine Xad 4 ?_
 refine Xad 5 ?_
 refine Xad 6 ?_
 refine JP.pure 7 rfl (by kernel_rfl) rfl (fun _ => Vs (k := m) (m := (Xbv x).length) (by omega)) rfl rfl ?_
 refine JP.take 8 [.st (sl a c b)] rfl (by kernel_rfl) rfl (Xe9 (l := m) (h := m + (Xbv x).length) (s := 1) rfl (fun w1 ho => ⟨by omega, by have := (Hold.get (A := sl a c b) ho).1; omega⟩)) rfl rfl ?_
 refine JP.reslot 65 (.slice (Xcu a c m 1) (R.take (k + n + 4)).length (c - m)) (by rw [htl]; congr 1; omega) ?_
 refine JP.take 9 [.st (sl (Xcu a c m 1) (c - m) (R.take (k + n + 4)))] rfl (by kernel_rfl) rfl (Xcq (L := R.take (k + n + 4))) rfl rfl ?_
 refine JP.pure 10 rfl (by kernel_rfl) rfl (fun _ => VC) rfl rfl ?_
 refine JP.nil (by kernel_rfl) ?_
 refine Wa ?_
 have hss : ∀ x y : List UInt8, strB x = strB y ↔ x = y := fun _ _ => Xu7
 by_cases hq : Xbv x = R.take (k + n + 4)
 case neg =>
  have hs : readStep R = none := by
   unfold readStep
   rw [hk, hn, ← hx, if_neg (by omega), if_neg (fun h => hq (hsame.2 h))]
  refine JC.reslot 67 (.bool true) (by rw [decide_eq_false (fun h => hq ((hss _ _).1 h))]; rfl) ?_
  have hL : readL b = l := by rw [hb2, Xc8 hs, List.append_nil]
  have hE : readEnd b = m := by unfold readEnd; rw [hL, hm]
  rw [hL, hE]
  refine wz12 ?_
  exact CT.done (p, q) rfl (fun w ho => (ho.ent : Hold _ _ [.res (buf p q 22 l)] w).pub)
 ·refine JC.reslot 67 (.bool false) (by rw [decide_eq_true ((hss _ _).2 hq)]; rfl) ?_
  refine JC.more (Γ' := [.st (sl a5 c5 x), .st (sl a c b), .res (buf p q 22 l)]) (fun w ho => ho.ent) ?_
  have hs : readStep R = some (x, R.drop (k + n + 4)) := by
   unfold readStep
   rw [hk, hn, ← hx, if_neg (by omega), if_pos (hsame.1 hq)]
  have hlt := Xem hs
  have hL2 : readL b = (l ++ [x]) ++ readL (R.drop (k + n + 4)) := by rw [hb2, Xoy hs]; simp
  have hR2 : b = Xak (l ++ [x]) ++ R.drop (k + n + 4) := by rw [hb1, Xdk, Xg6, List.append_assoc, ← (Xd9 hs).2]
  have hfl2 : (Xak (l ++ [x])).length = m + (Xbv x).length := by
   rw [Xdk, Xg6, List.length_append, hm]
  have hll : l.length ≤ b.length := by
   have : ∀ l : List (List UInt8), l.length ≤ (Xak l).length := by
    intro l
    induction l with
    | nil => simp
    | cons y l ih => rw [Xga, List.length_append, Xct, List.length_cons]; omega
   have := this l
   omega
  (repeat (refine wF ?_; intro _)); refine wX ?_
  refine Xai (L := l) (u := x) rfl (by exact ⟨rfl, rfl, by decide⟩) (by omega) ?_
  intro a7 c7
  refine wX ?_
  refine ⟨l ++ [x], R.drop (k + n + 4), (a7, c7), ⟨hR2, hL2⟩, by omega, ?_⟩
  show Ent _ _ [(0, .slice a b.length c), (4, .slice a7 (l ++ [x]).length c7), (5, .int .i64 ((Xak (l ++ [x])).length : Int))] [.st (sl a c b), .res (buf a7 c7 22 (l ++ [x]))]
  rw [hfl2]
  exact iI
theorem X0d (a : Option Addr) (c : Nat) (b : List UInt8) (h : (sl a c b).holds F w) (hl : b.length ≤ 34359738368) :
  Gives prog 128 [.slice a b.length c] w F (fun y : Option Addr × Nat => .tuple ⟨[opV (getOp b).1, .slice y.1 (getOp b).2.1.length y.2, .int .i64 (getOp b).2.2]⟩) (fun y => [.st (sl y.1 y.2 (getOp b).2.1)]) := by
 have hkl := (Xfq b).1
 have hn64 := Xdu b
 refine Xaa func128 rfl ntmps128 rfl rfl [.st (sl a c b)] (.start1 h) ?_
 (repeat (refine wE ?_; intro _)); refine wA ?_
 refine Wf (OpV.build [.int .i64 0, .string .empty, .string .empty, .int .i64 0] (by kernel_rfl)) rfl ?_
 (repeat (refine wE ?_; intro _)); refine wA ?_
 rename_i b2 b5
 refine JR.callV rfl (fun w1 hw => Xkf w1 _ a c b hw.get) ?_
 refine wz4 ?_
 refine JO.test 25 (fun h0 => ?_) (fun h0 => ?_)
 ·have e : getOp b = (op0, [], 2) := by unfold getOp; rw [if_pos (.inl (by omega))]
  rw [e]
  refine wX ?_
  exact CT.done (none, 0) rfl (fun w ho => (ho.ent : Hold _ _ [] w).add Xah)
 refine wX ?_
 refine JC.test (fun h1 => ?_) (fun h1 => ?_)
 ·have e : getOp b = (op0, [], 2) := by unfold getOp; rw [if_pos (.inr (by omega))]
  rw [e]
  refine wz9 ?_
  exact CT.done (none, 0) rfl (fun w ho => (ho.ent : Hold _ _ [] w).add Xah)
 obtain ⟨k, hk⟩ : ∃ k, k = (getN b).1 := ⟨_, rfl⟩
 have hk4 : k < 4 := by omega
 obtain ⟨B, hB⟩ : ∃ B, B = b.drop (getN b).2 := ⟨_, rfl⟩
 have hBl : B.length ≤ b.length := by rw [hB, List.length_drop]; omega
 have hg : getOp b = if (cutT B 8).2.2 = false then (op0, [], 2) else if (restOp k (cutT B 8).1 (cutT B 8).2.1).2.2 = true ∧ Xcw (restOp k (cutT B 8).1 (cutT B 8).2.1).1 = true then ((restOp k (cutT B 8).1 (cutT B 8).2.1).1, (restOp k (cutT B 8).1 (cutT B 8).2.1).2.1, 0) else (op0, [], 2) := by
  rw [hk, hB]; unfold getOp; rw [if_neg (by omega)]
 rw [← hk]
 refine wz14 ?_
 refine Wf Xaq rfl ?_
 refine JO.reslot 31 (.int .i64 (k : Int)) (by rw [Xb2 (by omega)]) ?_
 refine wz6 ?_
 refine JR.reslot 32 (.pointer (some ⟨b5, 0, none⟩)) rfl ?_
 refine Wi ?_
 refine wz10 ?_
 refine Xa3 (L := b) (k := (getN b).2) rfl rfl hkl ?_
 rw [← hB]
 intro a1 c1
 refine wz13 ?_
 refine JR.call1 (B := fun y : Option Addr × Nat => .st (sl y.1 y.2 (cutT B 8).2.1)) rfl (fun w1 hw => X0a w1 _ a1 c1 B 8 hw.get (by omega) (by decide)) ?_
 rintro ⟨a3, c3⟩
 dsimp only
 obtain ⟨key, T, is, hcut⟩ : ∃ key T is, cutT B 8 = (key, T, is) := ⟨_, _, _, rfl⟩
 have hks : key.size ≤ 8 := by have := Xj0 B 8; rw [hcut] at this; exact this
 have hTl : T.length ≤ B.length := by have := Xl4 B 8; rw [hcut] at this; exact this
 rw [hcut] at hg ⊢
 dsimp only at hg ⊢
 refine wX ?_
 cases is with
 | false =>
  rw [if_pos rfl] at hg
  rw [hg]
  refine wz8 ?_
  skip
  refine Wf (OpV.build [.int .i64 0, .string .empty, .string .empty, .int .i64 0] (by kernel_rfl)) rfl ?_
  refine wz9 ?_
  exact CT.done (none, 0) rfl (fun w ho => (ho.ent : Hold _ _ [] w).add Xah)
 | true =>
  rw [if_neg (by simp)] at hg
  have hrt := Xhy k key T hks
  have hrl := Xk0 k key T
  have hTk := (Xfq T).1
  have hTn := Xdu T
  by_cases hk0 : k = 0
  ·subst hk0
   have hre : restOp 0 key T = (⟨0, key, .empty, Xb9 (getN T).1⟩, T.drop (getN T).2, decide (0 < (getN T).2)) := by simp [restOp]
   rw [hre] at hg hrt hrl
   dsimp only at hg hrt hrl
   refine wX ?_
   refine JR.callV rfl (fun w1 hw => Xkf w1 _ a3 c3 T hw.get) ?_
   refine wz4 ?_
   refine JC.test (fun h2 => ?_) (fun h2 => ?_)
   ·rw [if_neg (by rintro ⟨h3, _⟩; have := of_decide_eq_true h3; omega)] at hg
    rw [hg]
    refine wz14 ?_
    skip
    refine Wf (OpV.build [.int .i64 0, .string .empty, .string .empty, .int .i64 0] (by kernel_rfl)) rfl ?_
    refine wz9 ?_
    exact CT.done (none, 0) rfl (fun w ho => (ho.ent : Hold _ _ [] w).add Xah)
   have hok : decide (0 < (getN T).2) = true := decide_eq_true (by omega)
   refine wz14 ?_
   refine JR.callV rfl (fun w1 hw => Xpe w1 _ (getN T).1 hTn) ?_
   refine wz9 ?_
   refine Xa3 (L := T) (k := (getN T).2) rfl rfl hTk ?_
   intro a5 c5
   refine wz9 ?_
   refine JR.callV rfl (fun w1 hw => Xka w1 _ ⟨0, key, .empty, Xb9 (getN T).1⟩ hrt.1 hrt.2) ?_
   cases hm : Xcw ⟨0, key, .empty, Xb9 (getN T).1⟩ with
   | false =>
    rw [if_neg (by simp [hm])] at hg
    rw [hg]
    refine wz8 ?_
    skip
    refine Wf (OpV.build [.int .i64 0, .string .empty, .string .empty, .int .i64 0] (by kernel_rfl)) rfl ?_
    refine wz9 ?_
    exact CT.done (none, 0) rfl (fun w ho => (ho.ent : Hold _ _ [] w).add Xah)
   | true =>
    rw [if_pos ⟨hok, hm⟩] at hg
    rw [hg]
    refine wX ?_
    exact Xab (a5, c5) rfl
  ·have hre : restOp k key T = (⟨(k : Int), key, (cutT T 8).1, 0⟩, (cutT T 8).2.1, (cutT T 8).2.2) := by simp [restOp, hk0]
   rw [hre] at hg hrt hrl
   dsimp only at hg hrt hrl
   refine wX ?_
   refine JC.reslot 48 (.bool false) (congrArg Value.bool (decide_eq_false (by omega))) ?_
   refine wz7 ?_
   refine JR.call1 (B := fun y : Option Addr × Nat => .st (sl y.1 y.2 (cutT T 8).2.1)) rfl (fun w1 hw => X0a w1 _ a3 c3 T 8 hw.get (by omega) (by decide)) ?_
   rintro ⟨a5, c5⟩
   dsimp only
   obtain ⟨elem, R, ok, hcut2⟩ : ∃ elem R ok, cutT T 8 = (elem, R, ok) := ⟨_, _, _, rfl⟩
   rw [hcut2] at hg hrt hrl ⊢
   dsimp only at hg hrt hrl ⊢
   refine wX ?_
   cases ok with
   | false =>
    rw [if_neg (by simp)] at hg
    rw [hg]
    refine wz8 ?_
    skip
    refine Wf (OpV.build [.int .i64 0, .string .empty, .string .empty, .int .i64 0] (by kernel_rfl)) rfl ?_
    refine wz9 ?_
    exact CT.done (none, 0) rfl (fun w ho => (ho.ent : Hold _ _ [] w).add Xah)
   | true =>
   have hok : true = true := rfl
   refine wX ?_
   trace_state
   refine JR.callV rfl (fun w1 hw => Xka w1 _ ⟨(k : Int), key, elem, 0⟩ hrt.1 hrt.2) ?_
   cases hm : Xcw ⟨(k : Int), key, elem, 0⟩ with
   | false =>
    rw [if_neg (by simp [hm])] at hg
    rw [hg]
    refine wz8 ?_
    skip
    refine Wf (OpV.build [.int .i64 0, .string .empty, .string .empty, .int .i64 0] (by kernel_rfl)) rfl ?_
    refine wz9 ?_
    exact CT.done (none, 0) rfl (fun w ho => (ho.ent : Hold _ _ [] w).add Xah)
   | true =>
    rw [if_pos ⟨hok, hm⟩] at hg
    rw [hg]
    refine wX ?_
    exact Xab (a5, c5) rfl
def Xl0 (B : List UInt8) (k : Nat) : List UInt8 := B.take k ++ List.replicate (32 - k) 0
theorem Xw6 (B : List UInt8) : (Xl0 B 0).map Xaj = idc id0 := by
 simp [Xl0, idc, id0]
theorem X0e (B : List UInt8) {k : Nat} (hk : k ≤ 32) (h : 32 ≤ B.length) : (Xl0 B k).length = 32 := by
 simp [Xl0]; omega
theorem X0f (B : List UInt8) (h : 32 ≤ B.length) : (Xl0 B 32).map Xaj = idc (Xfr B h) := by
 simp [Xl0, idc, Xfr]
theorem X0g (B : List UInt8) {k : Nat} (hk : k < 32) (h : 32 ≤ B.length) : (Xl0 B k).set k (B[k]'(by omega)) = Xl0 B (k + 1) := by
 have h1 : (B.take k).length = k := by rw [List.length_take]; omega
 rw [Xl0, List.set_append_right _ _ (by omega), h1, Nat.sub_self, show 32 - k = (32 - (k + 1)) + 1 by omega, List.replicate_succ, List.set_cons_zero, Xl0, List.take_succ_eq_append_getElem (by omega), List.append_assoc]
 rfl
def idR (B : List UInt8) : ID := if h : 32 ≤ B.length then Xfr B h else id0
def idS (B : List UInt8) : List UInt8 := if 32 ≤ B.length then B.drop 32 else B
section
variable {w0 w : World} {F : Nat → Prop} {Γ : List Fact} {br : Nat} {a : Option Addr} {c : Nat} {L : List UInt8} {bad : Bool}
theorem Xvo (hl : L.length ≤ 34359738368) (ho : Hold w0 F (.own br 152 [.slice a L.length c, .bool bad] :: .st (sl a c L) :: Γ) w) :
  Calls prog 126 ⟨[.pointer (some ⟨br, 0, none⟩)]⟩ w fun x w' => ∃ y : Option Addr × Nat, x = .returned (.int .u64 ((getN L).1 : Int)) ∧
   Hold w0 F (.own br 152 [.slice y.1 (L.drop (getN L).2).length y.2, .bool (bad || decide ((getN L).2 = 0))] :: .st (sl y.1 y.2 (L.drop (getN L).2)) :: Γ) w' := by
 have hkl := (Xfq L).1
 refine Xb6 (v := fun y : Option Addr × Nat => .int .u64 ((getN L).1 : Int)) (B := fun y => .own br 152 [.slice y.1 (L.drop (getN L).2).length y.2, .bool (bad || decide ((getN L).2 = 0))] :: .st (sl y.1 y.2 (L.drop (getN L).2)) :: Γ) func126 rfl ntmps126 rfl rfl _ ho ?_
 refine wz10 ?_
 refine Wf OpV.nilCheck rfl ?_
 refine wz6 ?_
 refine JR.callV rfl (fun w1 hw => Xkf w1 _ a c L hw.get) ?_
 refine wz4 ?_
 refine JC.test (fun h0 => ?_) (fun h0 => ?_)
 ·have hz : (getN L).2 = 0 := by omega
  rw [hz, show (bad || decide (0 = 0)) = true by simp]
  refine wz14 ?_
  refine Wf OpV.nilCheck rfl ?_
  refine wz9 ?_
  refine Wf OpV.nilCheck rfl ?_
  refine wz6 ?_
  refine Xa3 (L := L) (k := 0) rfl rfl (Nat.zero_le _) ?_
  intro a2 c2
  refine wz13 ?_
  refine Wf OpV.nilCheck rfl ?_
  refine wz6 ?_
  refine JR.reslot 26 (.pointer (some ⟨br, 0, none⟩)) rfl ?_
  refine Wi ?_
  refine wz10 ?_
  exact Xab (a2, c2) rfl
 ·rw [show (bad || decide ((getN L).2 = 0)) = bad by rw [decide_eq_false (by omega), Bool.or_false]]
  refine wz14 ?_
  refine Wf OpV.nilCheck rfl ?_
  refine wz6 ?_
  refine Xa3 (L := L) (k := (getN L).2) rfl rfl hkl ?_
  intro a2 c2
  refine wz13 ?_
  refine Wf OpV.nilCheck rfl ?_
  refine wz6 ?_
  refine JR.reslot 26 (.pointer (some ⟨br, 0, none⟩)) rfl ?_
  refine Wi ?_
  refine wz10 ?_
  exact Xab (a2, c2) rfl
theorem X53 (hl : L.length ≤ 34359738368) (ho : Hold w0 F (.own br 152 [.slice a L.length c, .bool bad] :: .st (sl a c L) :: Γ) w) :
  Calls prog 127 ⟨[.pointer (some ⟨br, 0, none⟩)]⟩ w fun x w' => ∃ y : Option Addr × Nat, x = .returned (.agg ⟨idc (idR L)⟩) ∧
   Hold w0 F (.own br 152 [.slice y.1 (idS L).length y.2, .bool (bad || decide (L.length < 32))] :: .st (sl y.1 y.2 (idS L)) :: Γ) w' := by
 refine Xb6 (v := fun y : Option Addr × Nat => .agg ⟨idc (idR L)⟩) (B := fun y => .own br 152 [.slice y.1 (idS L).length y.2, .bool (bad || decide (L.length < 32))] :: .st (sl y.1 y.2 (idS L)) :: Γ) func127 rfl ntmps127 rfl rfl _ ho ?_
 (repeat (refine wE ?_; intro _)); refine wA ?_
 refine Wf (OpV.build (List.replicate 32 (Value.int .u8 0)) (by kernel_rfl)) rfl ?_
 (repeat (refine wE ?_; intro _)); refine wA ?_
 rename_i b2 b3
 refine JR.more (Γ' := .own b3 81 (idc id0) :: .own b2 81 (idc id0) :: .own br 152 [.slice a L.length c, .bool bad] :: .st (sl a c L) :: Γ) (fun w1 ho => by rw [← Xuo]; exact ho.ent) ?_
 refine JR.reslot 5 (.agg ⟨idc id0⟩) (by rw [← Xuo]) ?_
 refine Wi ?_
 refine wz10 ?_
 refine Wf OpV.nilCheck rfl ?_
 refine wz11 ?_
 refine JC.test (fun h0 => ?_) (fun h0 => ?_)
 ·have e1 : idR L = id0 := dif_neg (by omega)
  have e2 : idS L = L := if_neg (by omega)
  rw [e1, e2, show (bad || decide (L.length < 32)) = true by rw [decide_eq_true (by omega), Bool.or_true]]
  refine wz14 ?_
  refine Wf OpV.nilCheck rfl ?_
  refine wz9 ?_
  exact Xab (a, c) rfl
 ·have h32 : 32 ≤ L.length := by omega
  have e1 : idR L = Xfr L h32 := dif_pos h32
  have e2 : idS L = L.drop 32 := if_pos h32
  rw [e1, e2, show (bad || decide (L.length < 32)) = bad by rw [decide_eq_false (by omega), Bool.or_false]]
  refine wz7 ?_
  refine JC.reown b3 ((Xl0 L 0).map Xaj) (Xw6 L).symm ?_
  refine Xap (fun k : Nat => [(0, .pointer (some ⟨br, 0, none⟩)), (2, .pointer (some ⟨b2, 0, none⟩)), (3, .pointer (some ⟨b3, 0, none⟩)), (4, .int .i64 (k : Int))])
   (fun k => .own b3 81 ((Xl0 L k).map Xaj) :: .own b2 81 (idc id0) :: .own br 152 [.slice a L.length c, .bool bad] :: .st (sl a c L) :: Γ)
   (fun k => k ≤ 32) (fun k => 32 - k) 0 (Nat.zero_le _) iI ?_
  intro k hk
  refine wz11 ?_
  refine JC.test (fun hlt => ?_) (fun hge => ?_)
  ·have hk' : k < 32 := by omega
   have hkl : k < L.length := by omega
   refine wz14 ?_
   refine Wf OpV.nilCheck rfl ?_
   refine wz6 ?_
   refine JR.indexByte (k := k) rfl (by omega) ?_
   intro b5 o5
   refine wz6 ?_
   refine Wf (Xac hk') rfl ?_
   refine We rfl ?_
   refine Xdr k (L[k]'hkl) (by rw [X0e L hk h32]; exact hk') (by omega) rfl ?_
   rw [X0g L hk' h32]
   refine wz2 ?_
   exact ⟨k + 1, by omega, by omega, iI⟩
  ·obtain rfl : k = 32 := by omega
   refine z2z ?_
   refine JC.reown b3 (idc (Xfr L h32)) (X0f L h32) ?_
   refine wz14 ?_
   refine Wf OpV.nilCheck rfl ?_
   refine wz6 ?_
   refine Xa3 (L := L) (k := 32) rfl rfl h32 ?_
   intro a2 c2
   refine wz13 ?_
   refine Wf OpV.nilCheck rfl ?_
   refine wz6 ?_
   refine JR.reslot 36 (.pointer (some ⟨br, 0, none⟩)) rfl ?_
   refine Wi ?_
   refine wz9 ?_
   exact Xab (a2, c2) rfl
end
theorem Xkg : ∀ (n : Nat) (b : List UInt8) (q), Xcx n b = some q → q.1.length = n
 | 0, b, q, h => by cases h; rfl
 | n + 1, b, q, h => by
  unfold Xcx at h
  split at h
  ·cases hq : Xcx n (b.drop 32) with
   | none => rw [hq] at h; cases h
   | some q1 =>
    rw [hq] at h; cases h
    have := Xkg n _ q1 hq
    show q1.1.length + 1 = n + 1
    omega
  ·cases h
theorem Xvp {m : Nat} (h : m < 18446744073709551616) (h0 : 0 ≤ IntKind.i64.wrap (m : Int)) (h1 : IntKind.i64.wrap (m : Int) ≤ 1048576) : m ≤ 1048576 := by
 by_cases h2 : m ≤ 9223372036854775807
 ·rw [Xb2 (by omega)] at h1; omega
 ·exfalso
  have : IntKind.i64.wrap (m : Int) = (m : Int) - 18446744073709551616 := by
   simp [IntKind.wrap, IntKind.bits, IntKind.signed]; omega
  omega
theorem X0h {c : Commit} (h : may c = true) : 0 ≤ c.ev.seq ∧ c.ev.seq ≤ 1048576 := by
 unfold may at h
 split at h
 ·cases h
 ·split at h
  ·simp only [Bool.and_eq_true, decide_eq_true_eq] at h; omega
  ·simp only [Bool.and_eq_true, inB, decide_eq_true_eq] at h; omega
noncomputable def opR (n0 z1 z2 : Int) (ps : List ID) (B : List UInt8) : Option (Commit × List UInt8) :=
 if n0 = -1 then finC ⟨⟨n0, z1⟩, z2, ps, op0⟩ B else if (getOp B).2.2 = 0 then finC ⟨⟨n0, z1⟩, z2, ps, (getOp B).1⟩ (getOp B).2.1 else none
theorem Xs0 {c : Commit} {B : List UInt8} (h : ¬ (0 ≤ c.ev.seq ∧ c.ev.seq ≤ 1048576 ∧ 1 ≤ c.gen ∧ c.gen ≤ 1048576 ∧ c.parents.length ≤ 8)) : finC c B = none := by
 unfold finC
 split
 ·rename_i hm
  exact (h ⟨(X0h hm).1, (X0h hm).2, (Xqg hm).1, (Xqg hm).2, Xfx hm⟩).elim
 ·rfl
theorem X2n {n0 z1 z2 : Int} {ps : List ID} {B : List UInt8} (h : ¬ (0 ≤ z1 ∧ z1 ≤ 1048576 ∧ 1 ≤ z2 ∧ z2 ≤ 1048576 ∧ ps.length ≤ 8)) : opR n0 z1 z2 ps B = none := by
 unfold opR
 split
 ·exact Xs0 h
 ·split
  ·exact Xs0 h
  ·rfl
section
variable {b B1 B2 B3 B4 : List UInt8} (h1 : B1 = b.drop (getN b).2) (h2 : B2 = B1.drop (getN B1).2) (h3 : B3 = B2.drop (getN B2).2) (h4 : B4 = B3.drop (getN B3).2)
include h1 h2 h3 h4
omit h4 in
theorem X2o (h : (getN b).2 = 0 ∨ (getN B1).2 = 0 ∨ (getN B2).2 = 0 ∨ (getN B3).2 = 0) : getC b = none := by
 unfold getC
 by_cases e0 : (getN b).2 = 0
 ·rw [numO, if_pos e0]; rfl
 rw [numO, if_neg e0, Option.bind_some]
 dsimp only
 rw [← h1, Xg7]
 split
 ·rfl
 rename_i e1
 rw [Option.bind_some]
 dsimp only
 rw [← h2, Xg7]
 split
 ·rfl
 rename_i e2
 rw [Option.bind_some]
 dsimp only
 rw [← h3, Xg7, if_pos (by omega)]; rfl
theorem X0i (g0 : (getN b).2 ≠ 0) (g1 : (getN B1).2 ≠ 0) (g2 : (getN B2).2 ≠ 0) (g3 : (getN B3).2 ≠ 0) :
  getC b = (Xcx (getN B3).1 B4).bind fun q => opR (Xb9 (getN b).1) (IntKind.i64.wrap ((getN B1).1 : Int)) (IntKind.i64.wrap ((getN B2).1 : Int)) q.1 q.2 := by
 have l1 := Xdu B1
 have l2 := Xdu B2
 by_cases hb : (getN B1).1 ≤ 1048576 ∧ (getN B2).1 ≤ 1048576 ∧ (getN B3).1 ≤ 8
 ·unfold getC
  rw [numO, if_neg g0, Option.bind_some]
  dsimp only
  rw [← h1, Xg7, if_neg (by omega), Option.bind_some]
  dsimp only
  rw [← h2, Xg7, if_neg (by omega), Option.bind_some]
  dsimp only
  rw [← h3, Xg7, if_neg (by omega), Option.bind_some]
  dsimp only
  rw [← h4, Xb2 (m := ((getN B1).1 : Int)) (by omega), Xb2 (m := ((getN B2).1 : Int)) (by omega)]
  rfl
 ·have hr : ((Xcx (getN B3).1 B4).bind fun q => opR (Xb9 (getN b).1) (IntKind.i64.wrap ((getN B1).1 : Int)) (IntKind.i64.wrap ((getN B2).1 : Int)) q.1 q.2) = none := by
   cases hq : Xcx (getN B3).1 B4 with
   | none => rfl
   | some q =>
    have hl := Xkg _ _ q hq
    rw [Option.bind_some]
    refine X2n (fun ⟨a1, a2, a3, a4, a5⟩ => hb ⟨Xvp l1 a1 a2, Xvp l2 (by omega) a4, by omega⟩)
  rw [hr]
  unfold getC
  rw [numO, if_neg g0, Option.bind_some]
  dsimp only
  rw [← h1, Xg7]
  split
  ·rfl
  rename_i e1
  rw [Option.bind_some]
  dsimp only
  rw [← h2, Xg7]
  split
  ·rfl
  rename_i e2
  rw [Option.bind_some]
  dsimp only
  rw [← h3, Xg7, if_pos (by omega)]; rfl
end
end
end Ab
end Go.Proofs.YtdgeffphifgflaaGreat
