/- Lemmas for the walks, part 4 of 5: WalkV, Dag, WalkW, WalkX, DagC, More12, WalkB2, DagA, DagB, DagE, Cmp, Sort2, Lays3, DagD, DagF, DagG, DagH, WalkY, WalkZ, DagI, DagJ, Few, LawS, LawW, DagK, LawK, LawN, FrP, FrQ, RefA, RefB, RefC, RefD, RefE, RefF, RefG, RefH, RefI, RefJ, RefK, RefL, RefM, RfA, Mat, RfB, RfC, RfD, RfE, RfF, RfG, LawD, FrA, LoadP, Round, RoundX, LoadI, Load, Trip, StA, FrB, NdP, Lent. -/
import Derived.Test.YtdgeffphifgflaaGreatSp3
import Derived.Test.YtdgeffphifgflaaGreatSp2
import Derived.Shelf.SlSortCmp.NoneTotal
import Derived.Test.YtdgeffphifgflaaGreatChecked
import Derived.KernelRfl
import Derived.RangeFuncLeaves
import Derived.RangeFuncCalls
import Derived.RangeFuncRecord
import Derived.RangeFuncSeq
import Derived.ControlIn
import Derived.Test.YtdgeffphifgflaaGreatSp1
import Derived.RangeFuncIn
namespace Go.Proofs.YtdgeffphifgflaaGreat
namespace Ab
open Go Go.RowKit Tryz
set_option linter.unusedVariables false
set_option linter.unusedSimpArgs false
set_option synthInstance.maxSize 4000
set_option synthInstance.maxHeartbeats 400000
set_option maxHeartbeats 16000000
variable (w : World) (F : Nat → Prop)
section
attribute [local irreducible] JC JO JR JQ andThen inBlock OpV Gives Xae JM JS
section
attribute [local irreducible] sumI Xaq
def Xn4 (c : Commit) : Option ID := if (Xaq c).2 = 0 then some (Xaq c).1 else none
def Xcp (L : List Commit) : List ID := L.filterMap Xn4
def Xap (L : List Commit) : List ID := L.flatMap (·.parents)
def Xeu (L : List Commit) (H : List ID) : List ID := Xaw (Xap L) (H ++ Xcp L) false
theorem Xkw (L : List Commit) (k : Nat) (hk : k < L.length) : Xcp (L.take (k + 1)) = Xcp (L.take k) ++ (Xn4 L[k]).toList := by
 rw [Xcp, Xcp, List.take_succ_eq_append_getElem hk, List.filterMap_append]
 congr 1
theorem Xcw (L : List Commit) (k : Nat) (hk : k < L.length) : Xap (L.take (k + 1)) = Xap (L.take k) ++ L[k].parents := by
 rw [Xap, Xap, List.take_succ_eq_append_getElem hk, List.flatMap_append]
 simp
theorem Xwp (L : List Commit) : (Xcp L).length ≤ L.length := List.length_filterMap_le _ _
theorem Xkx (L : List Commit) (k : Nat) : (Xap (L.take k)).length ≤ (Xap L).length := by
 have h1 := congrArg (fun l => (Xap l).length) (List.take_append_drop k L)
 simp only [Xap, List.flatMap_append, List.length_append] at h1 ⊢
 omega
theorem Xpx (a b : Option Addr) (k m : Nat) (L : List Commit) (H : List ID) (h : (sl a k L).holds F w) (h' : (sl b m H).holds F w) (hl : L.length + H.length ≤ 34359738360) (hp : (Xap L).length ≤ 34359738360) (hf : ∀ x ∈ L, fine x) :
  GivesBuf prog 146 [.slice a L.length k, .slice b H.length m] w F 81 (Xeu L H) := by
 refine Xaa func146 rfl ntmps146 rfl rfl [.st (sl a k L), .st (sl b m H)] (.start2 h h') ?_
 refine wz10 ?_
 refine JR.callBuf rfl (fun w1 hw => Xfj w1 _ b m H hw.get (by omega)) ?_
 intro a2 c2
 refine wz4 ?_
 refine JC.buf_nil (α := ID) 81 ?_
 refine Xnd (fun (i : Nat) p q r s => [(5, .slice p (Xap (L.take i)).length q), (6, .slice r (H ++ Xcp (L.take i)).length s), (13, .slice a L.length k), (14, .int .i64 (L.length : Int)), (15, .int .i64 (i : Int))])
  (fun i p q r s => [.st (sl a k L), .res (buf p q 81 (Xap (L.take i))), .res (buf r s 81 (H ++ Xcp (L.take i)))])
  (fun i _ _ _ _ => i ≤ L.length) (fun i _ _ _ _ => L.length - i) 0 none 0 a2 c2 (Nat.zero_le _) (by rw [List.take_zero, show Xap [] = [] from rfl, show Xcp [] = [] from rfl, List.append_nil]; infer_instance) ?_
 intro i p q r s hi
 refine wz11 ?_
 refine JC.test (fun hlt => ?_) (fun hge => ?_)
 ·have hlt' : i < L.length := by omega
  have hfx := hf _ (List.getElem_mem hlt')
  have h1 := Xwp (L.take i)
  rw [List.length_take] at h1
  have h2 := Xkx L (i + 1)
  rw [Xcw L i hlt', List.length_append] at h2
  refine wz14 ?_
  refine Xaj rfl hlt' ?_
  intro b2 o2 p2 q2
  (repeat (refine wE ?_; intro _)); refine wA ?_
  rename_i bc
  refine JR.callV rfl (fun w1 hw => Xea w1 _ (L[i]) p2 q2 hw.get hfx.1) ?_
  (repeat (refine wE ?_; intro _)); refine wA ?_
  refine JC.test (fun h0 => ?_) (fun h0 => ?_)
  ·have ho : Xn4 L[i] = some (Xaq L[i]).1 := by simp [Xn4, h0]
   have hnx : H ++ Xcp (L.take (i + 1)) = H ++ Xcp (L.take i) ++ [(Xaq L[i]).1] := by rw [Xkw _ _ hlt', ho, List.append_assoc]; rfl
   (repeat (refine wE ?_; intro _)); refine wA ?_
   refine Xa1 rfl (by exact ⟨rfl, rfl, by decide⟩) (by rw [List.length_append]; omega) ?_
   intro r3 s3
   refine wz9 ?_
   refine Xbg rfl (by exact ⟨rfl, rfl, by decide⟩) (by omega) ?_
   intro p3 q3
   refine wz2 ?_
   exact ⟨i + 1, p3, q3, r3, s3, by omega, by omega, by rw [hnx, Xcw _ _ hlt']; infer_instance⟩
  ·have ho : Xn4 L[i] = none := by simp [Xn4, h0]
   have hnx : H ++ Xcp (L.take (i + 1)) = H ++ Xcp (L.take i) := by rw [Xkw _ _ hlt', ho]; simp
   obtain ⟨r3, hr3⟩ : ∃ r3, r3 = r := ⟨_, rfl⟩
   obtain ⟨s3, hs3⟩ : ∃ s3, s3 = s := ⟨_, rfl⟩
   subst hr3 hs3
   refine wz1 ?_
   refine Xbg rfl (by exact ⟨rfl, rfl, by decide⟩) (by omega) ?_
   intro p3 q3
   refine wz2 ?_
   exact ⟨i + 1, p3, q3, r3, s3, by omega, by omega, by rw [hnx, Xcw _ _ hlt']; infer_instance⟩
 ·obtain rfl : i = L.length := by omega
  rw [List.take_length]
  repeat (first | refine Wa ?_ | refine Wo ?_ | refine Wp ?_ | refine Wq rfl ?_ | refine Wr ?_ | refine Wm ?_)
  refine JC.more (Γ' := [.st (sl r s (H ++ Xcp L)), .st (sl p q (Xap L))]) (fun w1 ho => ?_) ?_
  ·have h1 : Hold _ _ [.res (buf p q 81 (Xap L)), .res (buf r s 81 (H ++ Xcp L))] w1 := ho.ent
   have h2 : Hold _ _ [.res (buf r s 81 (H ++ Xcp L)), .st (sl p q (Xap L))] w1 := (h1.pub).ent
   exact h2.pub
  refine wz14 ?_
  refine JR.callBuf rfl (fun w1 hw => Xd8 w1 _ p r q s (Xap L) (H ++ Xcp L) hw.get hw.get (by omega)) ?_
  intro a5 c5
  refine wz10 ?_
  exact CT.done (a5, c5) rfl (fun w ho => (ho.ent : Hold _ _ [.res (buf a5 c5 81 (Xaw (Xap L) (H ++ Xcp L) false))] w))
end
def idC (c : Commit) : ID := (Xaq c).1
def cids (L : List Commit) : List ID := L.map idC
def par (L : List Commit) (x y : ID) : Prop := ∃ c ∈ L, idC c = x ∧ y ∈ c.parents ∧ y ∈ cids L
def Xbz (L : List Commit) (x y : ID) : Prop := Relation.TransGen (par L) x y
def Xb9 (L : List Commit) (p : ID) : Int := match L.find? (fun c => decide (idC c = p)) with | some c => c.gen | none => 0
def Xen (L : List Commit) (ps : List ID) : Int := ps.foldl (fun g p => max g (Xb9 L p)) 0
structure Fine (L : List Commit) (c : Commit) : Prop where
 merge : merge c = false
 here : ∀ p ∈ c.parents, p ∈ cids L
 free : ∀ p ∈ c.parents, ∀ q ∈ c.parents, ¬ Xbz L p q
 gen : c.gen = Xen L c.parents + 1
def evOk (L : List Commit) (c d : Commit) : Prop := idC c ≠ idC d → c.ev.node = d.ev.node → c.ev.seq ≠ d.ev.seq ∧ (d.ev.seq < c.ev.seq → Xbz L (idC c) (idC d))
structure Closed (L : List Commit) : Prop where
 may : ∀ c ∈ L, may c = true
 nodup : (cids L).Nodup
 fine : ∀ c ∈ L, Fine L c
 ev : ∀ c ∈ L, ∀ d ∈ L, evOk L c d
theorem Xai {L : List Commit} {x : ID} : x ∈ cids L ↔ ∃ c ∈ L, idC c = x := by simp [cids]
theorem Xcx {L M : List Commit} (h : L.Perm M) : (cids L).Perm (cids M) := h.map _
theorem Xyi {L M : List Commit} (h : L.Perm M) (x y : ID) : par L x y ↔ par M x y := by
 unfold par
 constructor
 ·rintro ⟨c, h1, h2, h3, h4⟩; exact ⟨c, h.mem_iff.1 h1, h2, h3, (Xcx h).mem_iff.1 h4⟩
 ·rintro ⟨c, h1, h2, h3, h4⟩; exact ⟨c, h.mem_iff.2 h1, h2, h3, (Xcx h).mem_iff.2 h4⟩
theorem Xrl {L M : List Commit} (h : L.Perm M) : par L = par M := by
 funext x y; exact propext (Xyi h x y)
theorem Xmo {L M : List Commit} (h : L.Perm M) : Xbz L = Xbz M := by unfold Xbz; rw [Xrl h]
theorem Xmp {L : List Commit} (h : (cids L).Nodup) {c d : Commit} (hc : c ∈ L) (hd : d ∈ L) (e : idC c = idC d) : c = d := by
 induction L with
 | nil => cases hc
 | cons a L ih =>
  simp only [cids, List.map_cons, List.nodup_cons, List.mem_map, not_exists, not_and] at h
  rcases List.mem_cons.1 hc with e1 | hc'
  ·rcases List.mem_cons.1 hd with e2 | hd'
   ·rw [e1, e2]
   ·exact (h.1 d hd' (by rw [← e1, e])).elim
  ·rcases List.mem_cons.1 hd with e2 | hd'
   ·exact (h.1 c hc' (by rw [← e2, e])).elim
   ·exact ih h.2 hc' hd'
theorem Xcy {L : List Commit} (h : (cids L).Nodup) {c : Commit} (hc : c ∈ L) : Xb9 L (idC c) = c.gen := by
 unfold Xb9
 cases hf : L.find? (fun d => decide (idC d = idC c)) with
 | none => exact absurd (List.find?_eq_none.1 hf c hc) (by simp)
 | some d =>
  have h1 := List.find?_some hf
  have h2 := List.mem_of_find?_eq_some hf
  rw [Xmp h h2 hc (by simpa using h1)]
theorem Xmq {L : List Commit} {p : ID} (h : p ∉ cids L) : Xb9 L p = 0 := by
 unfold Xb9
 cases hf : L.find? (fun d => decide (idC d = p)) with
 | none => rfl
 | some d =>
  have h1 := List.find?_some hf
  exact (h (Xai.2 ⟨d, List.mem_of_find?_eq_some hf, by simpa using h1⟩)).elim
theorem Xua {L M : List Commit} (h : L.Perm M) (hn : (cids L).Nodup) (p : ID) : Xb9 L p = Xb9 M p := by
 by_cases hp : p ∈ cids L
 ·obtain ⟨c, hc, rfl⟩ := Xai.1 hp
  rw [Xcy hn hc, Xcy ((Xcx h).nodup_iff.1 hn) (h.mem_iff.1 hc)]
 ·rw [Xmq hp, Xmq (fun hq => hp ((Xcx h).mem_iff.2 hq))]
theorem Xpy (f : ID → Int) (ps : List ID) : ∀ g : Int, g ≤ ps.foldl (fun g p => max g (f p)) g := by
 induction ps with
 | nil => intro g; exact Int.le_refl _
 | cons p ps ih => intro g; exact Int.le_trans (Int.le_max_left _ _) (ih _)
theorem Xn5 (f : ID → Int) (ps : List ID) : ∀ (g : Int), ∀ p ∈ ps, f p ≤ ps.foldl (fun g p => max g (f p)) g := by
 induction ps with
 | nil => intro g p hp; cases hp
 | cons q ps ih =>
  intro g p hp
  rcases List.mem_cons.1 hp with rfl | hp
  ·exact Int.le_trans (Int.le_max_right _ _) (Xpy f ps _)
  ·exact ih _ p hp
theorem Xky (f g : ID → Int) (ps : List ID) (h : ∀ p ∈ ps, f p = g p) : ∀ a : Int, ps.foldl (fun g p => max g (f p)) a = ps.foldl (fun a p => max a (g p)) a := by
 induction ps with
 | nil => intro a; rfl
 | cons q ps ih =>
  intro a
  simp only [List.foldl_cons]
  rw [h q (by simp)]
  exact ih (fun p hp => h p (by simp [hp])) _
theorem Xub (L : List Commit) (ps : List ID) (p : ID) (h : p ∈ ps) : Xb9 L p ≤ Xen L ps := Xn5 _ _ _ p h
theorem Xdk {L M : List Commit} {ps : List ID} (h : ∀ p ∈ ps, Xb9 L p = Xb9 M p) : Xen L ps = Xen M ps := Xky _ _ _ h _
theorem Closed.perm {L M : List Commit} (h : L.Perm M) (hc : Closed L) : Closed M := by
 have hk := Xmo h
 refine ⟨fun c hm => hc.may c (h.mem_iff.2 hm), (Xcx h).nodup_iff.1 hc.nodup, fun c hm => ?_, fun c hm d hd => ?_⟩
 ·have hf := hc.fine c (h.mem_iff.2 hm)
  refine ⟨hf.merge, fun p hp => (Xcx h).mem_iff.1 (hf.here p hp), ?_, ?_⟩
  ·rw [← hk]; exact hf.free
  ·rw [hf.gen, Xdk fun p _ => Xua h hc.nodup p]
 ·have := hc.ev c (h.mem_iff.2 hm) d (h.mem_iff.2 hd)
  unfold evOk at *
  rw [← hk]; exact this
theorem Xmr : Closed [] := ⟨by simp, by simp [cids], by simp, by simp⟩
theorem Closed.par_gen {L : List Commit} (h : Closed L) {x y : ID} (hp : par L x y) : Xb9 L y < Xb9 L x := by
 obtain ⟨c, h1, rfl, h3, _⟩ := hp
 rw [Xcy h.nodup h1, (h.fine c h1).gen]
 have := Xub L c.parents y h3
 omega
theorem Closed.knows_gen {L : List Commit} (h : Closed L) {x y : ID} (hp : Xbz L x y) : Xb9 L y < Xb9 L x := by
 induction hp with
 | single h1 => exact h.par_gen h1
 | tail _ h1 ih => exact Int.lt_trans (h.par_gen h1) ih
theorem Closed.irrefl {L : List Commit} (h : Closed L) (x : ID) : ¬ Xbz L x x := fun hk => Int.lt_irrefl _ (h.knows_gen hk)
theorem Xhq {L : List Commit} {x y : ID} (h : Xbz L x y) : x ∈ cids L ∧ y ∈ cids L := by
 have hp : ∀ {x y}, par L x y → x ∈ cids L ∧ y ∈ cids L := fun ⟨c, h1, h2, _, h4⟩ => ⟨Xai.2 ⟨c, h1, h2⟩, h4⟩
 induction h with
 | single h1 => exact hp h1
 | tail _ h1 ih => exact ⟨ih.1, (hp h1).2⟩
theorem Xrm {L : List Commit} {x y z : ID} (h : Xbz L x y) (k : Xbz L y z) : Xbz L x z := Relation.TransGen.trans h k
theorem Xwq {L : List Commit} (hn : (cids L).Nodup) {c : Commit} (hc : c ∈ L) (hh : ∀ p ∈ c.parents, p ∈ cids L) (y : ID) :
  Xbz L (idC c) y ↔ ∃ p ∈ c.parents, y = p ∨ Xbz L p y := by
 constructor
 ·intro h
  have key : ∀ {x y}, Relation.TransGen (par L) x y → ∃ z, par L x z ∧ (y = z ∨ Relation.TransGen (par L) z y) := by
   intro x y h
   induction h with
   | single h1 => exact ⟨_, h1, .inl rfl⟩
   | tail _ h1 ih =>
    obtain ⟨z, h2, h3⟩ := ih
    refine ⟨z, h2, .inr ?_⟩
    rcases h3 with rfl | h3
    ·exact .single h1
    ·exact .tail h3 h1
  obtain ⟨z, ⟨d, h1, h2, h3, _⟩, h4⟩ := key h
  have : d = c := Xmp hn h1 hc h2
  subst this
  exact ⟨z, h3, h4⟩
 ·rintro ⟨p, hp, h⟩
  have h1 : par L (idC c) p := ⟨c, hc, rfl, hp, hh p hp⟩
  rcases h with rfl | h
  ·exact .single h1
  ·exact Relation.TransGen.trans (.single h1) h
theorem Xhr {L M : List Commit} (hs : ∀ c ∈ M, c ∈ L) (hn : (cids L).Nodup) (hh : ∀ c ∈ M, ∀ p ∈ c.parents, p ∈ cids M) {x : ID} (hx : x ∈ cids M) (y : ID) :
  Xbz M x y ↔ Xbz L x y := by
 have hi : ∀ z, z ∈ cids M → z ∈ cids L := fun z hz => by
  obtain ⟨c, hc, rfl⟩ := Xai.1 hz; exact Xai.2 ⟨c, hs c hc, rfl⟩
 constructor
 ·intro h
  refine Relation.TransGen.rec (motive := fun y _ => Xbz L x y) ?_ ?_ h
  ·rintro y ⟨c, h1, h2, h3, h4⟩; exact .single ⟨c, hs c h1, h2, h3, hi _ h4⟩
  ·rintro y z _ ⟨c, h1, h2, h3, h4⟩ ih; exact .tail ih ⟨c, hs c h1, h2, h3, hi _ h4⟩
 ·intro h
  have step : ∀ {x y}, x ∈ cids M → par L x y → par M x y ∧ y ∈ cids M := by
   rintro x y hx ⟨c, h1, h2, h3, _⟩
   obtain ⟨d, hd, he⟩ := Xai.1 hx
   have : d = c := Xmp hn (hs d hd) h1 (he.trans h2.symm)
   subst this
   exact ⟨⟨d, hd, he, h3, hh d hd y h3⟩, hh d hd y h3⟩
  have : Xbz M x y ∧ y ∈ cids M := by
   refine Relation.TransGen.rec (motive := fun y _ => Xbz M x y ∧ y ∈ cids M) ?_ ?_ h
   ·intro y h1; exact ⟨.single (step hx h1).1, (step hx h1).2⟩
   ·intro y z _ h1 ih; exact ⟨.tail ih.1 (step ih.2 h1).1, (step ih.2 h1).2⟩
  exact this.1
theorem Xkz {L M : List Commit} (hs : ∀ c ∈ M, c ∈ L) (hn : (cids L).Nodup) (hm : (cids M).Nodup) {x : ID} (hx : x ∈ cids M) : Xb9 M x = Xb9 L x := by
 obtain ⟨c, hc, rfl⟩ := Xai.1 hx
 rw [Xcy hm hc, Xcy hn (hs c hc)]
theorem Xk0 {L M : List Commit} (hn : (cids L).Nodup) (hs : M.Sublist L) : (cids M).Nodup := hn.sublist (hs.map _)
theorem Closed.sub {L M : List Commit} (h : Closed L) (hs : ∀ c ∈ M, c ∈ L) (hm : (cids M).Nodup) (hh : ∀ c ∈ M, ∀ p ∈ c.parents, p ∈ cids M) : Closed M := by
 refine ⟨fun c hc => h.may c (hs c hc), hm, fun c hc => ?_, fun c hc d hd => ?_⟩
 ·have hf := h.fine c (hs c hc)
  refine ⟨hf.merge, hh c hc, fun p hp q hq hk => hf.free p hp q hq ((Xhr hs h.nodup hh (hh c hc p hp) q).1 hk), ?_⟩
  rw [hf.gen, Xdk fun p hp => (Xkz hs h.nodup hm (hh c hc p hp))]
 ·have := h.ev c (hs c hc) d (hs d hd)
  intro h1 h2
  obtain ⟨h3, h4⟩ := this h1 h2
  exact ⟨h3, fun h5 => (Xhr hs h.nodup hh (Xai.2 ⟨c, hc, rfl⟩) _).2 (h4 h5)⟩
def Xa0 (G : List (Commit × List ID)) : List Commit := G.map (·.1)
def Xds (G : List (Commit × List ID)) (q : ID) : List ID := match G.find? (fun g => decide (idC g.1 = q)) with | some g => g.2 | none => []
def Xn6 (G : List (Commit × List ID)) (c : Commit) : Bool := c.parents.all (fun p => decide (p ∈ cids (Xa0 G))) && c.parents.all (fun p => c.parents.all fun q => decide (p ∉ Xds G q))
def Xst (G : List (Commit × List ID)) (c : Commit) : Bool := decide (c.gen = Xen (Xa0 G) c.parents + 1)
def Xrn (G : List (Commit × List ID)) (c : Commit) (S : List ID) : Prop := ∀ x, x ∈ S ↔ ∃ p ∈ c.parents, x = p ∨ x ∈ Xds G p
inductive Built : List (Commit × List ID) → Prop
 | nil : Built []
 | snoc {G : List (Commit × List ID)} {c : Commit} {S : List ID} : Built G → idC c ∉ cids (Xa0 G) → merge c = false → Xn6 G c = true → Xst G c = true → Xrn G c S → Built (G ++ [(c, S)])
theorem Xcq (G : List (Commit × List ID)) (c : Commit) (S : List ID) : Xa0 (G ++ [(c, S)]) = Xa0 G ++ [c] := by simp [Xa0]
theorem Xk1 (L M : List Commit) : cids (L ++ M) = cids L ++ cids M := by simp [cids]
theorem Xcz (L : List Commit) (c : Commit) : cids (L ++ [c]) = cids L ++ [idC c] := by simp [cids]
theorem Xij {G : List (Commit × List ID)} (h : (cids (Xa0 G)).Nodup) {g : Commit × List ID} (hg : g ∈ G) : Xds G (idC g.1) = g.2 := by
 unfold Xds
 cases hf : G.find? (fun d => decide (idC d.1 = idC g.1)) with
 | none => exact absurd (List.find?_eq_none.1 hf g hg) (by simp)
 | some d =>
  have h1 := List.find?_some hf
  have h2 := List.mem_of_find?_eq_some hf
  have h3 : idC d.1 = idC g.1 := by simpa using h1
  have : d = g := by
   clear hf h1
   induction G with
   | nil => cases hg
   | cons a G ih =>
    simp only [Xa0, cids, List.map_cons, List.nodup_cons, List.mem_map, not_exists, not_and] at h
    rcases List.mem_cons.1 h2 with e1 | h2'
    ·rcases List.mem_cons.1 hg with e2 | hg'
     ·rw [e1, e2]
     ·exact (h.1 g.1 ⟨g, hg', rfl⟩ (by rw [← e1, h3])).elim
    ·rcases List.mem_cons.1 hg with e2 | hg'
     ·exact (h.1 d.1 ⟨d, h2', rfl⟩ (by rw [← e2, h3])).elim
     ·exact ih h.2 hg' h2'
  rw [this]
theorem Xpz {G : List (Commit × List ID)} {c : Commit} {S : List ID} {q : ID} (h : q ∈ cids (Xa0 G)) : Xds (G ++ [(c, S)]) q = Xds G q := by
 obtain ⟨c', hc', he⟩ := Xai.1 h
 obtain ⟨g, hg, rfl⟩ := List.mem_map.1 hc'
 unfold Xds
 rw [List.find?_append]
 cases hf : G.find? (fun d => decide (idC d.1 = q)) with
 | none => exact absurd (List.find?_eq_none.1 hf g hg) (by simpa using he)
 | some d => rfl
theorem Xf8 (G : List (Commit × List ID)) (c : Commit) : Xn6 G c = true ↔ (∀ p ∈ c.parents, p ∈ cids (Xa0 G)) ∧ ∀ p ∈ c.parents, ∀ q ∈ c.parents, p ∉ Xds G q := by
 simp only [Xn6, Bool.and_eq_true, List.all_eq_true, decide_eq_true_eq]
structure BuiltR (G : List (Commit × List ID)) : Prop where
 nodup : (cids (Xa0 G)).Nodup
 here : ∀ c ∈ Xa0 G, ∀ p ∈ c.parents, p ∈ cids (Xa0 G)
 known : ∀ q ∈ cids (Xa0 G), ∀ x, x ∈ Xds G q ↔ Xbz (Xa0 G) q x
 fine : ∀ c ∈ Xa0 G, Fine (Xa0 G) c
theorem Built.right {G : List (Commit × List ID)} (h : Built G) : BuiltR G := by
 induction h with
 | nil => exact ⟨by simp [Xa0, cids], by simp [Xa0], by simp [Xa0, cids], by simp [Xa0]⟩
 | snoc h1 h2 h3 h4 h5 h6 ih =>
  rename_i G c S
  have hn : (cids (Xa0 (G ++ [(c, S)]))).Nodup := by
   rw [Xcq, Xcz]
   exact List.nodup_append.2 ⟨ih.nodup, by simp, fun a ha b hb => by simp at hb; subst hb; exact fun e => h2 (e ▸ ha)⟩
  obtain ⟨h7, h8⟩ := (Xf8 G c).1 h4
  have hs : ∀ d ∈ Xa0 G, d ∈ Xa0 (G ++ [(c, S)]) := fun d hd => by rw [Xcq]; exact List.mem_append_left _ hd
  have hi : ∀ x ∈ cids (Xa0 G), x ∈ cids (Xa0 (G ++ [(c, S)])) := fun x hx => by rw [Xcq, Xk1]; exact List.mem_append_left _ hx
  have hc : c ∈ Xa0 (G ++ [(c, S)]) := by rw [Xcq]; simp
  have hsub : ∀ {x}, x ∈ cids (Xa0 G) → ∀ y, Xbz (Xa0 G) x y ↔ Xbz (Xa0 (G ++ [(c, S)])) x y := fun hx y => Xhr hs hn ih.here hx y
  have hgen : ∀ x ∈ cids (Xa0 G), Xb9 (Xa0 G) x = Xb9 (Xa0 (G ++ [(c, S)])) x := fun x hx => Xkz hs hn ih.nodup hx
  have hcc : ∀ x, x ∈ S ↔ Xbz (Xa0 (G ++ [(c, S)])) (idC c) x := by
   intro x
   rw [h6 x, Xwq hn hc (fun p hp => hi p (h7 p hp))]
   constructor
   ·rintro ⟨p, hp, h9⟩
    exact ⟨p, hp, h9.imp id fun h9 => (hsub (h7 p hp) x).1 ((ih.known p (h7 p hp) x).1 h9)⟩
   ·rintro ⟨p, hp, h9⟩
    exact ⟨p, hp, h9.imp id fun h9 => (ih.known p (h7 p hp) x).2 ((hsub (h7 p hp) x).2 h9)⟩
  refine ⟨hn, fun d hd p hp => ?_, fun q hq x => ?_, fun d hd => ?_⟩
  ·rw [Xcq] at hd
   rcases List.mem_append.1 hd with hd | hd
   ·exact hi p (ih.here d hd p hp)
   ·simp at hd; subst hd; exact hi p (h7 p hp)
  ·by_cases hq' : q ∈ cids (Xa0 G)
   ·rw [Xpz hq', ih.known q hq', hsub hq']
   ·have : q = idC c := by
     rw [Xcq, Xcz] at hq
     rcases List.mem_append.1 hq with hq | hq
     ·exact (hq' hq).elim
     ·simpa using hq
    subst this
    rw [Xij hn (g := (c, S)) (by simp)]
    exact hcc x
  ·rw [Xcq] at hd
   rcases List.mem_append.1 hd with hd | hd
   ·have hf := ih.fine d hd
    refine ⟨hf.merge, fun p hp => hi p (hf.here p hp), fun p hp q hq hk => hf.free p hp q hq ((hsub (hf.here p hp) q).2 hk), ?_⟩
    rw [hf.gen, Xdk fun p hp => hgen p (hf.here p hp)]
   ·simp at hd; subst hd
    refine ⟨h3, fun p hp => hi p (h7 p hp), fun p hp q hq hk => h8 q hq p hp ((ih.known p (h7 p hp) q).2 ((hsub (h7 p hp) q).2 hk)), ?_⟩
    have := of_decide_eq_true h5
    rw [this, Xdk fun p hp => hgen p (h7 p hp)]
theorem Built.closed {G : List (Commit × List ID)} (h : Built G) (hm : ∀ c ∈ Xa0 G, may c = true) (he : ∀ c ∈ Xa0 G, ∀ d ∈ Xa0 G, evOk (Xa0 G) c d) : Closed (Xa0 G) :=
 ⟨hm, h.right.nodup, h.right.fine, he⟩
theorem Closed.step {Lo : List Commit} (h : Closed Lo) (hs : Lo.Pairwise (fun c d => c.gen ≤ d.gen)) {G : List (Commit × List ID)} (hb : Built G) {k : Nat} (hk : k < Lo.length) (hG : Xa0 G = Lo.take k) :
  idC Lo[k] ∉ cids (Xa0 G) ∧ merge Lo[k] = false ∧ Xn6 G Lo[k] = true ∧ Xst G Lo[k] = true := by
 have hm := List.getElem_mem hk
 have hf := h.fine _ hm
 have hr := hb.right
 have hsub : ∀ c ∈ Xa0 G, c ∈ Lo := fun c hc => by rw [hG] at hc; exact List.mem_of_mem_take hc
 have hpar : ∀ p ∈ Lo[k].parents, p ∈ cids (Xa0 G) := by
  intro p hp
  obtain ⟨d, hd, rfl⟩ := Xai.1 (hf.here p hp)
  have hlt : d.gen < Lo[k].gen := by
   have := h.par_gen (x := idC Lo[k]) (y := idC d) ⟨_, hm, rfl, hp, hf.here _ hp⟩
   rwa [Xcy h.nodup hd, Xcy h.nodup hm] at this
  obtain ⟨j, hj, rfl⟩ := List.getElem_of_mem hd
  have hjk : j < k := by
   apply Classical.byContradiction
   intro hge
   by_cases he : j = k
   ·subst he; omega
   ·have := List.pairwise_iff_getElem.1 hs k j hk hj (by omega)
    omega
  rw [hG]
  refine Xai.2 ⟨Lo[j], ?_, rfl⟩
  rw [List.mem_take_iff_getElem]
  exact ⟨j, by omega, rfl⟩
 refine ⟨?_, hf.merge, (Xf8 G _).2 ⟨hpar, fun p hp q hq hk' => ?_⟩, ?_⟩
 ·intro hc
  obtain ⟨d, hd, he⟩ := Xai.1 hc
  rw [hG, List.mem_take_iff_getElem] at hd
  obtain ⟨j, hj, rfl⟩ := hd
  have h1 := List.pairwise_iff_getElem.1 (show (cids Lo).Pairwise _ from h.nodup) j k (by simp [cids]; omega) (by simpa [cids] using hk) (by omega)
  simp [cids] at h1
  exact h1 he
 ·exact hf.free q hq p hp ((Xhr hsub h.nodup hr.here (hpar q hq) p).1 ((hr.known q (hpar q hq) p).1 hk'))
 ·refine decide_eq_true ?_
  rw [hf.gen, Xdk fun p hp => (Xkz hsub h.nodup hr.nodup (hpar p hp)).symm]
def X0f (L : List Commit) (i j : Nat) : Prop := ∃ h : i < L.length, ∃ p ∈ L[i].parents, (cids L).findIdx? (fun x => decide (x = p)) = some j
def Xsu (L : List Commit) (i j : Nat) : Prop := Relation.TransGen (X0f L) i j
theorem Xbp (L : List Commit) : (cids L).length = L.length := by simp [cids]
theorem Xjo (L : List Commit) (i : Nat) (h : i < (cids L).length) : (cids L)[i] = idC (L[i]'(by simpa [cids] using h)) := by simp [cids]
def oneI (L : List Commit) (i : Nat) : Prop := ∃ h : i < L.length, (∀ p ∈ L[i].parents, p ∈ cids L) ∧
 (∀ a b, X0f L i a → X0f L i b → ¬ Xsu L a b) ∧ L[i].gen = Xen L L[i].parents + 1
def evI (L : List Commit) (i j : Nat) : Prop := ∃ hi : i < L.length, ∃ hj : j < L.length, L[i].ev.node = L[j].ev.node →
 L[i].ev.seq ≠ L[j].ev.seq ∧ (L[j].ev.seq < L[i].ev.seq → Xsu L i j) ∧ (L[i].ev.seq < L[j].ev.seq → Xsu L j i)
theorem Xk2 (a b : Option Addr) (c k : Nat) (L M : List ID) (h : (sl a c L).holds F w) (h' : (sl b k M).holds F w) :
  GivesV prog 51 [.slice a L.length c, .slice b M.length k] w F (.bool (decide (L = M))) := by
 have hL : L.length < 9223372036854775807 := by have := h.2.2.1; simp only [lim] at this; omega
 refine Xaa func51 rfl ntmps51 rfl rfl [.st (sl a c L), .st (sl b k M)] (.start2 h h') ?_
 refine wA ?_
 refine JC.test (fun hne => ?_) (fun he => ?_)
 ·refine wz9 ?_
  refine CT.dn () ?_
  have : ¬ L = M := fun h => hne (by rw [h])
  simp [Xac, this]
 ·have hlen : L.length = M.length := by omega
  refine wz7 ?_
  refine Xay (fun k0 : Nat => [(0, .slice a L.length c), (1, .slice b M.length k), (5, .int .i64 (k0 : Int))]) (fun _ => [.st (sl a c L), .st (sl b k M)])
   (fun k0 => k0 ≤ L.length ∧ L.take k0 = M.take k0) (fun k0 => L.length - k0) 0 ⟨Nat.zero_le _, rfl⟩ iI ?_
  intro k0 ⟨hk, heq⟩
  refine wz11 ?_
  refine JC.test (fun hlt => ?_) (fun hge => ?_)
  ·have hlt' : k0 < L.length := by omega
   refine wz14 ?_
   refine Xb2 (.slice a L.length c) k0 hlt' ?_
   intro b1 o1
   refine Xb2 (.slice b M.length k) k0 (by omega) ?_
   intro b2 o2
   refine Xb0 mixed (by kernel_rfl) ?_
   refine wQ ?_
   refine wz13 ?_
   refine JC.test (fun hne => ?_) (fun heq2 => ?_)
   ·refine wz5 ?_
    refine CT.dn () ?_
    have : ¬ L = M := fun h => by subst h; exact hne rfl
    simp [Xac, this]
   ·refine wz2 ?_
    refine ⟨k0 + 1, ⟨by omega, ?_⟩, by omega, iI⟩
    have heq2 : L[k0] = M[k0] := by simpa using heq2
    rw [List.take_succ_eq_append_getElem hlt', List.take_succ_eq_append_getElem (by omega), heq, heq2]
  ·have hk0 : k0 = L.length := by omega
   refine wz3 ?_
   refine CT.dn () ?_
   have : L = M := by
    rw [List.take_of_length_le (by omega), List.take_of_length_le (by omega)] at heq
    exact heq
   simp [Xac, this]
def fewC (c : Commit) : Bool := decide (c.parents.length ≤ 20) && decide (c.op.key.size ≤ 100) && decide (c.op.elem.size ≤ 100)
theorem X0g (c : Commit) (a : Option Addr) (k : Nat) : GivesV prog 14 [Xax c a k] w F (.bool (fewC c)) := by
 refine Xaa func14 rfl ntmps14 rfl rfl [] (.start w F) ?_
 (repeat (refine wE ?_; intro _)); refine wA ?_
 refine JO.test 7 (fun h1 => ?_) (fun h1 => ?_)
 ·refine wA ?_
  refine JO.test 14 (fun h2 => ?_) (fun h2 => ?_)
  ·refine wA ?_
   refine CT.dn () ?_
   have h1 : c.parents.length ≤ 20 := by omega
   have h2 : c.op.key.size ≤ 100 := by omega
   have h3 : ((c.op.elem.size : Int) ≤ 100) ↔ c.op.elem.size ≤ 100 := by omega
   simp [Xac, fewC, h1, h2, h3]
  ·refine wz8 ?_
   refine CT.dn () ?_
   have h2 : ¬ c.op.key.size ≤ 100 := by omega
   simp [Xac, fewC, h2]
 ·refine wz8 ?_
  refine CT.dn () ?_
  have h1 : ¬ c.parents.length ≤ 20 := by omega
  simp [Xac, fewC, h1]
def fewL (L : List Commit) (m : Nat) : Bool := decide (L.length ≤ m) && L.all fewC
theorem X0h (a : Option Addr) (c : Nat) (L : List Commit) (m : Nat) (h : (sl a c L).holds F w) :
  GivesV prog 24 [.slice a L.length c, .int .i64 (m : Int)] w F (.bool (fewL L m)) := by
 have hL : L.length < 9223372036854775807 := by have := h.2.2.1; simp only [lim] at this; omega
 refine Xaa func24 rfl ntmps24 rfl rfl [.st (sl a c L)] (.start1 h) ?_
 refine wz5 ?_
 refine JC.test (fun h1 => ?_) (fun h1 => ?_)
 ·refine wz9 ?_
  refine CT.dn () ?_
  have h1 : ¬ L.length ≤ m := by omega
  simp [Xac, fewL, h1]
 ·have h1 : L.length ≤ m := by omega
  refine wz7 ?_
  refine Xay (fun k0 : Nat => [(0, .slice a L.length c), (5, .int .i64 (k0 : Int))]) (fun _ => [.st (sl a c L)])
   (fun k0 => k0 ≤ L.length ∧ (L.take k0).all fewC = true) (fun k0 => L.length - k0) 0 ⟨Nat.zero_le _, rfl⟩ iI ?_
  intro k0 ⟨hk, heq⟩
  refine wz11 ?_
  refine JC.test (fun hlt => ?_) (fun hge => ?_)
  ·have hlt' : k0 < L.length := by omega
   refine wz14 ?_
   refine Xaj rfl hlt' ?_
   intro b1 o1 p1 q1
   refine wz6 ?_
   refine JR.callV rfl (fun w1 hw => X0g w1 _ L[k0] p1 q1) ?_
   refine wz7 ?_
   refine JC.test (fun hne => ?_) (fun heq2 => ?_)
   ·refine wz5 ?_
    refine CT.dn () ?_
    have h3 : L.all fewC = false := by
     rw [← Bool.not_eq_true]
     intro h4
     exact hne (List.all_eq_true.1 h4 _ (List.getElem_mem hlt'))
    simp only [Xac, fewL, h3, Bool.and_false]
   ·refine wz2 ?_
    refine ⟨k0 + 1, ⟨by omega, ?_⟩, by omega, iI⟩
    have heq2 : fewC L[k0] = true := by simpa using heq2
    rw [List.take_succ_eq_append_getElem hlt', List.all_append, heq]
    simp [heq2]
  ·have hk0 : k0 = L.length := by omega
   subst hk0
   rw [List.take_length] at heq
   refine wz3 ?_
   refine CT.dn () ?_
   simp only [Xac, fewL, heq, h1, decide_true, Bool.and_self]
section
attribute [local irreducible] Xaq
theorem Xd0 (c : Commit) : ((Xaq c).2 = 0) ↔ may c = true := by
 unfold Xaq; cases may c <;> simp
def idsP (L : List Commit) : List ID := if L.all may then cids L else []
theorem Xhs {L : List Commit} (h : ∀ c ∈ L, may c = true) : idsP L = cids L := by
 rw [idsP, if_pos (List.all_eq_true.2 h)]
theorem Xn7 {L : List Commit} {c : Commit} (hc : c ∈ L) (h : may c = false) : idsP L = [] := by
 rw [idsP, if_neg]
 intro h'
 have := List.all_eq_true.1 h' c hc
 rw [h] at this; cases this
theorem Xgs {L : List Commit} {i : Nat} (h : i < L.length) : cids (L.take (i + 1)) = cids (L.take i) ++ [idC L[i]] := by
 rw [List.take_succ_eq_append_getElem h, Xk1]; rfl
theorem Xik (a : Option Addr) (k : Nat) (L : List Commit) (h : (sl a k L).holds F w) (hl : L.length < 34359738368) (hf : ∀ x ∈ L, fine x) :
  Xcb prog 43 [.slice a L.length k] w F (idsP L) := by
 refine Xaa func43 rfl ntmps43 rfl rfl [.st (sl a k L)] (.start1 h) ?_
 refine wz4 ?_
 refine JC.buf_nil (α := ID) 81 ?_
 refine Xb7 (fun (i : Nat) p q => [(3, .slice p (cids (L.take i)).length q), (8, .slice a L.length k), (9, .int .i64 (L.length : Int)), (10, .int .i64 (i : Int))])
  (fun i p q => [.res (buf p q 81 (cids (L.take i))), .st (sl a k L)])
  (fun i _ _ => i ≤ L.length ∧ ∀ c ∈ L.take i, may c = true) (fun i _ _ => L.length - i) 0 none 0 ⟨Nat.zero_le _, by simp⟩ (by rw [List.take_zero, show cids [] = [] from rfl]; infer_instance) ?_
 intro i p q ⟨hi, hm⟩
 refine wz11 ?_
 refine JC.test (fun hlt => ?_) (fun hge => ?_)
 ·have hlt' : i < L.length := by omega
  have hfx := hf _ (List.getElem_mem hlt')
  refine wz14 ?_
  refine Xaj rfl hlt' ?_
  intro b1 o1 p1 q1
  (repeat (refine wE ?_; intro _)); refine wA ?_
  refine JR.callV rfl (fun w1 hw => Xea w1 _ (L[i]) p1 q1 hw.get hfx.1) ?_
  (repeat (refine wE ?_; intro _)); refine wA ?_
  refine JC.test (fun h0 => ?_) (fun h0 => ?_)
  ·have hmay : may L[i] = false := by
    rw [← Bool.not_eq_true, ← Xd0]; exact h0
   refine wz5 ?_
   rw [Xn7 (List.getElem_mem hlt') hmay]
   exact CT.done (none, 0) rfl (fun w ho => (ho.ent : Hold _ _ [.st (sl a k L)] w).tail.add Xak)
  ·have hmay : may L[i] = true := (Xd0 _).1 (by simpa using h0)
   have h1 : (cids (L.take i)).length ≤ i := by simp [cids]; omega
   (repeat (refine wE ?_; intro _)); refine wA ?_
   refine Xa1 (u := idC L[i]) rfl (by exact ⟨rfl, rfl, by decide⟩) (by omega) ?_
   intro r s
   refine wz2 ?_
   refine ⟨i + 1, r, s, ⟨by omega, fun c hc => ?_⟩, by omega, by rw [Xgs hlt']; infer_instance⟩
   rw [List.take_succ_eq_append_getElem hlt', List.mem_append, List.mem_singleton] at hc
   rcases hc with hc | rfl
   ·exact hm c hc
   ·exact hmay
 ·obtain rfl : i = L.length := by omega
  rw [List.take_length] at hm ⊢
  refine JC.more (fun w1 ho => ho.pub) ?_
  refine wz3 ?_
  rw [Xhs hm]
  exact CT.done (p, q) rfl (fun w ho => (ho.ent : Hold _ _ [.st (sl p q (cids L))] w))
theorem Xwr (c : Commit) (a : Option Addr) (k : Nat) (h : (sl a k c.parents).holds F w) (hp : c.parents.length ≤ 34359738368) :
  Gives prog 74 [Xax c a k] w F (fun y : Option Addr × Nat => Xax c y.1 y.2) (fun y => [.st (sl y.1 y.2 c.parents)]) := by
 refine Xaa func74 rfl ntmps74 rfl rfl [.st (sl a k c.parents)] (.start1 h) ?_
 (repeat (refine wE ?_; intro _)); refine wA ?_
 refine JR.callBuf rfl (fun w1 hw => Xfj w1 _ a k c.parents hw.get hp) ?_
 intro p q
 refine JO.more (fun w1 ho => ho.pub) ?_
 refine wz9 ?_
 exact CT.dn (p, q) rfl
def X16 (L : List Commit) (x : ID) : Option Commit := L.find? (fun c => decide (Xn4 c = some x))
def X17 (L : List Commit) (x : ID) : Commit × Bool := match X16 L x with | some c => (c, true) | none => (Xcv, false)
end
theorem Xjp (a : Option Addr) (c : Nat) (L : List ID) (h : (sl a c L).holds F w) (hl : L.length ≤ 34359738368) :
  GivesBuf prog 52 [.slice a L.length c] w F 81 (Xcc (Xdj L)) := by
 refine Xaa func52 rfl ntmps52 rfl rfl [.st (sl a c L)] (.start1 h) ?_
 refine wz10 ?_
 refine JR.call1 rfl (fun w1 hw => Xzc w1 _ a c L hw.get) ?_
 intro m
 refine JO.more (fun w ho => ho.pubMap) ?_
 refine wz13 ?_
 refine JR.callBuf rfl (fun w1 hw => Xsn w1 _ m _ (Xbw L) (Nat.le_trans (Xf1 L) hl) hw.get) ?_
 intro a2 c2
 refine wz10 ?_
 exact CT.dn (a2, c2) rfl
section
attribute [local irreducible] ents Xaq
abbrev Row := (Commit × List ID) × (Option Addr × Nat × Nat)
def ofM (R : List Row) : List (ID × Value) := R.map fun r => (idC r.1.1, Xax r.1.1 r.2.1 r.2.2.1)
def knM (R : List Row) : List (ID × Value) := R.map fun r => (idC r.1.1, .map (some r.2.2.2))
def grOf (R : List Row) : List (Commit × List ID) := R.map (·.1)
def rowA (r : Row) : List Asn := [sl r.2.1 r.2.2.1 r.1.1.parents, rmap r.2.2.2 (ents idV (sety r.1.2)) r.1.2.length]
def Xa8 (R : List Row) : Asn where
 holds F w := ∀ r ∈ R, ∀ A ∈ rowA r, A.holds F w
 mono F G w h hh := fun r hr A hA => A.mono F G w h (hh r hr A hA)
 frame F w w' hk h := fun r hr A hA => A.frame F w w' hk (h r hr A hA)
 within F w h := fun r hr A hA => A.within F w (h r hr A hA)
theorem Xht (R : List Row) : Xa0 (grOf R) = R.map (·.1.1) := by simp [Xa0, grOf]
theorem Xms (R : List Row) : cids (Xa0 (grOf R)) = R.map (fun r => idC r.1.1) := by simp [Xht, cids]
theorem Xjq (R : List Row) : (ofM R).map (·.1) = cids (Xa0 (grOf R)) := by simp [Xms, ofM]
theorem Xjr (R : List Row) : (knM R).map (·.1) = cids (Xa0 (grOf R)) := by simp [Xms, knM]
theorem Xsv {R : List Row} {p : ID} (hn : (cids (Xa0 (grOf R))).Nodup) (hp : p ∈ cids (Xa0 (grOf R))) :
  ∃ r ∈ R, idC r.1.1 = p ∧ Xbj (ofM R) p = some (Xax r.1.1 r.2.1 r.2.2.1) ∧ Xbj (knM R) p = some (.map (some r.2.2.2)) ∧ Xds (grOf R) p = r.1.2 := by
 rw [Xms] at hp
 obtain ⟨r, hr, he⟩ := List.mem_map.1 hp
 cases hf : R.find? (fun r => decide (idC r.1.1 = p)) with
 | none => exact absurd (List.find?_eq_none.1 hf r hr) (by simpa using he)
 | some q =>
  have h1 := List.find?_some hf
  have h1' : idC q.1.1 = p := by simpa using h1
  have h2 := List.mem_of_find?_eq_some hf
  refine ⟨q, h2, h1', ?_, ?_, ?_⟩
  ·simp only [Xbj, ofM, List.find?_map, Function.comp_def]
   rw [hf]; rfl
  ·simp only [Xbj, knM, List.find?_map, Function.comp_def]
   rw [hf]; rfl
  ·have := Xij (G := grOf R) hn (g := q.1) (List.mem_map.2 ⟨q, h2, rfl⟩)
   rw [← h1']; exact this
theorem Xn8 {R : List Row} {p : ID} (hp : p ∉ cids (Xa0 (grOf R))) : Xbj (ofM R) p = none ∧ Xbj (knM R) p = none := by
 rw [Xms] at hp
 have hf : R.find? (fun r => decide (idC r.1.1 = p)) = none := by
  rw [List.find?_eq_none]
  intro r hr h
  exact hp (List.mem_map.2 ⟨r, hr, by simpa using h⟩)
 constructor
 ·simp only [Xbj, ofM, List.find?_map, Function.comp_def]
  rw [hf]; rfl
 ·simp only [Xbj, knM, List.find?_map, Function.comp_def]
  rw [hf]; rfl
theorem Xws {K : Type} [DecidableEq K] {M : List (K × Value)} {k : K} (v : Value) (h : k ∉ M.map (·.1)) : upd M k v = M ++ [(k, v)] := by
 have : plc M k = none := by
  simp only [plc, List.findIdx?_eq_none_iff, decide_eq_false_iff_not]
  intro p hp e
  exact h (List.mem_map.2 ⟨p, hp, e⟩)
 simp [upd, this]
theorem Xa3 {α : Type} {L : List α} {i : Nat} (h : i < L.length) {x : α} : x ∈ L.take (i + 1) ↔ x ∈ L.take i ∨ x = L[i] := by
 rw [List.take_succ_eq_append_getElem h, List.mem_append, List.mem_singleton]
theorem Xro (L : List Commit) (ps : List ID) (p : ID) : Xen L (ps ++ [p]) = max (Xen L ps) (Xb9 L p) := by simp [Xen]
theorem Xl2 {G : List (Commit × List ID)} {c : Commit} {p : ID} (hp : p ∈ c.parents) (h : p ∉ cids (Xa0 G)) : Xn6 G c = false := by
 rw [← Bool.not_eq_true, Xf8]; exact fun h' => h (h'.1 p hp)
theorem Xf9 {G : List (Commit × List ID)} {c : Commit} {p q : ID} (hp : p ∈ c.parents) (hq : q ∈ c.parents) (h : p ∈ Xds G q) : Xn6 G c = false := by
 rw [← Bool.not_eq_true, Xf8]; exact fun h' => h'.2 p hp q hq h
theorem Xe4 {R : List Row} {F : Nat → Prop} {w : World} (h : (Xa8 R).holds F w) {r : Row} (hr : r ∈ R) : (sl r.2.1 r.2.2.1 r.1.1.parents).holds F w ∧ (rmap r.2.2.2 (ents idV (sety r.1.2)) r.1.2.length).holds F w :=
 ⟨h r hr _ (by simp [rowA]), h r hr _ (by simp [rowA])⟩
theorem Xuc {R : List Row} {F : Nat → Prop} {w : World} (h : (Xa8 R).holds F w) {c : Commit} {S : List ID} {a : Option Addr} {k b : Nat} (h1 : (sl a k c.parents).holds F w) (h2 : (rmap b (ents idV (sety S)) S.length).holds F w) :
  (Xa8 (R ++ [((c, S), (a, k, b))])).holds F w := by
 intro r hr A hA
 rcases List.mem_append.1 hr with hr | hr
 ·exact h r hr A hA
 ·simp only [List.mem_singleton] at hr
  subst hr
  simp only [rowA, List.mem_cons, List.not_mem_nil, or_false] at hA
  rcases hA with rfl | rfl
  ·exact h1
  ·exact h2
theorem Xwt {F : Nat → Prop} {w : World} : (Xa8 []).holds F w := fun r hr => by cases hr
theorem Xyj (R : List Row) (c : Commit) (S : List ID) (a : Option Addr) (k b : Nat) : ofM (R ++ [((c, S), (a, k, b))]) = ofM R ++ [(idC c, Xax c a k)] := by simp [ofM]
theorem Xyk (R : List Row) (c : Commit) (S : List ID) (a : Option Addr) (k b : Nat) : knM (R ++ [((c, S), (a, k, b))]) = knM R ++ [(idC c, .map (some b))] := by simp [knM]
theorem Xp0 (R : List Row) (c : Commit) (S : List ID) (a : Option Addr) (k b : Nat) : grOf (R ++ [((c, S), (a, k, b))]) = grOf R ++ [(c, S)] := by simp [grOf]
end
section
attribute [local irreducible] JN
section
attribute [local irreducible] ents Xaq Xa8
abbrev AddY (R : List Row) (c : Commit) := { y : List ID × Nat × Bool // y.2.2 = (Xn6 (grOf R) c && Xst (grOf R) c) ∧ (y.2.2 = true → y.1.Nodup ∧ Xrn (grOf R) c y.1) }
abbrev addB (bo bk : Nat) (R : List Row) (c : Commit) (a : Option Addr) (k : Nat) (Γ : List Fact) (S : List ID) (ba : Nat) : List Fact :=
 .omap bo (ents idV (ofM (R ++ [((c, S), (a, k, ba))]))) (ofM (R ++ [((c, S), (a, k, ba))])).length :: .omap bk (ents idV (knM (R ++ [((c, S), (a, k, ba))]))) (knM (R ++ [((c, S), (a, k, ba))])).length :: .st (Xa8 (R ++ [((c, S), (a, k, ba))])) :: Γ
theorem Xwu {w0 w : World} {F : Nat → Prop} {Γ : List Fact} {bo bk : Nat} {R : List Row} {c : Commit} {a : Option Addr} {k : Nat}
  (hn : (cids (Xa0 (grOf R))).Nodup) (hS : ∀ r ∈ R, r.1.2.Nodup) (hnew : idC c ∉ cids (Xa0 (grOf R))) (hg : ∀ r ∈ R, 0 ≤ r.1.1.gen ∧ r.1.1.gen ≤ 1048576)
  (ho : Hold w0 F (.omap bo (ents idV (ofM R)) (ofM R).length :: .omap bk (ents idV (knM R)) (knM R).length :: .st (Xa8 R) :: .st (sl a k c.parents) :: Γ) w) :
  Calls prog 135 ⟨[.agg ⟨[.map (some bo), .map (some bk)]⟩, .agg ⟨idc (idC c)⟩, Xax c a k]⟩ w fun x w' =>
   ∃ y : AddY R c, x = .returned (.bool y.1.2.2) ∧ Hold w0 F (if y.1.2.2 = true then addB bo bk R c a k Γ y.1.1 y.1.2.1 else Γ) w' := by
 have hpl : c.parents.length < 9223372036854775807 := by
  have h1 : (sl a k c.parents).holds _ w := ho.sat (.st (sl a k c.parents)) (by simp)
  have := h1.2.2.1; simp only [lim] at this; omega
 have hkO : ((ofM R).map (·.1)).Nodup := by rw [Xjq]; exact hn
 have hkK : ((knM R).map (·.1)).Nodup := by rw [Xjr]; exact hn
 refine Xbq (v := fun y : AddY R c => .bool y.1.2.2) (B := fun y => if y.1.2.2 = true then addB bo bk R c a k Γ y.1.1 y.1.2.1 else Γ) func135 rfl ntmps135 rfl rfl _ ho ?_
 (repeat (refine wE ?_; intro _)); refine wA ?_
 rename_i b3 b4 b5
 refine Xh9 idV rfl ?_
 intro ba
 refine wA ?_
 refine Xb7 (fun (i : Nat) (A : List ID) (g : Int) => [(3, .pointer (some ⟨b3, 0, none⟩)), (4, .pointer (some ⟨b4, 0, none⟩)), (5, .pointer (some ⟨b5, 0, none⟩)), (7, .int .i64 g), (8, .map (some ba)), (20, .slice a c.parents.length k), (21, .int .i64 (c.parents.length : Int)), (22, .int .i64 (i : Int))])
  (fun i A g => .omap bo (ents idV (ofM R)) (ofM R).length :: .omap bk (ents idV (knM R)) (knM R).length :: .own b3 101 [.map (some bo), .map (some bk)] :: .own b4 81 (idc (idC c)) :: .own b5 29 [.int .i64 c.ev.node, .int .i64 c.ev.seq, .int .i64 c.gen, .slice a c.parents.length k, .int .i64 c.op.kind, .string c.op.key, .string c.op.elem, .int .i64 c.op.n] :: .omap ba (ents idV (sety A)) A.length :: .st (Xa8 R) :: .st (sl a k c.parents) :: Γ)
  (fun i A g => i ≤ c.parents.length ∧ A.Nodup ∧ (∀ p ∈ c.parents.take i, p ∈ cids (Xa0 (grOf R))) ∧ (∀ x, x ∈ A ↔ ∃ p ∈ c.parents.take i, x ∈ Xds (grOf R) p) ∧ g = Xen (Xa0 (grOf R)) (c.parents.take i) ∧ 0 ≤ g ∧ g ≤ 1048576)
  (fun i _ _ => c.parents.length - i) 0 [] 0 ⟨Nat.zero_le _, List.nodup_nil, by simp, by simp, by simp [Xen], by decide, by decide⟩ iI ?_
 intro i A g ⟨hi, hA, hin, hmem, hmax, hg0, hg1⟩
 refine wz11 ?_
 refine JC.test (fun hlt => ?_) (fun hge => ?_)
 ·have hlt' : i < c.parents.length := by omega
  refine wz14 ?_
  refine Xcm rfl hlt' ?_
  intro bp op
  (repeat (refine wE ?_; intro _)); refine wA ?_
  have hpm : c.parents[i] ∈ c.parents := List.getElem_mem hlt'
  by_cases hin' : c.parents[i] ∈ cids (Xa0 (grOf R))
  ·obtain ⟨r, hr, hre, hgo, hgk, hkn⟩ := Xsv hn hin'
   have hga : Xb9 (Xa0 (grOf R)) c.parents[i] = r.1.1.gen := by
    rw [← hre]; exact Xcy hn (by rw [Xht]; exact List.mem_map.2 ⟨r, hr, rfl⟩)
   obtain ⟨hr0, hr1⟩ := hg r hr
   refine Wf (Xb4 (M := ofM R) (v := Xax r.1.1 r.2.1 r.2.2.1) (is := true) c.parents[i] hkO (by rw [hgo]; rfl) (by rw [hgo]; rfl)) rfl ?_
   (repeat (refine wE ?_; intro _)); refine wA ?_
   refine Wf (Xgc (L := A) c.parents[i] hA) rfl ?_
   refine wz7 ?_
   refine JC.test (fun hy => ?_) (fun hno => ?_)
   ·obtain ⟨q, hq, hqk⟩ := (hmem _).1 (by simpa using hy)
    refine wz5 ?_
    exact CT.done ⟨([], 0, false), by rw [Xf9 hpm (List.mem_of_mem_take hq) hqk]; rfl, by simp⟩ rfl (fun w ho => (ho.ent : Hold w0 F Γ w))
   ·refine wz1 ?_
    refine Wf OpV.max rfl ?_
    refine wz9 ?_
    refine Wf (Xbt (M := knM R) (v := .map (some r.2.2.2)) c.parents[i] hkK (by rw [hgk]; rfl)) rfl ?_
    refine JO.more (fun w1 ho => ho.add (A := rmap r.2.2.2 (ents idV (sety r.1.2)) r.1.2.length) (Xe4 (ho.get (A := Xa8 R)) hr).2) ?_
    refine We rfl ?_
    refine Xj5 rfl ?_
    intro ri
    refine wz4 ?_
    refine Xfb (fun (S : List Nat) (A' : List ID) => [(3, .pointer (some ⟨b3, 0, none⟩)), (4, .pointer (some ⟨b4, 0, none⟩)), (5, .pointer (some ⟨b5, 0, none⟩)), (7, .int .i64 (max g r.1.1.gen)), (8, .map (some ba)), (20, .slice a c.parents.length k), (21, .int .i64 (c.parents.length : Int)), (22, .int .i64 (i : Int)), (48, .pointer (some ⟨ri, 0, none⟩))])
     (fun S A' => .omap bo (ents idV (ofM R)) (ofM R).length :: .omap bk (ents idV (knM R)) (knM R).length :: .own b3 101 [.map (some bo), .map (some bk)] :: .own b4 81 (idc (idC c)) :: .own b5 29 [.int .i64 c.ev.node, .int .i64 c.ev.seq, .int .i64 c.gen, .slice a c.parents.length k, .int .i64 c.op.kind, .string c.op.key, .string c.op.elem, .int .i64 c.op.n] :: .omap ba (ents idV (sety A')) A'.length :: .obj ri (.mapIter (some r.2.2.2) r.1.2.length S.toArray r.1.2.length) :: .st (rmap r.2.2.2 (ents idV (sety r.1.2)) r.1.2.length) :: .st (Xa8 R) :: .st (sl a k c.parents) :: Γ)
     (fun S A' => S.Nodup ∧ (∀ j ∈ S, j < r.1.2.length) ∧ A'.Nodup ∧ ∀ x, x ∈ A' ↔ x ∈ A ∨ ∃ j ∈ S, r.1.2[j]? = some x)
     (fun S _ => r.1.2.length - S.length) [] A ⟨List.nodup_nil, by simp, hA, by simp⟩ iI ?_
    intro S A' ⟨hS1, hS2, hA', hmem'⟩
    have hSl : S.length ≤ r.1.2.length := Xek hS1 hS2
    refine wz14 ?_
    refine Xnk rfl hS2 (fun hall => ?_) (fun j hj hjS => ?_)
    ·refine wA ?_
     refine ⟨i + 1, A', max g r.1.1.gen, ⟨by omega, hA', fun p hp => ?_, fun x => ?_, ?_, by omega, by omega⟩, by omega, iI⟩
     ·rcases (Xa3 hlt').1 hp with hp | rfl
      ·exact hin p hp
      ·exact hin'
     ·rw [hmem', hmem]
      constructor
      ·rintro (⟨q, hq, hx⟩ | ⟨j, hj, hx⟩)
       ·exact ⟨q, (Xa3 hlt').2 (.inl hq), hx⟩
       ·exact ⟨c.parents[i], (Xa3 hlt').2 (.inr rfl), by rw [hkn]; exact List.mem_of_getElem? hx⟩
      ·rintro ⟨q, hq, hx⟩
       rcases (Xa3 hlt').1 hq with hq | rfl
       ·exact .inl ⟨q, hq, hx⟩
       ·rw [hkn] at hx
        obtain ⟨j, hj, rfl⟩ := List.getElem_of_mem hx
        exact .inr ⟨j, hall j hj, List.getElem?_eq_getElem hj⟩
     ·rw [List.take_succ_eq_append_getElem hlt', Xro, ← hmax, hga]
    ·refine wA ?_
     refine Wf (Xib hj) rfl ?_
     (repeat (refine wE ?_; intro _)); refine wA ?_
     refine Xhc r.1.2[j] hA' ?_
     have hS3 : (S ++ [j]).Nodup := List.nodup_append.2 ⟨hS1, by simp, fun x hx y hy => by simp at hy; subst hy; exact fun e => hjS (e ▸ hx)⟩
     have hS4 : ∀ i ∈ S ++ [j], i < r.1.2.length := fun i hi => by
      rcases List.mem_append.1 hi with hi | hi
      ·exact hS2 i hi
      ·simp at hi; subst hi; exact hj
     have hlt2 := Xek hS3 hS4
     refine wz2 ?_
     refine ⟨S ++ [j], addK A' r.1.2[j], ⟨hS3, hS4, Xia hA' _, fun x => ?_⟩, by simp at hlt2 ⊢; omega, iI⟩
     rw [Xnj, hmem']
     constructor
     ·rintro ((h | ⟨q, hq, hx⟩) | rfl)
      ·exact .inl h
      ·exact .inr ⟨q, by simp [hq], hx⟩
      ·exact .inr ⟨j, by simp, List.getElem?_eq_getElem hj⟩
     ·rintro (h | ⟨q, hq, hx⟩)
      ·exact .inl (.inl h)
      ·rcases List.mem_append.1 hq with hq | hq
       ·exact .inl (.inr ⟨q, hq, hx⟩)
       ·simp at hq; subst hq
        rw [List.getElem?_eq_getElem hj] at hx
        injection hx with hx
        exact .inr hx.symm
  ·obtain ⟨hgo, hgk⟩ := Xn8 hin'
   refine Wf (Xb4 (M := ofM R) (v := .agg ⟨[.int .i64 0, .int .i64 0, .int .i64 0, .slice none 0 0, .int .i64 0, .string .empty, .string .empty, .int .i64 0]⟩) (is := false) c.parents[i] hkO (by rw [hgo]; rfl) (by rw [hgo]; rfl)) rfl ?_
   (repeat (refine wF ?_; intro _)); refine wX ?_
   exact CT.done ⟨([], 0, false), by rw [Xl2 hpm hin']; rfl, by simp⟩ rfl (fun w ho => (ho.ent : Hold w0 F Γ w))
 ·obtain rfl : i = c.parents.length := by omega
  rw [List.take_length] at hin hmem hmax
  refine wA ?_
  refine Xay (fun (i : Nat) => [(3, .pointer (some ⟨b3, 0, none⟩)), (4, .pointer (some ⟨b4, 0, none⟩)), (5, .pointer (some ⟨b5, 0, none⟩)), (7, .int .i64 g), (8, .map (some ba)), (57, .slice a c.parents.length k), (58, .int .i64 (c.parents.length : Int)), (59, .int .i64 (i : Int))])
   (fun i => .omap bo (ents idV (ofM R)) (ofM R).length :: .omap bk (ents idV (knM R)) (knM R).length :: .own b3 101 [.map (some bo), .map (some bk)] :: .own b4 81 (idc (idC c)) :: .own b5 29 [.int .i64 c.ev.node, .int .i64 c.ev.seq, .int .i64 c.gen, .slice a c.parents.length k, .int .i64 c.op.kind, .string c.op.key, .string c.op.elem, .int .i64 c.op.n] :: .omap ba (ents idV (sety A)) A.length :: .st (Xa8 R) :: .st (sl a k c.parents) :: Γ)
   (fun i => i ≤ c.parents.length ∧ ∀ p ∈ c.parents.take i, p ∉ A) (fun i => c.parents.length - i) 0 ⟨Nat.zero_le _, by simp⟩ iI ?_
  intro i ⟨hi, hfree⟩
  refine wz11 ?_
  refine JC.test (fun hlt => ?_) (fun hge => ?_)
  ·have hlt' : i < c.parents.length := by omega
   refine wz14 ?_
   refine Xcm rfl hlt' ?_
   intro bp op
   (repeat (refine wE ?_; intro _)); refine wA ?_
   refine Wf (Xgc (L := A) c.parents[i] hA) rfl ?_
   refine wz10 ?_
   refine JC.test (fun hy => ?_) (fun hno => ?_)
   ·obtain ⟨q, hq, hqk⟩ := (hmem _).1 (by simpa using hy)
    refine wz5 ?_
    exact CT.done ⟨([], 0, false), by rw [Xf9 (List.getElem_mem hlt') hq hqk]; rfl, by simp⟩ rfl (fun w ho => (ho.ent : Hold w0 F Γ w))
   ·refine wz2 ?_
    refine ⟨i + 1, ⟨by omega, fun p hp => ?_⟩, by omega, iI⟩
    rcases (Xa3 hlt').1 hp with hp | rfl
    ·exact hfree p hp
    ·simpa using hno
  ·obtain rfl : i = c.parents.length := by omega
   rw [List.take_length] at hfree
   have hok : Xn6 (grOf R) c = true := (Xf8 _ _).2 ⟨hin, fun p hp q hq hk => hfree p hp ((hmem p).2 ⟨q, hq, hk⟩)⟩
   refine wA ?_
   refine Xfb (fun (i : Nat) (A' : List ID) => [(3, .pointer (some ⟨b3, 0, none⟩)), (4, .pointer (some ⟨b4, 0, none⟩)), (5, .pointer (some ⟨b5, 0, none⟩)), (7, .int .i64 g), (8, .map (some ba)), (68, .slice a c.parents.length k), (69, .int .i64 (c.parents.length : Int)), (70, .int .i64 (i : Int))])
    (fun i A' => .omap bo (ents idV (ofM R)) (ofM R).length :: .omap bk (ents idV (knM R)) (knM R).length :: .own b3 101 [.map (some bo), .map (some bk)] :: .own b4 81 (idc (idC c)) :: .own b5 29 [.int .i64 c.ev.node, .int .i64 c.ev.seq, .int .i64 c.gen, .slice a c.parents.length k, .int .i64 c.op.kind, .string c.op.key, .string c.op.elem, .int .i64 c.op.n] :: .omap ba (ents idV (sety A')) A'.length :: .st (Xa8 R) :: .st (sl a k c.parents) :: Γ)
    (fun i A' => i ≤ c.parents.length ∧ A'.Nodup ∧ ∀ x, x ∈ A' ↔ x ∈ A ∨ x ∈ c.parents.take i) (fun i _ => c.parents.length - i) 0 A ⟨Nat.zero_le _, hA, by simp⟩ iI ?_
   intro i A' ⟨hi, hA', hmem'⟩
   refine wz11 ?_
   refine JC.test (fun hlt => ?_) (fun hge => ?_)
   ·have hlt' : i < c.parents.length := by omega
    refine wz14 ?_
    refine Xcm rfl hlt' ?_
    intro bp op
    (repeat (refine wE ?_; intro _)); refine wA ?_
    refine Xhc c.parents[i] hA' ?_
    refine wz2 ?_
    refine ⟨i + 1, addK A' c.parents[i], ⟨by omega, Xia hA' _, fun x => ?_⟩, by omega, iI⟩
    rw [Xnj, hmem', Xa3 hlt', or_assoc]
   ·obtain rfl : i = c.parents.length := by omega
    rw [List.take_length] at hmem'
    refine wz3 ?_
    have hkn : Xrn (grOf R) c A' := fun x => by
     rw [hmem', hmem]
     constructor
     ·rintro (⟨q, hq, hx⟩ | h)
      ·exact ⟨q, hq, .inr hx⟩
      ·exact ⟨x, h, .inl rfl⟩
     ·rintro ⟨q, hq, (rfl | hx)⟩
      ·exact .inr hq
      ·exact .inl ⟨q, hq, hx⟩
    have eO : upd (ofM R) (idC c) (.agg ⟨[.int .i64 c.ev.node, .int .i64 c.ev.seq, .int .i64 c.gen, .slice a c.parents.length k, .int .i64 c.op.kind, .string c.op.key, .string c.op.elem, .int .i64 c.op.n]⟩) = ofM (R ++ [((c, A'), (a, k, ba))]) := by
     rw [Xws _ (by rw [Xjq]; exact hnew), Xyj]
    have eK : upd (knM R) (idC c) (.map (some ba)) = knM (R ++ [((c, A'), (a, k, ba))]) := by
     rw [Xws _ (by rw [Xjr]; exact hnew), Xyk]
    refine Xjk [.own b3 101 [.map (some bo), .map (some bk)], .own b4 81 (idc (idC c)), .own b5 29 [.int .i64 c.ev.node, .int .i64 c.ev.seq, .int .i64 c.gen, .slice a c.parents.length k, .int .i64 c.op.kind, .string c.op.key, .string c.op.elem, .int .i64 c.op.n]] mixed ?_
    refine JN.take 0 rfl (by kernel_rfl) rfl Vd rfl rfl ?_
    refine JN.take 1 rfl (by kernel_rfl) rfl Vc rfl rfl ?_
    refine JN.take 2 rfl (by kernel_rfl) rfl Vc rfl rfl ?_
    refine JN.take 3 rfl (by kernel_rfl) rfl Vd rfl rfl ?_
    refine JN.take 4 rfl (by kernel_rfl) rfl Vc rfl rfl ?_
    refine JN.take 5 rfl (by kernel_rfl) rfl Vc rfl rfl ?_
    refine JN.take 6 rfl (by kernel_rfl) rfl Vc rfl rfl ?_
    refine JN.take 7 rfl (by kernel_rfl) rfl Va rfl rfl ?_
    refine JN.op 8 (by kernel_rfl) rfl rfl (Xdx (M := ofM R) (k := idC c) (.inl rfl) hkO (Wd ⟨rfl, iI, ?_⟩))
    refine JN.op 9 (by kernel_rfl) rfl rfl (Xdx (M := knM R) (k := idC c) (.inl rfl) hkK (Wd ⟨rfl, iI, ?_⟩))
    refine JN.nil (by kernel_rfl) ?_
    rw [eO, eK]
    refine wA ?_
    refine CT.done ⟨(A', ba, decide (c.gen = g + 1)), by rw [hok, hmax]; rfl, fun _ => ⟨hA', hkn⟩⟩ rfl (fun w ho => ?_)
    have h1 : Hold _ _ (.omap ba (ents idV (sety A')) A'.length :: .omap bo (ents idV (ofM (R ++ [((c, A'), (a, k, ba))]))) (ofM (R ++ [((c, A'), (a, k, ba))])).length :: .omap bk (ents idV (knM (R ++ [((c, A'), (a, k, ba))]))) (knM (R ++ [((c, A'), (a, k, ba))])).length :: .st (Xa8 R) :: .st (sl a k c.parents) :: Γ) w := ho.ent
    have h2 := h1.pubMap
    have h3 := h2.add (Xuc (S := A') (h2.get (A := Xa8 R)) (h2.get (A := sl a k c.parents)) (h2.get (A := rmap ba (ents idV (sety A')) A'.length)))
    by_cases hb : c.gen = g + 1
    ·rw [if_pos (by simpa using hb)]; exact h3.ent
    ·rw [if_neg (by simpa using hb)]; exact h3.ent
end
end
section
attribute [local irreducible] ents Xaq Xa8
def Xe5 (r s : Row) : Bool := decide (idC r.1.1 ≠ idC s.1.1) && decide (r.1.1.ev.node = s.1.1.ev.node) && (decide (r.1.1.ev.seq = s.1.1.ev.seq) || (decide (s.1.1.ev.seq < r.1.1.ev.seq) && decide (idC s.1.1 ∉ r.1.2)))
def evG (R : List Row) : Bool := R.all fun r => R.all fun s => !Xe5 r s
theorem Xwv (R : List Row) (j : Nat) (h : j < (ofM R).length) : (ofM R)[j] = (idC (R[j]'(by simpa [ofM] using h)).1.1, Xax (R[j]'(by simpa [ofM] using h)).1.1 (R[j]'(by simpa [ofM] using h)).2.1 (R[j]'(by simpa [ofM] using h)).2.2.1) := by simp [ofM]
theorem Xgg (R : List Row) : (ofM R).length = R.length := by simp [ofM]
theorem Xp1 {R : List Row} {r s : Row} (hr : r ∈ R) (hs : s ∈ R) (h : Xe5 r s = true) : evG R = false := by
 rw [← Bool.not_eq_true]
 intro he
 have := List.all_eq_true.1 (List.all_eq_true.1 he r hr) s hs
 rw [h] at this; cases this
theorem Xp2 (bo bk : Nat) (R : List Row) (hn : (cids (Xa0 (grOf R))).Nodup) (hS : ∀ r ∈ R, r.1.2.Nodup)
  (h1 : (rmap bo (ents idV (ofM R)) (ofM R).length).holds F w) (h2 : (rmap bk (ents idV (knM R)) (knM R).length).holds F w) (h3 : (Xa8 R).holds F w) :
  GivesV prog 136 [.agg ⟨[.map (some bo), .map (some bk)]⟩] w F (.bool (evG R)) := by
 have hkK : ((knM R).map (·.1)).Nodup := by rw [Xjr]; exact hn
 refine Xaa func136 rfl ntmps136 rfl rfl [.st (rmap bo (ents idV (ofM R)) (ofM R).length), .st (rmap bk (ents idV (knM R)) (knM R).length), .st (Xa8 R)] (.start3 h1 h2 h3) ?_
 (repeat (refine wE ?_; intro _)); refine wA ?_
 rename_i bg
 refine JR.range (M := ofM R) rfl ?_
 intro r1
 refine wz4 ?_
 refine Xay (fun (S : List Nat) => [(1, .pointer (some ⟨bg, 0, none⟩)), (9, .pointer (some ⟨r1, 0, none⟩))])
  (fun S => [.obj r1 (.mapIter (some bo) (ofM R).length S.toArray (ofM R).length), .own bg 101 [.map (some bo), .map (some bk)], .st (rmap bo (ents idV (ofM R)) (ofM R).length), .st (rmap bk (ents idV (knM R)) (knM R).length), .st (Xa8 R)])
  (fun S => S.Nodup ∧ (∀ j ∈ S, j < (ofM R).length) ∧ ∀ j ∈ S, ∀ hj : j < R.length, ∀ s ∈ R, Xe5 R[j] s = false) (fun S => (ofM R).length - S.length) [] ⟨List.nodup_nil, by simp, by simp⟩ iI ?_
 intro S ⟨hS1, hS2, hok⟩
 refine wz14 ?_
 refine JR.next (M := ofM R) rfl hS2 (fun hall => ?_) (fun j hj hjS => ?_)
 ·have e1 : evG R = true := by
   refine List.all_eq_true.2 fun r hr => List.all_eq_true.2 fun s hs => ?_
   obtain ⟨j, hj, rfl⟩ := List.getElem_of_mem hr
   rw [hok j (hall j (by rw [Xgg]; exact hj)) hj s hs]; rfl
  rw [e1]
  refine wA ?_
  exact CT.dn () rfl
 ·have hjR : j < R.length := by rw [Xgg] at hj; exact hj
  obtain ⟨r, hr⟩ : ∃ r, r = R[j] := ⟨_, rfl⟩
  have hrm : r ∈ R := by rw [hr]; exact List.getElem_mem hjR
  have eg := Xwv R j hj
  rw [← hr] at eg
  have hS3 : (S ++ [j]).Nodup := List.nodup_append.2 ⟨hS1, by simp, fun x hx y hy => by simp at hy; subst hy; exact fun e => hjS (e ▸ hx)⟩
  have hS4 : ∀ i ∈ S ++ [j], i < (ofM R).length := fun i hi => by
   rcases List.mem_append.1 hi with hi | hi
   ·exact hS2 i hi
   ·simp at hi; subst hi; exact hj
  have hlt2 := Xek hS3 hS4
  refine wA ?_
  refine Wf (OpV.entry (M := ofM R) hj) rfl ?_
  refine JO.reslot 12 (.tuple ⟨[idV (idC r.1.1), Xax r.1.1 r.2.1 r.2.2.1]⟩) (by rw [eg]) ?_
  refine JO.more (fun w1 ho => (ho.add (A := sl r.2.1 r.2.2.1 r.1.1.parents) (Xe4 (ho.get (A := Xa8 R)) hrm).1).add (A := rmap r.2.2.2 (ents idV (sety r.1.2)) r.1.2.length) (Xe4 (ho.add (A := sl r.2.1 r.2.2.1 r.1.1.parents) (Xe4 (ho.get (A := Xa8 R)) hrm).1 |>.get (A := Xa8 R)) hrm).2) ?_
  (repeat (refine wE ?_; intro _)); refine wA ?_
  rename_i b3 b4
  refine JR.range (M := ofM R) rfl ?_
  intro r2
  refine wz4 ?_
  refine Xay (fun (S2 : List Nat) => [(1, .pointer (some ⟨bg, 0, none⟩)), (9, .pointer (some ⟨r1, 0, none⟩)), (3, .pointer (some ⟨b3, 0, none⟩)), (4, .pointer (some ⟨b4, 0, none⟩)), (17, .pointer (some ⟨r2, 0, none⟩))])
   (fun S2 => [.obj r2 (.mapIter (some bo) (ofM R).length S2.toArray (ofM R).length), .own b3 81 (idc (idC r.1.1)), .own b4 29 [.int .i64 r.1.1.ev.node, .int .i64 r.1.1.ev.seq, .int .i64 r.1.1.gen, .slice r.2.1 r.1.1.parents.length r.2.2.1, .int .i64 r.1.1.op.kind, .string r.1.1.op.key, .string r.1.1.op.elem, .int .i64 r.1.1.op.n],
    .obj r1 (.mapIter (some bo) (ofM R).length (S ++ [j]).toArray (ofM R).length), .own bg 101 [.map (some bo), .map (some bk)], .st (rmap r.2.2.2 (ents idV (sety r.1.2)) r.1.2.length), .st (rmap bo (ents idV (ofM R)) (ofM R).length), .st (rmap bk (ents idV (knM R)) (knM R).length), .st (Xa8 R)])
   (fun S2 => S2.Nodup ∧ (∀ j ∈ S2, j < (ofM R).length) ∧ ∀ j ∈ S2, ∀ hj : j < R.length, Xe5 r R[j] = false) (fun S2 => (ofM R).length - S2.length) [] ⟨List.nodup_nil, by simp, by simp⟩ iI ?_
  intro S2 ⟨hT1, hT2, hok2⟩
  refine wz14 ?_
  refine JR.next (M := ofM R) rfl hT2 (fun hall => ?_) (fun i hi hiS => ?_)
  ·refine wA ?_
   refine ⟨S ++ [j], ⟨hS3, hS4, fun x hx hxR s hs => ?_⟩, by simp at hlt2 ⊢; omega, iI⟩
   rcases List.mem_append.1 hx with hx | hx
   ·exact hok x hx hxR s hs
   ·simp only [List.mem_singleton] at hx
    subst hx
    obtain ⟨y, hy, rfl⟩ := List.getElem_of_mem hs
    rw [← hr]
    exact hok2 y (hall y (by rw [Xgg]; exact hy)) hy
  ·have hiR : i < R.length := by rw [Xgg] at hi; exact hi
   obtain ⟨s, hs⟩ : ∃ s, s = R[i] := ⟨_, rfl⟩
   have hsm : s ∈ R := by rw [hs]; exact List.getElem_mem hiR
   have eg2 := Xwv R i hi
   rw [← hs] at eg2
   have hT3 : (S2 ++ [i]).Nodup := List.nodup_append.2 ⟨hT1, by simp, fun x hx y hy => by simp at hy; subst hy; exact fun e => hiS (e ▸ hx)⟩
   have hT4 : ∀ x ∈ S2 ++ [i], x < (ofM R).length := fun x hx => by
    rcases List.mem_append.1 hx with hx | hx
    ·exact hT2 x hx
    ·simp at hx; subst hx; exact hi
   have hlt3 := Xek hT3 hT4
   have next : Xe5 r s = false → ∀ x ∈ S2 ++ [i], ∀ hx : x < R.length, Xe5 r R[x] = false := fun hb x hx hxR => by
    rcases List.mem_append.1 hx with hx | hx
    ·exact hok2 x hx hxR
    ·simp only [List.mem_singleton] at hx; subst hx; rw [← hs]; exact hb
   refine wA ?_
   refine Wf (OpV.entry (M := ofM R) hi) rfl ?_
   refine JO.reslot 20 (.tuple ⟨[idV (idC s.1.1), Xax s.1.1 s.2.1 s.2.2.1]⟩) (by rw [eg2]) ?_
   refine JO.more (fun w1 ho => ho.add (A := sl s.2.1 s.2.2.1 s.1.1.parents) (Xe4 (ho.get (A := Xa8 R)) hsm).1) ?_
   (repeat (refine wE ?_; intro _)); refine wA ?_
   refine JO.test 26 (fun he => ?_) (fun he => ?_)
   ·have hb : Xe5 r s = false := by simp [Xe5, he]
    refine wz12 ?_
    exact ⟨S2 ++ [i], ⟨hT3, hT4, next hb⟩, by simp at hlt3 ⊢; omega, iI⟩
   refine wX ?_
   refine JC.test (fun hnd => ?_) (fun hnd => ?_)
   ·have hb : Xe5 r s = false := by simp only [ne_eq] at hnd; simp [Xe5, hnd]
    refine wz3 ?_
    exact ⟨S2 ++ [i], ⟨hT3, hT4, next hb⟩, by simp at hlt3 ⊢; omega, iI⟩
   have hnd' : r.1.1.ev.node = s.1.1.ev.node := by simpa using hnd
   refine wz14 ?_
   have hgk : Xbj (knM R) (idC r.1.1) = some (.map (some r.2.2.2)) := by
    obtain ⟨q, hq, hqe, _, hqk, _⟩ := Xsv hn (p := idC r.1.1) (by rw [Xms]; exact List.mem_map.2 ⟨r, hrm, rfl⟩)
    have : q = r := by
     obtain ⟨x, hx, hxq⟩ := List.getElem_of_mem hq
     obtain ⟨y, hy, hyr⟩ := List.getElem_of_mem hrm
     rw [Xms] at hn
     rcases Nat.lt_trichotomy x y with h | h | h
     ·have := List.pairwise_iff_getElem.1 hn x y (by simpa using hx) (by simpa using hy) h
      simp [hxq, hyr, hqe] at this
     ·subst h; rw [← hxq, ← hyr]
     ·have := List.pairwise_iff_getElem.1 hn y x (by simpa using hy) (by simpa using hx) h
      simp [hxq, hyr, hqe] at this
    rw [← this]; rw [this] at hqk ⊢; exact hqk
   refine Xb0 mixed (by kernel_rfl) ?_
   refine wY ?_
   by_cases hsq : r.1.1.ev.seq = s.1.1.ev.seq
   ·have hb : Xe5 r s = true := by simp [Xe5, he, hnd', hsq]
    refine JQ.reslot 42 (.bool true) (by simp [hsq]) ?_
    refine wY ?_
    refine wz8 ?_
    rw [Xp1 hrm hsm hb]
    exact CT.dn () rfl
   refine JQ.reslot 42 (.bool false) (by simp [hsq]) ?_
   refine wY ?_
   by_cases hlt : s.1.1.ev.seq < r.1.1.ev.seq
   ·refine JQ.reslot 50 (.bool true) (by simp [hlt]) ?_
    refine wY ?_
    refine Wy rfl (Xbt (M := knM R) (v := .map (some r.2.2.2)) (idC r.1.1) hkK (by rw [hgk]; rfl)) rfl ?_
    refine wY ?_
    refine Wy rfl (Xgc (L := r.1.2) (idC s.1.1) (hS r hrm)) rfl ?_
    refine wY ?_
    refine wz13 ?_
    refine JC.test (fun hk => ?_) (fun hk => ?_)
    ·have hb : Xe5 r s = true := by
      have hk' : idC s.1.1 ∉ r.1.2 := by simpa using hk
      simp [Xe5, he, hnd', hlt, hk']
     refine wz5 ?_
     rw [Xp1 hrm hsm hb]
     exact CT.dn () rfl
    ·have hb : Xe5 r s = false := by
      have hk' : idC s.1.1 ∈ r.1.2 := by simpa using hk
      simp [Xe5, hsq, hk']
     refine wz2 ?_
     exact ⟨S2 ++ [i], ⟨hT3, hT4, next hb⟩, by simp at hlt3 ⊢; omega, iI⟩
   ·have hb : Xe5 r s = false := by simp [Xe5, hsq, hlt]
    refine JQ.reslot 50 (.bool false) (by simp [hlt]) ?_
    refine wY ?_
    refine wz2 ?_
    exact ⟨S2 ++ [i], ⟨hT3, hT4, next hb⟩, by simp at hlt3 ⊢; omega, iI⟩
end
def cmpI (a b : Int) : Int := if a < b then -1 else if b < a then 1 else 0
theorem Xww [Dr] (a : Int) : GivesV prog 139 [.int .i64 a] w F (.bool false) := by
 refine Xaa func139 rfl ntmps139 rfl rfl [] (.start w F) ?_
 refine wA ?_
 exact CT.dn () (by simp [Xac])
theorem Xk3 [Dr] (a b : Int) : GivesV prog 72 [.int .i64 a, .int .i64 b] w F (.int .i64 (cmpI a b)) := by
 refine Xaa func72 rfl ntmps72 rfl rfl [] (.start w F) ?_
 refine wz10 ?_
 refine JR.callV rfl (fun w1 hw => Xww w1 _ a) ?_
 refine wz10 ?_
 refine JR.callV rfl (fun w1 hw => Xww w1 _ b) ?_
 refine wz2 ?_
 refine JC.test (fun h => ?_) (fun h => ?_)
 ·have e1 : cmpI a b = -1 := by simp [cmpI, h]
  rw [e1]
  refine wz9 ?_
  exact CT.dn () rfl
 refine wA ?_
 refine JC.test (fun h' => ?_) (fun h' => ?_)
 ·have e1 : cmpI a b = 1 := by simp [cmpI, h, h']
  rw [e1]
  refine wz9 ?_
  exact CT.dn () rfl
 ·have e1 : cmpI a b = 0 := by simp [cmpI, h, h']
  rw [e1]
  refine wz1 ?_
  exact CT.dn () rfl
def orL : List Int → Int
 | [] => 0
 | x :: l => if x ≠ 0 then x else orL l
theorem Xsw (L : List Int) (k : Nat) (hk : k ≤ L.length) (h : ∀ j (hj : j < L.length), j < k → L[j] = 0) : orL L = orL (L.drop k) := by
 induction k generalizing L with
 | zero => rfl
 | succ k ih =>
  cases L with
  | nil => simp at hk
  | cons x L =>
   have h0 : x = 0 := h 0 (by simp) (by omega)
   have := ih L (by simpa using hk) (fun j hj hjk => h (j + 1) (by simpa using hj) (by omega))
   simp [orL, h0, this]
theorem X1o [Dr] (a : Option Addr) (k : Nat) (L : List Int) (h : (sl a k L).holds F w) : GivesV prog 71 [.slice a L.length k] w F (.int .i64 (orL L)) := by
 have hL : L.length < 9223372036854775807 := by have := h.2.2.1; simp only [lim] at this; omega
 refine Xaa func71 rfl ntmps71 rfl rfl [.st (sl a k L)] (.start1 h) ?_
 refine wz4 ?_
 refine Xay (fun i : Nat => [(3, .int .i64 0), (6, .slice a L.length k), (7, .int .i64 (L.length : Int)), (8, .int .i64 (i : Int))]) (fun i => [.st (sl a k L)])
  (fun i => i ≤ L.length ∧ ∀ j (hj : j < L.length), j < i → L[j] = 0) (fun i => L.length - i) 0 ⟨Nat.zero_le _, fun j hj h => by omega⟩ iI ?_
 intro i ⟨hi, hz⟩
 refine wz11 ?_
 refine JC.test (fun hlt => ?_) (fun hge => ?_)
 ·have hlt' : i < L.length := by omega
  refine wz14 ?_
  refine Xjx rfl hlt' ?_
  intro b o
  refine wA ?_
  refine JC.test (fun h0 => ?_) (fun h0 => ?_)
  ·have e1 : orL L = L[i] := by
    rw [Xsw L i hi hz, List.drop_eq_getElem_cons hlt']
    simp [orL, h0]
   rw [e1]
   refine wz5 ?_
   exact CT.dn () rfl
  ·refine wz2 ?_
   refine ⟨i + 1, ⟨by omega, fun j hj hji => ?_⟩, by omega, iI⟩
   by_cases hj' : j = i
   ·subst hj'; simpa using h0
   ·exact hz j hj (by omega)
 ·have e1 : orL L = 0 := by rw [Xsw L i hi hz, List.drop_of_length_le (by omega)]; rfl
  rw [e1]
  refine wz3 ?_
  exact CT.dn () rfl
theorem X0i [Dr] (w : World) (F : Nat → Prop) (a : Option Addr) (k bl : Nat) (L : List Commit) (i j : Nat) (hi : i < L.length) (hj : j < L.length) (h : (sl a k L).holds F w) (hb : (ro bl 0 [.slice a L.length k]).holds F w) :
  GivesV prog 134 [.int .i64 (i : Int), .int .i64 (j : Int), .pointer (some ⟨bl, 0, none⟩)] w F (.int .i64 (cmpI L[i].gen L[j].gen)) := by
 refine Xaa func134 rfl ntmps134 rfl rfl [.st (sl a k L), .st (ro bl 0 [.slice a L.length k])] (.start2 h hb) ?_
 refine wz10 ?_
 refine Xct (L := L) (.slice a L.length k) i hi ?_
 intro b1 o1 p1 q1
 refine Xct (L := L) (.slice a L.length k) j hj ?_
 intro b2 o2 p2 q2
 refine Xb0 mixed (by kernel_rfl) ?_
 refine wQ ?_
 refine JQ.call rfl rfl (fun w1 hw => Xk3 w1 _ (L[i]).gen (L[j]).gen) ?_
 refine wQ ?_
 refine wz13 ?_
 exact CT.dn () rfl
theorem Hold.start4 [Dr] {A B C D : Asn} {w : World} {F : Nat → Prop} (h : A.holds F w) (h2 : B.holds F w) (h3 : C.holds F w) (h4 : D.holds F w) : Hold w F [.st A, .st B, .st C, .st D] w :=
 (Hold.start3 h2 h3 h4).add (Asn.mono _ _ _ _ (fun k hk => ⟨.inl hk, by simp [free, Fact.owns]⟩) h)
theorem X0j {w : World} {b : Nat} {L : List Int} {t : TypeId} (h : w.heap[b]? = some (.cells (L.map (fun n => Value.int .i64 n)).toArray t (0, 0))) (hmax : L.length ≤ 4096) : (sl (some ⟨b, 0, none⟩) L.length L).holds (fun _ => True) w := by
 refine ⟨by omega, by simp [maxLen]; omega, by simp only [lim]; omega, fun hne => ⟨b, 0, rfl, trivial, (Array.getElem?_eq_some_iff.1 h).1, fun i hi => ⟨(), ?_, by simp [Cell.facts]⟩⟩⟩
 intro j v hj
 simp only [Cell.cells, List.getElem?_singleton] at hj
 split at hj
 ·rename_i h0; subst h0
  injection hj with hj
  subst hj
  rw [cell_of_row w b _ _ _ _ h]
  simp [Cell.sz, hi]
 ·cases hj
theorem Xrp [Dr] (w : World) (F : Nat → Prop) (a c : Option Addr) (k m bl ba : Nat) (L : List Commit) (I : List ID) (i j : Nat) (hi : i < L.length) (hj : j < L.length) (hi' : i < I.length) (hj' : j < I.length)
  (h : (sl a k L).holds F w) (hb : (ro bl 0 [.slice a L.length k]).holds F w) (h' : (sl c m I).holds F w) (hb' : (ro ba 0 [.slice c I.length m]).holds F w) :
  GivesV prog 70 [.int .i64 (i : Int), .int .i64 (j : Int), .pointer (some ⟨bl, 0, none⟩), .pointer (some ⟨ba, 0, none⟩)] w F (.int .i64 (orL [cmpI L[i].gen L[j].gen, Xfg I[i] I[j]])) := by
 refine Xaa func70 rfl ntmps70 rfl rfl [.st (sl a k L), .st (ro bl 0 [.slice a L.length k]), .st (sl c m I), .st (ro ba 0 [.slice c I.length m])] (.start4 h hb h' hb') ?_
 refine wz10 ?_
 refine Xct (L := L) (.slice a L.length k) i hi ?_
 intro b1 o1 p1 q1
 refine Xct (L := L) (.slice a L.length k) j hj ?_
 intro b2 o2 p2 q2
 refine Xb2 (L := I) (.slice c I.length m) i hi' ?_
 intro b3 o3
 refine Xb2 (L := I) (.slice c I.length m) j hj' ?_
 intro b4 o4
 refine Xch 20 mixed ?_
 refine JM.tv 0 ?_
 refine JM.tv 1 ?_
 refine JM.tv 2 ?_
 refine JM.tv 3 ?_
 refine JM.tv 4 ?_
 refine JM.tv 5 ?_
 refine JM.tv 6 ?_
 refine JM.tv 7 ?_
 refine JM.tv 8 ?_
 refine JM.tv 9 ?_
 refine JM.takeCall 10 rfl (by kernel_rfl) rfl (fun w1 hw => Xk3 w1 _ (L[i]).gen (L[j]).gen) rfl rfl ?_
 refine JM.tv 11 ?_
 refine JM.tv 12 ?_
 refine JM.tv 13 ?_
 refine JM.take 14 rfl (by kernel_rfl) rfl (Xb3 (by decide)) rfl rfl ?_
 refine JM.tv 15 ?_
 refine JM.tv 16 ?_
 refine JM.tv 17 ?_
 refine JM.take 18 rfl (by kernel_rfl) rfl (Xb3 (by decide)) rfl rfl ?_
 refine JM.takeCall (v := .int .i64 (Xfg I[i] I[j])) 19 rfl (by kernel_rfl) rfl (fun w1 hw => ?_) rfl rfl ?_
 ·have e1 := At.sl_bytes (Γ := [.st (ro b3 o3 (idc I[i]))]) (b := b3) iI rfl hw.ent (I[i]).2 (by decide)
  have e2 := At.sl_bytes (Γ := [.st (ro b4 o4 (idc I[j]))]) (b := b4) iI rfl hw.ent (I[j]).2 (by decide)
  have := (Xhk w1 (fun _ => True) (some ⟨b3, o3, none⟩) (some ⟨b4, o4, none⟩) 32 32 (I[i]).1 (I[j]).1 e1 e2)
  rw [(I[i]).2, (I[j]).2] at this
  exact this.any
 refine Xau 20 (by kernel_rfl) rfl rfl rfl (Ww rfl ⟨rfl, by decide, by decide, by decide⟩ fun lb => Wd ⟨rfl, ?_⟩)
 refine Xau 21 (by kernel_rfl) rfl rfl rfl (JR.callV (v := .int .i64 (orL [cmpI L[i].gen L[j].gen, Xfg I[i] I[j]])) rfl (fun w1 hw => ?_) (Wd ⟨rfl, ?_⟩))
 ·have hb := hw.sat (.own lb 3 [.int .i64 (cmpI L[i].gen L[j].gen), .int .i64 (Xfg I[i] I[j])]) (by simp)
  exact (X1o w1 (fun _ => True) _ 2 [cmpI L[i].gen L[j].gen, Xfg I[i] I[j]] (X0j (L := [cmpI L[i].gen L[j].gen, Xfg I[i] I[j]]) hb (by simp))).any
 refine Xau 22 (by kernel_rfl) rfl rfl rfl (Wf Vb rfl (Wd ⟨rfl, ?_⟩))
 refine JM.nil (by kernel_rfl) ?_
 refine wz13 ?_
 exact CT.dn () rfl
end
section
open Go Go.RowKit Go.Sort Go.Shelf
theorem Xrq [dr : Dr] (hdr : Dr.on) {w w' : World} (h : Bel w.heap.size w w') : ∃ q os, w' = grow (w.drewN q) os := by
 refine ⟨w'.drawn - w.drawn, w'.heap.extract w.heap.size, ?_⟩
 have h1 := h.drawn hdr
 have h2 := h.os; have h3 := h.tape; have h4 := h.output
 have hh : w.heap ++ w'.heap.extract w.heap.size = w'.heap := by
  apply Array.ext_getElem?
  intro i
  by_cases hi : i < w.heap.size
  ·rw [Array.getElem?_append_left hi]; exact (h.block i hi).symm
  ·rw [Array.getElem?_append_right (by omega), Array.getElem?_extract]
   have := h.size
   by_cases hi' : i < w'.heap.size
   ·rw [if_pos (by omega)]; congr 1; omega
   ·rw [if_neg (by omega), Array.getElem?_eq_none (by omega)]
 cases w; cases w'
 simp only [World.drewN, grow] at *
 subst h2 h3 h4
 simp only [hh]
 congr 1
 omega
abbrev X0k {m : Nat} (cf : Fin (m + 1) → Fin (m + 1) → Int) := { O : List (Fin (m + 1)) // O.Perm (List.finRange (m + 1)) ∧ O.Pairwise (fun i j => Go.Proofs.ltOf cf j i = false) }
theorem Xrr [Dr] {P : Program} {ρ : Ren} (Ly : Go.Proofs.SlLaysF.n6 P ρ) {m : Nat} (cf : Fin (m + 1) → Fin (m + 1) → Int) (hO : SWO (Go.Proofs.ltOf cf)) (g : FuncId) (caps : List Value) [eg : Body P g] {w0 w : World} {F : Nat → Prop} {Γ : List Fact} {b c : Nat} {el : TypeId}
  (hm : m < 1000000) (ho : Hold w0 F (.own b el ((List.range (m + 1)).map natV) :: Γ) w)
  (hc : ∀ W : World, (∀ A : Asn, A.holds (fp w0 F (.own b el ((List.range (m + 1)).map natV) :: Γ)) w → A.holds (fp w0 F (.own b el ((List.range (m + 1)).map natV) :: Γ)) W) →
   ∀ x y : Fin (m + 1), @GivesV ⟨True⟩ P g ([natV x.1, natV y.1] ++ caps) W (fp w0 F (.own b el ((List.range (m + 1)).map natV) :: Γ)) (.int .i64 (cf x y))) :
  Calls P (ρ.f 6) ⟨[.slice (some ⟨b, 0, none⟩) (m + 1) c, .func (.func g) ⟨[]⟩ ⟨caps⟩]⟩ w fun x w' => ∃ O : X0k cf, x = .returned (.tuple ⟨[]⟩) ∧ Hold w0 F (.own b el (O.1.map fun i => natV i.1) :: Γ) w' := by
 have hw : w.heap[b]? = some (.cells ((List.range (m + 1)).map natV).toArray el (0, 0)) := ho.sat (.own b el _) (by simp)
 have hlt : b < w.heap.size := (Array.getElem?_eq_some_iff.1 hw).1
 obtain ⟨enc, henc⟩ : ∃ enc : Fin (m + 1) → Value, enc = fun i => natV i.1 := ⟨_, rfl⟩
 obtain ⟨d, hd⟩ : ∃ d : Array (Fin (m + 1)), d = (List.finRange (m + 1)).toArray := ⟨_, rfl⟩
 have hds : d.size = m + 1 := by rw [hd]; simp
 have hdg : ∀ j, j < m + 1 → enc d[j]! = natV j := by
  intro j hj
  rw [henc, hd]
  simp [hj]
 have hH : Holds enc w b 0 d := by
  intro j hj
  rw [hds] at hj
  rw [hdg j hj]
  constructor
  ·rw [Nat.zero_add, cell_of_row w b j _ el _ hw]
   simp [hj]
  ·simp [World.frozen?, hw]
 have h1 : Go.Proofs.OneCell enc := fun x => by rw [henc]; rfl
 have hcmp : Go.Proofs.CmpLays1 P g ⟨caps⟩ enc cf b 0 d.size w := by
  intro q os dk hdk x y
  have hold : ∀ k, k < w.heap.size → k ≠ b → (Go.Proofs.sortWorld enc w b 0 q dk os).heap[k]? = w.heap[k]? := by
   intro k hk hkb
   unfold Go.Proofs.sortWorld
   rw [heap_grow_old]
   ·simp [Go.Sort.putRow, Go.Sort.mapBlock, Array.getElem?_modify, Ne.symm hkb, Go.Sort.ahead]
   ·simp [Go.Sort.putRow, Go.Sort.mapBlock, Go.Sort.ahead]; exact hk
  have hx := hc (Go.Proofs.sortWorld enc w b 0 q dk os) (fun A hA => by
   have hA2 := A.within _ _ hA
   refine A.mono _ _ _ (fun k hk => hk.1) (A.frame _ _ _ (fun k hk => ?_) hA2)
   exact hold k hk.2 (fun e => hk.1.2 (.own b el ((List.range (m + 1)).map natV)) (by simp) e)) x y
  have e1 : (#[enc x, enc y] ++ (⟨caps⟩ : Array Value)) = ⟨[natV x.1, natV y.1] ++ caps⟩ := by rw [henc]; apply Array.ext'; simp
  rw [e1]
  refine Calls.mono hx ?_
  rintro e w' ⟨_, he, hb, _⟩
  exact ⟨he, Xrq (dr := ⟨True⟩) trivial hb⟩
 have hs := Go.Proofs.Any.slices_SortFunc Ly enc h1 cf hO g ⟨caps⟩ b 0 c d w eg.ok hcmp hH hlt (by rw [hds]; omega)
 rw [hds] at hs
 refine Calls.mono hs ?_
 rintro x w' ⟨hx, d', q, os, hp, hsrt, rfl⟩
 obtain ⟨hp1, _, hp3⟩ := hp
 have hd's : d'.size = m + 1 := by rw [hp1, hds]
 have hperm : d'.toList.Perm (List.finRange (m + 1)) := by
  have e1 : (d'.extract 0 (m + 1)).toList = d'.toList := by rw [Array.extract_eq_self_of_le (by omega)]
  have e2 : (d.extract 0 (m + 1)).toList = d.toList := by rw [Array.extract_eq_self_of_le (by omega)]
  rw [e1, e2] at hp3
  rw [hd] at hp3
  exact hp3
 have hpair : d'.toList.Pairwise (fun i j => Go.Proofs.ltOf cf j i = false) := by
  rw [List.pairwise_iff_getElem]
  intro i j hi hj hij
  have hi' : i < d'.size := by simpa using hi
  have hj' : j < d'.size := by simpa using hj
  have := hsrt i j (Nat.zero_le _) hij (by omega)
  rw [getElem!_pos d' j hj', getElem!_pos d' i hi'] at this
  simpa using this
 refine ⟨⟨d'.toList, hperm, hpair⟩, hx, ?_⟩
 have hrow : (Go.Sort.putRow enc (Go.Sort.ahead w q) b 0 d').heap[b]? = some (.cells (d'.toList.map fun i => natV i.1).toArray el (0, 0)) := by
  have : (Go.Sort.ahead w q).heap[b]? = some (.cells ((List.range (m + 1)).map natV).toArray el (0, 0)) := hw
  simp only [Go.Sort.putRow, Go.Sort.mapBlock, Array.getElem?_modify, this]
  simp only [if_true, Option.map_some, Go.Sort.onCells]
  congr 2
  apply Array.ext_getElem?
  intro k
  simp only [Go.Sort.putCells, Array.getElem?_mapIdx]
  by_cases hk : k < m + 1
  ·have hk' : k < d'.size := by omega
   simp [hk, hk', henc]
  ·have hk' : ¬ k < d'.size := by omega
   simp [hk, hk']
 have h2 : Hold w0 F (.own b el (d'.toList.map fun i => natV i.1) :: Γ) (Go.Sort.putRow enc (Go.Sort.ahead w q) b 0 d') :=
  ho.swap (b := b) (fun _ => Iff.rfl) (fun _ => Iff.rfl) rfl rfl rfl (by simp [Go.Sort.putRow, Go.Sort.mapBlock, Go.Sort.ahead])
   (fun k hk => by simp [Go.Sort.putRow, Go.Sort.mapBlock, Array.getElem?_modify, Ne.symm hk, Go.Sort.ahead]) hrow (hdr := Nat.le_add_right _ _)
 exact h2.of_below ⟨rfl, rfl, rfl, by simp [Go.Proofs.sortWorld, grow, Go.Sort.putRow, Go.Sort.mapBlock, Go.Sort.ahead], fun k hk => heap_grow_old _ _ hk, fun _ => Nat.le_refl _⟩
abbrev Xwx (cf : Nat → Nat → Int) (n : Nat) := { O : List Nat // O.Perm (List.range n) ∧ O.Pairwise (fun i j => ¬ cf j i < 0) }
theorem Xmt [Dr] {P : Program} {ρ : Ren} (Ly : Go.Proofs.SlLaysF.n6 P ρ) (cf : Nat → Nat → Int) (hO : SWO (Go.Proofs.ltOf cf)) (g : FuncId) (caps : List Value) [eg : Body P g] {w0 w : World} {F : Nat → Prop} {Γ : List Fact} {b c n : Nat} {el : TypeId}
  (hm : n ≤ 1000000) (ho : Hold w0 F (.own b el ((List.range n).map natV) :: Γ) w)
  (hc : ∀ W : World, (∀ A : Asn, A.holds (fp w0 F (.own b el ((List.range n).map natV) :: Γ)) w → A.holds (fp w0 F (.own b el ((List.range n).map natV) :: Γ)) W) →
   ∀ x y : Nat, x < n → y < n → @GivesV ⟨True⟩ P g ([natV x, natV y] ++ caps) W (fp w0 F (.own b el ((List.range n).map natV) :: Γ)) (.int .i64 (cf x y))) :
  Calls P (ρ.f 6) ⟨[.slice (some ⟨b, 0, none⟩) n c, .func (.func g) ⟨[]⟩ ⟨caps⟩]⟩ w fun x w' => ∃ O : Xwx cf n, x = .returned (.tuple ⟨[]⟩) ∧ Hold w0 F (.own b el (O.1.map natV) :: Γ) w' := by
 cases n with
 | zero =>
  refine Calls.mono (Go.Proofs.AnyF.slices_SortFunc_none (P := P) (ρ := ρ) { Ly with } (some ⟨b, 0, none⟩) c _ w) ?_
  rintro x w' ⟨hx, rfl⟩
  exact ⟨⟨[], by simp, by simp⟩, hx, ho⟩
 | succ m =>
  have := Xrr Ly (m := m) (c := c) (fun x y => cf x.1 y.1) ⟨fun x => hO.irrefl x.1, fun x y z h1 h2 => hO.trans x.1 y.1 z.1 h1 h2, fun x y z h1 h2 => hO.ntrans x.1 y.1 z.1 h1 h2⟩ g caps (by omega) ho (fun W hW x y => hc W hW x.1 y.1 x.2 y.2)
  refine Calls.mono this ?_
  rintro x w' ⟨O, hx, hO'⟩
  refine ⟨⟨O.1.map (·.1), ?_, ?_⟩, hx, by rw [List.map_map]; exact hO'⟩
  ·have := O.2.1.map (·.1)
   have e : (List.finRange (m + 1)).map (fun x => x.1) = List.range (m + 1) := by
    apply List.ext_getElem
    ·simp
    ·intro i h1 h2; simp
   rwa [e] at this
  ·rw [List.pairwise_map]
   refine O.2.2.imp ?_
   intro i j h
   simpa [Go.Proofs.ltOf] using h
end
def Xrs : Go.Shelf.Ren := ⟨fun | 6 => 69 | 14 => 137 | 15 => 138 | 20 => 189 | 21 => 190 | 22 => 191 | 23 => 192 | 24 => 193 | 25 => 194 | 26 => 195 | 27 => 196 | 28 => 197 | 29 => 198 | 46 => 238 | 47 => 239 | 48 => 240 | 49 => 241 | 50 => 242 | 57 => 258 | n => n, fun | 22 => 45 | 24 => 3 | 25 => 106 | 39 => 166 | 45 => 211 | 46 => 212 | 50 => 119 | 53 => 62 | 55 => 144 | 66 => 237 | 70 => 240 | 76 => 253 | 77 => 254 | n => n, fun | n => n⟩
open Go.Shelf Go.Proofs in
theorem Xwy : SlLaysF.n6 prog Xrs where
 mixed := by kernel_rfl
 f6 := ⟨ "slices.SortFunc[[]int,int]", by decide, func69.trans (congrArg some (by kernel_rfl))⟩
 f14 := ⟨ "slices.pdqsortCmpFunc[int]", by decide, func137.trans (congrArg some (by kernel_rfl))⟩
 f15 := func138.trans (congrArg some (by kernel_rfl))
 f20 := ⟨ "slices.insertionSortCmpFunc[int]", by decide, func189.trans (congrArg some (by kernel_rfl))⟩
 f21 := ⟨ "slices.heapSortCmpFunc[int]", by decide, func190.trans (congrArg some (by kernel_rfl))⟩
 f22 := ⟨ "slices.breakPatternsCmpFunc[int]", by decide, func191.trans (congrArg some (by kernel_rfl))⟩
 f23 := ⟨ "slices.choosePivotCmpFunc[int]", by decide, func192.trans (congrArg some (by kernel_rfl))⟩
 f24 := ⟨ "slices.reverseRangeCmpFunc[int]", by decide, func193.trans (congrArg some (by kernel_rfl))⟩
 f25 := ⟨ "slices.partialInsertionSortCmpFunc[int]", by decide, func194.trans (congrArg some (by kernel_rfl))⟩
 f26 := ⟨ "slices.partitionEqualCmpFunc[int]", by decide, func195.trans (congrArg some (by kernel_rfl))⟩
 f27 := ⟨ "slices.partitionCmpFunc[int]", by decide, func196.trans (congrArg some (by kernel_rfl))⟩
 f28 := func197.trans (congrArg some (by kernel_rfl))
 f29 := func198.trans (congrArg some (by kernel_rfl))
 f46 := ⟨ "slices.siftDownCmpFunc[int]", by decide, func238.trans (congrArg some (by kernel_rfl))⟩
 f47 := func239.trans (congrArg some (by kernel_rfl))
 f48 := func240.trans (congrArg some (by kernel_rfl))
 f49 := ⟨ "slices.medianAdjacentCmpFunc[int]", by decide, func241.trans (congrArg some (by kernel_rfl))⟩
 f50 := ⟨ "slices.medianCmpFunc[int]", by decide, func242.trans (congrArg some (by kernel_rfl))⟩
 f57 := ⟨ "slices.order2CmpFunc[int]", by decide, func258.trans (congrArg some (by kernel_rfl))⟩
 t0 := underlying0
 a0 := Tryz.isAgg0
 z0 := Tryz.sizeOf0
 v0 := Tryz.zeroValue0
 t3 := underlying3
 a3 := Tryz.isAgg3
 z3 := Tryz.sizeOf3
 v3 := Tryz.zeroValue3
 t4 := underlying4
 a4 := Tryz.isAgg4
 z4 := Tryz.sizeOf4
 v4 := Tryz.zeroValue4
 t5 := underlying5
 a5 := Tryz.isAgg5
 z5 := Tryz.sizeOf5
 v5 := Tryz.zeroValue5
 t9 := underlying9
 a9 := Tryz.isAgg9
 z9 := Tryz.sizeOf9
 v9 := Tryz.zeroValue9
 t22 := underlying45
 a22 := Tryz.isAgg45
 z22 := Tryz.sizeOf45
 v22 := Tryz.zeroValue45
 a24 := Tryz.isAgg3
 z24 := Tryz.sizeOf3
 t25 := underlying106
 a25 := Tryz.isAgg106
 z25 := Tryz.sizeOf106
 v25 := Tryz.zeroValue106
 t39 := underlying166
 a39 := Tryz.isAgg166
 z39 := Tryz.sizeOf166
 v39 := Tryz.zeroValue166
 t45 := underlying211
 a45 := Tryz.isAgg211
 z45 := Tryz.sizeOf211
 v45 := Tryz.zeroValue211
 t46 := underlying212
 a46 := Tryz.isAgg212
 z46 := Tryz.sizeOf212
 v46 := Tryz.zeroValue212
 t50 := underlying119
 a50 := Tryz.isAgg119
 z50 := Tryz.sizeOf119
 v50 := Tryz.zeroValue119
 t53 := underlying62
 a53 := Tryz.isAgg62
 z53 := Tryz.sizeOf62
 v53 := Tryz.zeroValue62
 t55 := underlying144
 a55 := Tryz.isAgg144
 z55 := Tryz.sizeOf144
 v55 := Tryz.zeroValue144
 t66 := underlying237
 a66 := Tryz.isAgg237
 z66 := Tryz.sizeOf237
 v66 := Tryz.zeroValue237
 t70 := underlying240
 a70 := Tryz.isAgg240
 z70 := Tryz.sizeOf240
 v70 := Tryz.zeroValue240
 t76 := underlying253
 a76 := Tryz.isAgg253
 z76 := Tryz.sizeOf253
 v76 := Tryz.zeroValue253
 t77 := underlying254
 a77 := Tryz.isAgg254
 z77 := Tryz.sizeOf254
 v77 := Tryz.zeroValue254
section
attribute [local irreducible] JC JO JR JQ andThen inBlock OpV Gives Xae JM JS
section
attribute [local irreducible] ents Xaq Xa8
theorem X0l {R : List Row} (hb : BuiltR (grOf R)) : evG R = true ↔ ∀ c ∈ Xa0 (grOf R), ∀ d ∈ Xa0 (grOf R), evOk (Xa0 (grOf R)) c d := by
 have hk : ∀ r ∈ R, ∀ x, x ∈ r.1.2 ↔ Xbz (Xa0 (grOf R)) (idC r.1.1) x := by
  intro r hr x
  have hg : r.1 ∈ grOf R := List.mem_map.2 ⟨r, hr, rfl⟩
  have h1 := Xij hb.nodup hg
  rw [← h1]
  exact hb.known _ (Xai.2 ⟨r.1.1, by rw [Xht]; exact List.mem_map.2 ⟨r, hr, rfl⟩, rfl⟩) x
 have hn : ∀ c, c ∈ Xa0 (grOf R) ↔ ∃ r ∈ R, r.1.1 = c := fun c => by rw [Xht]; exact List.mem_map
 have key : ∀ r ∈ R, ∀ s ∈ R, Xe5 r s = false ↔ evOk (Xa0 (grOf R)) r.1.1 s.1.1 := by
  intro r hr s hs
  unfold Xe5 evOk
  have := hk r hr (idC s.1.1)
  rw [← this]
  by_cases h1 : idC r.1.1 = idC s.1.1
  ·simp [h1]
  by_cases h2 : r.1.1.ev.node = s.1.1.ev.node
  ·simp [h1, h2]
  ·simp [h2]
 rw [evG, List.all_eq_true]
 simp only [List.all_eq_true, Bool.not_eq_true']
 constructor
 ·intro h c hc d hd
  obtain ⟨r, hr, rfl⟩ := (hn c).1 hc
  obtain ⟨s, hs, rfl⟩ := (hn d).1 hd
  exact (key r hr s hs).1 (h r hr s hs)
 ·intro h r hr s hs
  exact (key r hr s hs).2 (h _ ((hn _).2 ⟨r, hr, rfl⟩) _ ((hn _).2 ⟨s, hs, rfl⟩))
structure OfR where
 bo : Nat
 bk : Nat
 R : List Row
 I : List ID
 p : Option Addr
 q : Nat
 b : Bool
structure OfOk (L : List Commit) (y : OfR) : Prop where
 iff : y.b = true ↔ Closed L
 len : y.I.length ≤ L.length
 ids : y.b = true → y.I = cids L
 built : y.b = true → Built (grOf y.R)
 perm : y.b = true → (Xa0 (grOf y.R)).Perm L
 nodup : y.b = true → ∀ r ∈ y.R, r.1.2.Nodup
abbrev OfY (L : List Commit) := { y : OfR // OfOk L y }
abbrev ofV {L : List Commit} (y : OfY L) : Value := .tuple ⟨[.agg ⟨[.map (some y.1.bo), .map (some y.1.bk)]⟩, .slice y.1.p y.1.I.length y.1.q, .bool y.1.b]⟩
abbrev ofB {L : List Commit} (y : OfY L) : List Fact := if y.1.b = true then [.st (rmap y.1.bo (ents idV (ofM y.1.R)) (ofM y.1.R).length), .st (rmap y.1.bk (ents idV (knM y.1.R)) (knM y.1.R).length), .st (Xa8 y.1.R), .st (sl y.1.p y.1.q y.1.I)] else [.st (sl y.1.p y.1.q y.1.I)]
theorem Xn9 {L : List Commit} {bo bk q : Nat} {R : List Row} {I : List ID} {p : Option Addr} (h : ¬ Closed L) (hl : I.length ≤ L.length) : OfOk L ⟨bo, bk, R, I, p, q, false⟩ :=
 ⟨⟨fun h => Bool.noConfusion h, fun h' => (h h').elim⟩, hl, fun h => Bool.noConfusion h, fun h => Bool.noConfusion h, fun h => Bool.noConfusion h, fun h => Bool.noConfusion h⟩
def genC (L : List Commit) (i : Nat) : Int := (L.getD i Xcv).gen
def byO (L : List Commit) (O : List Nat) : List Commit := O.map fun i => L.getD i Xcv
theorem Xsx {L : List Commit} {O : List Nat} (h : O.Perm (List.range L.length)) : (byO L O).Perm L := by
 have h1 := h.map (fun i => L.getD i Xcv)
 have e : (List.range L.length).map (fun i => L.getD i Xcv) = L := by
  apply List.ext_getElem
  ·simp
  ·intro i h1 h2; simp [List.getD_eq_getElem?_getD, h2]
 rwa [e] at h1
theorem Xrt (a b : Int) : cmpI a b < 0 ↔ a < b := by
 unfold cmpI
 split
 ·simp [*]
 ·split <;> simp [*]
theorem X0m (L : List Commit) : Go.Sort.SWO (Go.Proofs.ltOf fun i j => cmpI (genC L i) (genC L j)) := by
 have h : ∀ i j, Go.Proofs.ltOf (fun i j => cmpI (genC L i) (genC L j)) i j = decide (genC L i < genC L j) := fun i j => by
  simp only [Go.Proofs.ltOf, Xrt]
 refine ⟨fun x => ?_, fun x y z => ?_, fun x y z => ?_⟩
 ·rw [h]; simp
 ·rw [h, h, h]; simp only [decide_eq_true_eq]; omega
 ·rw [h, h, h]; simp only [decide_eq_false_iff_not]; omega
theorem Xp3 {w0 w : World} {F : Nat → Prop} {Γ : List Fact} {b c el bl k : Nat} {a : Option Addr} {L : List Commit} (hl : L.length ≤ 1000000)
  (ho : Hold w0 F (.own b el ((List.range L.length).map natV) :: .st (ro bl 0 [.slice a L.length k]) :: .st (sl a k L) :: Γ) w) :
  Calls prog 69 ⟨[.slice (some ⟨b, 0, none⟩) L.length c, .func (.func 134) ⟨[]⟩ ⟨[.pointer (some ⟨bl, 0, none⟩)]⟩]⟩ w fun x w' =>
   ∃ O : Xwx (fun i j => cmpI (genC L i) (genC L j)) L.length, x = .returned (.tuple ⟨[]⟩) ∧ Hold w0 F (.own b el (O.1.map natV) :: .st (ro bl 0 [.slice a L.length k]) :: .st (sl a k L) :: Γ) w' := by
 refine Xmt Xwy _ (X0m L) _ _ hl ho (fun W hW x y hx hy => ?_)
 have h1 := hW (sl a k L) (ho.get (A := sl a k L))
 have h2 := hW (ro bl 0 [.slice a L.length k]) (ho.get (A := ro bl 0 [.slice a L.length k]))
 have := @X0i ⟨True⟩ W _ a k bl L x y hx hy h1 h2
 simpa [genC, List.getD_eq_getElem?_getD, hx, hy] using this
theorem X0n {c : Commit} (h : may c = true) : 1 ≤ c.gen ∧ c.gen ≤ 1048576 := by
 unfold may at h
 split at h
 ·cases h
 ·rename_i hn
  simp only [Bool.or_eq_true, Bool.not_eq_true', not_or, Bool.not_eq_false, inB, Bool.and_eq_true, decide_eq_true_eq] at hn
  exact hn.1.1.1
end
section
attribute [local irreducible] JN
section
attribute [local irreducible] ents Xaq Xa8
theorem Xsy (a : Option Addr) (k : Nat) (L : List Commit) (h : (sl a k L).holds F w) (hl : L.length ≤ 1000000) (hf : ∀ x ∈ L, fine x) :
  Gives prog 68 [.slice a L.length k] w F (fun y : OfY L => ofV y) (fun y => ofB y) := by
 refine Xaa func68 rfl ntmps68 rfl rfl [.st (sl a k L)] (.start1 h) ?_
 (repeat (refine wE ?_; intro _)); refine wA ?_
 rename_i b1 b2
 refine JR.makeMap idV rfl ?_
 intro bo
 refine We rfl ?_
 refine JR.makeMap idV rfl ?_
 intro bk
 refine We rfl ?_
 refine Wf (OpV.build [.map (some bo), .map (some bk)] (by kernel_rfl)) rfl ?_
 (repeat (refine wE ?_; intro _)); refine wA ?_
 rename_i b5
 refine JR.pubOwn b1 ?_
 refine JR.callSl rfl (fun w1 hw => Xik w1 _ a k L hw.get (by omega) hf) ?_
 intro p q
 refine wA ?_
 refine JC.test (fun hne => ?_) (fun heq => ?_)
 ·have hno : ¬ Closed L := fun hc => hne (by rw [Xhs hc.may]; simp [cids])
  refine wz9 ?_
  exact CT.done (Y := OfY L) ⟨⟨bo, bk, [], [], none, 0, false⟩, Xn9 hno (Nat.zero_le _)⟩ rfl (fun w ho => (Hold.add (A := sl (α := ID) none 0 []) (ho.ent : Hold _ _ [] w) Xak))
 ·have hmay : ∀ c ∈ L, may c = true := by
   intro c hc
   rw [← Bool.not_eq_false]
   intro hn
   have h1 : (idsP L).length = L.length := by omega
   rw [Xn7 hc hn, List.length_nil] at h1
   have := List.length_pos_of_mem hc
   omega
  have hids := Xhs hmay
  have hcl : (cids L).length = L.length := Xbp L
  refine wA ?_
  refine Xkc rfl rfl (by omega) ?_
  intro bO
  refine wz4 ?_
  rw [hids]
  refine JC.more (Γ' := .own bO 3 ((List.replicate L.length 0).map natV) :: .own b2 101 [.map none, .map none] :: .own b5 101 [.map (some bo), .map (some bk)] :: .omap bo (ents idV ([] : List (ID × Value))) ([] : List (ID × Value)).length :: .omap bk (ents idV ([] : List (ID × Value))) ([] : List (ID × Value)).length :: .st (Xa8 []) :: .st (ro b1 0 [.slice a L.length k]) :: .st (sl a k L) :: .st (sl p q (cids L)) :: []) (fun w1 ho => (ho.add (A := Xa8 []) Xwt).ent) ?_
  refine Xay (fun (i : Nat) => [(1, .pointer (some ⟨b1, 0, none⟩)), (2, .pointer (some ⟨b2, 0, none⟩)), (5, .pointer (some ⟨b5, 0, none⟩)), (6, .slice p (cids L).length q), (7, .slice (some ⟨bO, 0, none⟩) L.length L.length), (28, .int .i64 (L.length : Int)), (29, .int .i64 (i : Int))])
   (fun i => .own bO 3 ((List.range i ++ List.replicate (L.length - i) 0).map natV) :: .own b2 101 [.map none, .map none] :: .own b5 101 [.map (some bo), .map (some bk)] :: .omap bo (ents idV ([] : List (ID × Value))) ([] : List (ID × Value)).length :: .omap bk (ents idV ([] : List (ID × Value))) ([] : List (ID × Value)).length :: .st (Xa8 []) :: .st (ro b1 0 [.slice a L.length k]) :: .st (sl a k L) :: .st (sl p q (cids L)) :: [])
   (fun i => i ≤ L.length) (fun i => L.length - i) 0 (Nat.zero_le _) (by rw [List.range_zero, List.nil_append, Nat.sub_zero]; infer_instance) ?_
  intro i hi
  refine wz11 ?_
  refine JC.test (fun hlt => ?_) (fun hge => ?_)
  ·have hlt' : i < L.length := by omega
   have e : (List.range i ++ List.replicate (L.length - i) 0).set i i = List.range (i + 1) ++ List.replicate (L.length - (i + 1)) 0 := by
    obtain ⟨m, hm⟩ : ∃ m, L.length - i = m + 1 := ⟨L.length - i - 1, by omega⟩
    rw [hm, List.replicate_succ, List.set_append_right _ _ (by simp), List.length_range, Nat.sub_self, List.set_cons_zero, List.range_succ, List.append_assoc, show L.length - (i + 1) = m by omega]
    rfl
   refine wz7 ?_
   refine Wf (Xdh (k := i) hlt') rfl ?_
   refine We rfl ?_
   refine Xfd (f := natV) i i (by simp; omega) (by omega) rfl ?_
   rw [e]
   refine wz2 ?_
   exact ⟨i + 1, by omega, by omega, iI⟩
  obtain rfl : i = L.length := by omega
  rw [show List.range L.length ++ List.replicate (L.length - L.length) 0 = List.range L.length by simp]
  refine wA ?_
  refine Xbi (v := fun _ : Xwx (fun i j => cmpI (genC L i) (genC L j)) L.length => .tuple ⟨[]⟩) rfl (fun w1 hw => Xp3 (el := 3) (a := a) (k := k) (bl := b1) (Γ := .own b2 101 [.map none, .map none] :: .own b5 101 [.map (some bo), .map (some bk)] :: .omap bo (ents idV ([] : List (ID × Value))) ([] : List (ID × Value)).length :: .omap bk (ents idV ([] : List (ID × Value))) ([] : List (ID × Value)).length :: .st (Xa8 []) :: .st (sl p q (cids L)) :: []) hl hw.ent) ?_
  rintro ⟨O, hO1, hO2⟩
  dsimp only
  have hOl : O.length = L.length := by rw [hO1.length_eq, List.length_range]
  obtain ⟨Lo, hLo⟩ : ∃ Lo, Lo = byO L O := ⟨_, rfl⟩
  have hLp : Lo.Perm L := hLo ▸ Xsx hO1
  have hLl : Lo.length = L.length := hLp.length_eq
  have hLs : Lo.Pairwise (fun c d => c.gen ≤ d.gen) := by
   rw [hLo, byO, List.pairwise_map]
   refine hO2.imp ?_
   intro i j hij
   rw [Xrt] at hij
   simp only [genC] at hij
   omega
  refine wz4 ?_
  refine Xfb (fun (i : Nat) (R : List Row) => [(1, .pointer (some ⟨b1, 0, none⟩)), (2, .pointer (some ⟨b2, 0, none⟩)), (5, .pointer (some ⟨b5, 0, none⟩)), (6, .slice p (cids L).length q), (40, .slice (some ⟨bO, 0, none⟩) L.length L.length), (41, .int .i64 (L.length : Int)), (42, .int .i64 (i : Int))])
   (fun i R => .own bO 3 (O.map natV) :: .own b2 101 [.map none, .map none] :: .own b5 101 [.map (some bo), .map (some bk)] :: .omap bo (ents idV (ofM R)) (ofM R).length :: .omap bk (ents idV (knM R)) (knM R).length :: .st (Xa8 R) :: .st (ro b1 0 [.slice a L.length k]) :: .st (sl a k L) :: .st (sl p q (cids L)) :: [])
   (fun i R => i ≤ L.length ∧ Built (grOf R) ∧ Xa0 (grOf R) = Lo.take i ∧ ∀ r ∈ R, r.1.2.Nodup) (fun i _ => L.length - i) 0 [] ⟨Nat.zero_le _, .nil, rfl, by simp⟩ (by rw [show ofM [] = [] from rfl, show knM [] = [] from rfl]; infer_instance) ?_
  intro i R ⟨hi, hB, hnd, hS⟩
  have hR := hB.right
  have hgen : ∀ r ∈ R, 0 ≤ r.1.1.gen ∧ r.1.1.gen ≤ 1048576 := fun r hr => by
   have h1 : r.1.1 ∈ Xa0 (grOf R) := by rw [Xht]; exact List.mem_map.2 ⟨r, hr, rfl⟩
   rw [hnd] at h1
   have h2 := X0n (hmay _ (hLp.mem_iff.1 (List.mem_of_mem_take h1)))
   omega
  refine wz11 ?_
  refine JC.test (fun hlt => ?_) (fun hge => ?_)
  ·have hlt' : i < L.length := by omega
   have hiO : i < O.length := by omega
   obtain ⟨j, hj⟩ : ∃ j, j = O[i] := ⟨_, rfl⟩
   have hjn : j < L.length := by rw [hj]; exact List.mem_range.1 (hO1.mem_iff.1 (List.getElem_mem hiO))
   have hLi : i < Lo.length := by omega
   have hLoi : Lo[i] = L[j] := by
    subst hLo
    simp [byO, ← hj, List.getD_eq_getElem?_getD, hjn]
   have hjm : L[j] ∈ L := List.getElem_mem hjn
   have hxe : (cids L)[j]'(by omega) = idC L[j] := Xjo L j (by omega)
   have hstep : Closed L → idC L[j] ∉ cids (Xa0 (grOf R)) ∧ merge L[j] = false ∧ Xn6 (grOf R) L[j] = true ∧ Xst (grOf R) L[j] = true := fun hc => by
    have := (Closed.perm hLp.symm hc).step hLs hB hLi hnd
    rwa [hLoi] at this
   have hkO : ((ofM R).map (·.1)).Nodup := by rw [Xjq]; exact hR.nodup
   refine wz14 ?_
   refine Wf (Xdh (k := i) (by omega)) rfl ?_
   refine We rfl ?_
   refine Wf (Xbk (f := natV) i (by omega) (by omega) rfl) rfl ?_
   refine JO.reslot 45 (natV j) (by rw [hj]) ?_
   refine wz10 ?_
   refine Xb2 (L := cids L) (.slice p (cids L).length q) j (by omega) ?_
   intro bi oi
   rw [hxe]
   by_cases hd : idC L[j] ∈ cids (Xa0 (grOf R))
   ·have hno : ¬ Closed L := fun hc => (hstep hc).1 hd
    obtain ⟨r, hr, hre, hgo, hgk, hkn⟩ := Xsv hR.nodup hd
    refine Xjk [.own b5 101 [.map (some bo), .map (some bk)], .omap bo (ents idV (ofM R)) (ofM R).length, .st (elA (.slice p (cids L).length q) j 32 bi oi), .st (ro bi oi (idc (idC L[j])))] mixed ?_
    refine JN.take 0 rfl (by kernel_rfl) rfl Vd rfl rfl ?_
    refine JN.take 1 rfl (by kernel_rfl) rfl Vc rfl rfl ?_
    refine JN.take 2 rfl (by kernel_rfl) rfl Va rfl rfl ?_
    refine JN.take 3 rfl (by kernel_rfl) rfl Va rfl rfl ?_
    refine JN.take 4 rfl (by kernel_rfl) rfl Ve rfl rfl ?_
    refine JN.take 5 rfl (by kernel_rfl) rfl Vc rfl rfl ?_
    refine JN.take 6 rfl (by kernel_rfl) rfl (Xb4 (M := ofM R) (v := Xax r.1.1 r.2.1 r.2.2.1) (is := true) (idC L[j]) hkO (by rw [hgo]; rfl) (by rw [hgo]; rfl)) rfl rfl ?_
    refine JN.take 7 rfl (by kernel_rfl) rfl Va rfl rfl ?_
    refine JN.take 8 rfl (by kernel_rfl) rfl Vq rfl rfl ?_
    refine JN.take 9 rfl (by kernel_rfl) rfl Vq rfl rfl ?_
    refine JN.op 10 (by kernel_rfl) rfl rfl (Wg rfl (fun b11 => Wd ⟨rfl, iI, ?_⟩))
    refine JN.op 11 (by kernel_rfl) rfl rfl (Wi (Wd ⟨rfl, iI, ?_⟩))
    refine JN.op 12 (by kernel_rfl) rfl rfl (Wf Vb rfl (Wd ⟨rfl, iI, ?_⟩))
    refine JN.nil (by kernel_rfl) ?_
    refine wz14 ?_
    refine Xb0 mixed (by kernel_rfl) ?_
    refine wY ?_
    refine wA ?_
    exact CT.done (Y := OfY L) ⟨⟨bo, bk, [], [], none, 0, false⟩, Xn9 hno (Nat.zero_le _)⟩ rfl (fun w ho => (Hold.add (A := sl (α := ID) none 0 []) (ho.ent : Hold _ _ [] w) Xak))
   ·obtain ⟨hgo, hgk⟩ := Xn8 hd
    refine Xjk [.own b5 101 [.map (some bo), .map (some bk)], .omap bo (ents idV (ofM R)) (ofM R).length, .st (elA (.slice p (cids L).length q) j 32 bi oi), .st (ro bi oi (idc (idC L[j])))] mixed ?_
    refine JN.take 0 rfl (by kernel_rfl) rfl Vd rfl rfl ?_
    refine JN.take 1 rfl (by kernel_rfl) rfl Vc rfl rfl ?_
    refine JN.take 2 rfl (by kernel_rfl) rfl Va rfl rfl ?_
    refine JN.take 3 rfl (by kernel_rfl) rfl Va rfl rfl ?_
    refine JN.take 4 rfl (by kernel_rfl) rfl Ve rfl rfl ?_
    refine JN.take 5 rfl (by kernel_rfl) rfl Vc rfl rfl ?_
    refine JN.take 6 rfl (by kernel_rfl) rfl (Xb4 (M := ofM R) (v := .agg ⟨[.int .i64 0, .int .i64 0, .int .i64 0, .slice none 0 0, .int .i64 0, .string .empty, .string .empty, .int .i64 0]⟩) (is := false) (idC L[j]) hkO (by rw [hgo]; rfl) (by rw [hgo]; rfl)) rfl rfl ?_
    refine JN.take 7 rfl (by kernel_rfl) rfl Va rfl rfl ?_
    refine JN.take 8 rfl (by kernel_rfl) rfl Vq rfl rfl ?_
    refine JN.take 9 rfl (by kernel_rfl) rfl Vq rfl rfl ?_
    refine JN.op 10 (by kernel_rfl) rfl rfl (Wg rfl (fun b11 => Wd ⟨rfl, iI, ?_⟩))
    refine JN.op 11 (by kernel_rfl) rfl rfl (Wi (Wd ⟨rfl, iI, ?_⟩))
    refine JN.op 12 (by kernel_rfl) rfl rfl (Wf Vb rfl (Wd ⟨rfl, iI, ?_⟩))
    refine JN.nil (by kernel_rfl) ?_
    refine wz14 ?_
    refine Xct (L := L) (.slice a L.length k) j hjn ?_
    intro bc oc pc qc
    have hfx := hf _ hjm
    cases hmer : merge L[j] with
    | true =>
     have hno : ¬ Closed L := fun hc => by have := (hstep hc).2.1; rw [hmer] at this; cases this
     refine Xb0 mixed (by kernel_rfl) ?_
     refine wQ ?_
     refine JQ.call rfl rfl (fun w1 hw => Xco w1 _ (L[j]) pc qc hw.get hfx.1) ?_
     refine JQ.reslot 62 (.bool true) (by rw [hmer]) ?_
     refine wY ?_
     refine wA ?_
     exact CT.done (Y := OfY L) ⟨⟨bo, bk, [], [], none, 0, false⟩, Xn9 hno (Nat.zero_le _)⟩ rfl (fun w ho => (Hold.add (A := sl (α := ID) none 0 []) (ho.ent : Hold _ _ [] w) Xak))
    | false =>
     refine Xch 18 mixed ?_
     refine JM.tv 0 ?_
     refine JM.tv 1 ?_
     refine JM.tv 2 ?_
     refine JM.tv 3 ?_
     refine JM.tv 4 ?_
     refine JM.tv 5 ?_
     refine JM.takeCall 6 rfl (by kernel_rfl) rfl (fun w1 hw => Xco w1 _ (L[j]) pc qc hw.get hfx.1) rfl rfl ?_
     refine JM.reslot 62 (.bool false) (by rw [hmer]) ?_
     refine JM.tv 7 ?_
     refine JM.tv 8 ?_
     refine JM.tv 9 ?_
     refine JM.tv 10 ?_
     refine JM.tv 11 ?_
     refine JM.tv 12 ?_
     refine JM.tv 13 ?_
     refine JM.tv 14 ?_
     refine JM.tv 15 ?_
     refine JM.tv 16 ?_
     refine JM.tv 17 ?_
     refine Xau 18 (by kernel_rfl) rfl rfl rfl (Xbi (v := fun y : AddY R L[j] => .bool y.1.2.2) rfl (fun w1 hw => Xwu (a := pc) (k := qc) (Γ := .own bO 3 (O.map natV) :: .own b2 101 [.map none, .map none] :: .own b5 101 [.map (some bo), .map (some bk)] :: .st (ro b1 0 [.slice a L.length k]) :: .st (sl a k L) :: .st (sl p q (cids L)) :: []) hR.nodup hS hd hgen hw.ent) (fun y => ?_))
     rcases y with ⟨⟨S, ba, ok⟩, hy1, hy2⟩
     dsimp only at hy1 hy2 ⊢
     cases ok with
     | false =>
      have hno : ¬ Closed L := fun hc => by
       have := hstep hc
       rw [this.2.2.1, this.2.2.2] at hy1; cases hy1
      rw [if_neg (by simp)]
      refine Wd ⟨rfl, ?_⟩
      refine Xau 19 (by kernel_rfl) rfl rfl rfl (Wf Vh rfl (Wd ⟨rfl, ?_⟩))
      refine Xau 20 (by kernel_rfl) rfl rfl rfl (Wf Vj rfl (Wd ⟨rfl, ?_⟩))
      refine JM.nil (by kernel_rfl) ?_
      refine wA ?_
      exact CT.done (Y := OfY L) ⟨⟨bo, bk, [], [], none, 0, false⟩, Xn9 hno (Nat.zero_le _)⟩ rfl (fun w ho => (Hold.add (A := sl (α := ID) none 0 []) (ho.ent : Hold _ _ [] w) Xak))
     | true =>
      obtain ⟨hSn, hSk⟩ := hy2 rfl
      have hy1' := hy1.symm
      rw [Bool.and_eq_true] at hy1'
      rw [if_pos rfl]
      refine Wd ⟨rfl, ?_⟩
      refine Xau 19 (by kernel_rfl) rfl rfl rfl (Wf Vh rfl (Wd ⟨rfl, ?_⟩))
      refine Xau 20 (by kernel_rfl) rfl rfl rfl (Wf Vj rfl (Wd ⟨rfl, ?_⟩))
      refine JM.nil (by kernel_rfl) ?_
      refine wz2 ?_
      refine ⟨i + 1, R ++ [((L[j], S), (pc, qc, ba))], ⟨by omega, ?_, ?_, fun r hr => ?_⟩, by omega, iI⟩
      ·rw [Xp0]; exact .snoc hB hd hmer hy1'.1 hy1'.2 hSk
      ·rw [Xp0, Xcq, hnd, List.take_succ_eq_append_getElem hLi, hLoi]
      ·rcases List.mem_append.1 hr with hr | hr
       ·exact hS r hr
       ·simp only [List.mem_singleton] at hr; subst hr; exact hSn
  ·obtain rfl : i = L.length := by omega
   rw [List.take_of_length_le (by omega)] at hnd
   have hfin : Closed L ↔ evG R = true := by
    rw [X0l hR]
    constructor
    ·intro hc c hcm d hdm
     rw [hnd] at hcm hdm ⊢
     exact (Closed.perm hLp.symm hc).ev c hcm d hdm
    ·intro he
     have := hB.closed (fun c hc => hmay c (by rw [hnd] at hc; exact hLp.mem_iff.1 hc)) he
     rw [hnd] at this
     exact Closed.perm hLp this
   refine JC.more (Γ' := .st (rmap bo (ents idV (ofM R)) (ofM R).length) :: .st (rmap bk (ents idV (knM R)) (knM R).length) :: .st (Xa8 R) :: .own b2 101 [.map none, .map none] :: .own b5 101 [.map (some bo), .map (some bk)] :: .st (ro b1 0 [.slice a L.length k]) :: .st (sl a k L) :: .st (sl p q (cids L)) :: []) (fun w1 ho => ?_) ?_
   ·have h1 : Hold _ _ (.omap bo (ents idV (ofM R)) (ofM R).length :: .omap bk (ents idV (knM R)) (knM R).length :: .st (Xa8 R) :: .own b2 101 [.map none, .map none] :: .own b5 101 [.map (some bo), .map (some bk)] :: .st (ro b1 0 [.slice a L.length k]) :: .st (sl a k L) :: .st (sl p q (cids L)) :: []) w1 := ho.ent
    have h2 : Hold _ _ (.omap bk (ents idV (knM R)) (knM R).length :: .st (rmap bo (ents idV (ofM R)) (ofM R).length) :: .st (Xa8 R) :: .own b2 101 [.map none, .map none] :: .own b5 101 [.map (some bo), .map (some bk)] :: .st (ro b1 0 [.slice a L.length k]) :: .st (sl a k L) :: .st (sl p q (cids L)) :: []) w1 := (h1.pubMap).ent
    exact (h2.pubMap).ent
   refine wz3 ?_
   refine Xjk [.own b5 101 [.map (some bo), .map (some bk)]] mixed ?_
   refine JN.take 0 rfl (by kernel_rfl) rfl Vc rfl rfl ?_
   refine JN.take 1 rfl (by kernel_rfl) rfl Va rfl rfl ?_
   refine JN.take 2 rfl (by kernel_rfl) rfl Vc rfl rfl ?_
   refine JN.op 3 (by kernel_rfl) rfl rfl (JR.callV rfl (fun w1 hw => Xp2 w1 _ bo bk R hR.nodup hS hw.get hw.get hw.get) (Wd ⟨rfl, iI, ?_⟩))
   refine JN.op 4 (by kernel_rfl) rfl rfl (Wi (Wd ⟨rfl, iI, ?_⟩))
   refine JN.op 5 (by kernel_rfl) rfl rfl (Wf Vb rfl (Wd ⟨rfl, iI, ?_⟩))
   refine JN.op 6 (by kernel_rfl) rfl rfl (Wf Vb rfl (Wd ⟨rfl, iI, ?_⟩))
   refine JN.nil (by kernel_rfl) ?_
   refine wz13 ?_
   refine CT.done (Y := OfY L) ⟨⟨bo, bk, R, cids L, p, q, evG R⟩, ⟨hfin.symm, by show (cids L).length ≤ _; omega, fun _ => rfl, fun _ => hB, fun _ => by rw [hnd]; exact hLp, fun _ => hS⟩⟩ rfl (fun w ho => ?_)
   by_cases hev : evG R = true
   ·rw [ofB, if_pos hev]; exact ho.ent
   ·rw [ofB, if_neg hev]; exact ho.ent
end
end
section
attribute [local irreducible] ents Xaq Xa8
theorem Xru {L : List Commit} {bo bk q : Nat} {R : List Row} {I : List ID} {p : Option Addr} (hy : OfOk L ⟨bo, bk, R, I, p, q, true⟩) :
  ofB (L := L) ⟨⟨bo, bk, R, I, p, q, true⟩, hy⟩ = [.st (rmap bo (ents idV (ofM R)) (ofM R).length), .st (rmap bk (ents idV (knM R)) (knM R).length), .st (Xa8 R), .st (sl p q I)] := if_pos rfl
theorem Xsz {L : List Commit} {bo bk q : Nat} {R : List Row} {I : List ID} {p : Option Addr} (hy : OfOk L ⟨bo, bk, R, I, p, q, false⟩) :
  ofB (L := L) ⟨⟨bo, bk, R, I, p, q, false⟩, hy⟩ = [.st (sl p q I)] := if_neg (by simp)
abbrev Xs0 (L : List Commit) := { b : Bool // b = true ↔ Closed L }
theorem Xil (a : Option Addr) (k : Nat) (L : List Commit) (h : (sl a k L).holds F w) (hl : L.length ≤ 1000000) (hf : ∀ x ∈ L, fine x) :
  Gives prog 25 [.slice a L.length k] w F (fun y : Xs0 L => .bool y.1) (fun _ => []) := by
 refine Xaa func25 rfl ntmps25 rfl rfl [.st (sl a k L)] (.start1 h) ?_
 refine wz10 ?_
 refine JR.call (v := fun y : OfY L => ofV y) rfl (fun w1 hw => Xsy w1 _ a k L hw.get hl hf) ?_
 rintro ⟨⟨bo, bk, R, I, p, q, b⟩, hy⟩
 dsimp only [ofV]
 refine JO.more (Γ' := []) (fun w1 ho => ho.ent) ?_
 (repeat (refine wE ?_; intro _)); refine wA ?_
 exact CT.dn (Y := Xs0 L) ⟨b, hy.iff⟩ rfl
theorem Xga {α : Type} [DecidableEq α] : ∀ (S L : List α), S.Nodup → (∀ x ∈ S, x ∈ L) → S.length ≤ L.length
 | [], _, _, _ => Nat.zero_le _
 | x :: S, L, h, hs => by
  have h1 := List.nodup_cons.1 h
  have := Xga S (L.erase x) h1.2 (fun y hy => (List.mem_erase_of_ne (by intro e; subst e; exact h1.1 hy)).2 (hs y (by simp [hy])))
  have h2 := List.length_erase_of_mem (hs x (by simp))
  have h3 := List.length_pos_of_mem (hs x (by simp))
  simp only [List.length_cons]; omega
def X0o (L : List Commit) (A : List ID) (x : ID) : Prop := x ∈ cids L ∧ (x ∈ A ∨ ∃ y ∈ A, Xbz L y x)
structure AncR (L : List Commit) (A M : List ID) : Prop where
 sorted : M.Pairwise (fun x y => idLt y x = false)
 nodup : M.Nodup
 mem : Closed L → ∀ x, x ∈ M ↔ X0o L A x
 not : ¬ Closed L → M = []
theorem AncR.unique {L : List Commit} {A M N : List ID} (h : AncR L A M) (k : AncR L A N) : M = N := by
 by_cases hc : Closed L
 ·exact Xfh ((List.perm_ext_iff_of_nodup h.nodup k.nodup).2 fun x => (h.mem hc x).trans (k.mem hc x).symm) h.sorted k.sorted
 ·rw [h.not hc, k.not hc]
abbrev AncY (L : List Commit) (A : List ID) := { y : List ID × Option Addr × Nat // AncR L A y.1 }
theorem X0p (a d : Option Addr) (k m : Nat) (L : List Commit) (A : List ID) (h : (sl a k L).holds F w) (h' : (sl d m A).holds F w) (hl : L.length ≤ 1000) (hA : A.length ≤ 1000) (hf : ∀ x ∈ L, fine x) :
  Gives prog 45 [.slice a L.length k, .slice d A.length m] w F (fun y : AncY L A => .slice y.1.2.1 y.1.1.length y.1.2.2) (fun y => [.st (sl y.1.2.1 y.1.2.2 y.1.1)]) := by
 refine Xaa func45 rfl ntmps45 rfl rfl [.st (sl a k L), .st (sl d m A)] (.start2 h h') ?_
 refine wz10 ?_
 refine JR.call (v := fun y : OfY L => ofV y) rfl (fun w1 hw => Xsy w1 _ a k L hw.get (by omega) hf) ?_
 rintro ⟨⟨bo, bk, R, I, p, q, b⟩, hy⟩
 dsimp only [ofV]
 cases b with
 | false =>
  have hno : ¬ Closed L := fun hc => by have := hy.iff.2 hc; cases this
  refine JO.more (Γ' := []) (fun w1 ho => ho.ent) ?_
  (repeat (refine wE ?_; intro _)); refine wA ?_
  exact CT.done (Y := AncY L A) ⟨([], none, 0), ⟨List.Pairwise.nil, List.nodup_nil, fun hc => (hno hc).elim, fun _ => rfl⟩⟩ rfl (fun w ho => (Hold.add (A := sl (α := ID) none 0 []) (ho.ent : Hold _ _ [] w) Xak))
 | true =>
  have hc := hy.iff.1 rfl
  have hI := hy.ids rfl
  have hB := hy.built rfl
  have hP := hy.perm rfl
  have hS := hy.nodup rfl
  dsimp only at hI hB hP hS
  have hR := hB.right
  have hkO : ((ofM R).map (·.1)).Nodup := by rw [Xjq]; exact hR.nodup
  have hkK : ((knM R).map (·.1)).Nodup := by rw [Xjr]; exact hR.nodup
  have hmem : ∀ x, x ∈ cids (Xa0 (grOf R)) ↔ x ∈ cids L := fun x => (Xcx hP).mem_iff
  have hknow : Xbz (Xa0 (grOf R)) = Xbz L := Xmo hP
  refine JO.more (Γ' := [.st (rmap bo (ents idV (ofM R)) (ofM R).length), .st (rmap bk (ents idV (knM R)) (knM R).length), .st (Xa8 R), .st (sl a k L), .st (sl d m A)]) (fun w1 ho => by rw [Xru hy] at ho; simp only [List.cons_append, List.nil_append] at ho; exact ho.ent) ?_
  (repeat (refine wE ?_; intro _)); refine wA ?_
  rename_i b5
  refine JC.buf_nil (α := ID) 81 ?_
  refine Xdc (fun (i : Nat) (out : List ID) r s => [(5, .pointer (some ⟨b5, 0, none⟩)), (8, .slice r out.length s), (22, .slice d A.length m), (23, .int .i64 (A.length : Int)), (24, .int .i64 (i : Int))])
   (fun i out r s => [.res (buf r s 81 out), .own b5 101 [.map (some bo), .map (some bk)], .st (rmap bo (ents idV (ofM R)) (ofM R).length), .st (rmap bk (ents idV (knM R)) (knM R).length), .st (Xa8 R), .st (sl a k L), .st (sl d m A)])
   (fun i out r s => i ≤ A.length ∧ out.length ≤ i * 1001 ∧ ∀ x, x ∈ out ↔ ∃ y ∈ A.take i, y ∈ cids L ∧ (x = y ∨ Xbz L y x)) (fun i _ _ _ => A.length - i) 0 [] none 0 ⟨Nat.zero_le _, by simp, by simp⟩ iI ?_
  intro i out r s ⟨hi, hol, hom⟩
  refine wz11 ?_
  refine JC.test (fun hlt => ?_) (fun hge => ?_)
  ·have hlt' : i < A.length := by omega
   refine wz14 ?_
   refine Xcm rfl hlt' ?_
   intro bi oi
   (repeat (refine wE ?_; intro _)); refine wA ?_
   by_cases hd : A[i] ∈ cids (Xa0 (grOf R))
   ·obtain ⟨rw_, hr, hre, hgo, hgk, hkn⟩ := Xsv hR.nodup hd
    have hSm : ∀ x, x ∈ rw_.1.2 ↔ Xbz L A[i] x := fun x => by rw [← hkn, hR.known _ hd, hknow]
    have hSl : rw_.1.2.length ≤ 1000 := by
     have := Xga rw_.1.2 (cids L) (hS rw_ hr) (fun x hx => (Xhq ((hSm x).1 hx)).2)
     rw [Xbp] at this; omega
    refine Wf (Xb4 (M := ofM R) (v := Xax rw_.1.1 rw_.2.1 rw_.2.2.1) (is := true) A[i] hkO (by rw [hgo]; rfl) (by rw [hgo]; rfl)) rfl ?_
    (repeat (refine wE ?_; intro _)); refine wA ?_
    refine Xa1 (u := A[i]) rfl (by exact ⟨rfl, rfl, by decide⟩) (by omega) ?_
    intro r2 s2
    refine wz9 ?_
    refine Wf (Xbt (M := knM R) (v := .map (some rw_.2.2.2)) A[i] hkK (by rw [hgk]; rfl)) rfl ?_
    refine JO.more (fun w1 ho => ho.add (A := rmap rw_.2.2.2 (ents idV (sety rw_.1.2)) rw_.1.2.length) (Xe4 (ho.get (A := Xa8 R)) hr).2) ?_
    refine We rfl ?_
    refine Xj5 rfl ?_
    intro ri
    refine wz4 ?_
    refine Xdc (fun (S : List Nat) (o2 : List ID) r3 s3 => [(5, .pointer (some ⟨b5, 0, none⟩)), (8, .slice r3 o2.length s3), (22, .slice d A.length m), (23, .int .i64 (A.length : Int)), (24, .int .i64 (i : Int)), (45, .pointer (some ⟨ri, 0, none⟩))])
     (fun S o2 r3 s3 => [.res (buf r3 s3 81 o2), .obj ri (.mapIter (some rw_.2.2.2) rw_.1.2.length S.toArray rw_.1.2.length), .own b5 101 [.map (some bo), .map (some bk)], .st (rmap rw_.2.2.2 (ents idV (sety rw_.1.2)) rw_.1.2.length), .st (rmap bo (ents idV (ofM R)) (ofM R).length), .st (rmap bk (ents idV (knM R)) (knM R).length), .st (Xa8 R), .st (sl a k L), .st (sl d m A)])
     (fun S o2 _ _ => S.Nodup ∧ (∀ j ∈ S, j < rw_.1.2.length) ∧ o2.length = out.length + 1 + S.length ∧ ∀ x, x ∈ o2 ↔ x ∈ out ∨ x = A[i] ∨ ∃ j ∈ S, rw_.1.2[j]? = some x)
     (fun S _ _ _ => rw_.1.2.length - S.length) [] (out ++ [A[i]]) r2 s2 ⟨List.nodup_nil, by simp, by simp, by simp⟩ iI ?_
    intro S o2 r3 s3 ⟨hS1, hS2, hlen, hmem2⟩
    have hSl2 : S.length ≤ rw_.1.2.length := Xek hS1 hS2
    refine wz14 ?_
    refine Xnk rfl hS2 (fun hall => ?_) (fun j hj hjS => ?_)
    ·refine wA ?_
     refine ⟨i + 1, o2, r3, s3, ⟨by omega, by omega, fun x => ?_⟩, by omega, iI⟩
     rw [hmem2, hom]
     constructor
     ·rintro (⟨y, hy, hx⟩ | rfl | ⟨j, hj, hx⟩)
      ·exact ⟨y, (Xa3 hlt').2 (.inl hy), hx⟩
      ·exact ⟨A[i], (Xa3 hlt').2 (.inr rfl), (hmem _).1 hd, .inl rfl⟩
      ·exact ⟨A[i], (Xa3 hlt').2 (.inr rfl), (hmem _).1 hd, .inr ((hSm x).1 (List.mem_of_getElem? hx))⟩
     ·rintro ⟨y, hy, hyc, hx⟩
      rcases (Xa3 hlt').1 hy with hy | rfl
      ·exact .inl ⟨y, hy, hyc, hx⟩
      ·rcases hx with rfl | hx
       ·exact .inr (.inl rfl)
       ·obtain ⟨j, hj, hjx⟩ := List.getElem_of_mem ((hSm x).2 hx)
        exact .inr (.inr ⟨j, hall j hj, by rw [List.getElem?_eq_getElem hj, hjx]⟩)
    ·refine wA ?_
     refine Wf (Xib hj) rfl ?_
     (repeat (refine wE ?_; intro _)); refine wA ?_
     have hS3 : (S ++ [j]).Nodup := List.nodup_append.2 ⟨hS1, by simp, fun x hx y hy => by simp at hy; subst hy; exact fun e => hjS (e ▸ hx)⟩
     have hS4 : ∀ i ∈ S ++ [j], i < rw_.1.2.length := fun i hi => by
      rcases List.mem_append.1 hi with hi | hi
      ·exact hS2 i hi
      ·simp at hi; subst hi; exact hj
     have hlt2 := Xek hS3 hS4
     refine Xa1 (u := rw_.1.2[j]) rfl (by exact ⟨rfl, rfl, by decide⟩) (by omega) ?_
     intro r4 s4
     refine wz2 ?_
     refine ⟨S ++ [j], o2 ++ [rw_.1.2[j]], r4, s4, ⟨hS3, hS4, by simp; omega, fun x => ?_⟩, by simp at hlt2 ⊢; omega, iI⟩
     rw [List.mem_append, hmem2, List.mem_singleton]
     constructor
     ·rintro ((h | h | ⟨y, hy, hx⟩) | rfl)
      ·exact .inl h
      ·exact .inr (.inl h)
      ·exact .inr (.inr ⟨y, by simp [hy], hx⟩)
      ·exact .inr (.inr ⟨j, by simp, List.getElem?_eq_getElem hj⟩)
     ·rintro (h | h | ⟨y, hy, hx⟩)
      ·exact .inl (.inl h)
      ·exact .inl (.inr (.inl h))
      ·rcases List.mem_append.1 hy with hy | hy
       ·exact .inl (.inr (.inr ⟨y, hy, hx⟩))
       ·simp at hy; subst hy
        rw [List.getElem?_eq_getElem hj] at hx
        injection hx with hx
        exact .inr hx.symm
   ·obtain ⟨hgo, hgk⟩ := Xn8 hd
    refine Wf (Xb4 (M := ofM R) (v := .agg ⟨[.int .i64 0, .int .i64 0, .int .i64 0, .slice none 0 0, .int .i64 0, .string .empty, .string .empty, .int .i64 0]⟩) (is := false) A[i] hkO (by rw [hgo]; rfl) (by rw [hgo]; rfl)) rfl ?_
    (repeat (refine wE ?_; intro _)); refine wA ?_
    refine ⟨i + 1, out, r, s, ⟨by omega, Nat.le_trans hol (Nat.mul_le_mul_right 1001 (Nat.le_succ i)), fun x => ?_⟩, by omega, iI⟩
    rw [hom]
    constructor
    ·rintro ⟨y, hy, hx⟩; exact ⟨y, (Xa3 hlt').2 (.inl hy), hx⟩
    ·rintro ⟨y, hy, hyc, hx⟩
     rcases (Xa3 hlt').1 hy with hy | rfl
     ·exact ⟨y, hy, hyc, hx⟩
     ·exact (hd ((hmem _).2 hyc)).elim
  ·obtain rfl : i = A.length := by omega
   rw [List.take_length] at hom
   refine JC.more (fun w1 ho => ho.pub) ?_
   refine wz3 ?_
   refine JR.callBuf rfl (fun w1 hw => Xjp w1 _ r s out hw.get (by omega)) ?_
   intro p3 q3
   refine JO.more (fun w1 ho => ho.pub) ?_
   refine wz10 ?_
   refine CT.dn (Y := AncY L A) ⟨(Xcc (Xdj out), p3, q3), ⟨Xbo _, (Xb5 _).nodup_iff.2 (Xbw _), fun _ x => ?_, fun hno => (hno hc).elim⟩⟩ rfl
   rw [Xf0, Xe1, hom, X0o]
   constructor
   ·rintro ⟨y, hy, hyc, (rfl | hx)⟩
    ·exact ⟨hyc, .inl hy⟩
    ·exact ⟨(Xhq hx).2, .inr ⟨y, hy, hx⟩⟩
   ·rintro ⟨hx, (hxA | ⟨y, hy, hk⟩)⟩
    ·exact ⟨x, hxA, hx, .inl rfl⟩
    ·exact ⟨y, hy, (Xhq hk).1, .inr hk⟩
structure PartR (L : List Commit) (A : List ID) (M : List Commit) : Prop where
 part : Closed L → M = L.filter (fun c => decide (idC c ∈ A))
 not : ¬ Closed L → M = []
abbrev X0q (L : List Commit) (A : List ID) := { y : List Commit × Option Addr × Nat // PartR L A y.1 }
theorem Xyl (a d : Option Addr) (k m : Nat) (L : List Commit) (A : List ID) (h : (sl a k L).holds F w) (h' : (sl d m A).holds F w) (hl : L.length ≤ 1000) (hf : ∀ x ∈ L, fine x) :
  Gives prog 44 [.slice a L.length k, .slice d A.length m] w F (fun y : X0q L A => .slice y.1.2.1 y.1.1.length y.1.2.2) (fun y => [.st (sl y.1.2.1 y.1.2.2 y.1.1)]) := by
 refine Xaa func44 rfl ntmps44 rfl rfl [.st (sl a k L), .st (sl d m A)] (.start2 h h') ?_
 refine wz10 ?_
 refine JR.call (v := fun y : OfY L => ofV y) rfl (fun w1 hw => Xsy w1 _ a k L hw.get (by omega) hf) ?_
 rintro ⟨⟨bo, bk, R, I, p, q, b⟩, hy⟩
 dsimp only [ofV]
 have hIl : I.length ≤ L.length := hy.len
 refine JO.more (Γ' := [.st (sl p q I), .st (sl a k L), .st (sl d m A)]) (fun w1 ho => by
  cases b with
  | false => rw [Xsz hy] at ho; simp only [List.cons_append, List.nil_append] at ho; exact ho.ent
  | true => rw [Xru hy] at ho; simp only [List.cons_append, List.nil_append] at ho; exact ho.ent) ?_
 (repeat (refine wE ?_; intro _)); refine wA ?_
 refine JC.buf_nil (α := Commit) 29 ?_
 cases b with
 | false =>
  have hno : ¬ Closed L := fun hc => by have := hy.iff.2 hc; cases this
  refine Xay (fun (i : Nat) => [(0, .slice a L.length k), (1, .slice d A.length m), (6, .slice p I.length q), (7, .bool false), (8, .slice none 0 0), (17, .int .i64 (I.length : Int)), (18, .int .i64 (i : Int))])
   (fun i => [.st (sl p q I), .st (sl a k L), .st (sl d m A)]) (fun i => i ≤ I.length) (fun i => I.length - i) 0 (Nat.zero_le _) iI ?_
  intro i hi
  refine wz11 ?_
  refine JC.test (fun hlt => ?_) (fun hge => ?_)
  ·refine wX ?_
   exact ⟨i + 1, by omega, by omega, iI⟩
  ·refine wz3 ?_
   exact CT.done (Y := X0q L A) ⟨([], none, 0), ⟨fun hc => (hno hc).elim, fun _ => rfl⟩⟩ rfl (fun w ho => (Hold.add (A := sl (α := Commit) none 0 []) (ho.ent : Hold _ _ [] w) Xak))
 | true =>
  have hc := hy.iff.1 rfl
  have hI : I = cids L := hy.ids rfl
  subst hI
  have hcl : (cids L).length = L.length := Xbp L
  refine Xdc (fun (i : Nat) (out : List Commit) r s => [(0, .slice a L.length k), (1, .slice d A.length m), (6, .slice p (cids L).length q), (7, .bool true), (8, .slice r out.length s), (17, .int .i64 ((cids L).length : Int)), (18, .int .i64 (i : Int))])
   (fun i out r s => [.res (buf r s 29 out), .st (sl p q (cids L)), .st (sl a k L), .st (sl d m A)]) (fun i out _ _ => i ≤ L.length ∧ out.length ≤ i ∧ out = (L.take i).filter (fun c => decide (idC c ∈ A))) (fun i _ _ _ => L.length - i) 0 [] none 0 ⟨Nat.zero_le _, by simp, by simp⟩ iI ?_
  intro i out r s ⟨hi, hol, hout⟩
  refine wz11 ?_
  refine JC.test (fun hlt => ?_) (fun hge => ?_)
  ·have hlt' : i < L.length := by omega
   have hxe : (cids L)[i]'(by omega) = idC L[i] := Xjo L i (by omega)
   have hfx := hf _ (List.getElem_mem hlt')
   have hnx : (L.take (i + 1)).filter (fun c => decide (idC c ∈ A)) = out ++ (if idC L[i] ∈ A then [L[i]] else []) := by
    rw [List.take_succ_eq_append_getElem hlt', List.filter_append, ← hout]
    congr 1
    by_cases hA : idC L[i] ∈ A <;> simp [hA]
   refine wz7 ?_
   refine Xcm (L := cids L) rfl (by omega) ?_
   intro bi oi
   rw [hxe]
   refine wz6 ?_
   refine JR.callV rfl (fun w1 hw => Xq5 w1 _ d m A (idC L[i]) hw.get) ?_
   refine wz8 ?_
   refine JC.test (fun hA => ?_) (fun hA => ?_)
   ·refine wz14 ?_
    refine Xaj rfl hlt' ?_
    intro b1 o1 p1 q1
    refine wz6 ?_
    refine JR.call1 rfl (fun w1 hw => Xwr w1 _ (L[i]) p1 q1 hw.get hfx.2) ?_
    rintro ⟨p2, q2⟩
    dsimp only
    (repeat (refine wF ?_; intro _)); refine wX ?_
    refine Xa1 (u := L[i]) rfl (by exact ⟨rfl, rfl, by decide⟩) (by omega) ?_
    intro r2 s2
    refine wz2 ?_
    exact ⟨i + 1, out ++ [L[i]], r2, s2, ⟨by omega, by simp; omega, by rw [hnx, if_pos hA]⟩, by omega, iI⟩
   ·refine wz2 ?_
    exact ⟨i + 1, out, r, s, ⟨by omega, by omega, by rw [hnx, if_neg hA, List.append_nil]⟩, by omega, iI⟩
  ·obtain rfl : i = L.length := by omega
   rw [List.take_length] at hout
   refine JC.more (fun w1 ho => ho.pub) ?_
   refine wz3 ?_
   exact CT.dn (Y := X0q L A) ⟨(out, r, s), ⟨fun _ => hout, fun hn => (hn hc).elim⟩⟩ rfl
def leS (c d : Commit) : Prop := c.gen < d.gen ∨ (c.gen = d.gen ∧ idLt (idC d) (idC c) = false)
structure SortedR (L M : List Commit) : Prop where
 perm : Closed L → M.Perm L
 sorted : Closed L → M.Pairwise leS
 not : ¬ Closed L → M = []
theorem Xl3 {L M N : List Commit} (h : (cids L).Nodup) (h1 : M.Perm L) (h2 : N.Perm L) (h3 : M.Pairwise leS) (h4 : N.Pairwise leS) : M = N := by
 refine List.Perm.eq_of_pairwise (le := leS) (fun c d hc hd h5 h6 => ?_) h3 h4 (h1.trans h2.symm)
 have e : idC c = idC d := by
  rcases h5 with h5 | ⟨h5, h7⟩ <;> rcases h6 with h6 | ⟨h6, h8⟩
  ·omega
  ·omega
  ·omega
  ·exact Xgd h8 h7
 exact Xmp h (h1.mem_iff.1 hc) (h2.mem_iff.1 hd) e
abbrev X0r (L : List Commit) := { y : List Commit × Option Addr × Nat // SortedR L y.1 }
def idAt (L : List Commit) (i : Nat) : ID := idC (L.getD i Xcv)
def cfS (L : List Commit) (i j : Nat) : Int := orL [cmpI (genC L i) (genC L j), Xfg (idAt L i) (idAt L j)]
theorem Xp4 (a b : Int) : cmpI a b ≠ 0 ↔ a ≠ b := by
 unfold cmpI
 split
 ·simp; omega
 ·split
  ·simp; omega
  ·simp; omega
theorem Xzf (L : List Commit) (i j : Nat) : cfS L i j < 0 ↔ genC L i < genC L j ∨ (genC L i = genC L j ∧ idLt (idAt L i) (idAt L j) = true) := by
 unfold cfS
 simp only [orL]
 by_cases h : genC L i = genC L j
 ·rw [if_neg (by rw [Xp4]; simpa using h)]
  have : (if Xfg (idAt L i) (idAt L j) ≠ 0 then Xfg (idAt L i) (idAt L j) else 0) = Xfg (idAt L i) (idAt L j) := by split <;> simp_all
  rw [this]
  simp [h, idLt]
 ·rw [if_pos (by rw [Xp4]; exact h), Xrt]
  simp [h]
theorem Xud (L : List Commit) : Go.Sort.SWO (Go.Proofs.ltOf (cfS L)) := by
 have h : ∀ i j, Go.Proofs.ltOf (cfS L) i j = true ↔ genC L i < genC L j ∨ (genC L i = genC L j ∧ idLt (idAt L i) (idAt L j) = true) := fun i j => by
  simp only [Go.Proofs.ltOf, decide_eq_true_eq, Xzf]
 have h' : ∀ i j, Go.Proofs.ltOf (cfS L) i j = false ↔ ¬ (genC L i < genC L j ∨ (genC L i = genC L j ∧ idLt (idAt L i) (idAt L j) = true)) := fun i j => by
  rw [← h]; simp
 refine ⟨fun x => ?_, fun x y z h1 h2 => ?_, fun x y z h1 h2 => ?_⟩
 ·rw [h']; simp [Xgy]
 ·rw [h] at h1 h2 ⊢
  rcases h1 with h1 | ⟨h1, h3⟩ <;> rcases h2 with h2 | ⟨h2, h4⟩
  ·exact .inl (by omega)
  ·exact .inl (by omega)
  ·exact .inl (by omega)
  ·exact .inr ⟨by omega, Xic h3 h4⟩
 ·rw [h'] at h1 h2 ⊢
  rintro (h3 | ⟨h3, h4⟩)
  ·have h5 : ¬ genC L x < genC L y := fun h => h1 (.inl h)
   have h6 : ¬ genC L y < genC L z := fun h => h2 (.inl h)
   omega
  ·have h5 : ¬ genC L x < genC L y := fun h => h1 (.inl h)
   have h6 : ¬ genC L y < genC L z := fun h => h2 (.inl h)
   have e1 : genC L x = genC L y := by omega
   have e2 : genC L y = genC L z := by omega
   have h7 : idLt (idAt L x) (idAt L y) = false := by rw [← Bool.not_eq_true]; exact fun h => h1 (.inr ⟨e1, h⟩)
   have h8 : idLt (idAt L y) (idAt L z) = false := by rw [← Bool.not_eq_true]; exact fun h => h2 (.inr ⟨e2, h⟩)
   have := Xez h8 h7
   rw [this] at h4; cases h4
theorem Xk4 {w0 w : World} {F : Nat → Prop} {Γ : List Fact} {b c el bl ba k m : Nat} {a d : Option Addr} {L : List Commit} (hl : L.length ≤ 1000000)
  (ho : Hold w0 F (.own b el ((List.range L.length).map natV) :: .st (ro bl 0 [.slice a L.length k]) :: .st (sl a k L) :: .st (ro ba 0 [.slice d (cids L).length m]) :: .st (sl d m (cids L)) :: Γ) w) :
  Calls prog 69 ⟨[.slice (some ⟨b, 0, none⟩) L.length c, .func (.func 70) ⟨[]⟩ ⟨[.pointer (some ⟨bl, 0, none⟩), .pointer (some ⟨ba, 0, none⟩)]⟩]⟩ w fun x w' =>
   ∃ O : Xwx (cfS L) L.length, x = .returned (.tuple ⟨[]⟩) ∧ Hold w0 F (.own b el (O.1.map natV) :: .st (ro bl 0 [.slice a L.length k]) :: .st (sl a k L) :: .st (ro ba 0 [.slice d (cids L).length m]) :: .st (sl d m (cids L)) :: Γ) w' := by
 refine Xmt Xwy _ (Xud L) _ _ hl ho (fun W hW x y hx hy => ?_)
 have h1 := hW (sl a k L) (ho.get (A := sl a k L))
 have h2 := hW (ro bl 0 [.slice a L.length k]) (ho.get (A := ro bl 0 [.slice a L.length k]))
 have h3 := hW (sl d m (cids L)) (ho.get (A := sl d m (cids L)))
 have h4 := hW (ro ba 0 [.slice d (cids L).length m]) (ho.get (A := ro ba 0 [.slice d (cids L).length m]))
 have hx' : x < (cids L).length := by rw [Xbp]; exact hx
 have hy' : y < (cids L).length := by rw [Xbp]; exact hy
 have := @Xrp ⟨True⟩ W _ a d k m bl ba L (cids L) x y hx hy hx' hy' h1 h2 h3 h4
 rw [Xjo L x hx', Xjo L y hy'] at this
 simpa [cfS, genC, idAt, List.getD_eq_getElem?_getD, hx, hy] using this
theorem Xue (a : Option Addr) (k : Nat) (L : List Commit) (h : (sl a k L).holds F w) (hl : L.length ≤ 1000) (hf : ∀ x ∈ L, fine x) :
  Gives prog 26 [.slice a L.length k] w F (fun y : X0r L => .slice y.1.2.1 y.1.1.length y.1.2.2) (fun y => [.st (sl y.1.2.1 y.1.2.2 y.1.1)]) := by
 refine Xaa func26 rfl ntmps26 rfl rfl [.st (sl a k L)] (.start1 h) ?_
 (repeat (refine wE ?_; intro _)); refine wA ?_
 rename_i b1
 refine JR.pubOwn b1 ?_
 refine JR.call (v := fun y : OfY L => ofV y) rfl (fun w1 hw => Xsy w1 _ a k L hw.get (by omega) hf) ?_
 rintro ⟨⟨bo, bk, R, I, p, q, b⟩, hy⟩
 dsimp only [ofV]
 refine JO.more (Γ' := [.st (sl p q I), .st (ro b1 0 [.slice a L.length k]), .st (sl a k L)]) (fun w1 ho => by
  cases b with
  | false => rw [Xsz hy] at ho; simp only [List.cons_append, List.nil_append] at ho; exact ho.ent
  | true => rw [Xru hy] at ho; simp only [List.cons_append, List.nil_append] at ho; exact ho.ent) ?_
 (repeat (refine wE ?_; intro _)); refine wA ?_
 cases b with
 | false =>
  have hno : ¬ Closed L := fun hc => by have := hy.iff.2 hc; cases this
  refine wz8 ?_
  exact CT.done (Y := X0r L) ⟨([], none, 0), ⟨fun hc => (hno hc).elim, fun hc => (hno hc).elim, fun _ => rfl⟩⟩ rfl (fun w ho => (Hold.add (A := sl (α := Commit) none 0 []) (ho.ent : Hold _ _ [] w) Xak))
 | true =>
  have hc := hy.iff.1 rfl
  have hI : I = cids L := hy.ids rfl
  subst hI
  have hcl : (cids L).length = L.length := Xbp L
  refine wA ?_
  rename_i b3 b4
  refine Xkc rfl rfl (by omega) ?_
  intro bO
  refine wz4 ?_
  refine JC.pubOwn b4 ?_
  refine Xay (fun (i : Nat) => [(1, .pointer (some ⟨b1, 0, none⟩)), (4, .pointer (some ⟨b4, 0, none⟩)), (6, .slice (some ⟨bO, 0, none⟩) L.length L.length), (23, .int .i64 (L.length : Int)), (24, .int .i64 (i : Int))])
   (fun i => .own bO 3 ((List.range i ++ List.replicate (L.length - i) 0).map natV) :: .st (ro b1 0 [.slice a L.length k]) :: .st (sl a k L) :: .st (ro b4 0 [.slice p (cids L).length q]) :: .st (sl p q (cids L)) :: [])
   (fun i => i ≤ L.length) (fun i => L.length - i) 0 (Nat.zero_le _) (by rw [List.range_zero, List.nil_append, Nat.sub_zero]; infer_instance) ?_
  intro i hi
  refine wz11 ?_
  refine JC.test (fun hlt => ?_) (fun hge => ?_)
  ·have hlt' : i < L.length := by omega
   have e : (List.range i ++ List.replicate (L.length - i) 0).set i i = List.range (i + 1) ++ List.replicate (L.length - (i + 1)) 0 := by
    obtain ⟨m, hm⟩ : ∃ m, L.length - i = m + 1 := ⟨L.length - i - 1, by omega⟩
    rw [hm, List.replicate_succ, List.set_append_right _ _ (by simp), List.length_range, Nat.sub_self, List.set_cons_zero, List.range_succ, List.append_assoc, show L.length - (i + 1) = m by omega]
    rfl
   refine wz7 ?_
   refine Wf (Xdh (k := i) hlt') rfl ?_
   refine We rfl ?_
   refine Xfd (f := natV) i i (by simp; omega) (by omega) rfl ?_
   rw [e]
   refine wz2 ?_
   exact ⟨i + 1, by omega, by omega, iI⟩
  obtain rfl : i = L.length := by omega
  rw [show List.range L.length ++ List.replicate (L.length - L.length) 0 = List.range L.length by simp]
  refine wA ?_
  refine Xbi (v := fun _ : Xwx (cfS L) L.length => .tuple ⟨[]⟩) rfl (fun w1 hw => Xk4 (el := 3) (a := a) (k := k) (d := p) (m := q) (Γ := []) (by omega) hw.ent) ?_
  rintro ⟨O, hO1, hO2⟩
  dsimp only
  have hOl : O.length = L.length := by rw [hO1.length_eq, List.length_range]
  refine wz4 ?_
  refine JC.buf_nil (α := Commit) 29 ?_
  refine Xb7 (fun (i : Nat) r s => [(1, .pointer (some ⟨b1, 0, none⟩)), (8, .slice r (byO L (O.take i)).length s), (35, .slice (some ⟨bO, 0, none⟩) L.length L.length), (36, .int .i64 (L.length : Int)), (37, .int .i64 (i : Int))])
   (fun i r s => .res (buf r s 29 (byO L (O.take i))) :: .own bO 3 (O.map natV) :: .st (ro b1 0 [.slice a L.length k]) :: .st (sl a k L) :: [])
   (fun i _ _ => i ≤ L.length) (fun i _ _ => L.length - i) 0 none 0 (Nat.zero_le _) (by rw [List.take_zero, show byO L [] = [] from rfl]; infer_instance) ?_
  intro i r s hi
  refine wz11 ?_
  refine JC.test (fun hlt => ?_) (fun hge => ?_)
  ·have hlt' : i < L.length := by omega
   have hiO : i < O.length := by omega
   obtain ⟨j, hj⟩ : ∃ j, j = O[i] := ⟨_, rfl⟩
   have hjn : j < L.length := by rw [hj]; exact List.mem_range.1 (hO1.mem_iff.1 (List.getElem_mem hiO))
   have hfx := hf _ (List.getElem_mem hjn)
   have hnx : byO L (O.take (i + 1)) = byO L (O.take i) ++ [L[j]] := by
    rw [List.take_succ_eq_append_getElem hiO, byO, List.map_append, ← hj]
    simp [byO, List.getD_eq_getElem?_getD, hjn]
   have hbl : (byO L (O.take i)).length ≤ i := by simp [byO]; omega
   refine wz14 ?_
   refine Wf (Xdh (k := i) (by omega)) rfl ?_
   refine We rfl ?_
   refine Wf (Xbk (f := natV) i (by omega) (by omega) rfl) rfl ?_
   refine JO.reslot 40 (natV j) (by rw [hj]) ?_
   refine wz9 ?_
   refine Xaj rfl hjn ?_
   intro bc oc pc qc
   refine wz6 ?_
   refine JR.call1 rfl (fun w1 hw => Xwr w1 _ (L[j]) pc qc hw.get hfx.2) ?_
   rintro ⟨p2, q2⟩
   dsimp only
   (repeat (refine wE ?_; intro _)); refine wA ?_
   refine Xa1 (u := L[j]) rfl (by exact ⟨rfl, rfl, by decide⟩) (by omega) ?_
   intro r2 s2
   refine wz2 ?_
   exact ⟨i + 1, r2, s2, by omega, by omega, by rw [hnx]; infer_instance⟩
  ·obtain rfl : i = L.length := by omega
   rw [List.take_of_length_le (by omega)]
   refine JC.more (fun w1 ho => ho.pub) ?_
   refine wz3 ?_
   refine CT.dn (Y := X0r L) ⟨(byO L O, r, s), ⟨fun _ => Xsx hO1, fun _ => ?_, fun hn => (hn hc).elim⟩⟩ rfl
   rw [byO, List.pairwise_map]
   refine hO2.imp ?_
   intro i j hij
   rw [Xzf] at hij
   simp only [leS]
   by_cases h1 : genC L j < genC L i
   ·exact (hij (.inl h1)).elim
   ·by_cases h2 : genC L i < genC L j
    ·exact .inl h2
    ·refine .inr ⟨(by have e : genC L i = genC L j := (by omega); exact e), ?_⟩
     rw [← Bool.not_eq_true]
     exact fun h => hij (.inr ⟨by omega, h⟩)
end
section
attribute [local irreducible] Xaq
theorem Hold.pubRow {α : Type} [ic : Cell α] {w0 w : World} {F : Nat → Prop} {Γ : List Fact} {b : Nat} {t : TypeId} {vs : List Value} (r : List (α × Cell.Ix α)) (h : Hold w0 F (.own b t vs :: Γ) w) (hvs : vs = flat r)
  (hf : ∀ p ∈ r, ∀ A ∈ Cell.facts p.1 p.2, .st A ∈ Γ) (hl : r.length ≤ 1048576) : Hold w0 F (.st (sl (some ⟨b, 0, none⟩) r.length (r.map (·.1))) :: Γ) w := by
 have hw : w.heap[b]? = some (.cells vs.toArray t (0, 0)) := h.sat (.own b t _) (by simp)
 refine h.publish fun hk => ?_
 have hb := hk b (.inr rfl)
 refine ⟨by simp, by simp only [maxLen]; omega, by simp only [List.length_map, lim]; omega, fun hne => ⟨b, 0, rfl, hb, (Array.getElem?_eq_some_iff.1 hw).1, fun i hi => ?_⟩⟩
 have hi' : i < r.length := by simpa using hi
 refine ⟨(r[i]).2, ?_, fun A hA => ?_⟩
 ·intro j v hv
  simp only [List.getElem_map] at hv
  have := Xjv r i hi' j v hv
  rw [cell_of_row w b _ _ _ _ hw, hvs]
  simpa using this
 ·simp only [List.getElem_map] at hA
  exact h.tail.sat (.st A) (hf _ (List.getElem_mem hi') A hA)
def keyA : ByteArray := ⟨#[97]⟩
def l0 : Commit := ⟨⟨0, 1⟩, 1, [], ⟨0, keyA, .empty, 1⟩⟩
def idA : ID := (Xaq l0).1
def l1 : Commit := ⟨⟨0, 2⟩, 2, [idA], ⟨0, keyA, .empty, 2⟩⟩
end
end
section
attribute [local irreducible] JC JO JR JQ andThen inBlock OpV Gives Xae JM JS
theorem Xym (x : ID) (M : List ID) (h : x ∉ M) : Xaw [x] M false = [x] := by
 simp [Xaw, Xc8, Xdj, h, addK, Xcc]
attribute [local irreducible] Xaq idA l0 l1
theorem Xyn {F : Nat → Prop} {w : World} {b : Nat} {x : ID} (h : (ro b 0 (idc x)).holds F w) : (sl (some ⟨b, 0, none⟩) 1 [x]).holds F w := by
 refine ⟨by simp, by simp [maxLen], by simp [lim], fun _ => ⟨b, 0, rfl, h.1, h.2.1, fun i hi => ⟨(), ?_, by simp [Cell.facts]⟩⟩⟩
 have h0 : i = 0 := by simpa using hi
 subst h0
 rw [Nat.zero_mul, Nat.add_zero]
 exact h.2.2
end
section
attribute [local irreducible] JC JO JR JQ andThen inBlock OpV Gives Xae JM JS
section
attribute [local irreducible] Xaq
theorem Xuf (a : Option Addr) (k : Nat) (L : List Commit) (h : (sl a k L).holds F w) (hl : L.length ≤ 1000000) (hf : ∀ x ∈ L, fine x) (hc : Closed L) :
  GivesV prog 25 [.slice a L.length k] w F (.bool true) := by
 have h0 := Xil w F a k L h hl hf
 unfold Gives at h0
 unfold GivesV Gives
 refine Calls.mono h0 ?_
 rintro e w' ⟨y, rfl, hb, hB⟩
 exact ⟨(), by dsimp only; rw [y.2.2 hc], hb, hB⟩
theorem Xwz (a : Option Addr) (k : Nat) (L : List Commit) (h : (sl a k L).holds F w) (hl : L.length ≤ 1000000) (hf : ∀ x ∈ L, fine x) (hc : ¬ Closed L) :
  GivesV prog 25 [.slice a L.length k] w F (.bool false) := by
 have h0 := Xil w F a k L h hl hf
 unfold Gives at h0
 unfold GivesV Gives
 refine Calls.mono h0 ?_
 rintro e w' ⟨y, rfl, hb, hB⟩
 refine ⟨(), ?_, hb, hB⟩
 have : y.1 = false := by rw [← Bool.not_eq_true]; exact fun h => hc (y.2.1 h)
 dsimp only
 rw [this]
theorem Xw0 (a d : Option Addr) (k m : Nat) (L : List Commit) (A M : List ID) (h : (sl a k L).holds F w) (h' : (sl d m A).holds F w) (hl : L.length ≤ 1000) (hA : A.length ≤ 1000) (hf : ∀ x ∈ L, fine x) (hM : AncR L A M) :
  Xcb prog 45 [.slice a L.length k, .slice d A.length m] w F M := by
 have h0 := X0p w F a d k m L A h h' hl hA hf
 unfold Gives at h0
 unfold Xcb Gives
 refine Calls.mono h0 ?_
 rintro e w' ⟨⟨⟨N, p, q⟩, hN⟩, rfl, hb, hB⟩
 have : N = M := hN.unique hM
 subst this
 exact ⟨(p, q), rfl, hb, hB⟩
theorem Xzg (L : List Commit) (A : List ID) : ∃ M, AncR L A M := by
 by_cases hc : Closed L
 ·refine ⟨Xcc ((cids L).filter fun x => @decide (X0o L A x) (Classical.propDecidable _)), Xbo _, (Xb5 _).nodup_iff.2 (hc.nodup.sublist List.filter_sublist), fun _ x => ?_, fun h => (h hc).elim⟩
  rw [Xf0, List.mem_filter]
  constructor
  ·rintro ⟨_, h⟩; exact @of_decide_eq_true _ (Classical.propDecidable _) h
  ·intro h; exact ⟨h.1, @decide_eq_true _ (Classical.propDecidable _) h⟩
 ·exact ⟨[], List.Pairwise.nil, List.nodup_nil, fun h => (hc h).elim, fun _ => rfl⟩
theorem Xoa (a b : Option Addr) (k m : Nat) (L : List Commit) (H : List ID) (rc : Commit) (rl : List Commit) (rb : Bool) (hR : Xar L H = (rc, rl, rb)) (h : (sl a k L).holds F w) (h' : (sl b m H).holds F w) (hl : L.length < 34359738368) (hf : ∀ x ∈ L, fine x) :
  Gives prog 205 [.slice a L.length k, .slice b H.length m] w F
   (fun y : (Option Addr × Nat) × (Option Addr × Nat) => .tuple ⟨[Xax rc y.1.1 y.1.2, .slice y.2.1 rl.length y.2.2, .bool rb]⟩)
   (fun y => [.st (sl y.1.1 y.1.2 rc.parents), .st (sl y.2.1 y.2.2 rl)]) := by
 have := Xtu w F a b k m L H h h' hl hf
 rw [hR] at this
 exact this
theorem Xyo {c : Commit} (h : fewC c = true) : fine c := by
 simp only [fewC, Bool.and_eq_true, decide_eq_true_eq] at h
 exact ⟨⟨by omega, by omega⟩, by omega⟩
theorem Xyp {L : List Commit} {m : Nat} (h : fewL L m = true) : L.length ≤ m ∧ ∀ x ∈ L, fine x := by
 simp only [fewL, Bool.and_eq_true, decide_eq_true_eq, List.all_eq_true] at h
 exact ⟨h.1, fun x hx => Xyo (h.2 x hx)⟩
instance : Cell (List ID) where
 Ix := Option Addr × Nat
 sz := 1
 cells l y := [.slice y.1 l.length y.2]
 facts l y := [sl y.1 y.2 l]
 len _ _ := rfl
 one l y := by simp [Value.oneCell']
 pos := by decide
section
variable {P : Program} {n : Nn} {w0 : World} {F : Nat → Prop} {ops : Array Oper} {i d : Nat} {t : TypeId} {pos : String} {aft : Array Edge} {g : Option (Nat × Bool)} {os : List Oper} {Q : Cont} {e : E} {Γ : List Fact}
theorem Xk5 [Dr] {x ix : Operand} {v : Value} {L : List (List ID)} {kk : IntKind} {j : Int} {k : Nat} {ty el : TypeId} {sz by_ eb : Nat} {z ez : Value} {ed : TypeDesc}
  [hx : Ev e x v] [hL : HasSl Γ v (List ID) iI L] [hi : Ev e ix (.int kk j)] [hk : NatI j k] [hT : Ty P ty (.slice el) sz by_ z] [hE : Ty P el ed 1 eb ez] (hd : Nat.blt d n.s = true) (h : k < L.length)
  (K : ∀ b o p q, JO P n w0 F ops (i + 1) os Q ((d, .pointer (some ⟨b, o, none⟩)) :: e) (.st (ro b o [.slice p (L[k]'h).length q]) :: .st (sl p q (L[k]'h)) :: Γ)) :
  JR P n w0 F ops i ⟨some d, .indexAddr ty x ix, t, pos, aft, g⟩ os Q e Γ := JR.index hd rfl h fun b o (y : Option Addr × Nat) => K b o y.1 y.2
end
theorem Xyq (k : Nat) (hk : k ≤ 1048576) : GivesBuf prog 165 [.slice none 0 0, .int .i64 (k : Int)] w F 81 ([] : List ID) := by
 refine Xaa func165 rfl ntmps165 rfl rfl [] (.start w F) ?_
 refine wz2 ?_
 refine Wf OpV.cap rfl ?_
 refine wA ?_
 refine JC.reslot 1 (.int .i64 (k : Int)) (by first | rfl | (congr 1 <;> omega)) ?_
 refine JC.test (fun hlt => ?_) (fun hge => ?_)
 ·refine wz14 ?_
  refine Wf OpV.cap rfl ?_
  refine We rfl ?_
  refine Wf (Xbm (k := 0) (fun _ _ => Nat.zero_le _)) rfl ?_
  refine wz6 ?_
  refine Xgo (α := ID) (k := k) rfl (by exact ⟨rfl, rfl, by decide⟩) ⟨by omega, by omega⟩ ?_
  intro b c hc
  refine wz4 ?_
  refine Wf (Xbm (k := 0) (fun _ _ => Nat.zero_le _)) rfl ?_
  refine wz10 ?_
  exact CT.dn (some ⟨b, 0, none⟩, c) rfl
 ·refine JC.buf_nil (α := ID) 81 ?_
  refine wz1 ?_
  exact CT.dn (none, 0) rfl
theorem Xug (a : Option Addr) (c : Nat) (ls : List (List ID)) (h : (sl a c ls).holds F w) (hl : ls.flatten.length ≤ 1048576) (hl2 : ls.length ≤ 1048576) :
  GivesBuf prog 107 [.slice a ls.length c] w F 81 ls.flatten := by
 have hle : ∀ k, (ls.take k).flatten.length ≤ 1048576 := fun k => by
  have h1 := congrArg (fun l => l.flatten.length) (List.take_append_drop k ls)
  simp only [List.flatten_append, List.length_append] at h1
  omega
 have hnext : ∀ k (hk : k < ls.length), (ls.take (k + 1)).flatten = (ls.take k).flatten ++ ls[k] := fun k hk => by
  rw [List.take_succ_eq_append_getElem hk, List.flatten_append]; simp
 refine Xaa func107 rfl ntmps107 rfl rfl [.st (sl a c ls)] (.start1 h) ?_
 refine wz4 ?_
 refine JC.reslot 3 (.int .i64 (((ls.take 0).flatten.length : Nat) : Int)) rfl ?_
 refine Xay (fun k : Nat => [(0, .slice a ls.length c), (3, .int .i64 ((ls.take k).flatten.length : Int)), (9, .slice a ls.length c), (10, .int .i64 (ls.length : Int)), (11, .int .i64 (k : Int))]) (fun k => [.st (sl a c ls)])
  (fun k => k ≤ ls.length) (fun k => ls.length - k) 0 (Nat.zero_le _) iI ?_
 intro k hk
 refine wz11 ?_
 refine JC.test (fun hlt => ?_) (fun hge => ?_)
 ·have hlt' : k < ls.length := by omega
  have h1 := hle (k + 1)
  have h2 := hnext k hlt'
  have h3 : (ls.take (k + 1)).flatten.length = (ls.take k).flatten.length + (ls[k]).length := by rw [h2, List.length_append]
  refine wz14 ?_
  refine Xk5 rfl hlt' ?_
  intro b o p q
  refine wA ?_
  exact ⟨k + 1, by omega, by omega, by rw [h3]; infer_instance⟩
 ·obtain rfl : k = ls.length := by omega
  rw [List.take_length]
  refine wz3 ?_
  refine JR.callBuf rfl (fun w1 hw => Xyq w1 _ _ hl) ?_
  intro a1 c1
  refine wz4 ?_
  refine Xb7 (fun (k : Nat) p q => [(6, .slice p (ls.take k).flatten.length q), (25, .slice a ls.length c), (26, .int .i64 (ls.length : Int)), (27, .int .i64 (k : Int))]) (fun k p q => [.st (sl a c ls), .res (buf p q 81 (ls.take k).flatten)])
   (fun k _ _ => k ≤ ls.length) (fun k _ _ => ls.length - k) 0 a1 c1 (Nat.zero_le _) (by rw [List.take_zero, List.flatten_nil]; infer_instance) ?_
  intro k p q hk
  refine wz11 ?_
  refine JC.test (fun hlt => ?_) (fun hge => ?_)
  ·have hlt' : k < ls.length := by omega
   have h1 := hle (k + 1)
   have h2 := hnext k hlt'
   have h3 : (ls.take (k + 1)).flatten.length = (ls.take k).flatten.length + (ls[k]).length := by rw [h2, List.length_append]
   refine wz14 ?_
   refine Xk5 rfl hlt' ?_
   intro b o p2 q2
   refine wz9 ?_
   refine Xbg rfl (by exact ⟨rfl, rfl, by decide⟩) (by omega) ?_
   intro p3 q3
   refine wz2 ?_
   exact ⟨k + 1, p3, q3, by omega, by omega, by rw [h2]; infer_instance⟩
  ·obtain rfl : k = ls.length := by omega
   rw [List.take_length]
   refine wz3 ?_
   exact CT.dn (p, q) rfl
theorem Xyr (a b : Option Addr) (c k : Nat) (A B : List ID) (h : (sl a c A).holds F w) (h' : (sl b k B).holds F w) (hA : A.length ≤ 10000) (hB : B.length ≤ 10000) :
  GivesBuf prog 49 [.slice a A.length c, .slice b B.length k] w F 81 (Xcc (Xdj (A ++ B))) := by
 refine Xaa func49 rfl ntmps49 rfl rfl [.st (sl a c A), .st (sl b k B)] (.start2 h h') ?_
 (repeat (refine wE ?_; intro _)); refine wA ?_
 rename_i lb
 have e : [A, B].flatten = A ++ B := by simp
 refine JR.more (Γ' := .st (sl (some ⟨lb, 0, none⟩) 2 [A, B]) :: [.st (sl a c A), .st (sl b k B)]) (fun w1 ho => ?_) ?_
 ·have h1 : Hold _ _ (.own lb 25 [.slice a A.length c, .slice b B.length k] :: [.st (sl a c A), .st (sl b k B)]) w1 := ho.ent
  exact Hold.pubRow [(A, ((a, c) : Cell.Ix (List ID))), (B, ((b, k) : Cell.Ix (List ID)))] h1 (by simp [flat]; rfl) (by simp [Cell.facts]) (by simp)
 refine JR.callBuf (L := A ++ B) rfl (fun w1 hw => by have := Xug w1 _ (some ⟨lb, 0, none⟩) 2 [A, B] hw.get (by simp; omega) (by simp); rwa [e] at this) ?_
 intro p q
 refine JO.more (fun w1 ho => ho.pub) ?_
 refine wz13 ?_
 refine JR.callBuf rfl (fun w1 hw => Xjp w1 _ p q (A ++ B) hw.get (by simp; omega)) ?_
 intro p2 q2
 refine wz10 ?_
 exact CT.dn (p2, q2) rfl
end
section
attribute [local irreducible] Xaq idA l0 l1 ents
theorem AncR.down {L : List Commit} (hc : Closed L) {A X : List ID} (h : AncR L A X) {y x : ID} (hy : y ∈ X) (hk : Xbz L y x) : x ∈ X := by
 rw [h.mem hc] at hy ⊢
 refine ⟨(Xhq hk).2, .inr ?_⟩
 rcases hy.2 with h1 | ⟨z, hz, h1⟩
 ·exact ⟨y, h1, hk⟩
 ·exact ⟨z, hz, Xrm h1 hk⟩
theorem AncR.ids {L : List Commit} (hc : Closed L) {A X : List ID} (h : AncR L A X) {x : ID} (hx : x ∈ X) : x ∈ cids L := ((h.mem hc x).1 hx).1
theorem Xys {L : List Commit} (hc : Closed L) {A X : List ID} (hX : AncR L A X) (x : ID) : x ∈ cids (L.filter fun c => decide (idC c ∈ X)) ↔ x ∈ X := by
 rw [Xai]
 constructor
 ·rintro ⟨c, hcm, rfl⟩; simpa using (List.mem_filter.1 hcm).2
 ·intro hx
  obtain ⟨c, hcm, rfl⟩ := Xai.1 (hX.ids hc hx)
  exact ⟨c, List.mem_filter.2 ⟨hcm, by simpa using hx⟩, rfl⟩
theorem Xrv {L : List Commit} (hc : Closed L) {A X : List ID} (hX : AncR L A X) : Closed (L.filter fun c => decide (idC c ∈ X)) := by
 refine hc.sub (fun c hcm => (List.mem_filter.1 hcm).1) (Xk0 hc.nodup List.filter_sublist) (fun c hcm p hp => ?_)
 obtain ⟨h1, h2⟩ := List.mem_filter.1 hcm
 rw [Xys hc hX]
 exact hX.down hc (by simpa using h2) (.single ⟨c, h1, rfl, hp, (hc.fine c h1).here p hp⟩)
open Classical in
noncomputable def closedB (L : List Commit) : Bool := decide (Closed L)
theorem Xb6 {L : List Commit} : closedB L = true ↔ Closed L := by simp [closedB]
theorem Xef {L : List Commit} (h : Closed L) : closedB L = true := Xb6.2 h
theorem Xmu {L : List Commit} (h : ¬ Closed L) : closedB L = false := by rw [← Bool.not_eq_true, Xb6]; exact h
noncomputable def ancF (L : List Commit) (A : List ID) : List ID := Classical.choose (Xzg L A)
theorem Xk6 (L : List Commit) (A : List ID) : AncR L A (ancF L A) := Classical.choose_spec (Xzg L A)
noncomputable def partF (L : List Commit) (A : List ID) : List Commit := if closedB L then L.filter (fun c => decide (idC c ∈ A)) else []
theorem Xhu (L : List Commit) (A : List ID) : PartR L A (partF L A) :=
 ⟨fun h => by rw [partF, Xef h, if_pos rfl], fun h => by rw [partF, Xmu h]; rfl⟩
noncomputable def frontF (L : List Commit) : List ID := if closedB L then Xaw (cids L) (Xap L) false else []
def topL (L : List Commit) : Int := L.foldl (fun g c => max g c.gen) 0
def X1p (g : Int) (f : List ID) : Commit := ⟨⟨-1, 0⟩, g, f, op0⟩
def X1q (g : Int) (f : List ID) : Commit × Bool := if merge (X1p g f) then (X1p g f, true) else (Xcv, false)
noncomputable def joinF (L : List Commit) (A : List ID) : Commit × Bool :=
 match frontF (partF L (ancF L A)) with
 | [] => (Xcv, false)
 | [x] => X17 L x
 | f => X1q (topL (partF L f) + 1) f
noncomputable def headF (L : List Commit) : Commit × Bool := joinF L (idsP L)
noncomputable def baseF (L : List Commit) (A B : List ID) : List ID := Xaw (ancF L A) (ancF L B) true
noncomputable def nextC (L : List Commit) (ev : Ev_) (o : Op_) : Commit := ⟨ev, topL L + 1, frontF L, o⟩
noncomputable def nextF (L : List Commit) (ev : Ev_) (o : Op_) : Commit × Bool :=
 if closedB L && may (nextC L ev o) && closedB (L ++ [nextC L ev o]) then (nextC L ev o, true) else (Xcv, false)
theorem Xdl {A B : List ID} {x : ID} : x ∈ Xaw A B false ↔ x ∈ A ∧ x ∉ B := by
 rw [Xaw, Xf0, Xe1, Xc8, List.mem_filter]
 simp
theorem Xim (A B : List ID) (w : Bool) : (Xaw A B w).Nodup := by unfold Xaw; exact (Xb5 _).nodup_iff.2 (Xbw _)
theorem Xk7 (A B : List ID) (w : Bool) : (Xaw A B w).Pairwise (fun x y => idLt y x = false) := by unfold Xaw; exact Xbo _
theorem Xi6 {L : List Commit} {x : ID} : x ∈ Xap L ↔ ∃ c ∈ L, x ∈ c.parents := by simp [Xap]
theorem Xe6 {L : List Commit} (hc : Closed L) {x : ID} : x ∈ frontF L ↔ x ∈ cids L ∧ ∀ c ∈ L, x ∉ c.parents := by
 rw [frontF, Xef hc, if_pos rfl, Xdl, Xi6]
 simp
theorem Xp5 {L : List Commit} (hc : ¬ Closed L) : frontF L = [] := by rw [frontF, Xmu hc]; rfl
theorem Xk8 (L : List Commit) : (frontF L).Nodup := by
 unfold frontF; split
 ·exact Xim _ _ _
 ·exact List.nodup_nil
theorem Xp6 (L : List Commit) : (frontF L).Pairwise (fun x y => idLt y x = false) := by
 unfold frontF; split
 ·exact Xk7 _ _ _
 ·exact List.Pairwise.nil
theorem Xob : ∀ (L : List ID), L.Pairwise (fun x y => idLt y x = false) → L.Nodup → Xc7 L = true
 | [], _, _ => rfl
 | [_], _, _ => rfl
 | a :: b :: l, h1, h2 => by
  rw [List.pairwise_cons] at h1
  rw [List.nodup_cons] at h2
  have h3 : idLt a b = true := by
   rw [← Bool.not_eq_false]
   intro hn
   have := Xgd hn (h1.1 b (by simp))
   exact h2.1 (by simp [this])
  simp only [Xc7, h3, Xob (b :: l) h1.2 h2.2, Bool.and_self]
theorem Xrw (L : List Commit) : Xc7 (frontF L) = true := Xob _ (Xp6 L) (Xk8 L)
theorem Xuh {L : List Commit} (hc : Closed L) : ∀ (n : Nat) (x : ID), x ∈ cids L → (topL L - Xb9 L x).toNat ≤ n → x ∈ frontF L ∨ ∃ y ∈ frontF L, Xbz L y x := by
 have htop : ∀ x ∈ cids L, Xb9 L x ≤ topL L := fun x hx => by
  obtain ⟨c, hm, rfl⟩ := Xai.1 hx
  rw [Xcy hc.nodup hm]
  have key : ∀ (M : List Commit) (g : Int), g ≤ M.foldl (fun g c => max g c.gen) g ∧ ∀ d ∈ M, d.gen ≤ M.foldl (fun g c => max g c.gen) g := by
   intro M
   induction M with
   | nil => intro g; exact ⟨Int.le_refl _, by simp⟩
   | cons e M ih =>
    intro g
    obtain ⟨h1, h2⟩ := ih (max g e.gen)
    refine ⟨by simp only [List.foldl_cons]; omega, fun d hd => ?_⟩
    rcases List.mem_cons.1 hd with rfl | hd
    ·simp only [List.foldl_cons]; omega
    ·exact h2 d hd
  exact (key L 0).2 c hm
 intro n
 induction n with
 | zero =>
  intro x hx hn
  refine .inl ((Xe6 hc).2 ⟨hx, fun c hm hp => ?_⟩)
  have h1 := hc.par_gen (x := idC c) (y := x) ⟨c, hm, rfl, hp, hx⟩
  have h2 := htop (idC c) (Xai.2 ⟨c, hm, rfl⟩)
  omega
 | succ n ih =>
  intro x hx hn
  by_cases hf : ∀ c ∈ L, x ∉ c.parents
  ·exact .inl ((Xe6 hc).2 ⟨hx, hf⟩)
  ·obtain ⟨c, hm, hp⟩ : ∃ c, c ∈ L ∧ x ∈ c.parents := by
    apply Classical.byContradiction
    intro hn'
    exact hf fun c hm hp => hn' ⟨c, hm, hp⟩
   have hpar : par L (idC c) x := ⟨c, hm, rfl, hp, hx⟩
   have h1 := hc.par_gen hpar
   have h2 := htop (idC c) (Xai.2 ⟨c, hm, rfl⟩)
   rcases ih (idC c) (Xai.2 ⟨c, hm, rfl⟩) (by omega) with h | ⟨y, hy, hk⟩
   ·exact .inr ⟨idC c, h, .single hpar⟩
   ·exact .inr ⟨y, hy, .tail hk hpar⟩
theorem Xp7 {L : List Commit} (hc : Closed L) {x : ID} (hx : x ∈ cids L) : x ∈ frontF L ∨ ∃ y ∈ frontF L, Xbz L y x := Xuh hc _ x hx (Nat.le_refl _)
theorem Xmv {L : List Commit} (hc : Closed L) {x y : ID} (hx : x ∈ frontF L) : ¬ Xbz L y x := by
 intro h
 have key : ∃ z, par L z x := by
  cases h with
  | single h1 => exact ⟨_, h1⟩
  | tail _ h1 => exact ⟨_, h1⟩
 obtain ⟨z, c, hm, _, hp, _⟩ := key
 exact ((Xe6 hc).1 hx).2 c hm hp
theorem Xp8 {L : List Commit} (hc : Closed L) : frontF L = [] ↔ L = [] := by
 constructor
 ·intro h
  cases L with
  | nil => rfl
  | cons c L =>
   rcases Xp7 hc (x := idC c) (Xai.2 ⟨c, by simp, rfl⟩) with h1 | ⟨y, h1, _⟩ <;> (rw [h] at h1; cases h1)
 ·rintro rfl
  rw [List.eq_nil_iff_forall_not_mem]
  intro x hx
  have := ((Xe6 hc).1 hx).1
  simp [cids] at this
theorem Xui {L : List Commit} (hc : Closed L) {c d : Commit} (hcm : c ∈ L) (hdm : d ∈ L) (h1 : idC c ∈ frontF L) (h2 : idC d ∈ frontF L) (h : c.ev.node = d.ev.node) : idC c = idC d := by
 apply Classical.byContradiction
 intro hne
 obtain ⟨h3, h4⟩ := hc.ev c hcm d hdm hne h
 obtain ⟨h5, h6⟩ := hc.ev d hdm c hcm (fun e => hne e.symm) h.symm
 rcases Int.lt_trichotomy c.ev.seq d.ev.seq with h7 | h7 | h7
 ·exact Xmv hc h1 (h6 h7)
 ·exact h3 h7
 ·exact Xmv hc h2 (h4 h7)
theorem X0s {L : List Commit} (hc : Closed L) {c : Commit} (hm : c ∈ L) : 0 ≤ c.ev.node ∧ c.ev.node ≤ 7 := by
 have h1 := hc.may c hm
 have h2 := (hc.fine c hm).merge
 simp only [merge, h1, Bool.and_true, decide_eq_false_iff_not] at h2
 unfold may at h1
 split at h1
 ·cases h1
 ·simp only [h2, if_false, inB, Bool.and_eq_true, decide_eq_true_eq] at h1
  exact ⟨h1.1.1.1, h1.1.1.2⟩
theorem Xk9 {L : List Commit} (hc : Closed L) : (frontF L).length ≤ 8 := by
 have hpick : ∀ x ∈ frontF L, ∃ c ∈ L, idC c = x := fun x hx => Xai.1 ((Xe6 hc).1 hx).1
 let g : ID → Int := fun x => match L.find? (fun c => decide (idC c = x)) with | some c => c.ev.node | none => 0
 have hg : ∀ c ∈ L, g (idC c) = c.ev.node := fun c hm => by
  show (match L.find? (fun d => decide (idC d = idC c)) with | some c => c.ev.node | none => 0) = _
  cases hf : L.find? (fun d => decide (idC d = idC c)) with
  | none => exact absurd (List.find?_eq_none.1 hf c hm) (by simp)
  | some d =>
   have := Xmp hc.nodup (List.mem_of_find?_eq_some hf) hm (by simpa using List.find?_some hf)
   rw [this]
 have hnd : ((frontF L).map g).Nodup := by
  rw [List.nodup_iff_pairwise_ne, List.pairwise_map]
  have h0 := List.nodup_iff_pairwise_ne.1 (Xk8 L)
  refine List.Pairwise.imp_of_mem ?_ h0
  intro x y hx hy hne e
  obtain ⟨c, hcm, rfl⟩ := hpick x hx
  obtain ⟨d, hdm, rfl⟩ := hpick y hy
  rw [hg c hcm, hg d hdm] at e
  exact hne (Xui hc hcm hdm hx hy e)
 have := Xga ((frontF L).map g) [0, 1, 2, 3, 4, 5, 6, 7] hnd (fun n hn => by
  obtain ⟨x, hx, rfl⟩ := List.mem_map.1 hn
  obtain ⟨c, hcm, rfl⟩ := hpick x hx
  have := X0s hc hcm
  rw [hg c hcm]
  simp only [List.mem_cons, List.not_mem_nil, or_false]
  omega)
 simpa using this
theorem Xuj (L : List Commit) (ps : List ID) : ∀ g : Int, g ≤ ps.foldl (fun g p => max g (Xb9 L p)) g ∧ (ps.foldl (fun g p => max g (Xb9 L p)) g = g ∨ ∃ p ∈ ps, Xb9 L p = ps.foldl (fun g p => max g (Xb9 L p)) g) := by
 induction ps with
 | nil => intro g; exact ⟨Int.le_refl _, .inl rfl⟩
 | cons e M ih =>
  intro g
  obtain ⟨h1, h3⟩ := ih (max g (Xb9 L e))
  simp only [List.foldl_cons]
  refine ⟨by omega, ?_⟩
  rcases h3 with h3 | ⟨d, hd, h3⟩
  ·by_cases hge : Xb9 L e ≤ g
   ·left; omega
   ·exact .inr ⟨e, by simp, by omega⟩
  ·exact .inr ⟨d, by simp [hd], h3⟩
theorem Xw1 (L : List Commit) (ps : List ID) : 0 ≤ Xen L ps := (Xuj L ps 0).1
theorem X0t {L : List Commit} (hc : Closed L) {c : Commit} (hm : c ∈ L) : 1 ≤ c.gen := by
 have := Xw1 L c.parents
 rw [(hc.fine c hm).gen]; omega
theorem Xp9 {L : List Commit} (hc : Closed L) (A : List ID) : Closed (partF L (ancF L A)) := by
 rw [(Xhu L _).part hc]; exact Xrv hc (Xk6 L A)
theorem Xhv {L : List Commit} {A : List ID} {c : Commit} (h : c ∈ partF L A) : c ∈ L := by
 unfold partF at h
 split at h
 ·exact (List.mem_filter.1 h).1
 ·cases h
end
end
structure RowP where
 b : Nat
 n : Nat
instance : Cell RowP where
 Ix := Unit
 sz := 1
 cells r _ := [.slice (some ⟨r.b, 0, none⟩) r.n r.n]
 facts _ _ := []
 len _ _ := rfl
 one r _ := by simp [Value.oneCell']
 pos := by decide
instance {Γ : List Fact} {b n : Nat} : Typed Γ [.slice (some ⟨b, 0, none⟩) n n] (RowP.mk b n) := ⟨(), rfl, by simp [Cell.facts]⟩
instance : Cell (List Bool) where
 Ix := Option Addr × Nat
 sz := 1
 cells l y := [.slice y.1 l.length y.2]
 facts l y := [sl y.1 y.2 l]
 len _ _ := rfl
 one l y := by simp [Value.oneCell']
 pos := by decide
def X18 (B : List RowP) : List Nat := B.map RowP.b
def rowsHold (t : TypeId) (B : List RowP) (K : List (List Bool)) (w : World) : Prop :=
 B.length = K.length ∧ ∀ i (h : i < B.length) (h' : i < K.length), B[i].n = K[i].length ∧ w.heap[B[i].b]? = some (.cells (K[i].map Value.bool).toArray t (0, 0))
theorem rowsHold.keep {t : TypeId} {B : List RowP} {K : List (List Bool)} {w w' : World} (h : rowsHold t B K w) (hk : ∀ r ∈ B, r.b < w.heap.size → w'.heap[r.b]? = w.heap[r.b]?) : rowsHold t B K w' := by
 refine ⟨h.1, fun i hi hi' => ⟨(h.2 i hi hi').1, ?_⟩⟩
 have h1 := (h.2 i hi hi').2
 rw [hk _ (List.getElem_mem hi) (Array.getElem?_eq_some_iff.1 h1).1]
 exact h1
theorem rowsHold.lt {t : TypeId} {B : List RowP} {K : List (List Bool)} {w : World} (h : rowsHold t B K w) {r : RowP} (hr : r ∈ B) : r.b < w.heap.size := by
 obtain ⟨i, hi, rfl⟩ := List.getElem_of_mem hr
 exact (Array.getElem?_eq_some_iff.1 (h.2 i hi (by have := h.1; omega)).2).1
def X1r (t : TypeId) (B : List RowP) (K : List (List Bool)) : Res where
 owns k := ∃ r ∈ B, r.b = k
 holds F w := (X18 B).Nodup ∧ rowsHold t B K w
 keep F G w w' h hF hk := ⟨h.1, h.2.keep fun r hr hlt => hk r.b hlt (.inr ⟨r, hr, rfl⟩)⟩
 lt F w h k hk := by obtain ⟨r, hr, rfl⟩ := hk; exact h.2.lt hr
section
variable {P : Program} {n : Nn} {w0 : World} {F : Nat → Prop} {ops : Array Oper} {i d : Nat} {t : TypeId} {pos : String} {aft : Array Edge} {g : Option (Nat × Bool)} {os : List Oper} {Q : Cont} {e : E} {Γ : List Fact} [Dr]
theorem Hold.join {w : World} {f g h : Fact} (ho : Hold w0 F (f :: g :: Γ) w) (hown : ∀ k, h.owns k ↔ f.owns k ∨ g.owns k) (hs : h.sat (fp w0 F (h :: Γ)) w) : Hold w0 F (h :: Γ) w := by
 have hfree : ∀ k, fp w0 F (f :: g :: Γ) k → fp w0 F (h :: Γ) k := by
  refine fun k hk => ⟨hk.1, fun f' hf' hown' => ?_⟩
  rcases List.mem_cons.1 hf' with rfl | hf'
  ·rcases (hown k).1 hown' with h1 | h1
   ·exact hk.2 f (by simp) h1
   ·exact hk.2 g (by simp) h1
  ·exact hk.2 f' (by simp [hf']) hown'
 have hp := List.pairwise_cons.1 ho.dis
 have hp2 := List.pairwise_cons.1 hp.2
 refine ⟨ho.below, fun f' hf' => ?_, ?_, ?_⟩
 ·rcases List.mem_cons.1 hf' with rfl | hf'
  ·exact hs
  ·exact Fact.sat_keep (ho.sat f' (by simp [hf'])) (fun k hk _ => hfree k hk) (fun _ _ _ => rfl)
 ·refine List.pairwise_cons.2 ⟨fun f' hf' k hk => ?_, hp2.2⟩
  rcases (hown k).1 hk.1 with h1 | h1
  ·exact hp.1 f' (by simp [hf']) k ⟨h1, hk.2⟩
  ·exact hp2.1 f' hf' k ⟨h1, hk.2⟩
 ·intro f' hf' k hk
  rcases List.mem_cons.1 hf' with rfl | hf'
  ·rcases (hown k).1 hk with h1 | h1
   ·exact ho.new f (by simp) k h1
   ·exact ho.new g (by simp) k h1
  ·exact ho.new f' (by simp [hf']) k hk
class HasRows (Γ : List Fact) (bt : outParam TypeId) (B : outParam (List RowP)) (K : outParam (List (List Bool))) (Δ : outParam (List Fact)) : Prop where
 ok : Γ.Perm (.res (X1r bt B K) :: Δ)
instance (priority := 100) HasRows.miss {g : Fact} {bt : TypeId} {B : List RowP} {K : List (List Bool)} {Δ : List Fact} [h : HasRows Γ bt B K Δ] : HasRows (g :: Γ) bt B K (g :: Δ) :=
 ⟨(h.ok.cons g).trans (List.Perm.swap _ g Δ)⟩
instance (priority := 1000) HasRows.hit {bt : TypeId} {B : List RowP} {K : List (List Bool)} : HasRows (.res (X1r bt B K) :: Γ) bt B K Γ := ⟨List.Perm.refl _⟩
end
section
variable {P : Program} {n : Nn} {w0 : World} {F : Nat → Prop} {ops : Array Oper} {i d : Nat} {t : TypeId} {pos : String} {aft : Array Edge} {g : Option (Nat × Bool)} {os : List Oper} {Q : Cont} {e : E} {Γ : List Fact}
end
section
attribute [local irreducible] JC JO JR JQ andThen inBlock OpV Gives Xae JM JS
section
attribute [local irreducible] Xaq
def get (K : List (List Bool)) (i j : Nat) : Bool := (K.getD i []).getD j false
def Square (n : Nat) (K : List (List Bool)) : Prop := K.length = n ∧ ∀ i (h : i < K.length), K[i].length = n
theorem Square.set {n : Nat} {K : List (List Bool)} (h : Square n K) {i j : Nat} (hi : i < K.length) : Square n (K.set i (K[i].set j true)) := by
 refine ⟨by simp [h.1], fun x hx => ?_⟩
 by_cases hxi : x = i
 ·subst hxi; simp [h.2 x hi]
 ·rw [List.getElem_set_ne (Ne.symm hxi)]; exact h.2 x (by simpa using hx)
structure KnowsR (L : List Commit) (K : List (List Bool)) : Prop where
 square : Square L.length K
 iff : ∀ i j, get K i j = true ↔ Xsu L i j
section
variable {P : Program} {n : Nn} {w0 : World} {F : Nat → Prop} {ops : Array Oper} {i d : Nat} {t : TypeId} {pos : String} {aft : Array Edge} {g : Option (Nat × Bool)} {os : List Oper} {Q : Cont} {e : E} {Γ : List Fact}
end
structure GoodI (L : List Commit) (i : Nat) : Prop where
 lt : i < L.length
 merge : merge L[i] = false
 one : oneI L i
 at_ : (cids L).findIdx? (fun x => decide (x = idC L[i])) = some i
 ev : ∀ j, j < i → evI L i j
instance : Cell Nat where
 Ix := Unit
 sz := 1
 cells n _ := [natV n]
 facts _ _ := []
 len _ _ := rfl
 one _ _ := One.ok
 pos := by decide
instance {Γ : List Fact} {n : Nat} : Typed Γ [natV n] n := ⟨(), rfl, by simp [Cell.facts]⟩
instance {Γ : List Fact} {n : Nat} : Typed Γ [.int .i64 (n : Int)] n := ⟨(), rfl, by simp [Cell.facts]⟩
section
variable {P : Program} {n : Nn} {w0 : World} {F : Nat → Prop} {ops : Array Oper} {i d : Nat} {t : TypeId} {pos : String} {aft : Array Edge} {g : Option (Nat × Bool)} {os : List Oper} {Q : Cont} {e : E} {Γ : List Fact}
end
theorem Xw2 {a b c : Commit} (h1 : leS a b) (h2 : leS b c) : leS a c := by
 rcases h1 with h1 | ⟨h1, h3⟩ <;> rcases h2 with h2 | ⟨h2, h4⟩
 ·exact .inl (by omega)
 ·exact .inl (by omega)
 ·exact .inl (by omega)
 ·exact .inr ⟨by omega, Xez h3 h4⟩
def atC (L : List Commit) (i : Nat) : Commit := L.getD i Xcv
structure Ins (L : List Commit) (i : Nat) (O : List Nat) : Prop where
 perm : O.Perm (List.range i)
 sorted : O.Pairwise (fun x y => leS (atC L x) (atC L y))
theorem Ins.length {L : List Commit} {i : Nat} {O : List Nat} (h : Ins L i O) : O.length = i := by rw [h.perm.length_eq, List.length_range]
theorem Ins.lt {L : List Commit} {i : Nat} {O : List Nat} (h : Ins L i O) {j : Nat} (hj : j < O.length) : O[j] < i := List.mem_range.1 (h.perm.mem_iff.1 (List.getElem_mem hj))
theorem Ins.next {L : List Commit} {i : Nat} {O : List Nat} (h : Ins L i O) (at_ : Nat) (hle : at_ ≤ O.length) (hup : ∀ j (hj : j < O.length), at_ ≤ j → leS (atC L i) (atC L O[j]))
  (hdn : ∀ (h0 : 0 < at_), leS (atC L (O[at_ - 1]'(by omega))) (atC L i)) : Ins L (i + 1) (O.take at_ ++ [i] ++ O.drop at_) := by
 refine ⟨?_, ?_⟩
 ·rw [List.range_succ, List.append_assoc]
  refine List.Perm.trans ((List.perm_append_comm (l₁ := [i]) (l₂ := O.drop at_)).append_left _) ?_
  rw [← List.append_assoc, List.take_append_drop]
  exact h.perm.append_right _
 ·have hs2 : (O.take at_ ++ O.drop at_).Pairwise (fun x y => leS (atC L x) (atC L y)) := by rw [List.take_append_drop]; exact h.sorted
  rw [List.pairwise_append] at hs2
  rw [List.append_assoc, List.pairwise_append]
  refine ⟨hs2.1, ?_, ?_⟩
  ·rw [List.singleton_append, List.pairwise_cons]
   refine ⟨fun y hy => ?_, hs2.2.1⟩
   obtain ⟨j, hj, rfl⟩ := List.getElem_of_mem hy
   rw [List.length_drop] at hj
   rw [List.getElem_drop]
   exact hup _ (by omega) (by omega)
  ·intro y hy z hz
   rcases List.mem_append.1 hz with hz | hz
   ·rw [List.mem_singleton.1 hz]
    obtain ⟨j, hj, rfl⟩ := List.getElem_of_mem hy
    rw [List.length_take] at hj
    have h0 : 0 < at_ := by omega
    rw [List.getElem_take]
    by_cases hja : j = at_ - 1
    ·subst hja; exact hdn h0
    ·exact Xw2 (List.pairwise_iff_getElem.1 h.sorted j (at_ - 1) (by omega) (by omega) (by omega)) (hdn h0)
   ·exact hs2.2.2 y hy z hz
end
section
attribute [local irreducible] Xaq idA l0 l1 ents
theorem Xla {L : List Commit} {b c : Bool} (h : b = true ↔ Closed L) (k : c = true ↔ Closed L) : b = c := Bool.eq_iff_iff.2 (h.trans k.symm)
theorem PartR.unique {L : List Commit} {A : List ID} {M N : List Commit} (h : PartR L A M) (k : PartR L A N) : M = N := by
 by_cases hc : Closed L
 ·rw [h.part hc, k.part hc]
 ·rw [h.not hc, k.not hc]
theorem SortedR.unique {L M N : List Commit} (h : SortedR L M) (k : SortedR L N) : M = N := by
 by_cases hc : Closed L
 ·exact Xl3 hc.nodup (h.perm hc) (k.perm hc) (h.sorted hc) (k.sorted hc)
 ·rw [h.not hc, k.not hc]
theorem Xfn (a : Option Addr) (k : Nat) (L : List Commit) (b : Bool) (h : (sl a k L).holds F w) (hl : L.length ≤ 1000) (hf : ∀ x ∈ L, fine x) (hb : b = true ↔ Closed L) :
  GivesV prog 25 [.slice a L.length k] w F (.bool b) := by
 have h0 := Xil w F a k L h (by omega) hf
 unfold Gives at h0
 unfold GivesV Gives
 refine Calls.mono h0 ?_
 rintro e w' ⟨y, rfl, h1, hB⟩
 refine ⟨(), ?_, h1, hB⟩
 have := Xla y.2 hb
 dsimp only
 rw [this]
theorem Xhw (a d : Option Addr) (k m : Nat) (L M : List Commit) (A : List ID) (h : (sl a k L).holds F w) (h' : (sl d m A).holds F w) (hl : L.length ≤ 1000) (hf : ∀ x ∈ L, fine x) (hM : PartR L A M) :
  Xcb prog 44 [.slice a L.length k, .slice d A.length m] w F M := by
 have h0 := Xyl w F a d k m L A h h' hl hf
 unfold Gives at h0
 unfold Xcb Gives
 refine Calls.mono h0 ?_
 rintro e w' ⟨⟨⟨N, p, q⟩, hN⟩, rfl, hb, hB⟩
 have : N = M := hN.unique hM
 subst this
 exact ⟨(p, q), rfl, hb, hB⟩
theorem Xfo (a : Option Addr) (k : Nat) (L M : List Commit) (h : (sl a k L).holds F w) (hl : L.length ≤ 1000) (hf : ∀ x ∈ L, fine x) (hM : SortedR L M) :
  Xcb prog 26 [.slice a L.length k] w F M := by
 have h0 := Xue w F a k L h hl hf
 unfold Gives at h0
 unfold Xcb Gives
 refine Calls.mono h0 ?_
 rintro e w' ⟨⟨⟨N, p, q⟩, hN⟩, rfl, hb, hB⟩
 have : N = M := hN.unique hM
 subst this
 exact ⟨(p, q), rfl, hb, hB⟩
theorem Xlb {c : Commit} (h : may c = true) : c.parents.length ≤ 8 := by
 unfold may at h
 split at h
 ·cases h
 ·rename_i hn
  simp only [Bool.or_eq_true, not_or, decide_eq_true_eq] at hn
  omega
theorem Xlc : ∀ {L : List Commit}, (∀ c ∈ L, may c = true) → (Xap L).length ≤ 8 * L.length
 | [], _ => by simp [Xap]
 | c :: L, h => by
  have h1 := Xlc (L := L) fun d hd => h d (by simp [hd])
  have h2 := Xlb (h c (by simp))
  simp only [Xap, List.flatMap_cons, List.length_append, List.length_cons] at h1 ⊢
  omega
theorem Xrx (a : Option Addr) (k : Nat) (L : List Commit) (h : (sl a k L).holds F w) (hl : L.length ≤ 1000) (hf : ∀ x ∈ L, fine x) :
  Xcb prog 46 [.slice a L.length k] w F (frontF L) := by
 refine Xaa func46 rfl ntmps46 rfl rfl [.st (sl a k L)] (.start1 h) ?_
 refine wz10 ?_
 refine JR.callV rfl (fun w1 hw => Xfn w1 _ a k L (closedB L) hw.get (by omega) hf Xb6) ?_
 cases hb : closedB L with
 | false =>
  refine wz8 ?_
  rw [Xp5 (fun hc => by rw [Xef hc] at hb; cases hb)]
  exact CT.done (none, 0) rfl (fun w ho => (ho.ent : Hold _ _ [] w).add Xak)
 | true =>
 have hc := Xb6.1 hb
 have hpl := Xlc hc.may
 refine wA ?_
 refine JC.buf_nil (α := ID) 81 ?_
 refine Xb7 (fun (i : Nat) p q => [(0, .slice a L.length k), (3, .slice p (Xap (L.take i)).length q), (9, .slice a L.length k), (10, .int .i64 (L.length : Int)), (11, .int .i64 (i : Int))])
  (fun i p q => [.res (buf p q 81 (Xap (L.take i))), .st (sl a k L)]) (fun i _ _ => i ≤ L.length) (fun i _ _ => L.length - i) 0 none 0 (Nat.zero_le _) (by rw [List.take_zero, show Xap [] = [] from rfl]; infer_instance) ?_
 intro i p q hi
 refine wz11 ?_
 refine JC.test (fun hlt => ?_) (fun hge => ?_)
 ·have hlt' : i < L.length := by omega
  have h2 := Xkx L (i + 1)
  rw [Xcw L i hlt', List.length_append] at h2
  refine wz14 ?_
  refine Xaj rfl hlt' ?_
  intro b1 o1 p1 q1
  (repeat (refine wE ?_; intro _)); refine wA ?_
  refine Xbg rfl (by exact ⟨rfl, rfl, by decide⟩) (by omega) ?_
  intro r s
  refine wz2 ?_
  exact ⟨i + 1, r, s, by omega, by omega, by rw [Xcw L i hlt']; infer_instance⟩
 ·obtain rfl : i = L.length := by omega
  rw [List.take_length]
  refine JC.more (fun w1 ho => ho.pub) ?_
  refine wz3 ?_
  refine JR.callSl (L := cids L) rfl (fun w1 hw => by have := Xik w1 _ a k L hw.get (by omega) hf; rwa [Xhs hc.may] at this) ?_
  intro a1 k1
  refine wz6 ?_
  refine JR.callBuf rfl (fun w1 hw => Xd8 w1 _ a1 p k1 q (cids L) (Xap L) hw.get hw.get (by rw [Xbp]; omega)) ?_
  intro a2 k2
  refine JO.more (fun w1 ho => ho.pub) ?_
  refine wz10 ?_
  have e1 : frontF L = Xaw (cids L) (Xap L) false := by rw [frontF, hb]; rfl
  rw [e1]
  exact CT.dn (a2, k2) rfl
end
noncomputable section
def decL : List (List UInt8) → List Commit
 | [] => []
 | b :: l => match getC b with
  | some (c, []) => c :: decL l
  | _ => []
open Classical in
def Xbe (acc : List Commit) : List Commit → List Commit
 | [] => acc
 | c :: l => if Closed (acc ++ [c]) then Xbe (acc ++ [c]) l else acc
def Xcs (b : List UInt8) : List Commit := Xbe [] (decL (readL b))
def Xck (b : List UInt8) : Nat := (Xaf ((readL b).take (Xcs b).length)).length
end
theorem Xhx (b : List UInt8) (l : List (List UInt8)) : (∃ c, getC b = some (c, []) ∧ decL (b :: l) = c :: decL l) ∨ ((¬ ∃ c, getC b = some (c, [])) ∧ decL (b :: l) = []) := by
 rw [decL]
 split
 ·rename_i c h; exact .inl ⟨c, h, rfl⟩
 ·rename_i h; exact .inr ⟨fun ⟨c, hc⟩ => h c hc, rfl⟩
theorem Xin : ∀ l : List (List UInt8), (decL l).length ≤ l.length
 | [] => Nat.le_refl _
 | b :: l => by
  have := Xin l
  rcases Xhx b l with ⟨c, _, h⟩ | ⟨_, h⟩ <;> rw [h] <;> simp <;> omega
theorem Xoc : ∀ (l : List (List UInt8)) (i : Nat) (h : i < (decL l).length) (h2 : i < l.length), getC l[i] = some ((decL l)[i], [])
 | [], i, h, _ => by cases h
 | b :: l, i, h, h2 => by
  rcases Xhx b l with ⟨c, hc, hd⟩ | ⟨_, hd⟩
  ·cases i with
   | zero => simp only [hd, List.getElem_cons_zero]; exact hc
   | succ i =>
    simp only [hd, List.getElem_cons_succ]
    exact Xoc l i (by rw [hd] at h; simpa using h) (by simpa using h2)
  ·rw [hd] at h; cases h
theorem Xs1 : ∀ (l : List (List UInt8)) (h : (decL l).length < l.length), ¬ ∃ c, getC (l[(decL l).length]) = some (c, [])
 | [], h => by cases h
 | b :: l, h => by
  rcases Xhx b l with ⟨c, hc, hd⟩ | ⟨hn, hd⟩
  ·simp only [hd, List.length_cons, List.getElem_cons_succ]
   exact Xs1 l (by rw [hd] at h; simpa using h)
  ·simp only [hd, List.length_nil, List.getElem_cons_zero]; exact hn
theorem Xmw : ∀ (l acc : List Commit), ∃ k, k ≤ l.length ∧ Xbe acc l = acc ++ l.take k
 | [], acc => ⟨0, Nat.le_refl _, by simp [Xbe]⟩
 | c :: l, acc => by
  unfold Xbe
  split
  ·obtain ⟨k, hk, h⟩ := Xmw l (acc ++ [c])
   exact ⟨k + 1, by simpa using hk, by rw [h]; simp⟩
  ·exact ⟨0, Nat.zero_le _, by simp⟩
theorem Xry {l : List Commit} {i : Nat} (hi : i < l.length) (h : Xbe [] l = Xbe (l.take i) (l.drop i)) (hc : Closed (l.take (i + 1))) : Xbe [] l = Xbe (l.take (i + 1)) (l.drop (i + 1)) := by
 rw [h, List.drop_eq_getElem_cons hi, Xbe, ← List.take_succ_eq_append_getElem hi, if_pos hc]
theorem Xrz {l : List Commit} {i : Nat} (hi : i < l.length) (h : Xbe [] l = Xbe (l.take i) (l.drop i)) (hc : ¬ Closed (l.take (i + 1))) : Xbe [] l = l.take i := by
 rw [h, List.drop_eq_getElem_cons hi, Xbe, ← List.take_succ_eq_append_getElem hi, if_neg hc]
theorem Xld : ∀ (f : Nat) (b : List UInt8), ∀ x ∈ readF f b, x.length ≤ 4000
 | 0, _, x, h => by cases h
 | f + 1, b, x, h => by
  unfold readF at h
  cases hs : readStep b with
  | none => rw [hs] at h; cases h
  | some q =>
   rw [hs] at h
   rcases List.mem_cons.1 h with rfl | h
   ·exact (Xdz (x := q.1) (r := q.2) hs).1
   ·exact Xld f _ x h
theorem Xhy : ∀ (f : Nat) (b : List UInt8), Xaf (readF f b) <+: b
 | 0, b => List.nil_prefix
 | f + 1, b => by
  unfold readF
  cases hs : readStep b with
  | none => exact List.nil_prefix
  | some q =>
   dsimp only
   rw [Xem]
   have h1 := (Xdz (x := q.1) (r := q.2) hs).2
   obtain ⟨t, ht⟩ := Xhy f q.2
   exact ⟨t, by rw [List.append_assoc, ht, ← h1]⟩
theorem Xle (l : List (List UInt8)) (i : Nat) : (Xaf (l.take i)).length ≤ (Xaf l).length := by
 conv => rhs; rw [← List.take_append_drop i l]
 rw [Xdf, List.length_append]; omega
theorem Xev (l : List (List UInt8)) : 5 * l.length ≤ (Xaf l).length := by
 induction l with
 | nil => simp
 | cons y l ih => rw [Xem, List.length_append, Xb8, List.length_cons]; have := Xdy y.length; omega
theorem Xqa {l : List (List UInt8)} {i : Nat} (hi : i < l.length) : (Xaf (l.take (i + 1))).length = (Xaf (l.take i)).length + (Xbu l[i]).length := by
 rw [List.take_succ_eq_append_getElem hi, Xdf, Xks, List.length_append]
theorem Xs2 {c0 c : Commit} {b r : List UInt8} (h : finC c0 b = some (c, r)) : may c = true ∧ c = c0 := by
 unfold finC at h
 split at h
 ·cases h; exact ⟨by assumption, rfl⟩
 ·cases h
theorem Xs3 {b r : List UInt8} {c : Commit} (h : getC b = some (c, r)) : may c = true ∧ Xkj c := by
 unfold getC at h
 obtain ⟨q0, h0, h⟩ := Option.bind_eq_some_iff.1 h
 obtain ⟨q1, h1, h⟩ := Option.bind_eq_some_iff.1 h
 obtain ⟨q2, h2, h⟩ := Option.bind_eq_some_iff.1 h
 obtain ⟨q3, h3, h⟩ := Option.bind_eq_some_iff.1 h
 obtain ⟨q4, h4, h⟩ := Option.bind_eq_some_iff.1 h
 unfold opC at h
 split at h
 ·obtain ⟨h5, h6⟩ := Xs2 h
  refine ⟨h5, ?_⟩
  rw [h6]
  unfold Xkj
  exact (by decide : op0.key.size < 4611686018427387904 ∧ op0.elem.size < 4611686018427387904)
 ·split at h
  ·obtain ⟨h5, h6⟩ := Xs2 h
   refine ⟨h5, ?_⟩
   rw [h6]
   exact Xkt q4.2
  ·cases h
end
abbrev rnd (l : Nat) : Fence := Fence.wide.inRound l
def Xjs : Oper → Bool
 | ⟨_, .defer _, _, _, _, _⟩ => false
 | _ => true
theorem Xr0 {o : Oper} (h : Xjs o = true) (c : Call) : o.op ≠ .defer c := by
 obtain ⟨d, op, t, p, a, g⟩ := o
 rintro rfl
 cases h
section
variable {P : Program} {ops : Array Oper} {Q : Exit → Act → World → Prop} {l m : Nat}
theorem X0u {F : Fence} (hdp : F.depth = none) (hfn : ∀ f, F.fn f) (hcalls : ∀ {f args w R}, Calls P f args w R → CallsIn F (m - 1) P f args w R) (hrows : ∀ {row args w R}, Rows P row args w R → RowsIn F (m - 1) P row args w R)
  {o : Oper} {a : Act} {K K' : Act → World → Prop} (hK : ∀ a w, K a w → K' a w) (r : Result Next) (h : o.upon P a K Q r) : o.uponIn F m P a K' Q r := by
 have hn : F.depth.isSome = true → 1 ≤ m := by rw [hdp]; intro h; cases h
 cases r with
 | halt x w' => cases x <;> exact h
 | ok x w' =>
  cases x with
  | value v => exact hK _ _ h
  | skip => exact hK _ _ h
  | defer d => exact hK _ _ h
  | enter f args =>
   refine ⟨hn, hcalls (Calls.mono h ?_)⟩
   intro e w'' he
   cases e with
   | returned v => exact hK _ _ he
   | panicked c => exact he
   | outgrown => exact he
  | row row args => exact ⟨hn, (hrows h).mono fun v w'' h => hK _ _ h⟩
  | round l f tmps assign body => exact h.elim
  | _ => exact h
theorem Xhz (hd : ∀ o ∈ ops, Xjs o = true) (hQ : ¬ LetsOut Q) : ∀ (is : List Nat) (a : Act) (w : World), wpOps P ops Q is a w → wpOpsIn (rnd l) m P ops Q is a w
 | [], a, w, h => h
 | i :: is, a, w, h => by
  unfold wpOps at h
  unfold wpOpsIn
  cases ho : ops[i]? with
  | none => rw [ho] at h; exact Xhz hd hQ is a w h
  | some o =>
   rw [ho] at h
   dsimp only at h ⊢
   by_cases hw : Region.wanted o (yielded ops a.tmps) = true
   ·rw [if_pos hw] at h ⊢
    rcases h with h | h
    ·refine ⟨fun _ _ => trivial, ?_⟩
     have hm : o ∈ ops := Array.mem_of_getElem? ho
     rw [Oper.semAt_eq _ _ _ (Xr0 (hd o hm))]
     exact X0u rfl (fun _ => trivial) (fun h => CallsIn.inRound l (callsIn_wide.2 h)) (fun h c cs _ => let ⟨v, w', r, s⟩ := h c cs; ⟨v, w', r, stepsIn_wide.2 s⟩) (fun a w h => Xhz hd hQ is a w h) _ h
    ·exact (hQ h.2).elim
   ·rw [if_neg hw] at h ⊢
    exact ⟨fun _ _ => trivial, Xhz hd hQ is _ w h⟩
end
section
variable {P : Program} {n : Nn} {w0 : World} {F : Nat → Prop} {l : Nat} {Q : Cont} {e : E} {Γ : List Fact} [Dr]
def JI (P : Program) (n : Nn) (w0 : World) (F : Nat → Prop) (l : Nat) (c : Code) (Q : Cont) (e : E) (Γ : List Fact) : Prop :=
 (∀ e Γ, ¬ Q .outgrown e Γ) → ∀ a w, Fr n e a → Hold w0 F Γ w → c.wpIn (rnd l) 1 P (up n w0 F Q) a w
theorem JI.skip (h : Q .normal e Γ) : JI P n w0 F l .skip Q e Γ := fun _ _ _ fr ho => wpIn_skip ⟨e, Γ, h, fr, ho⟩
theorem JI.ret (h : Q .ret e Γ) : JI P n w0 F l .ret Q e Γ := fun _ _ _ fr ho => wpIn_ret ⟨e, Γ, h, fr, ho⟩
theorem JI.seq {x y : Code} (h : JI P n w0 F l x (andThen (JI P n w0 F l y Q) Q) e Γ) : JI P n w0 F l (.seq x y) Q e Γ := by
 intro hq a w fr ho
 refine wpIn_seq (wpIn_mono (h hq a w fr ho) ?_)
 rintro x a w ⟨e, Γ, h, fr, ho⟩
 cases x <;> first | exact h hq a w fr ho | exact ⟨e, Γ, h, fr, ho⟩
theorem Xcr {c : Operand} {x y : Code} [hc : Ev e c (.bool true)] (h : JI P n w0 F l x Q e Γ) : JI P n w0 F l (.cond c x y) Q e Γ :=
 fun hq a w fr ho => wpIn_cond_true (hc.ok n a fr) (h hq a w fr ho)
theorem Xca {c : Operand} {x y : Code} [hc : Ev e c (.bool false)] (h : JI P n w0 F l y Q e Γ) : JI P n w0 F l (.cond c x y) Q e Γ :=
 fun hq a w fr ho => wpIn_cond_false (hc.ok n a fr) (h hq a w fr ho)
theorem JI.block {id : Nat} {c : Code} (h : JI P n w0 F l c (inBlock id Q) e Γ) : JI P n w0 F l (.block id c) Q e Γ := by
 intro hq a w fr ho
 refine wpIn_block (wpIn_mono (h hq a w fr ho) ?_)
 rintro x a w ⟨e, Γ, hq, fr, ho⟩
 cases x with
 | exit id' =>
  simp only [inBlock, Exit.inBlock] at *
  split
  ·rename_i he; rw [if_pos he] at hq; exact ⟨e, Γ, hq, fr, ho⟩
  ·rename_i he; rw [if_neg he] at hq; exact ⟨e, Γ, hq, fr, ho⟩
 | _ => exact ⟨e, Γ, hq, fr, ho⟩
theorem JI.more {c : Code} {Γ' : List Fact} (h : ∀ w, Hold w0 F Γ w → Hold w0 F Γ' w) (k : JI P n w0 F l c Q e Γ') : JI P n w0 F l c Q e Γ := fun hq a w fr ho => k hq a w fr (h w ho)
theorem Xzh (hq : ∀ e Γ, ¬ Q .outgrown e Γ) : ¬ LetsOut (up n w0 F Q) := by
 rintro ⟨a, w, e, Γ, h, _⟩
 exact hq e Γ h
theorem JI.region {id : Nat} {os : List Oper} (hd : os.all Xjs = true) (h : JO P n w0 F ⟨os⟩ 0 os Q e Γ) : JI P n w0 F l (.region id ⟨os⟩ false) Q e Γ := by
 intro hq a w fr ho
 refine wpIn_region ?_
 have e1 : List.range (Array.size ⟨os⟩ : Nat) = List.range' 0 os.length := by simp [List.range_eq_range']
 rw [e1]
 refine Xhz (fun o ho => ?_) (Xzh hq) _ _ _ (h rfl a w fr ho)
 exact List.all_eq_true.1 hd o (by simpa using ho)
theorem JI.drawP {id : Nat} {ops : List Oper} (hm : P.follows .mixedOrders = true) (hd : ops.all Xjs = true) (h : JP P n w0 F ops [] ops.length (List.replicate ops.length false) Q e Γ) : JI P n w0 F l (.region id ⟨ops⟩ true) Q e Γ := by
 intro hq a w fr ho
 refine wpIn_region_draw fun t => ?_
 simp only [Region.schedule, hm, Bool.true_or, if_true]
 refine Xhz (fun o ho => List.all_eq_true.1 hd o (by simpa using ho)) (Xzh hq) _ _ _ ?_
 have := Xq2 Xsk _ _ _ _ (h a w.drew fr ho.drew)
 have e1 : (⟨List.replicate ops.length false⟩ : Array Bool) = Array.replicate (⟨ops⟩ : Array Oper).size false := by apply Array.ext'; simp
 rw [e1] at this
 exact wpAny_sound _ t _ a _ this
def JY (P : Program) (n : Nn) (w0 : World) (F : Nat → Prop) (ops : Array Oper) (i : Nat) (os : List Oper) (Q : Cont) (e : E) (Γ : List Fact) : Prop :=
 ops.toList.drop i = os → ∀ a w, Fr n e a → Hold w0 F Γ w → wpOpsIn Fence.wide 2 P ops (up n w0 F Q) (List.range' i os.length) a w
theorem Xuk {id : Nat} {os : List Oper} (h : JY P n w0 F ⟨os⟩ 0 os Q e Γ) : JC P n w0 F (.region id ⟨os⟩ false) Q e Γ := by
 intro a w fr ho
 refine (wpIn_wide (n := 2)).1 (wpIn_region ?_)
 have e1 : List.range (Array.size ⟨os⟩ : Nat) = List.range' 0 os.length := by simp [List.range_eq_range']
 rw [e1]
 exact h rfl a w fr ho
theorem JY.nil {ops : Array Oper} {i : Nat} (h : Q .normal e Γ) : JY P n w0 F ops i [] Q e Γ :=
 fun _ a w fr ho => by show wpOpsIn Fence.wide 2 P ops (up n w0 F Q) [] a w; unfold wpOpsIn; exact ⟨e, Γ, h, fr, ho⟩
section
variable {ops : List Oper} {i d : Nat} {op : Op} {t : TypeId} {pos : String} {aft : Array Edge} {g : Option (Nat × Bool)} {os : List Oper}
theorem JY.val {v : Value} (hg : Xbn ops e g = some true) (h : OpV P n w0 F ⟨some d, op, t, pos, aft, g⟩ e Γ v) (hd : Nat.blt d n.s = true) (k : JY P n w0 F ⟨ops⟩ (i + 1) os Q ((d, v) :: e) Γ) : JY P n w0 F ⟨ops⟩ i (⟨some d, op, t, pos, aft, g⟩ :: os) Q e Γ := by
 intro hdr a w fr ho
 obtain ⟨h1, h2⟩ := Xc3 hdr
 simp only [List.length_cons, List.range'_succ, wpOpsIn]
 rw [h1]
 simp only [Xbh (o := ⟨some d, op, t, pos, aft, g⟩) hg fr, if_true]
 refine ⟨fun _ _ => trivial, ?_⟩
 show Oper.uponIn _ _ _ _ _ _ _ ((execOp a.eval ⟨some d, op, t, pos, aft, g⟩).run P w)
 rw [h a w fr ho]
 exact k h2 _ w (fr.put hd v) ho
theorem JY.omit (hg : Xbn ops e g = some false) (hd : Nat.blt d n.s = true) (k : JY P n w0 F ⟨ops⟩ (i + 1) os Q ((d, undef) :: e) Γ) : JY P n w0 F ⟨ops⟩ i (⟨some d, op, t, pos, aft, g⟩ :: os) Q e Γ := by
 intro hdr a w fr ho
 obtain ⟨h1, h2⟩ := Xc3 hdr
 simp only [List.length_cons, List.range'_succ, wpOpsIn]
 rw [h1]
 simp only [Xbh (o := ⟨some d, op, t, pos, aft, g⟩) hg fr, Bool.false_eq_true, if_false]
 exact ⟨fun _ _ => trivial, k h2 _ w (fr.put hd _) ho⟩
theorem JY.skip (hg : Xvh ops e g = true) (hd : Nat.blt d n.s = true) (k : JY P n w0 F ⟨ops⟩ (i + 1) os Q ((d, undef) :: e) Γ) : JY P n w0 F ⟨ops⟩ i (⟨some d, op, t, pos, aft, g⟩ :: os) Q e Γ := by
 intro hdr a w fr ho
 obtain ⟨h1, h2⟩ := Xc3 hdr
 simp only [List.length_cons, List.range'_succ, wpOpsIn]
 rw [h1]
 simp only [Xnp (o := ⟨some d, op, t, pos, aft, g⟩) hg fr, Bool.false_eq_true, if_false]
 exact ⟨fun _ _ => trivial, k h2 _ w (fr.put hd _) ho⟩
theorem JY.test (s : Nat) {b : Bool} {p : Prop} [hc : Lk e s (.bool b)] [hp : Says b p] (ht : p → JY P n w0 F ⟨ops⟩ i os Q ((s, .bool true) :: e) Γ) (hf : ¬ p → JY P n w0 F ⟨ops⟩ i os Q ((s, .bool false) :: e) Γ) : JY P n w0 F ⟨ops⟩ i os Q e Γ := by
 intro hd a w fr ho
 have key : Fr n ((s, .bool b) :: e) a := fr.again hc.ok
 cases b with
 | true => exact ht (hp.ok.1 rfl) hd a w key ho
 | false => exact hf (fun h => by have := hp.ok.2 h; cases this) hd a w key ho
theorem JY.reslot (s : Nat) {v : Value} (u : Value) [hs : Lk e s v] (h : v = u) (k : JY P n w0 F ⟨ops⟩ i os Q ((s, u) :: e) Γ) : JY P n w0 F ⟨ops⟩ i os Q e Γ :=
 fun hd a w fr ho => k hd a w (fr.again (by rw [← h]; exact hs.ok)) ho
theorem JY.more {Γ' : List Fact} (h : ∀ w, Hold w0 F Γ w → Hold w0 F Γ' w) (k : JY P n w0 F ⟨ops⟩ i os Q e Γ') : JY P n w0 F ⟨ops⟩ i os Q e Γ := fun hd a w fr ho => k hd a w fr (h w ho)
theorem JY.yield {f : Operand} {args : Array Operand} {ats : Array TypeId} {vs : List Value} {l : Nat} {κ ξ : Type} {Γt : ξ → List Fact} {Γf : κ → List Fact} (hg : Xbn ops e g = some true) [hf : Ev e f (.func (.yield l) #[] #[])] [hv : ArgVs e args.toList vs] (hd : Nat.blt d n.s = true)
  (h : ∀ w, Hold w0 F Γ w → YieldAt Fence.wide 1 P l ⟨vs⟩ w fun x w' => (x = .returned (.bool true) ∧ ∃ s, Hold w0 F (Γt s) w') ∨ (x = .returned (.bool false) ∧ ∃ k, Hold w0 F (Γf k) w'))
  (kt : ∀ s, JY P n w0 F ⟨ops⟩ (i + 1) os Q ((d, .bool true) :: e) (Γt s)) (kf : ∀ k, JY P n w0 F ⟨ops⟩ (i + 1) os Q ((d, .bool false) :: e) (Γf k)) :
  JY P n w0 F ⟨ops⟩ i (⟨some d, .call ⟨.value f, args, ats⟩, t, pos, aft, g⟩ :: os) Q e Γ := by
 intro hdr a w fr ho
 obtain ⟨h1, h2⟩ := Xc3 hdr
 simp only [List.length_cons, List.range'_succ, wpOpsIn]
 rw [h1]
 simp only [Xbh (o := ⟨some d, .call ⟨.value f, args, ats⟩, t, pos, aft, g⟩) hg fr, if_true]
 refine ⟨fun _ _ => trivial, ?_⟩
 obtain ⟨fn, tmps, assign, body, hy, hR⟩ := h w ho
 have e1 := hf.ok n a fr
 have e2 : args.map a.eval = ⟨vs⟩ := by apply Array.ext'; simp [hv.ok n a fr]
 have hrun : (execOp a.eval ⟨some d, .call ⟨.value f, args, ats⟩, t, pos, aft, g⟩).run P w = .ok (.round l fn tmps assign body) w := by
  have e3 : (resolve a.eval ⟨.value f, args, ats⟩ t).run P w = .ok ⟨.fn (.yield l) #[], ⟨vs⟩⟩ w := by
   simp [resolve, e1, Deferred.ofValue]
   apply Array.ext'; simp [hv.ok n a fr]
  have e4 : (⟨vs⟩ : Array Value) ++ (#[] : Array Value) = ⟨vs⟩ := by apply Array.ext'; simp
  simp only [execOp, Sem.run_bind, e3, Result.andThen_ok, invoke]
  simpa [e4] using hy
 show Oper.uponIn _ _ _ _ _ _ _ ((execOp a.eval ⟨some d, .call ⟨.value f, args, ats⟩, t, pos, aft, g⟩).run P w)
 rw [hrun]
 refine ⟨fun h => (by cases h), hR.mono ?_⟩
 rintro x w' (⟨rfl, s, ho'⟩ | ⟨rfl, k, ho'⟩)
 ·exact kt s h2 _ w' (fr.put hd _) ho'
 ·exact kf k h2 _ w' (fr.put hd _) ho'
end
end
theorem X0v (p1 p2 : Nat) (v1 v2 : Value) (T : Array Value) : ((#[p1, p2] : Array Nat).zip (⟨[v1, v2]⟩ : Array Value)).foldl (fun t (p, v) => t.setIfInBounds p v) T = (T.setIfInBounds p1 v1).setIfInBounds p2 v2 := by
 simp
def tru (p : Prop) : Asn where
 holds _ _ := p
 mono _ _ _ _ h := h
 frame _ _ _ _ h := h
 within _ _ h := h
section
variable {P : Program} {n : Nn} {w0 : World} {F : Nat → Prop} {l : Nat} {Q : Cont} {e : E} {Γ : List Fact}
theorem JI.know [Dr] {c : Code} {p : Prop} (h : ∀ w, Hold w0 F Γ w → p) (k : p → JI P n w0 F l c Q e Γ) : JI P n w0 F l c Q e Γ := fun hq a w fr ho => k (h w ho) hq a w fr ho
end
section
variable {P : Program} {n : Nn} {w0 : World} {F : Nat → Prop} {l : Nat} {e : E} {Γ : List Fact} [Dr]
theorem Hold.turn {w : World} {r : Nat} {o o' : Obj} {Δ : List Fact} (h : Hold w0 F (.obj r o :: Δ) w) : Hold w0 F (.obj r o' :: Δ) (w.putObj r o') := Xl9 h
theorem Hold.objAt {w : World} {r : Nat} {o : Obj} {Δ : List Fact} (h : Hold w0 F (.obj r o :: Δ) w) : w.heap[r]? = some o := h.sat (.obj r o) (by simp)
def Iter (P : Program) (w0 : World) (F : Nat → Prop) (gf : FuncId) (lb : List Value) (N : Nat) {ι : Type} (v1 v2 : Nat → ι → Value) (G : Nat → ι → List Fact) (Γi : List Fact) : Prop :=
 ∀ (l : Nat) (κ ξ : Type) (M : Nat → ξ → List Fact) (X : κ → List Fact),
  (∀ i, i < N → ∀ (u : ι) (s : ξ) (Γ : List Fact) w, Hold w0 F (G i u ++ Γ ++ M i s) w → YieldAt Fence.wide 1 P l ⟨[v1 i u, v2 i u]⟩ w fun x w' => (x = .returned (.bool true) ∧ ∃ s, Hold w0 F (Γ ++ M (i + 1) s) w') ∨ (x = .returned (.bool false) ∧ ∃ k, Hold w0 F (Γ ++ X k) w')) →
  ∀ s w, Hold w0 F (Γi ++ M 0 s) w → Calls P gf ⟨.func (.yield l) #[] #[] :: lb⟩ w fun x w' => (∃ v, x = .returned v) ∧ ((∃ s, Hold w0 F (M N s) w') ∨ ∃ k, Hold w0 F (X k) w')
theorem JX.range {Q : Nn → Cont} {g : Operand} {p1 p2 : Nat} {assign body : Code} {gf : FuncId} {lb : List Value} {N : Nat} {ι ζ κ ξ : Type} {v1 v2 : Nat → ι → Value} {G : Nat → ι → List Fact} {Γi : List Fact}
  (M : Nat → ξ → List Fact) (X : κ → List Fact) (E2 : Nat → ι → ξ → ζ → E) (N2 : Nat → ι → ξ → ζ → List Fact) (s0 : ξ)
  [hg : Ev e g (.func (.func gf) #[] ⟨lb⟩)] [hb : Body P gf] (h1 : Nat.blt p1 n.s = true) (h2 : Nat.blt p2 n.s = true)
  (hi : Iter P w0 F gf lb N v1 v2 G Γi) (h0 : ∀ w, Hold w0 F Γ w → Hold w0 F (Γi ++ M 0 s0) w)
  (ha : ∀ i, i < N → ∀ (u : ι) (s : ξ) (Γ : List Fact) l, JI P ⟨n.s, []⟩ w0 F l assign (fun x e' Γ' => x = .normal ∧ ∃ z, Ent e' Γ' (E2 i u s z) (N2 i u s z ++ Γ)) ((p2, v2 i u) :: (p1, v1 i u) :: e) (G i u ++ M i s ++ Γ))
  (hbd : ∀ i, i < N → ∀ (u : ι) (s : ξ) (z : ζ) (Γ : List Fact) l, JI P ⟨n.s, []⟩ w0 F l body (fun x e' Γ' => (x = .normal ∧ ∃ s, ∀ w, Hold w0 F Γ' w → Hold w0 F (M (i + 1) s ++ Γ) w) ∨ (x = .ret ∧ ∃ k, ∀ w, Hold w0 F Γ' w → Hold w0 F (X k ++ Γ) w)) (E2 i u s z) (N2 i u s z ++ Γ))
  (kn : ∀ D s, Q ⟨n.s, ⟨.collected D, #[]⟩ :: n.ds⟩ .normal e (.obj D (.deferred (some [])) :: M N s))
  (kr : ∀ D k, Q ⟨n.s, ⟨.collected D, #[]⟩ :: n.ds⟩ .ret e (.obj D (.deferred (some [])) :: X k)) :
  JX P n w0 F (.rangeFunc g #[p1, p2] assign body) Q e Γ := by
 intro a w fr ho
 refine (wpIn_wide (n := 3)).1 (wpIn_rangeFunc ?_)
 intro fn hfn
 obtain ⟨rec, hrec⟩ : ∃ rec : LoopState → Option Code → Loop, rec = fun st pe => { state := st, pending := pe, fn, tmps := a.tmps, params := #[p1, p2], assign, body, defers := w.heap.size } := ⟨_, rfl⟩
 have ho1 : Hold w0 F (.obj (w.heap.size + 1) (.loop (rec .ready none)) :: .obj w.heap.size (.deferred (some [])) :: (Γi ++ M 0 s0)) ((w.alloc (.deferred (some []))).alloc (.loop (rec .ready none))) := by
  have a1 := (h0 w ho).push (f := .obj w.heap.size (.deferred (some []))) (fun _ => Iff.rfl) (fun _ _ h => h)
  have a2 := a1.push (f := .obj (w.alloc (.deferred (some []))).heap.size (.loop (rec .ready none))) (fun _ => Iff.rfl) (fun _ _ h => h)
  simpa only [World.size_alloc] using a2
 obtain ⟨W1, hW1⟩ : ∃ W1, (w.alloc (.deferred (some []))).alloc (.loop (rec .ready none)) = W1 := ⟨_, rfl⟩
 rw [hW1] at ho1
 obtain ⟨D, hD⟩ : ∃ D, D = w.heap.size := ⟨_, rfl⟩
 have eg := hg.ok n a fr
 have e3 : (#[.func (.yield (D + 1)) #[] #[]] : Array Value) ++ (⟨lb⟩ : Array Value) = ⟨.func (.yield (D + 1)) #[] #[] :: lb⟩ := by apply Array.ext'; simp
 have hLr : ∀ st pe, (rec st pe).state = st := fun st pe => by rw [hrec]
 have fr0 : Fr ⟨n.s, []⟩ e ⟨a.tmps, []⟩ := ⟨rfl, fr.size, fr.slot⟩
 refine ⟨D + 1, [{ target := .collected D, args := #[] }], W1, { target := .fn (.func gf) ⟨lb⟩, args := #[.func (.yield (D + 1)) #[] #[]] }, W1, gf, ⟨.func (.yield (D + 1)) #[] #[] :: lb⟩, W1, ?_, ?_, ?_, ?_, fun h => (by cases h), ?_⟩
 ·rw [← hW1, hrec, hD]; exact run_enterLoop_outer _ _ _ _ _
 ·simp only [resolve, eg]
  simp [go_sem, Deferred.ofValue]
 ·intro f' _; trivial
 ·simp only [invoke, e3, hb.ok]
 ·rw [← hD] at ho1
  let M' : Nat → ξ → List Fact := fun i s => .obj (D + 1) (.loop (rec .ready none)) :: .obj D (.deferred (some [])) :: M i s
  let X' : κ → List Fact := fun k => .obj (D + 1) (.loop { rec .ready none with state := .done, pending := some .ret }) :: .obj D (.deferred (some [])) :: X k
  refine callsIn_wide.2 (Calls.mono (hi (D + 1) κ ξ M' X' ?_ s0 W1 (ho1.perm ?_)) ?_)
  ·intro i hin u s Γ W hW
   have hW' : Hold w0 F (.obj (D + 1) (.loop (rec .ready none)) :: (G i u ++ M i s ++ .obj D (.deferred (some [])) :: Γ)) W := by
    refine hW.perm ?_
    show (G i u ++ Γ ++ .obj (D + 1) (.loop (rec .ready none)) :: .obj D (.deferred (some [])) :: M i s).Perm _
    refine List.perm_middle.trans (List.Perm.cons _ ?_)
    refine List.perm_middle.trans ((List.Perm.cons _ ?_).trans List.perm_middle.symm)
    rw [List.append_assoc, List.append_assoc]
    exact List.Perm.append_left _ List.perm_append_comm
   have hl := hW'.objAt
   have hy := run_yield (P := P) (args := ⟨[v1 i u, v2 i u]⟩) hl (by rw [hrec]; rfl)
   refine ⟨_, _, _, _, hy, roundIn_of_wpIn trivial ?_⟩
   have etm : ((rec .ready none).params.zip (⟨[v1 i u, v2 i u]⟩ : Array Value)).foldl (fun t (p, v) => t.setIfInBounds p v) (rec .ready none).tmps = (a.tmps.setIfInBounds p1 (v1 i u)).setIfInBounds p2 (v2 i u) := by
    rw [hrec]; exact X0v p1 p2 _ _ _
   have ea : (rec .ready none).assign = assign := by rw [hrec]
   have eb : (rec .ready none).body = body := by rw [hrec]
   rw [etm, ea, eb]
   have fr1 := (fr0.put h1 (v1 i u)).put h2 (v2 i u)
   have hW2 : Hold w0 F (G i u ++ M i s ++ (.obj (D + 1) (.loop (rec .ready none)) :: .obj D (.deferred (some [])) :: Γ)) W := hW'.perm List.perm_middle.symm
   refine wpIn_mono (ha i hin u s _ (D + 1) (fun _ _ h => by cases h.1) _ W fr1 hW2) ?_
   rintro x a2 W2 ⟨e2, Γ2, ⟨rfl, z, hent⟩, fr2, ho2⟩
   have ho3 : Hold w0 F (.obj (D + 1) (.loop (rec .ready none)) :: (N2 i u s z ++ .obj D (.deferred (some [])) :: Γ)) W2 := (hent.facts w0 F W2 ho2).perm List.perm_middle
   have fr3 := hent.slots _ _ fr2
   refine ⟨_, run_beginRound ho3.objAt (hLr _ _), ?_⟩
   have ho4 := (ho3.turn (o' := .loop { rec .ready none with state := .busy })).perm (List.perm_middle (l₁ := N2 i u s z)).symm
   refine wpIn_mono (hbd i hin u s z _ (D + 1) (fun _ _ h => by rcases h with h | h <;> cases h.1) _ _ fr3 ho4) ?_
   rintro x a5 W5 ⟨e5, Γ5, hx, fr5, ho5⟩
   rcases hx with ⟨rfl, s2, hm⟩ | ⟨rfl, k, hm⟩
   ·have ho6 := (hm _ ho5).perm (List.perm_middle (l₁ := M (i + 1) s2))
    refine ⟨_, _, run_endRound none ho6.objAt, .inl ⟨rfl, s2, ?_⟩⟩
    have ho7 := ho6.turn (o' := .loop (rec .ready none))
    have er : (Obj.loop { ({ rec .ready none with state := .busy } : Loop) with state := if (none : Option Code).isNone then .ready else .done, pending := none }) = .loop (rec .ready none) := by rw [hrec]; rfl
    rw [er]
    refine ho7.perm ?_
    show List.Perm _ (Γ ++ .obj (D + 1) (.loop (rec .ready none)) :: .obj D (.deferred (some [])) :: M (i + 1) s2)
    refine (List.Perm.cons _ ?_).trans List.perm_middle.symm
    refine List.perm_middle.trans ((List.Perm.cons _ List.perm_append_comm).trans List.perm_middle.symm)
   ·have ho6 := (hm _ ho5).perm (List.perm_middle (l₁ := X k))
    refine ⟨_, _, run_endRound (some .ret) ho6.objAt, .inr ⟨rfl, k, ?_⟩⟩
    have ho7 := ho6.turn (o' := .loop { rec .ready none with state := .done, pending := some .ret })
    have er : (Obj.loop { ({ rec .ready none with state := .busy } : Loop) with state := if (some Code.ret : Option Code).isNone then .ready else .done, pending := some .ret }) = .loop { rec .ready none with state := .done, pending := some .ret } := by rfl
    rw [er]
    refine ho7.perm ?_
    show List.Perm _ (Γ ++ .obj (D + 1) (.loop { rec .ready none with state := .done, pending := some .ret }) :: .obj D (.deferred (some [])) :: X k)
    refine (List.Perm.cons _ ?_).trans List.perm_middle.symm
    refine List.perm_middle.trans ((List.Perm.cons _ List.perm_append_comm).trans List.perm_middle.symm)
  ·show List.Perm _ (Γi ++ .obj (D + 1) (.loop (rec .ready none)) :: .obj D (.deferred (some [])) :: M 0 s0)
   refine (List.Perm.trans ?_ List.perm_middle.symm)
   exact List.Perm.cons _ List.perm_middle.symm
  ·have frD : ∀ {W}, Hold w0 F Γ W → Fr ⟨n.s, ⟨.collected D, #[]⟩ :: n.ds⟩ e { a with defers := [⟨.collected D, #[]⟩] ++ a.defers } := fun _ => ⟨by show [_] ++ a.defers = _; rw [fr.defers]; rfl, fr.size, fr.slot⟩
   have frE := frD ho
   rintro x W3 ⟨⟨v, rfl⟩, ⟨s, hM⟩ | ⟨k, hX⟩⟩
   ·refine ⟨none, W3.putObj (D + 1) (.loop { rec .ready none with state := .exhausted }), ?_, ?_⟩
    ·have := run_endLoop (P := P) hM.objAt (by rw [hLr]; simp)
     have ep : (rec .ready none).pending = none := by rw [hrec]
     exact this.trans (congrArg (fun x => Result.ok x _) ep)
    ·have ho9 := (hM.turn (o' := .loop { rec .ready none with state := .exhausted })).tail
     exact ⟨_, e, _, kn D s, frE, ho9⟩
   ·refine ⟨some .ret, _, run_endLoop (P := P) hX.objAt (by simp), ?_⟩
    have ho9 := (hX.turn (o' := .loop { ({ rec .ready none with state := .done, pending := some .ret } : Loop) with state := .exhausted })).tail
    exact wpIn_ret ⟨_, e, _, kr D k, frE, ho9⟩
theorem X0w {Q : Nn → Cont} {x y : Code} (h : JX P n w0 F x (fun n' => andThen (JC P n' w0 F y (Q n')) (Q n')) e Γ) : JX P n w0 F (.seq x y) Q e Γ := by
 intro a w fr ho
 refine wp_seq (wp_mono (h a w fr ho) ?_)
 rintro z a w ⟨n', e, Γ, hq, fr, ho⟩
 cases z <;> first | exact wp_mono (hq a w fr ho) (fun x a w ⟨e, Γ, hq⟩ => ⟨n', e, Γ, hq⟩) | exact ⟨n', e, Γ, hq, fr, ho⟩
theorem JX.block {Q : Nn → Cont} {id : Nat} {c : Code} (h : JX P n w0 F c (fun n' => inBlock id (Q n')) e Γ) : JX P n w0 F (.block id c) Q e Γ := by
 intro a w fr ho
 refine wp_block (wp_mono (h a w fr ho) ?_)
 rintro x a w ⟨n', e, Γ, hq, fr, ho⟩
 cases x with
 | exit id' =>
  simp only [inBlock, Exit.inBlock] at *
  split
  ·rename_i he; rw [if_pos he] at hq; exact ⟨n', e, Γ, hq, fr, ho⟩
  ·rename_i he; rw [if_neg he] at hq; exact ⟨n', e, Γ, hq, fr, ho⟩
 | _ => exact ⟨n', e, Γ, hq, fr, ho⟩
theorem Xr1 {f : FuncId} {fn : Func} {c : Code} {rs : List ResultVar} {args : List Value} {w : World} {Y : Type} {v : Y → Value} {B : Y → List Fact}
  {m : Nat} (hf : P.funcs[f]? = some fn) (hb : fn.body = some c) (hn : fn.ntmps = m) (hr : fn.results = ⟨rs⟩) (hl : Nat.ble args.length m = true) (Γ : List Fact) (ho : Hold w F Γ w)
  (h : JX P ⟨m, []⟩ w F c (fun n' x e Γ => ∃ D Γ', n' = ⟨m, [⟨.collected D, #[]⟩]⟩ ∧ (x = .ret ∨ x = .normal) ∧ (∀ w1, Hold w F Γ w1 → Hold w F (.obj D (.deferred (some [])) :: Γ') w1) ∧ Xae P w F rs v B .ret e Γ') (enum 0 args) Γ) : Gives P f args w F v B := by
 refine callsIn_wide.1 (callsIn_of_wp_marks (F := Fence.wide) (n := 3) hf hb trivial ?_)
 rw [hn]
 refine wpIn_mono ((wpIn_wide (n := 3)).2 (h _ w (Fr.start hl) ho)) ?_
 rintro x a w' ⟨n', e, Γ, ⟨D, Γ', rfl, hx, hΓ, _, y, vs, hres, hpk, hB⟩, fr, ho'⟩
 have ho1 := hΓ w' ho'
 have ho2 := (ho1.turn (o' := .deferred none)).tail
 have fr' : Fr ⟨m, []⟩ e ⟨a.tmps, []⟩ := ⟨rfl, fr.size, fr.slot⟩
 have hrun := Xc5 (P := P) hr hres fr' ho2
 have key : LeavesInM Fence.wide 3 P fn a.tmps (fun x w' => ∃ y, x = .returned (v y) ∧ Bel w.heap.size w w' ∧ Fresh w.heap.size F (B y) w') a.defers .returning w' := by
  rw [fr.defers]
  refine ⟨by simp, .inl ⟨D, _, rfl, run_takeDeferred ho1.objAt, ?_⟩⟩
  exact ⟨_, hrun, y, by rw [hpk], ho2.below, (hB _ ho2).fresh⟩
 rcases hx with rfl | rfl <;> exact key
end
section
attribute [local irreducible] JC JO JR JQ andThen inBlock OpV Gives Xae JM JS
section
attribute [local irreducible] JY JI JX
theorem Xod (a : Option Addr) (c : Nat) (b : List UInt8) (h : (sl a c b).holds F w) :
  Gives prog 61 [.slice a b.length c] w F (fun y : Nat => .func (.func 121) #[] ⟨[.pointer (some ⟨y, 0, none⟩)]⟩) (fun y => [.own y 22 [.slice a b.length c]]) := by
 refine Xaa func61 rfl ntmps61 rfl rfl [.st (sl a c b)] (.start1 h) ?_
 (repeat (refine wE ?_; intro _)); refine wA ?_
 rename_i bx
 exact CT.dn bx rfl
noncomputable def comAt (b : List UInt8) (i : Nat) : Commit := (decL (readL b)).getD i com0
noncomputable def endAt (b : List UInt8) (i : Nat) : Nat := (Xaf ((readL b).take (i + 1))).length
theorem Xqb (w0 : World) (F : Nat → Prop) (bx : Nat) (a : Option Addr) (c : Nat) (b : List UInt8) (hb : b.length ≤ 1048576) :
  Iter prog w0 F 121 [.pointer (some ⟨bx, 0, none⟩)] (decL (readL b)).length (ι := Option Addr × Nat) (fun i u => Xax (comAt b i) u.1 u.2) (fun i u => .int .i64 (endAt b i : Int))
   (fun i u => [.st (sl u.1 u.2 (comAt b i).parents)]) [.own bx 22 [.slice a b.length c], .st (sl a c b)] := by
 intro l κ ξ M X hY s0 w ho
 have hpre : Xaf (readL b) <+: b := Xhy _ _
 have hfl : (Xaf (readL b)).length ≤ b.length := hpre.length_le
 have hrl := Xev (readL b)
 have hsm : ∀ x ∈ readL b, x.length ≤ 4000 := Xld _ _
 have hdl := Xin (readL b)
 refine Calls.mono (R := fun x w' => ∃ y : ξ ⊕ κ, x = .returned (.tuple ⟨[]⟩) ∧ Hold w0 F (match y with | .inl s => M (decL (readL b)).length s | .inr k => X k) w') ?key ?mono
 case mono =>
  rintro x w' ⟨y, rfl, hy⟩
  cases y with
  | inl s => exact ⟨⟨_, rfl⟩, .inl ⟨s, hy⟩⟩
  | inr k => exact ⟨⟨_, rfl⟩, .inr ⟨k, hy⟩⟩
 refine Xbq (Y := ξ ⊕ κ) (v := fun _ => .tuple ⟨[]⟩) (B := fun y => match y with | .inl s => M (decL (readL b)).length s | .inr k => X k) func121 rfl ntmps121 rfl rfl
  (.own bx 22 [.slice a b.length c] :: .st (sl a c b) :: M 0 s0) ho ?_
 refine wz9 ?_
 refine Xc4 rfl (fun w1 hw => Xyf w1 _ a c b hw.get hb) ?_
 intro a3 c3
 generalize hrs : readL b = rs at hY hpre hfl hrl hsm hdl ⊢
 refine wz4 ?_
 refine JC.reslot 5 (.int .i64 ((Xaf (rs.take 0)).length : Int)) rfl ?_
 refine Xfb (fun (i : Nat) (s : ξ) => [(0, .func (.yield l) #[] #[]), (5, .int .i64 ((Xaf (rs.take i)).length : Int)), (18, .slice a3 rs.length c3), (19, .int .i64 (rs.length : Int)), (20, .int .i64 (i : Int))])
  (fun i s => .st (sl a3 c3 rs) :: M i s) (fun i _ => i ≤ (decL rs).length) (fun i _ => rs.length - i) 0 s0 (Nat.zero_le _) iI ?_
 intro i s hi
 refine wz11 ?_
 refine JC.test (fun h1 => ?_) (fun h1 => ?_)
 ·have hlt : i < rs.length := by omega
  refine wz14 ?_
  have hx := hsm rs[i] (List.getElem_mem hlt)
  have hfr : Xkr rs[i] = (Xbu rs[i], 0) := if_neg (by omega)
  refine Xfl (k := i) rfl hlt ?_
  intro b5 o5 a5 c5
  refine wz9 ?_
  refine Xc4 rfl (fun w1 hw => Xpp w1 _ a5 c5 rs[i] hw.get) ?_
  rw [hfr]
  intro a6 c6
  dsimp only
  have hnx := Xqa hlt
  have hle := Xle rs (i + 1)
  refine wA ?_
  refine Xjj (B := fun y : GetY rs[i] => .st (sl y.pa y.pc (getT rs[i]).1.parents)) (C := fun y : GetY rs[i] => .st (sl y.ra y.rc (getT rs[i]).2.1)) rfl (fun w1 hw => X0e w1 _ a5 c5 rs[i] hw.get (by omega)) ?_
  rintro ⟨pa, pc, ra, rc⟩
  dsimp only
  by_cases hd : i < (decL rs).length
  ·have hg := Xoc rs i hd hlt
   have hT : getT rs[i] = ((decL rs)[i], [], 0) := Xku hg
   rw [hT]
   dsimp only
   have hcm : comAt b i = (decL rs)[i] := by unfold comAt; rw [hrs, List.getD_eq_getElem?_getD, List.getElem?_eq_getElem hd]; rfl
   have hend : endAt b i = (Xaf (rs.take (i + 1))).length := by unfold endAt; rw [hrs]
   generalize (decL rs)[i] = cm at hg hcm ⊢
   repeat (first|refine Wd ?_|refine We rfl ?_|refine Wf (by first|exact Va|exact Vb|exact Vc|exact Vd|exact Ve|exact Vf|exact Vg|exact Vh|exact Vi|exact Vj|exact Vk (by omega)|exact Vl|exact Vm|exact Vn|exact Vo|exact Vp|exact Vq|exact Vr|exact Vs (by omega)|exact Vt (by omega)|exact Vu (by omega)|exact Vv (by omega)|exact Vw|exact Vx|exact Vy|exact Vz|exact VA|exact VB|exact VC|exact VD|exact VE|exact VF) rfl ?_|(refine Wg rfl ?_; intro _)|(refine Wh rfl ?_; intro _)|refine Wi ?_|refine Wv rfl rfl ?_)
   rename_i bc
   refine Wa ?_
   refine Wb ?_
   refine Xuk ?_
   refine z3z ?_
   refine JY.reslot 49 (.int .i64 ((Xaf (rs.take (i + 1))).length : Int)) (by congr 1; omega) ?_
   refine JY.reslot 5 (.int .i64 ((Xaf (rs.take (i + 1))).length : Int)) (by congr 1; omega) ?_
   refine JY.yield (l := l) (κ := κ) (ξ := ξ) (Γt := fun s => .st (sl a3 c3 rs) :: M (i + 1) s) (Γf := fun k => .st (sl a3 c3 rs) :: X k) rfl rfl (fun w1 ho => ?_) (fun s2 => ?_) (fun k => ?_)
   ·have hy := hY i hd (pa, pc) s [.st (sl a3 c3 rs)] w1
    dsimp only at hy
    rw [hcm, hend] at hy
    exact hy (ho.ent : Hold w0 F (.st (sl pa pc cm.parents) :: .st (sl a3 c3 rs) :: M i s) w1)
   ·refine z3z ?_
    refine wz2 ?_
    exact ⟨i + 1, s2, by omega, by omega, iI⟩
   ·refine z3z ?_
    refine wz8 ?_
    exact CT.dn (.inr k) rfl
  ·obtain rfl : i = (decL rs).length := by omega
   have hne := Xs1 rs hlt
   cases hg : getC (rs[(decL rs).length]) with
   | none =>
    rw [Xpw hg]
    dsimp only
    (repeat (refine wF ?_; intro _)); refine wX ?_
    exact CT.dn (.inl s) rfl
   | some q =>
    obtain ⟨cm, R⟩ := q
    rw [Xku hg]
    dsimp only
    have hR : 0 < R.length := by
     cases R with
     | nil => exact (hne ⟨cm, hg⟩).elim
     | cons r R => simp
    (repeat (refine wF ?_; intro _)); refine wX ?_
    refine JO.test 46 (fun h6 => ?_) (fun h6 => absurd h6 (by omega))
    refine wz8 ?_
    exact CT.dn (.inl s) rfl
 ·obtain rfl : i = (decL rs).length := by omega
  refine wz3 ?_
  exact Xvi (.inl s) rfl
end
section
attribute [local irreducible] JY JI JX Xaq
theorem Xyt {l : List (List UInt8)} {c : Commit} (h : c ∈ decL l) : fine c := by
 obtain ⟨i, hi, rfl⟩ := List.getElem_of_mem h
 obtain ⟨h1, h2⟩ := Xs3 (Xoc l i hi (Nat.lt_of_lt_of_le hi (Xin l)))
 exact ⟨h2, by have := Xlb h1; omega⟩
theorem Xul (a : Option Addr) (c : Nat) (b : List UInt8) (h : (sl a c b).holds F w) (hb : b.length ≤ 1048576) :
  Xfa prog 17 [.slice a b.length c] w F (Xcs b) [.int .i64 (Xck b : Int)] := by
 obtain ⟨xs, hxs⟩ : ∃ xs, xs = decL (readL b) := ⟨_, rfl⟩
 obtain ⟨rs, hrs⟩ : ∃ rs, rs = readL b := ⟨_, rfl⟩
 refine Xr1 func17 rfl ntmps17 rfl rfl [.st (sl a c b)] (.start1 h) ?_
 refine JX.seq ?_
 (repeat (refine wE ?_; intro _)); refine wA ?_
 rename_i b2 b3
 refine ⟨rfl, JX.seq ?_⟩
 (repeat (refine wE ?_; intro _)); refine wA ?_
 rename_i b4
 refine ⟨rfl, JX.seq ?_⟩
 (repeat (refine wE ?_; intro _)); refine wA ?_
 rename_i b5
 refine ⟨rfl, X0w (JX.seq ?_)⟩
 refine wz14 ?_
 refine JR.call1 (B := fun y : Nat => .own y 22 [.slice a b.length c]) rfl (fun w1 hw => Xod w1 _ a c b hw.get) ?_
 intro bx
 refine wz10 ?_
 refine ⟨rfl, JX.block ?_⟩
 let E0 : E := [(2, .pointer (some ⟨b2, 0, none⟩)), (3, .pointer (some ⟨b3, 0, none⟩)), (4, .pointer (some ⟨b4, 0, none⟩)), (5, .pointer (some ⟨b5, 0, none⟩))]
 have hiter := Xqb w F bx a c b hb
 rw [← hxs] at hiter
 refine JX.range (ξ := Option Addr × Nat) (κ := Option Addr × Nat) (ζ := Nat)
  (fun i s => [.own b2 35 [.slice none 0 0], .own b3 3 [.int .i64 0], .own b4 35 [.slice s.1 (xs.take i).length s.2], .own b5 3 [.int .i64 ((Xaf (rs.take i)).length : Int)], .res (buf s.1 s.2 29 (xs.take i)), .st (tru (Xbe [] xs = Xbe (xs.take i) (xs.drop i)))])
  (fun k => [.own b2 35 [.slice k.1 (Xcs b).length k.2], .own b3 3 [.int .i64 (Xck b : Int)], .st (sl k.1 k.2 (Xcs b))])
  (fun i u s z => (7, .int .i64 (endAt b i : Int)) :: (6, .pointer (some ⟨z, 0, none⟩)) :: E0)
  (fun i u s z => [.own z 29 [.int .i64 (comAt b i).ev.node, .int .i64 (comAt b i).ev.seq, .int .i64 (comAt b i).gen, .slice u.1 (comAt b i).parents.length u.2, .int .i64 (comAt b i).op.kind, .string (comAt b i).op.key, .string (comAt b i).op.elem, .int .i64 (comAt b i).op.n], .st (sl u.1 u.2 (comAt b i).parents),
   .own b2 35 [.slice none 0 0], .own b3 3 [.int .i64 0], .own b4 35 [.slice s.1 (xs.take i).length s.2], .own b5 3 [.int .i64 ((Xaf (rs.take i)).length : Int)], .res (buf s.1 s.2 29 (xs.take i)), .st (tru (Xbe [] xs = Xbe (xs.take i) (xs.drop i)))])
  (none, 0) rfl rfl hiter ?h0 ?ha ?hbd ?kn ?kr
 case h0 =>
  intro w1 ho
  show Hold w F [.own bx 22 [.slice a b.length c], .st (sl a c b), .own b2 35 [.slice none 0 0], .own b3 3 [.int .i64 0], .own b4 35 [.slice none 0 0], .own b5 3 [.int .i64 0], .res (buf (α := Commit) none 0 29 []), .st (tru (Xbe [] xs = Xbe (xs.take 0) (xs.drop 0)))] w1
  have := ((ho.ent : Hold w F [.own bx 22 [.slice a b.length c], .st (sl a c b), .own b2 35 [.slice none 0 0], .own b3 3 [.int .i64 0], .own b4 35 [.slice none 0 0], .own b5 3 [.int .i64 0]] w1).add (A := tru (Xbe [] xs = Xbe (xs.take 0) (xs.drop 0))) rfl)
  exact (this.bufNil (α := Commit) (el := 29) (Γ' := .st (tru (Xbe [] xs = Xbe (xs.take 0) (xs.drop 0))) :: [.own bx 22 [.slice a b.length c], .st (sl a c b), .own b2 35 [.slice none 0 0], .own b3 3 [.int .i64 0], .own b4 35 [.slice none 0 0], .own b5 3 [.int .i64 0]])).ent
 case ha =>
  rintro i hi ⟨pa, pc⟩ ⟨p, q⟩ Γ l
  dsimp only [List.cons_append, List.nil_append]
  repeat (first|refine Wa ?_|refine JI.seq ?_|refine JI.region rfl ?_|refine Wd ?_|refine We rfl ?_|refine Wf (by first|exact Va|exact Vb|exact Vc|exact Vd|exact Ve|exact Vf|exact Vg|exact Vh|exact Vi|exact Vj|exact Vk (by omega)|exact Vl|exact Vm|exact Vn|exact Vo|exact Vp|exact Vq|exact Vr|exact Vs (by omega)|exact Vt (by omega)|exact Vu (by omega)|exact Vv (by omega)|exact Vw|exact Vx|exact Vy|exact Vz|exact VA|exact VB|exact VC|exact VD|exact VE|exact VF) rfl ?_|(refine Wg rfl ?_; intro _)|(refine Wh rfl ?_; intro _)|refine Wi ?_|refine Xcr ?_|refine Xca ?_|refine JI.skip ?_|refine JI.ret ?_|refine Wt ?_|refine JI.block ?_|refine Wr ?_|refine Wu ?_|refine Wv rfl rfl ?_|(refine Ww rfl ⟨rfl, by decide, by decide, by decide⟩ ?_; intro _))
  rename_i z
  exact ⟨rfl, z, iI⟩
 case hbd =>
  rintro i hi ⟨pa, pc⟩ ⟨p, q⟩ z Γ l
  dsimp only [List.cons_append, List.nil_append]
  have hxi : comAt b i = xs[i] := by unfold comAt; rw [← hxs, List.getD_eq_getElem?_getD, List.getElem?_eq_getElem hi]; rfl
  have hfn : ∀ x ∈ xs.take (i + 1), fine x := fun x hx => Xyt (by rw [← hxs]; exact List.mem_of_mem_take hx)
  have hdl := Xin (readL b)
  have hrl := Xev (readL b)
  have hpre : (Xaf (readL b)).length ≤ b.length := (Xhy _ _ : Xaf (readL b) <+: b).length_le
  rw [← hxs] at hdl
  have hlen : (xs.take i).length = i := by rw [List.length_take]; omega
  have hnext : xs.take (i + 1) = xs.take i ++ [comAt b i] := by rw [hxi]; exact List.take_succ_eq_append_getElem hi
  refine JI.know (fun w1 ho => (ho.get (A := tru (Xbe [] xs = Xbe (xs.take i) (xs.drop i))))) ?_
  intro hcl
  generalize comAt b i = cm at hnext hxi ⊢
  repeat (first|refine Wa ?_|refine JI.seq ?_|refine JI.region rfl ?_|refine Wd ?_|refine We rfl ?_|refine Wf (by first|exact Va|exact Vb|exact Vc|exact Vd|exact Ve|exact Vf|exact Vg|exact Vh|exact Vi|exact Vj|exact Vk (by omega)|exact Vl|exact Vm|exact Vn|exact Vo|exact Vp|exact Vq|exact Vr|exact Vs (by omega)|exact Vt (by omega)|exact Vu (by omega)|exact Vv (by omega)|exact Vw|exact Vx|exact Vy|exact Vz|exact VA|exact VB|exact VC|exact VD|exact VE|exact VF) rfl ?_|(refine Wg rfl ?_; intro _)|(refine Wh rfl ?_; intro _)|refine Wi ?_|refine Xcr ?_|refine Xca ?_|refine JI.skip ?_|refine JI.ret ?_|refine Wt ?_|refine JI.block ?_|refine Wr ?_|refine Wu ?_|refine Wv rfl rfl ?_|(refine Ww rfl ⟨rfl, by decide, by decide, by decide⟩ ?_; intro _))
  rename_i bl
  refine Xa1 (L := xs.take i) (u := cm) rfl (by exact ⟨rfl, rfl, by decide⟩) (by omega) ?_
  intro a6 c6
  rw [← hnext]
  repeat (first|refine Wa ?_|refine JI.seq ?_|refine JI.region rfl ?_|refine Wd ?_|refine We rfl ?_|refine Wf (by first|exact Va|exact Vb|exact Vc|exact Vd|exact Ve|exact Vf|exact Vg|exact Vh|exact Vi|exact Vj|exact Vk (by omega)|exact Vl|exact Vm|exact Vn|exact Vo|exact Vp|exact Vq|exact Vr|exact Vs (by omega)|exact Vt (by omega)|exact Vu (by omega)|exact Vv (by omega)|exact Vw|exact Vx|exact Vy|exact Vz|exact VA|exact VB|exact VC|exact VD|exact VE|exact VF) rfl ?_|(refine Wg rfl ?_; intro _)|(refine Wh rfl ?_; intro _)|refine Wi ?_|refine Xcr ?_|refine Xca ?_|refine JI.skip ?_|refine JI.ret ?_|refine Wt ?_|refine JI.block ?_|refine Wr ?_|refine Wu ?_|refine Wv rfl rfl ?_|(refine Ww rfl ⟨rfl, by decide, by decide, by decide⟩ ?_; intro _))
  have hend : endAt b i = (Xaf (rs.take (i + 1))).length := by unfold endAt; rw [← hrs]
  rw [hend]
  have hlen1 : (xs.take (i + 1)).length = i + 1 := by rw [List.length_take]; omega
  by_cases hc : Closed (xs.take (i + 1))
  ·have hst := Xry hi hcl hc
   refine JR.callV rfl (fun w1 hw => (Xuf w1 (fun _ => True) a6 c6 (xs.take (i + 1)) (Hold.bufSlOf (α := Commit) (a := a6) (c := c6) (el := 29) (L := xs.take (i + 1)) hw) (by omega) hfn hc).any) ?_
   repeat (first|refine Wa ?_|refine JI.seq ?_|refine JI.region rfl ?_|refine Wd ?_|refine We rfl ?_|refine Wf (by first|exact Va|exact Vb|exact Vc|exact Vd|exact Ve|exact Vf|exact Vg|exact Vh|exact Vi|exact Vj|exact Vk (by omega)|exact Vl|exact Vm|exact Vn|exact Vo|exact Vp|exact Vq|exact Vr|exact Vs (by omega)|exact Vt (by omega)|exact Vu (by omega)|exact Vv (by omega)|exact Vw|exact Vx|exact Vy|exact Vz|exact VA|exact VB|exact VC|exact VD|exact VE|exact VF) rfl ?_|(refine Wg rfl ?_; intro _)|(refine Wh rfl ?_; intro _)|refine Wi ?_|refine Xcr ?_|refine Xca ?_|refine JI.skip ?_|refine JI.ret ?_|refine Wt ?_|refine JI.block ?_|refine Wr ?_|refine Wu ?_|refine Wv rfl rfl ?_|(refine Ww rfl ⟨rfl, by decide, by decide, by decide⟩ ?_; intro _))
   refine .inl ⟨rfl, (a6, c6), fun w1 ho => ?_⟩
   exact (ho.add (A := tru (Xbe [] xs = Xbe (xs.take (i + 1)) (xs.drop (i + 1)))) hst).ent
  ·have hst : Xcs b = xs.take i := by unfold Xcs; rw [← hxs]; exact Xrz hi hcl hc
   have hle : Xck b = (Xaf (rs.take i)).length := by unfold Xck; rw [hst, hlen, ← hrs]
   rw [hst, hle]
   refine JR.callV rfl (fun w1 hw => (Xwz w1 (fun _ => True) a6 c6 (xs.take (i + 1)) (Hold.bufSlOf (α := Commit) (a := a6) (c := c6) (el := 29) (L := xs.take (i + 1)) hw) (by omega) hfn hc).any) ?_
   repeat (first|refine Wa ?_|refine JI.seq ?_|refine JI.region rfl ?_|refine Wd ?_|refine We rfl ?_|refine Wf (by first|exact Va|exact Vb|exact Vc|exact Vd|exact Ve|exact Vf|exact Vg|exact Vh|exact Vi|exact Vj|exact Vk (by omega)|exact Vl|exact Vm|exact Vn|exact Vo|exact Vp|exact Vq|exact Vr|exact Vs (by omega)|exact Vt (by omega)|exact Vu (by omega)|exact Vv (by omega)|exact Vw|exact Vx|exact Vy|exact Vz|exact VA|exact VB|exact VC|exact VD|exact VE|exact VF) rfl ?_|(refine Wg rfl ?_; intro _)|(refine Wh rfl ?_; intro _)|refine Wi ?_|refine Xcr ?_|refine Xca ?_|refine JI.skip ?_|refine JI.ret ?_|refine Wt ?_|refine JI.block ?_|refine Wr ?_|refine Wu ?_|refine Wv rfl rfl ?_|(refine Ww rfl ⟨rfl, by decide, by decide, by decide⟩ ?_; intro _))
   refine JI.more (Γ' := .st (sl a6 c6 (xs.take (i + 1))) :: .own b2 35 [.slice none 0 0] :: .own b3 3 [.int .i64 0] :: .own b4 35 [.slice a6 (xs.take (i + 1)).length c6] :: .own b5 3 [.int .i64 ((Xaf (rs.take i)).length : Int)] :: Γ) (fun w1 ho => (ho.ent : Hold w F (.res (buf a6 c6 29 (xs.take (i + 1))) :: .own b2 35 [.slice none 0 0] :: .own b3 3 [.int .i64 0] :: .own b4 35 [.slice a6 (xs.take (i + 1)).length c6] :: .own b5 3 [.int .i64 ((Xaf (rs.take i)).length : Int)] :: Γ) w1).pub) ?_
   refine JI.drawP mixed rfl ?_
   refine JP.tv 0 [.own b4 35 [.slice a6 (xs.take (i + 1)).length c6]] ?_
   refine JP.tv 1 [.own b4 35 [.slice a6 (xs.take (i + 1)).length c6]] ?_
   refine Xab 2 ?_
   refine JP.pure 3 rfl (by kernel_rfl) rfl (fun _ => Vv (by omega)) rfl rfl ?_
   refine JP.reslot 22 (.int .i64 (i : Int)) (by congr 1; omega) ?_
   refine JP.take 4 [.st (sl a6 c6 (xs.take (i + 1)))] rfl (by kernel_rfl) rfl (Xbm (k := i) (fun w1 ho => by have := (Hold.get (A := sl a6 c6 (xs.take (i + 1))) ho).1; omega)) rfl rfl ?_
   refine JP.tv 5 [.own b5 3 [.int .i64 ((Xaf (rs.take i)).length : Int)]] ?_
   refine Xal 6 rfl rfl (Wi (Wd (nO ?_)))
   refine Xal 7 rfl rfl (Wi (Wd (nO ?_)))
   refine JP.nil (by kernel_rfl) ?_
   repeat (first|refine Wa ?_|refine JI.seq ?_|refine JI.region rfl ?_|refine Wd ?_|refine We rfl ?_|refine Wf (by first|exact Va|exact Vb|exact Vc|exact Vd|exact Ve|exact Vf|exact Vg|exact Vh|exact Vi|exact Vj|exact Vk (by omega)|exact Vl|exact Vm|exact Vn|exact Vo|exact Vp|exact Vq|exact Vr|exact Vs (by omega)|exact Vt (by omega)|exact Vu (by omega)|exact Vv (by omega)|exact Vw|exact Vx|exact Vy|exact Vz|exact VA|exact VB|exact VC|exact VD|exact VE|exact VF) rfl ?_|(refine Wg rfl ?_; intro _)|(refine Wh rfl ?_; intro _)|refine Wi ?_|refine Xcr ?_|refine Xca ?_|refine JI.skip ?_|refine JI.ret ?_|refine Wt ?_|refine JI.block ?_|refine Wr ?_|refine Wu ?_|refine Wv rfl rfl ?_|(refine Ww rfl ⟨rfl, by decide, by decide, by decide⟩ ?_; intro _))
   refine .inr ⟨rfl, (a6, c6), fun w1 ho => ?_⟩
   have e1 := Xfv (k := i) (c' := c6) (ho.get (A := sl a6 c6 (xs.take (i + 1)))) (by omega) ⟨by have := (ho.get (A := sl a6 c6 (xs.take (i + 1)))).1; omega, Nat.le_refl _⟩
   rw [List.take_take, Nat.min_eq_left (by omega)] at e1
   have e2 := ho.add (A := sl a6 c6 (xs.take i)) e1
   dsimp only
   rw [hlen]
   exact e2.ent
 case kn =>
  rintro D ⟨p, q⟩
  refine Wr ?_
  refine Wa ?_
  dsimp only
  refine JC.know (fun w1 ho => (ho.get (A := tru (Xbe [] xs = Xbe (xs.take xs.length) (xs.drop xs.length))))) ?_
  intro hcl
  rw [List.take_length, List.drop_length] at hcl ⊢
  have hst : Xcs b = xs := by unfold Xcs; rw [← hxs]; exact hcl
  have hle : Xck b = (Xaf (rs.take xs.length)).length := by unfold Xck; rw [hst, ← hrs]
  rw [hst, hle]
  refine JC.more (Γ' := .st (sl p q xs) :: .obj D (.deferred (some [])) :: .own b2 35 [.slice none 0 0] :: .own b3 3 [.int .i64 0] :: .own b4 35 [.slice p xs.length q] :: [.own b5 3 [.int .i64 ((Xaf (rs.take xs.length)).length : Int)]]) (fun w1 ho => (ho.ent : Hold w F (.res (buf p q 29 xs) :: .obj D (.deferred (some [])) :: .own b2 35 [.slice none 0 0] :: .own b3 3 [.int .i64 0] :: .own b4 35 [.slice p xs.length q] :: [.own b5 3 [.int .i64 ((Xaf (rs.take xs.length)).length : Int)]]) w1).pub) ?_
  refine Wb ?_
  refine JC.drawP mixed ?_
  refine JP.tv 0 [.own b4 35 [.slice p xs.length q]] ?_
  refine JP.tv 1 [.own b5 3 [.int .i64 ((Xaf (rs.take xs.length)).length : Int)]] ?_
  refine Xal 2 rfl rfl (Wi (Wd (nO ?_)))
  refine Xal 3 rfl rfl (Wi (Wd (nO ?_)))
  refine JP.nil (by kernel_rfl) ?_
  refine wz13 ?_
  refine ⟨D, [.own b2 35 [.slice p xs.length q], .own b3 3 [.int .i64 ((Xaf (rs.take xs.length)).length : Int)], .st (sl p q xs)], rfl, .inl rfl, fun w1 ho => ho.ent, ?_⟩
  exact CT.dn (p, q) rfl
 case kr =>
  rintro D ⟨p, q⟩
  refine Wu ?_
  refine Wt ?_
  refine ⟨D, [.own b2 35 [.slice p (Xcs b).length q], .own b3 3 [.int .i64 (Xck b : Int)], .st (sl p q (Xcs b))], rfl, .inl rfl, fun w1 ho => ho.ent, ?_⟩
  exact CT.dn (p, q) rfl
end
theorem Xlf {n : Int} (h : -1099511627776 ≤ n ∧ n ≤ 1099511627776) : Xc9 (Xeh n) = n := by
 unfold Xc9 Xeh
 split
 ·split <;> omega
 ·split <;> omega
theorem Xum (s : ByteArray) : strB (bytesOf s) = s := by
 cases s with
 | mk d => cases d; rfl
theorem Xlg {s : ByteArray} {m : Nat} (h : s.size ≤ m) (hm : m ≤ 1048576) (r : List UInt8) : cutT (Xc0 s ++ r) m = (s, r, true) := by
 have hb := Xeq s
 have hN : getN (Xc0 s ++ r) = (s.size, (numL s.size).length) := by
  unfold Xc0; rw [List.append_assoc]; exact Xcj (by omega) _
 have hp := Xdy s.size
 have d1 : (Xc0 s ++ r).drop (numL s.size).length = bytesOf s ++ r := by
  unfold Xc0; rw [List.append_assoc, List.drop_left' rfl]
 unfold cutT
 rw [hN]
 dsimp only
 rw [d1, if_neg (by unfold Xc0; rw [List.length_append, List.length_append, hb]; omega), List.take_left' hb, List.drop_left' hb, Xum]
theorem Xio {s : ByteArray} (h : Xhi s = true) : s.size ≤ 8 := by
 unfold Xhi at h
 simp only [Bool.and_eq_true, decide_eq_true_eq] at h
 exact h.2
theorem Xw3 {o : Op_} (h : Xfi o = true) (r : List UInt8) : getOp (Xci o ++ r) = (o, r, 0) := by
 have hm := h
 unfold Xfi at h
 by_cases h0 : o.kind = 0
 ·rw [if_pos h0] at h
  simp only [Bool.and_eq_true, decide_eq_true_eq] at h
  obtain ⟨hk, ⟨⟨⟨hn0, hn1⟩, hn2⟩, he⟩⟩ := h
  have hs := Xio hk
  have hf : -1099511627776 ≤ o.n ∧ o.n ≤ 1099511627776 := by omega
  have e0 : Xci o ++ r = numL 0 ++ (Xc0 o.key ++ (numL (Xeh o.n) ++ r)) := by
   unfold Xci; rw [if_pos h0, h0]; simp
  have hN : getN (Xci o ++ r) = (0, (numL 0).length) := by rw [e0]; exact Xcj (by omega) _
  have hd : (Xci o ++ r).drop (numL 0).length = Xc0 o.key ++ (numL (Xeh o.n) ++ r) := by rw [e0]; exact List.drop_left' rfl
  have hR : restOp 0 o.key (numL (Xeh o.n) ++ r) = (o, r, true) := by
   unfold restOp
   rw [if_pos rfl, Xcj (Xjm hf)]
   dsimp only
   rw [Xlf hf, List.drop_left' rfl]
   have := Xdy (Xeh o.n)
   refine Prod.ext ?_ (Prod.ext rfl (decide_eq_true (by omega)))
   cases o
   simp only at h0 he
   subst h0 he
   rfl
  have hp := Xdy 0
  unfold getOp
  rw [hN]
  dsimp only
  rw [hd, Xlg hs (by decide), if_neg (by omega), if_neg (by simp)]
  dsimp only
  rw [hR, if_pos ⟨rfl, hm⟩]
 ·rw [if_neg h0] at h
  split at h
  ·rename_i hk3
   simp only [Bool.and_eq_true, decide_eq_true_eq] at h
   obtain ⟨hk, hn, he⟩ := h
   have hs := Xio hk
   have hse := Xio he
   have e0 : Xci o ++ r = numL o.kind.toNat ++ (Xc0 o.key ++ (Xc0 o.elem ++ r)) := by
    unfold Xci; rw [if_neg h0]; simp
   have hN : getN (Xci o ++ r) = (o.kind.toNat, (numL o.kind.toNat).length) := by rw [e0]; exact Xcj (by omega) _
   have hd : (Xci o ++ r).drop (numL o.kind.toNat).length = Xc0 o.key ++ (Xc0 o.elem ++ r) := by rw [e0]; exact List.drop_left' rfl
   have hR : restOp o.kind.toNat o.key (Xc0 o.elem ++ r) = (o, r, true) := by
    unfold restOp
    rw [if_neg (by omega), Xlg hse (by decide)]
    refine Prod.ext ?_ rfl
    have hk : ((o.kind.toNat : Nat) : Int) = o.kind := by omega
    rw [hk]
    cases o
    simp only at hn
    subst hn
    rfl
   have hp := Xdy o.kind.toNat
   unfold getOp
   rw [hN]
   dsimp only
   rw [hd, Xlg hs (by decide), if_neg (by omega), if_neg (by simp)]
   dsimp only
   rw [hR, if_pos ⟨rfl, hm⟩]
  ·cases h
theorem Xmx : ∀ (ps : List ID) (r : List UInt8), Xee ps.length (idsL ps ++ r) = some (ps, r)
 | [], r => rfl
 | p :: ps, r => by
  have e0 : idsL (p :: ps) ++ r = p.1 ++ (idsL ps ++ r) := by simp [idsL]
  have hl : 32 ≤ (idsL (p :: ps) ++ r).length := by rw [e0, List.length_append, p.2]; omega
  have hd : (idsL (p :: ps) ++ r).drop 32 = idsL ps ++ r := by rw [e0]; exact List.drop_left' p.2
  show Xee (ps.length + 1) _ = _
  rw [Xee, dif_pos hl, hd, Xmx ps r]
  have ht : Xhp (idsL (p :: ps) ++ r) hl = p := Subtype.ext (by show List.take 32 _ = _; rw [e0]; exact List.take_left' p.2)
  rw [ht]
  rfl
theorem Xlh {n m : Nat} (h : n ≤ m) (hm : m ≤ 1048576) (r : List UInt8) : Xjg m (numL n ++ r) = some (n, r) := by
 have := Xdy n
 unfold Xjg
 rw [Xcj (by omega)]
 dsimp only
 rw [if_neg (by omega), List.drop_left' rfl]
theorem Xyu {n : Nat} (h : n < 18446744073709551616) (r : List UInt8) : numO (numL n ++ r) = some (n, r) := by
 have := Xdy n
 unfold numO
 rw [Xcj h]
 dsimp only
 rw [if_neg (by omega), List.drop_left' rfl]
theorem Xyv {c : Commit} (h : may c = true) (r : List UInt8) : getC (Xan c ++ r) = some (c, r) := by
 have hc := Xn0 h
 have hnd := hc.node; have hsq := hc.seq; have hgn := hc.gen; have hpr := hc.par
 obtain ⟨X, hX⟩ : ∃ X, X = (if c.ev.node = -1 then r else Xci c.op ++ r) := ⟨_, rfl⟩
 have e0 : Xan c ++ r = numL (Xeh c.ev.node) ++ (numL c.ev.seq.toNat ++ (numL c.gen.toNat ++ (numL c.parents.length ++ (idsL c.parents ++ X)))) := by
  unfold Xan Xf6
  rw [hX]
  split <;> simp
 have hf : -1099511627776 ≤ c.ev.node ∧ c.ev.node ≤ 1099511627776 := by omega
 unfold getC
 rw [e0, Xyu (Xjm hf), Option.bind_some]
 dsimp only
 rw [Xlh (by omega) (by decide), Option.bind_some]
 dsimp only
 rw [Xlh (by omega) (by decide), Option.bind_some]
 dsimp only
 rw [Xlh (by omega) (by decide), Option.bind_some]
 dsimp only
 rw [Xmx, Option.bind_some]
 dsimp only
 rw [Xlf hf]
 have hsn : ((c.ev.seq.toNat : Nat) : Int) = c.ev.seq := by omega
 have hgg : ((c.gen.toNat : Nat) : Int) = c.gen := by omega
 have hev : (⟨c.ev.node, c.ev.seq⟩ : Ev_) = c.ev := rfl
 unfold opC
 rw [hsn, hgg]
 by_cases hn : c.ev.node = -1
 ·rw [if_pos hn, hX, if_pos hn]
  have hop : c.op = op0 := by
   have := h
   unfold may at this
   split at this
   ·cases this
   ·simp only [Bool.and_eq_true, decide_eq_true_eq] at this
    exact this.2
  have hcc : (⟨⟨c.ev.node, c.ev.seq⟩, c.gen, c.parents, op0⟩ : Commit) = c := by
   rw [← hop, hev]
  rw [hcc]
  unfold finC
  rw [if_pos h]
 ·rw [if_neg hn, hX, if_neg hn, Xw3 (hc.op hn)]
  dsimp only
  rw [if_pos rfl]
  have hcc : (⟨⟨c.ev.node, c.ev.seq⟩, c.gen, c.parents, c.op⟩ : Commit) = c := by
   rw [hev]
  rw [hcc]
  unfold finC
  rw [if_pos h]
section
attribute [local irreducible] Xaq
theorem Xqc (b : List UInt8) : ∃ k, k ≤ (decL (readL b)).length ∧ Xcs b = (decL (readL b)).take k := by
 obtain ⟨k, hk, h⟩ := Xmw (decL (readL b)) []
 exact ⟨k, hk, h⟩
def Xjh (l : List Commit) (node : Int) : Int := l.foldl (fun n c => if c.ev.node = node then max n c.ev.seq else n) 0
theorem Xun (l : List Commit) (node : Int) (i : Nat) (h : i < l.length) : Xjh (l.take (i + 1)) node = if l[i].ev.node = node then max (Xjh (l.take i) node) l[i].ev.seq else Xjh (l.take i) node := by
 unfold Xjh
 rw [List.take_succ_eq_append_getElem h, List.foldl_append]
 rfl
theorem Xuo (a : Option Addr) (c : Nat) (l : List Commit) (node : Int) (h : (sl a c l).holds F w) :
  GivesV prog 22 [.slice a l.length c, .int .i64 node] w F (.int .i64 (Xjh l node)) := by
 have hl : l.length < 9223372036854775807 := by have := h.2.2.1; simp only [lim] at this; omega
 refine Xaa func22 rfl ntmps22 rfl rfl [.st (sl a c l)] (.start1 h) ?_
 refine wz4 ?_
 refine JC.reslot 5 (.int .i64 (Xjh (l.take 0) node)) rfl ?_
 refine Xay (fun (i : Nat) => [(1, .int .i64 node), (5, .int .i64 (Xjh (l.take i) node)), (8, .slice a l.length c), (9, .int .i64 (l.length : Int)), (10, .int .i64 (i : Int))])
  (fun i => [.st (sl a c l)]) (fun i => i ≤ l.length) (fun i => l.length - i) 0 (Nat.zero_le _) iI ?_
 intro i hi
 refine wz11 ?_
 refine JC.test (fun h1 => ?_) (fun h1 => ?_)
 ·have hlt : i < l.length := by omega
  have hn := Xun l node i hlt
  refine wz14 ?_
  refine Xaj (k := i) rfl hlt ?_
  intro b5 o5 p5 q5
  (repeat (refine wE ?_; intro _)); refine wA ?_
  refine JC.test (fun h2 => ?_) (fun h2 => ?_)
  ·rw [if_pos h2] at hn
   refine wz9 ?_
   refine Wf OpV.max rfl ?_
   rw [← hn]
   refine wz2 ?_
   exact ⟨i + 1, by omega, by omega, iI⟩
  ·rw [if_neg h2] at hn
   refine wz2 ?_
   exact ⟨i + 1, by omega, by omega, by rw [hn]; infer_instance⟩
 ·obtain rfl : i = l.length := by omega
  rw [List.take_length]
  refine wz3 ?_
  exact CT.dn () rfl
end
section
attribute [local irreducible] Xaq idA l0 l1 ents
theorem Xh0 (a : Option Addr) (c : Nat) (L : List Commit) (h : (sl a c L).holds F w) (hl : L.length ≤ 34359738368) :
  GivesBuf prog 206 [.slice a L.length c] w F 29 L := by
 refine Xaa func206 rfl ntmps206 rfl rfl [.st (sl a c L)] (.start1 h) ?_
 refine wA ?_
 refine JC.test (fun ha => ?_) (fun ha => ?_)
 ·cases a with
  | some a => cases ha
  | none =>
   obtain rfl := Xd7 h
   refine wz9 ?_
   exact CT.done (none, 0) rfl (fun w ho => ho.bufNil)
 ·refine wz14 ?_
  refine Xj0 (α := Commit) rfl ?_
  intro a2
  refine wz6 ?_
  refine Xbg rfl (by exact ⟨rfl, rfl, by decide⟩) (by simpa using hl) ?_
  intro a3 c3
  rw [List.nil_append]
  refine wz10 ?_
  exact CT.dn (a3, c3) rfl
end
section
attribute [local irreducible] Xaq
structure Nd where
 no : Int
 disk : List UInt8
 room : Int
 l : List Commit
 wait : List Commit
 seq : Int
 up : Bool
 peers : List Int
 next : Int
 miss : Int
structure Na where
 d : Option Addr
 dk : Nat
 l : Option Addr
 lk : Nat
 w : Option Addr
 wk : Nat
 p : Option Addr
 pk : Nat
abbrev ndC (n : Nd) (y : Na) : List Value := [.int .i64 n.no, .slice y.d n.disk.length y.dk, .int .i64 n.room, .slice y.l n.l.length y.lk, .slice y.w n.wait.length y.wk, .int .i64 n.seq, .bool n.up, .slice y.p n.peers.length y.pk, .int .i64 n.next, .int .i64 n.miss]
abbrev ndV (n : Nd) (y : Na) : Value := .agg ⟨ndC n y⟩
abbrev ndB (n : Nd) (y : Na) : List Fact := [.st (sl y.d y.dk n.disk), .st (sl y.l y.lk n.l), .st (sl y.w y.wk n.wait), .st (sl y.p y.pk n.peers)]
def nd0 : Nd := ⟨0, [], 0, [], [], 0, false, [], 0, 0⟩
def na0 : Na := ⟨none, 0, none, 0, none, 0, none, 0⟩
structure Mg where
 kind : Int
 ids : List ID
 commits : List Commit
structure Ma where
 i : Option Addr
 ik : Nat
 c : Option Addr
 ck : Nat
abbrev mgC (m : Mg) (y : Ma) : List Value := [.int .i64 m.kind, .slice y.i m.ids.length y.ik, .slice y.c m.commits.length y.ck]
abbrev mgV (m : Mg) (y : Ma) : Value := .agg ⟨mgC m y⟩
abbrev mgB (m : Mg) (y : Ma) : List Fact := [.st (sl y.i y.ik m.ids), .st (sl y.c y.ck m.commits)]
def mg0 : Mg := ⟨0, [], []⟩
def ma0 : Ma := ⟨none, 0, none, 0⟩
def Xfp (no room : Int) : Bool := decide (0 ≤ no) && decide (no < 8) && decide (0 ≤ room) && decide (room ≤ 1048576)
def Xeo (no seq : Int) (c : Commit) : Bool := decide (c.ev.node ≠ no) || decide (c.ev.seq ≤ seq)
def Xb1 (no seq : Int) (I : List ID) (c : Commit) : Bool := may c && !merge c && !decide (idC c ∈ I) && Xeo no seq c
noncomputable section
def Xdm (n : Nd) : Bool :=
 if !Xfp n.no n.room || decide (n.room < (n.disk.length : Int)) then false
 else if !n.up then decide (n.l = []) && decide (n.wait = []) && decide (n.seq = 0)
 else decide (Xcs n.disk = n.l) && decide (Xck n.disk = n.disk.length) && decide (n.seq = Xjh n.l n.no) && decide (n.wait.length ≤ 8) && n.wait.all (Xb1 n.no n.seq (idsP n.l))
def Xip (n : Nd) (c : Commit) : Nd := if (storeT n.disk n.room c).2 = 0 then { n with disk := (storeT n.disk n.room c).1, l := n.l ++ [c] } else n
def Xda (n : Nd) (c : Commit) (rest : List Commit) : Nd :=
 if closedB (n.l ++ [c]) then Xip { n with wait := rest } c else { n with wait := rest }
def Xdt : Nat → Nd → Nd
 | 0, n => n
 | f + 1, n =>
  if (Xar n.wait (idsP n.l)).2.2 then Xdt f (Xda n (Xar n.wait (idsP n.l)).1 (Xar n.wait (idsP n.l)).2.1) else n
def Xdb (n : Nd) : Nd := Xdt n.wait.length n
def Xc1 (n : Nd) (c : Commit) : Nd := if Xb1 n.no n.seq (idsP n.l) c then Xdb { n with wait := Xbl n.wait c } else n
def takeL (n : Nd) (l : List Commit) : Nd := if Xdm n && n.up then l.foldl Xc1 n else n
def newN (no room : Int) : Nd × Bool := if Xfp no room then ({ nd0 with no := no, room := room, up := true }, true) else (nd0, false)
def Xgb (m : Mg) : Bool :=
 if m.kind = 0 ∨ m.kind = 1 then decide (m.ids.length ≤ 16) && Xc7 m.ids && decide (m.commits = [])
 else if m.kind = 2 then decide (m.ids = []) && decide (m.commits.length ≤ 6) && m.commits.all (fun c => may c && !merge c)
 else false
theorem Xw4 (L : List Commit) : ∃ M, SortedR L M := by
 by_cases hc : Closed L
 ·refine ⟨L.mergeSort (fun a b => decide (a.gen < b.gen) || (decide (a.gen = b.gen) && !idLt (idC b) (idC a))), ⟨fun _ => List.mergeSort_perm _ _, fun _ => ?_, fun h => (h hc).elim⟩⟩
  have := List.pairwise_mergeSort (le := fun a b : Commit => decide (a.gen < b.gen) || (decide (a.gen = b.gen) && !idLt (idC b) (idC a))) (fun a b c h1 h2 => ?_) (fun a b => ?_) L
  ·refine this.imp ?_
   intro a b h
   simp only [Bool.or_eq_true, decide_eq_true_eq, Bool.and_eq_true, Bool.not_eq_true'] at h
   exact h
  ·simp only [Bool.or_eq_true, decide_eq_true_eq, Bool.and_eq_true, Bool.not_eq_true'] at *
   rcases h1 with h1 | ⟨h1, h3⟩ <;> rcases h2 with h2 | ⟨h2, h4⟩
   ·exact .inl (by omega)
   ·exact .inl (by omega)
   ·exact .inl (by omega)
   ·exact .inr ⟨by omega, Xez h3 h4⟩
  ·simp only [Bool.or_eq_true, decide_eq_true_eq, Bool.and_eq_true, Bool.not_eq_true']
   by_cases h : a.gen < b.gen
   ·exact .inl (.inl h)
   ·by_cases h' : b.gen < a.gen
    ·exact .inr (.inl h')
    ·cases h2 : idLt (idC b) (idC a) with
     | false => exact .inl (.inr ⟨by omega, rfl⟩)
     | true => exact .inr (.inr ⟨by omega, Xme h2⟩)
 ·exact ⟨[], ⟨fun h => (hc h).elim, fun h => (hc h).elim, fun _ => rfl⟩⟩
def Xbf (L : List Commit) : List Commit := Classical.choose (Xw4 L)
theorem Xfq (L : List Commit) : SortedR L (Xbf L) := Classical.choose_spec (Xw4 L)
theorem Xe7 {L : List Commit} (h : Closed L) : (Xbf L).Perm L := (Xfq L).perm h
theorem Xi7 {L : List Commit} (h : Closed L) : Closed (Xbf L) := h.perm (Xe7 h).symm
def Xbr (l : List ID) : Mg × Bool := if l = [] then (mg0, false) else (⟨1, l.take 16, []⟩, true)
def Xby (l : List Commit) : Mg × Bool := if l = [] then (mg0, false) else (⟨2, [], l.take 6⟩, true)
def Xbx (L : List Commit) (ids : List ID) : Mg × Bool :=
 if Xaw ids (idsP L) false = [] then Xby (partF (Xbf L) (Xaw (idsP L) (ancF L ids) false)) else Xbr (Xaw ids (idsP L) false)
def Xbc (n : Nd) (m : Mg) : Nd × Mg × Bool :=
 if Xdm n && n.up && Xgb m then
  if m.kind = 0 then ({ n with miss := 0 }, Xbx n.l m.ids)
  else if m.kind = 1 then ({ n with miss := 0 }, Xby (partF (Xbf n.l) m.ids))
  else (takeL { n with miss := 0 } m.commits, Xbr (Xeu (takeL { n with miss := 0 } m.commits).wait (idsP (takeL { n with miss := 0 } m.commits).l)))
 else (n, mg0, false)
def Xdn (n : Nd) : Mg × Int := if Xdm n then (if n.up then (⟨0, frontF n.l, []⟩, 0) else (mg0, 6)) else (mg0, 1)
def Xl4 (x : UInt32) : UInt32 :=
 let x := if x = 0 then 1 else x
 let y := x ^^^ Xiy x 13
 let z := y ^^^ Xma y 17
 z ^^^ Xiy z 5
def Xoe (miss : Int) : Int := (2 ^ (min (max miss 0) 6).toNat : Nat)
end
end
end
section
variable [Dr]
theorem GivesBuf.plain {P : Program} {f : FuncId} {args : List Value} {w : World} {F G : Nat → Prop} {α : Type} [Cell α] {el : TypeId} {L : List α} (hn : ∀ (u : α) y, Cell.facts u y = []) (h : GivesBuf P f args w F el L) : GivesBuf P f args w G el L :=
 Calls.mono h fun x w' ⟨y, hx, hb, hf⟩ => ⟨y, hx, hb, ⟨fun g hg => by
  rw [List.mem_singleton] at hg
  subst hg
  obtain ⟨h0, r, h1, h2, h3⟩ := hf.sat (.res (buf y.1 y.2 el L)) (by simp)
  exact ⟨h0, r, h1, h2, fun p hp A hA => by rw [hn] at hA; cases hA⟩, hf.dis, hf.new⟩⟩
class Lend (f : Fact) (A : outParam Asn) : Prop where
 ok : ∀ (w0 : World) (F : Nat → Prop) (Γ : List Fact) (w : World), Hold w0 F Γ w → f ∈ Γ → A.holds (fun _ => True) w
instance {A : Asn} : Lend (.st A) A := ⟨fun w0 F Γ w h hf => A.mono _ _ _ (fun _ _ => trivial) (h.sat (.st A) hf)⟩
instance {b : Nat} {t : TypeId} {vs : List Value} : Lend (.own b t vs) (ro b 0 vs) := ⟨fun w0 F Γ w h hf =>
 ⟨trivial, Fact.owned_lt (f := .own b t vs) (h.sat (.own b t vs) hf) rfl, Xjt (h.sat (.own b t vs) hf)⟩⟩
instance {α : Type} [Cell α] {a : Option Addr} {c : Nat} {el : TypeId} {L : List α} : Lend (.res (buf a c el L)) (sl a c L) := ⟨fun w0 F Γ w h hf => by
 obtain ⟨s, t, rfl⟩ := List.append_of_mem hf
 exact Hold.bufSl (h.perm List.perm_middle)⟩
theorem Hold.pubAt {α : Type} [ic : Cell α] {w0 w : World} {F : Nat → Prop} {Γ Δ : List Fact} (a : Option Addr) (c : Nat) {el : TypeId} {L : List α} [h : HasBuf Γ (.slice a L.length c) α ic el L Δ] (ho : Hold w0 F Γ w) : Hold w0 F (.st (sl a c L) :: Δ) w := by
 obtain ⟨a', q, hv, hp⟩ := h.ok
 injection hv with e1 e2 e3
 subst e1 e3
 exact (ho.perm hp).pub
class Lends (Γ : List Fact) (Δ : outParam (List Fact)) : Prop where
 ok : ∀ (w0 : World) (F : Nat → Prop) (Γ' : List Fact) (w : World), Hold w0 F Γ' w → (∀ f ∈ Γ, f ∈ Γ') → Hold w (fun _ => True) Δ w
instance (priority := 10) Lends.none {Γ : List Fact} : Lends Γ [] := ⟨fun w0 F Γ' w h _ => .start w _⟩
instance {f : Fact} {A : Asn} {Γ Δ : List Fact} [h1 : Lend f A] [h2 : Lends Γ Δ] : Lends (f :: Γ) (.st A :: Δ) := ⟨fun w0 F Γ' w h hs => by
 have ho := h2.ok w0 F Γ' w h (fun f hf => hs f (List.mem_cons_of_mem _ hf))
 have hA := h1.ok w0 F Γ' w h (hs f (List.mem_cons_self ..))
 refine ho.add ((A.mono _ _ _ (fun k hk => ?_) (A.within _ _ hA)))
 refine ⟨.inl trivial, fun g hg hk2 => ?_⟩
 have h3 := ho.new g hg k hk2
 have h4 := hk.2
 omega⟩
theorem Hold.lend {w0 w : World} {F : Nat → Prop} {Γ Δ : List Fact} [h : Lends Γ Δ] (ho : Hold w0 F Γ w) : Hold w (fun _ => True) Δ w := h.ok w0 F Γ w ho (fun _ h => h)
end
section
variable {P : Program} {n : Nn} {w0 : World} {F : Nat → Prop} {Q : Cont} {e : E} {Γ : List Fact}
theorem Xw5 [Dr] {c : Code} {Δ : List Fact} [hl : Lends Γ Δ] (h : ∀ w, JC P n w (fun _ => True) c (fun x e' _ => Q x e' Γ) e Δ) : JC P n w0 F c Q e Γ := by
 intro a w fr ho
 refine wp_mono (h w a w fr ho.lend) ?_
 rintro x a' w' ⟨e', Δ', hq, fr', ho'⟩
 exact ⟨e', Γ, hq, fr', ho.of_below ho'.below⟩
end
end Ab
end Go.Proofs.YtdgeffphifgflaaGreat
