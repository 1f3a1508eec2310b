/- Lemmas for the walks, part 5 of 5: BrA, BrB, BrC, BrD, BrE, BrF, Poke, GsA, GsP, Peer, GsB, GsC, GsD, GsE, BrG, GsF, Bound, GsG, GsH, GsI, StB, StC, GsJ, GsK, GsM, StD, LsA, LsB, LsC, FairP, FairQ, FairW, GsN, GsQ, Entry, Shut. -/
import Derived.Test.YtdgeffphifgflaaGreatSp4
import Derived.Test.YtdgeffphifgflaaGreatSp2
import Derived.Test.YtdgeffphifgflaaGreatSp1
import Derived.Test.YtdgeffphifgflaaGreatSp3
import Derived.SizedLaws
import Derived.ChangeArms
import Derived.KernelRfl
import Derived.OpenShut
import Derived.Test.YtdgeffphifgflaaGreatRows
import Derived.ProofKit
import Derived.Carry
namespace Go.Proofs.YtdgeffphifgflaaGreat
namespace Ab
open Go Go.RowKit Go.Proofs.Tryz
set_option linter.unusedVariables false
set_option linter.unusedSimpArgs false
set_option synthInstance.maxSize 4000
set_option synthInstance.maxHeartbeats 400000
set_option maxHeartbeats 16000000
variable (w : World) (F : Nat → Prop)
section
attribute [local irreducible] JC JO JR JQ andThen inBlock OpV Gives Xae JM JS
section
attribute [local irreducible] Xaq
theorem Xqd (a : Option Addr) (c : Nat) (L : List UInt8) (h : (sl a c L).holds F w) (hl : L.length ≤ 34359738368) :
  GivesBuf prog 142 [.slice a L.length c] w F 5 L := by
 refine Xaa func142 rfl ntmps142 rfl rfl [.st (sl a c L)] (.start1 h) ?_
 refine wA ?_
 refine JC.test (fun ha => ?_) (fun ha => ?_)
 ·cases a with
  | some a => cases ha
  | none =>
   obtain rfl := Xd7 h
   refine wz9 ?_
   exact CT.done (none, 0) rfl (fun w ho => ho.bufNil)
 ·refine wz14 ?_
  refine Xj0 (α := UInt8) rfl ?_
  intro a2
  refine wz6 ?_
  refine Xbg rfl (by exact ⟨rfl, rfl, by decide⟩) (by simpa using hl) ?_
  intro a3 c3
  rw [List.nil_append]
  refine wz10 ?_
  exact CT.dn (a3, c3) rfl
theorem Xmy (a : Option Addr) (c : Nat) (L : List Int) (h : (sl a c L).holds F w) (hl : L.length ≤ 34359738368) :
  GivesBuf prog 143 [.slice a L.length c] w F 3 L := by
 refine Xaa func143 rfl ntmps143 rfl rfl [.st (sl a c L)] (.start1 h) ?_
 refine wA ?_
 refine JC.test (fun ha => ?_) (fun ha => ?_)
 ·cases a with
  | some a => cases ha
  | none =>
   obtain rfl := Xd7 h
   refine wz9 ?_
   exact CT.done (none, 0) rfl (fun w ho => ho.bufNil)
 ·refine wz14 ?_
  refine Xj0 (α := Int) rfl ?_
  intro a2
  refine wz6 ?_
  refine Xbg rfl (by exact ⟨rfl, rfl, by decide⟩) (by simpa using hl) ?_
  intro a3 c3
  rw [List.nil_append]
  refine wz10 ?_
  exact CT.dn (a3, c3) rfl
theorem Xiq (a : Option Addr) (k : Nat) (L : List Commit) (h : (sl a k L).holds F w) (hl : L.length < 34359738368) (hf : ∀ x ∈ L, fine x) :
  GivesBuf prog 43 [.slice a L.length k] w F 81 (idsP L) := by
 refine Xaa func43 rfl ntmps43 rfl rfl [.st (sl a k L)] (.start1 h) ?_
 refine wz4 ?_
 refine JC.buf_nil (α := ID) 81 ?_
 refine Xb7 (fun (i : Nat) p q => [(3, .slice p (cids (L.take i)).length q), (8, .slice a L.length k), (9, .int .i64 (L.length : Int)), (10, .int .i64 (i : Int))])
  (fun i p q => [.res (buf p q 81 (cids (L.take i))), .st (sl a k L)])
  (fun i _ _ => i ≤ L.length ∧ ∀ c ∈ L.take i, may c = true) (fun i _ _ => L.length - i) 0 none 0 ⟨Nat.zero_le _, by simp⟩ (by rw [List.take_zero, show cids [] = [] from rfl]; infer_instance) ?_
 intro i p q ⟨hi, hm⟩
 refine wz11 ?_
 refine JC.test (fun hlt => ?_) (fun hge => ?_)
 ·have hlt' : i < L.length := by omega
  have hfx := hf _ (List.getElem_mem hlt')
  refine wz14 ?_
  refine Xaj rfl hlt' ?_
  intro b1 o1 p1 q1
  (repeat (refine wE ?_; intro _)); refine wA ?_
  refine JR.callV rfl (fun w1 hw => Xea w1 _ (L[i]) p1 q1 hw.get hfx.1) ?_
  (repeat (refine wE ?_; intro _)); refine wA ?_
  refine JC.test (fun h0 => ?_) (fun h0 => ?_)
  ·have hmay : may L[i] = false := by
    rw [← Bool.not_eq_true, ← Xd0]; exact h0
   refine JC.buf_nil (α := ID) 81 ?_
   refine wz5 ?_
   rw [Xn7 (List.getElem_mem hlt') hmay]
   exact CT.dn (none, 0) rfl
  ·have hmay : may L[i] = true := (Xd0 _).1 (by simpa using h0)
   have h1 : (cids (L.take i)).length ≤ i := by simp [cids]; omega
   (repeat (refine wE ?_; intro _)); refine wA ?_
   refine Xa1 (u := idC L[i]) rfl (by exact ⟨rfl, rfl, by decide⟩) (by omega) ?_
   intro r s
   refine wz2 ?_
   refine ⟨i + 1, r, s, ⟨by omega, fun c hc => ?_⟩, by omega, by rw [Xgs hlt']; infer_instance⟩
   rw [List.take_succ_eq_append_getElem hlt', List.mem_append, List.mem_singleton] at hc
   rcases hc with hc | rfl
   ·exact hm c hc
   ·exact hmay
 ·obtain rfl : i = L.length := by omega
  rw [List.take_length] at hm ⊢
  refine wz3 ?_
  rw [Xhs hm]
  exact CT.dn (p, q) rfl
theorem Xli (no room : Int) : GivesV prog 95 [.int .i64 no, .int .i64 room] w F (.bool (Xfp no room)) := by
 refine Xaa func95 rfl ntmps95 rfl rfl [] (.start w F) ?_
 refine wz10 ?_
 refine JO.test 7 (fun h1 => ?_) (fun h1 => ?_)
 ·refine wX ?_
  refine JO.test 11 (fun h2 => ?_) (fun h2 => ?_)
  ·refine wX ?_
   refine JO.test 15 (fun h3 => ?_) (fun h3 => ?_)
   ·refine wX ?_
    refine CT.dn () ?_
    simp only [Xac, Xfp, decide_eq_true h1, decide_eq_true h2, decide_eq_true h3, Bool.true_and]
   ·refine wz8 ?_
    refine CT.dn () ?_
    simp only [Xac, Xfp, decide_eq_false h3, Bool.and_false, Bool.false_and]
  ·refine wz8 ?_
   refine CT.dn () ?_
   simp only [Xac, Xfp, decide_eq_false h2, Bool.and_false, Bool.false_and]
 ·refine wz8 ?_
  refine CT.dn () ?_
  simp only [Xac, Xfp, decide_eq_false h1, Bool.and_false, Bool.false_and]
theorem Xir (a : Option Addr) (c : Nat) (L : List Commit) (h : (sl a c L).holds F w) (hl : L.length ≤ 34359738368) (hf : ∀ x ∈ L, fine x) :
  GivesBuf prog 105 [.slice a L.length c] w F 29 L := by
 refine Xaa func105 rfl ntmps105 rfl rfl [.st (sl a c L)] (.start1 h) ?_
 refine JC.buf_nil (α := Commit) 29 ?_
 refine wz4 ?_
 refine Xdc (fun (k : Nat) (out : List Commit) p q => [(3, .slice p out.length q), (6, .slice a L.length c), (7, .int .i64 (L.length : Int)), (8, .int .i64 (k : Int))]) (fun (k : Nat) (out : List Commit) p q => [.st (sl a c L), .res (buf p q 29 out)])
  (fun k out p q => k ≤ L.length ∧ out = L.take k) (fun k _ _ _ => L.length - k) 0 [] none 0 ⟨Nat.zero_le _, rfl⟩ iI ?_
 intro k out p q ⟨hk, hout⟩
 refine wz11 ?_
 refine JC.test (fun hlt => ?_) (fun hge => ?_)
 ·have hlt' : k < L.length := by omega
  refine wz14 ?_
  refine Xaj rfl (by omega) ?_
  intro b o p' q'
  (repeat (refine wE ?_; intro _)); refine wA ?_
  refine JR.callSl rfl (fun w hw => Xhj w _ p' q' _ (hw.sat (.st (sl p' q' _)) (by simp)) (hf _ (List.getElem_mem hlt')).2) ?_
  intro a' c'
  (repeat (refine wE ?_; intro _)); refine wA ?_
  refine Xa1 rfl (by exact ⟨rfl, rfl, by decide⟩) (by subst hout; simp; omega) ?_
  intro a2 c2
  refine wz2 ?_
  exact ⟨k + 1, out ++ [L[k]], a2, c2, ⟨by omega, by rw [hout, List.take_succ_eq_append_getElem (by omega)]⟩, by omega, iI⟩
 ·refine wz3 ?_
  obtain rfl : out = L := by rw [hout, List.take_of_length_le (by omega)]
  exact CT.dn (p, q) rfl
theorem Xyw {L M : List Commit} (hl : L.length = M.length) {k : Nat} (hk : k < L.length) (h : L.take k = M.take k) : L.take (k + 1) = M.take (k + 1) ↔ L[k] = M[k]'(hl ▸ hk) := by
 rw [List.take_succ_eq_append_getElem hk, List.take_succ_eq_append_getElem (hl ▸ hk), h, List.append_cancel_left_eq]
 simp
theorem Xis (a b : Option Addr) (c m : Nat) (L M : List Commit) (h : (sl a c L).holds F w) (h' : (sl b m M).holds F w) :
  GivesV prog 157 [.slice a L.length c, .slice b M.length m, .func (.func 158) #[] #[]] w F (.bool (decide (L = M))) := by
 have hL : L.length < 9223372036854775807 := by have := h.2.2.1; simp only [lim] at this; omega
 refine Xaa func157 rfl ntmps157 rfl rfl [.st (sl a c L), .st (sl b m M)] (.start2 h h') ?_
 refine wA ?_
 refine JC.test (fun h1 => ?_) (fun h1 => ?_)
 ·have hne : L ≠ M := by rintro rfl; exact h1 rfl
  refine wz9 ?_
  refine CT.dn () ?_
  rw [decide_eq_false hne]; rfl
 have hlm : L.length = M.length := by omega
 refine wA ?_
 refine Xay (fun k : Nat => [(0, .slice a L.length c), (1, .slice b M.length m), (2, .func (.func 158) #[] #[]), (15, .slice a L.length c), (16, .int .i64 (L.length : Int)), (17, .int .i64 (k : Int))]) (fun _ => [.st (sl a c L), .st (sl b m M)])
  (fun k => k ≤ L.length ∧ L.take k = M.take k) (fun k => L.length - k) 0 ⟨Nat.zero_le _, by simp⟩ iI ?_
 intro k ⟨hk, hno⟩
 refine wz11 ?_
 refine JC.test (fun hlt => ?_) (fun hge => ?_)
 ·have hlt' : k < L.length := by omega
  have hft := Xyw hlm hlt' hno
  refine wz14 ?_
  refine Xaj rfl hlt' ?_
  intro b1 o1 p1 q1
  (repeat (refine wE ?_; intro _)); refine wA ?_
  refine Xaj (k := k) rfl (by omega) ?_
  intro b2 o2 p2 q2
  (repeat (refine wE ?_; intro _)); refine wA ?_
  refine JR.callV rfl (fun w1 hw => Xkk w1 _ L[k] (M[k]'(by omega)) p1 p2 q1 q2 hw.get hw.get) ?_
  refine wz7 ?_
  refine JC.test (fun hy => ?_) (fun hn => ?_)
  ·have hne : L ≠ M := by rintro rfl; exact hy rfl
   refine wz5 ?_
   refine CT.dn () ?_
   rw [decide_eq_false hne]; rfl
  ·refine wz2 ?_
   exact ⟨k + 1, ⟨by omega, hft.2 (Classical.not_not.1 hn)⟩, by omega, iI⟩
 ·obtain rfl : k = L.length := by omega
  have heq : L = M := by
   rw [List.take_length] at hno
   rw [hno, List.take_of_length_le (by omega)]
  refine wz3 ?_
  refine CT.dn () ?_
  rw [decide_eq_true heq]; rfl
theorem Xr2 (a b : Option Addr) (c m : Nat) (L M : List Commit) (h : (sl a c L).holds F w) (h' : (sl b m M).holds F w) :
  GivesV prog 96 [.slice a L.length c, .slice b M.length m] w F (.bool (decide (L = M))) := by
 refine Xaa func96 rfl ntmps96 rfl rfl [.st (sl a c L), .st (sl b m M)] (.start2 h h') ?_
 refine wz10 ?_
 refine JR.callV rfl (fun w1 hw => Xis w1 _ a b c m L M hw.get hw.get) ?_
 refine wz10 ?_
 refine CT.dn () ?_
 rfl
theorem Xgt (n : Nd) (y : Na) (c : Commit) (a : Option Addr) (k : Nat) :
  GivesV prog 98 [ndV n y, Xax c a k] w F (.bool (Xeo n.no n.seq c)) := by
 refine Xaa func98 rfl ntmps98 rfl rfl [] (.start w F) ?_
 (repeat (refine wE ?_; intro _)); refine wA ?_
 refine JO.test 11 (fun h1 => ?_) (fun h1 => ?_)
 ·refine wz8 ?_
  refine CT.dn () ?_
  simp only [Xac, Xeo, decide_eq_true h1, Bool.true_or]
 ·refine wX ?_
  refine CT.dn () ?_
  simp only [Xac, Xeo, decide_eq_false h1, Bool.false_or]
theorem Xyx (c : Commit) (a : Option Addr) (k : Nat) (h : (sl a k c.parents).holds F w) (ht : Xkj c) :
  GivesV prog 99 [Xax c a k] w F (.bool (!may c || merge c)) := by
 refine Xaa func99 rfl ntmps99 rfl rfl [.st (sl a k c.parents)] (.start1 h) ?_
 (repeat (refine wE ?_; intro _)); refine wA ?_
 refine JR.callV rfl (fun w1 hw => Xd3 w1 _ c a k hw.get ht) ?_
 refine wz7 ?_
 refine JO.test 6 (fun h1 => ?_) (fun h1 => ?_)
 ·refine wz8 ?_
  refine CT.dn () ?_
  simp only [Xac, h1, Bool.not_false, Bool.true_or]
 ·refine wz6 ?_
  refine JR.callV rfl (fun w1 hw => Xco w1 _ c a k hw.get ht) ?_
  refine wz5 ?_
  refine CT.dn () ?_
  have h2 : may c = true := Classical.not_not.1 h1
  simp only [Xac, h2, Bool.not_true, Bool.false_or]
theorem Xof {n : Nd} (h1 : Xfp n.no n.room = true) (h2 : ¬ n.room < (n.disk.length : Int)) (h3 : n.up = true) :
  Xdm n = (decide (Xcs n.disk = n.l) && decide (Xck n.disk = n.disk.length) && decide (n.seq = Xjh n.l n.no) && decide (n.wait.length ≤ 8) && n.wait.all (Xb1 n.no n.seq (idsP n.l))) := by
 unfold Xdm
 rw [h1, decide_eq_false h2, h3]
 rfl
theorem Xup {n : Nd} (h1 : Xfp n.no n.room = true) (h2 : ¬ n.room < (n.disk.length : Int)) (h3 : n.up = false) :
  Xdm n = (decide (n.l = []) && decide (n.wait = []) && decide (n.seq = 0)) := by
 unfold Xdm
 rw [h1, decide_eq_false h2, h3]
 rfl
theorem Xlj {no room : Int} (h : Xfp no room = true) : 0 ≤ no ∧ no < 8 ∧ 0 ≤ room ∧ room ≤ 1048576 := by
 unfold Xfp at h
 simp only [Bool.and_eq_true, decide_eq_true_eq] at h
 omega
theorem Xr3 {b : List UInt8} : ∀ x ∈ Xcs b, fine x := by
 intro x hx
 obtain ⟨k, hk, h⟩ := Xqc b
 rw [h] at hx
 have hx := List.mem_of_mem_take hx
 obtain ⟨i, hi, hxi⟩ := List.getElem_of_mem hx
 have h2 := Xoc (readL b) i hi (Nat.lt_of_lt_of_le hi (Xin _))
 rw [hxi] at h2
 obtain ⟨h3, h4⟩ := Xs3 h2
 refine ⟨h4, ?_⟩
 unfold may at h3
 split at h3
 ·cases h3
 ·rename_i h5
  simp only [Bool.or_eq_true, not_or, decide_eq_true_eq] at h5
  omega
theorem Xuq (b : List UInt8) : (Xcs b).length ≤ b.length := by
 obtain ⟨k, hk, h⟩ := Xqc b
 have h1 := Xev (readL b)
 have h2 : (Xaf (readL b)).length ≤ b.length := (Xhy _ _ : Xaf (readL b) <+: b).length_le
 have h3 := Xin (readL b)
 rw [h, List.length_take]
 omega
theorem Xyy {p : Commit → Bool} {L : List Commit} {k : Nat} (hk : k < L.length) (h : (L.take k).all p = true) : (L.take (k + 1)).all p = p L[k] := by
 rw [List.take_succ_eq_append_getElem hk, List.all_append, h]
 simp
theorem X0x {p : Commit → Bool} {L : List Commit} {k : Nat} (hk : k < L.length) (h : p L[k] = false) : L.all p = false := by
 rw [List.all_eq_false]
 exact ⟨L[k], List.getElem_mem hk, by rw [h]; exact Bool.false_ne_true⟩
theorem Xgh (n : Nd) (y : Na) (hd : (sl y.d y.dk n.disk).holds F w) (hl : (sl y.l y.lk n.l).holds F w) (hw : (sl y.w y.wk n.wait).holds F w) (hwf : ∀ x ∈ n.wait, fine x) :
  GivesV prog 39 [ndV n y] w F (.bool (Xdm n)) := by
 have hwl : n.wait.length < 9223372036854775807 := by have := hw.2.2.1; simp only [lim] at this; omega
 have hll : n.l.length < 9223372036854775807 := by have := hl.2.2.1; simp only [lim] at this; omega
 rcases n with ⟨no, disk, room, l, wait, seq, up, peers, next, miss⟩
 rcases y with ⟨ad, kd, al, kl, aw, kw, ap, kp⟩
 dsimp only [ndV, ndC] at *
 refine Xaa func39 rfl ntmps39 rfl rfl [.st (sl ad kd disk), .st (sl al kl l), .st (sl aw kw wait)] (.start3 hd hl hw) ?_
 (repeat (refine wE ?_; intro _)); refine wA ?_
 rename_i bn
 refine JR.callV rfl (fun w1 hw => Xli w1 _ no room) ?_
 cases hfit : Xfp no room with
 | false =>
  refine wz8 ?_
  refine CT.dn () ?_
  simp only [Xac]
  unfold Xdm; rw [hfit]; rfl
 | true =>
 obtain ⟨f1, f2, f3, f4⟩ := Xlj hfit
 refine wX ?_
 refine JC.test (fun h2 => ?_) (fun h2 => ?_)
 ·have h2' : room < (disk.length : Int) := by omega
  refine wz9 ?_
  refine CT.dn () ?_
  simp only [Xac]
  unfold Xdm; rw [hfit, decide_eq_true h2']; rfl
 have h2' : ¬ room < (disk.length : Int) := by omega
 refine wz1 ?_
 cases up with
 | false =>
  rw [Xup hfit h2' rfl]
  dsimp only
  refine wX ?_
  refine JO.test 31 (fun h3 => ?_) (fun h3 => ?_)
  ·obtain rfl : l = [] := List.eq_nil_of_length_eq_zero (by omega)
   refine wX ?_
   refine JO.test 37 (fun h4 => ?_) (fun h4 => ?_)
   ·obtain rfl : wait = [] := List.eq_nil_of_length_eq_zero (by omega)
    refine wX ?_
    refine CT.dn () ?_
    simp only [Xac]
    simp
   ·have : wait ≠ [] := by rintro rfl; exact h4 rfl
    refine wz8 ?_
    refine CT.dn () ?_
    simp only [Xac]
    simp [this]
  ·have : l ≠ [] := by rintro rfl; exact h3 rfl
   refine wz8 ?_
   refine CT.dn () ?_
   simp only [Xac]
   simp [this]
 | true =>
 rw [Xof hfit h2' rfl]
 dsimp only
 refine wX ?_
 refine Xc4 rfl (fun w1 hw => Xul w1 _ ad kd disk hw.get (by omega)) ?_
 intro a1 k1
 refine wz4 ?_
 refine Xb0 mixed (by kernel_rfl) ?_
 refine wY ?_
 refine JQ.call rfl rfl (fun w1 hw => Xr2 w1 _ a1 al k1 kl (Xcs disk) l hw.get hw.get) ?_
 by_cases hA : Xcs disk = l
 case neg =>
  refine JQ.reslot 51 (.bool false) (by rw [decide_eq_false hA]) ?_
  refine wY ?_
  refine wz8 ?_
  refine CT.dn () ?_
  simp only [Xac]
  simp [hA]
 refine JQ.reslot 51 (.bool true) (by rw [decide_eq_true hA]) ?_
 refine wY ?_
 by_cases hB : Xck disk = disk.length
 case neg =>
  refine JQ.reslot 60 (.bool true) (by congr 1; exact decide_eq_true (by omega)) ?_
  refine wY ?_
  refine wz8 ?_
  refine CT.dn () ?_
  simp only [Xac]
  simp [hB]
 refine JQ.reslot 60 (.bool false) (by congr 1; exact decide_eq_false (by omega)) ?_
 refine wY ?_
 refine JQ.call rfl rfl (fun w1 hw => Xuo w1 _ a1 k1 (Xcs disk) no hw.get) ?_
 refine wY ?_
 subst hA
 by_cases hC : seq = Xjh (Xcs disk) no
 case neg =>
  refine JQ.reslot 69 (.bool true) (by congr 1; exact decide_eq_true hC) ?_
  refine wY ?_
  refine wz8 ?_
  refine CT.dn () ?_
  simp only [Xac]
  simp [hC]
 refine JQ.reslot 69 (.bool false) (by congr 1; exact decide_eq_false (fun h => h hC)) ?_
 refine wY ?_
 refine wz13 ?_
 refine JC.test (fun h7 => ?_) (fun h7 => ?_)
 ·have : ¬ wait.length ≤ 8 := by omega
  refine wz9 ?_
  refine CT.dn () ?_
  simp only [Xac]
  simp [this]
 have h8 : wait.length ≤ 8 := by omega
 rw [decide_eq_true rfl, decide_eq_true hB, decide_eq_true hC, decide_eq_true h8]
 simp only [Bool.true_and]
 refine wz14 ?_
 refine JR.callBuf rfl (fun w1 hw => Xiq w1 _ a1 k1 (Xcs disk) hw.get (by have := Xuq disk; omega) Xr3) ?_
 intro a2 k2
 refine wX ?_
 generalize hI : idsP (Xcs disk) = I
 refine JC.more (fun w ho => ho.pub) ?_
 refine Xay (fun (k : Nat) => [(1, .pointer (some ⟨bn, 0, none⟩)), (5, .slice a2 I.length k2), (78, .slice aw wait.length kw), (79, .int .i64 (wait.length : Int)), (80, .int .i64 (k : Int))])
  (fun _ => [.st (sl a2 k2 I), .own bn 50 [.int .i64 no, .slice ad disk.length kd, .int .i64 room, .slice al (Xcs disk).length kl, .slice aw wait.length kw, .int .i64 seq, .bool true, .slice ap peers.length kp, .int .i64 next, .int .i64 miss], .st (sl aw kw wait)])
  (fun k => k ≤ wait.length ∧ (wait.take k).all (Xb1 no seq I) = true) (fun k => wait.length - k) 0 ⟨Nat.zero_le _, by simp⟩ iI ?_
 rintro k ⟨hk, hall⟩
 refine wz11 ?_
 refine JC.test (fun hlt => ?_) (fun hge => ?_)
 ·have hlt' : k < wait.length := by omega
  have hx := hwf _ (List.getElem_mem hlt')
  have hcut := X0x (p := Xb1 no seq I) hlt'
  have htk := Xyy hlt' hall
  refine wz14 ?_
  refine Xaj rfl hlt' ?_
  intro b3 o3 p3 q3
  (repeat (refine wE ?_; intro _)); refine wA ?_
  refine JR.callV rfl (fun w1 hw => Xea w1 _ wait[k] p3 q3 hw.get hx.1) ?_
  (repeat (refine wE ?_; intro _)); refine wA ?_
  refine JO.test 91 (fun h1 => ?_) (fun h1 => ?_)
  ·have hm : may wait[k] = false := by rw [← Bool.not_eq_true, ← Xd0]; exact h1
   refine wz8 ?_
   refine CT.dn () ?_
   simp only [Xac]
   rw [hcut (by unfold Xb1; rw [hm]; rfl)]
  have hm : may wait[k] = true := (Xd0 _).1 (by simpa using h1)
  refine wz6 ?_
  refine JR.callV rfl (fun w1 hw => Xco w1 _ wait[k] p3 q3 hw.get hx.1) ?_
  cases hg : merge wait[k] with
  | true =>
   refine wz8 ?_
   refine CT.dn () ?_
   simp only [Xac]
   rw [hcut (by unfold Xb1; rw [hm, hg]; rfl)]
  | false =>
  refine wz11 ?_
  refine JR.callV rfl (fun w1 hw => Xq5 w1 _ a2 k2 I (Xaq wait[k]).1 hw.get) ?_
  by_cases hin : (Xaq wait[k]).1 ∈ I
  ·refine JO.reslot 98 (.bool true) (by rw [decide_eq_true hin]) ?_
   refine wz8 ?_
   refine CT.dn () ?_
   simp only [Xac]
   rw [hcut (by unfold Xb1 idC; rw [hm, hg, decide_eq_true hin]; rfl)]
  refine JO.reslot 98 (.bool false) (by rw [decide_eq_false hin]) ?_
  refine wz11 ?_
  refine JR.callV rfl (fun w1 hw => Xgt w1 _ ⟨no, disk, room, Xcs disk, wait, seq, true, peers, next, miss⟩ ⟨ad, kd, al, kl, aw, kw, ap, kp⟩ wait[k] p3 q3) ?_
  dsimp only
  cases hst : Xeo no seq wait[k] with
  | false =>
   refine wz8 ?_
   refine CT.dn () ?_
   simp only [Xac]
   rw [hcut (by unfold Xb1 idC; rw [hm, hg, decide_eq_false hin, hst]; rfl)]
  | true =>
  refine wX ?_
  exact ⟨k + 1, ⟨by omega, by rw [htk]; unfold Xb1 idC; rw [hm, hg, decide_eq_false hin, hst]; rfl⟩, by omega, iI⟩
 ·obtain rfl : k = wait.length := by omega
  rw [List.take_length] at hall
  refine wz3 ?_
  refine CT.dn () ?_
  simp only [Xac]
  rw [hall]
abbrev repF (br : Nat) (n : Nd) (y : Na) : List Fact := [.own br 136 (ndC n y), .res (buf y.l y.lk 29 n.l), .st (sl y.d y.dk n.disk), .st (sl y.w y.wk n.wait), .st (sl y.p y.pk n.peers)]
section
variable {w0 w : World} {F : Nat → Prop} {Γ : List Fact} {br : Nat}
theorem Xyz (n : Nd) (y : Na) (c : Commit) (a : Option Addr) (k : Nat) (ht : Xkj c) (hb : n.disk.length ≤ 1048576) (hl : n.l.length < 34359738368) (ho : Hold w0 F (repF br n y ++ .st (sl a k c.parents) :: Γ) w) :
  Calls prog 207 ⟨[.pointer (some ⟨br, 0, none⟩), Xax c a k]⟩ w fun x w' => ∃ y' : Na, x = .returned (.int .i64 (storeT n.disk n.room c).2) ∧ Hold w0 F (repF br (Xip n c) y' ++ Γ) w' := by
 refine Xbq (v := fun y : Na => .int .i64 (storeT n.disk n.room c).2) (B := fun y' => repF br (Xip n c) y' ++ Γ) func207 rfl ntmps207 rfl rfl _ ho ?_
 rcases n with ⟨no, disk, room, l, wait, seq, up, peers, next, miss⟩
 rcases y with ⟨ad, kd, al, kl, aw, kw, ap, kp⟩
 dsimp only [repF, ndC, List.cons_append, List.nil_append] at *
 (repeat (refine wE ?_; intro _)); refine wA ?_
 rename_i bc
 refine JC.drawP mixed ?_
 refine Xab 0 ?_
 refine Xab 1 ?_
 refine Xab 2 ?_
 refine Xab 3 ?_
 refine JP.tv 4 [.own br 136 [.int .i64 no, .slice ad disk.length kd, .int .i64 room, .slice al l.length kl, .slice aw wait.length kw, .int .i64 seq, .bool up, .slice ap peers.length kp, .int .i64 next, .int .i64 miss]] ?_
 refine Xab 5 ?_
 refine Xab 6 ?_
 refine Xab 7 ?_
 refine Xab 8 ?_
 refine JP.tv 9 [.own br 136 [.int .i64 no, .slice ad disk.length kd, .int .i64 room, .slice al l.length kl, .slice aw wait.length kw, .int .i64 seq, .bool up, .slice ap peers.length kp, .int .i64 next, .int .i64 miss]] ?_
 refine JP.tv 10 [.own bc 29 [.int .i64 c.ev.node, .int .i64 c.ev.seq, .int .i64 c.gen, .slice a c.parents.length k, .int .i64 c.op.kind, .string c.op.key, .string c.op.elem, .int .i64 c.op.n]] ?_
 refine Xal 11 rfl rfl (JR.call1 (v := fun y : Option Addr × Nat => .tuple ⟨[.slice y.1 (storeT disk room c).1.length y.2, .int .i64 (storeT disk room c).2]⟩) (B := fun y => .res (buf y.1 y.2 5 (storeT disk room c).1)) rfl (fun w1 hw => Xwj w1 _ ad a kd k disk room c hw.get hw.get ht hb) (fun z => Wd (nO ?_)))
 rcases z with ⟨ad2, kd2⟩
 dsimp only
 refine Xab 12 ?_
 refine Xab 13 ?_
 refine Xab 14 ?_
 refine Xab 15 ?_
 refine Xab 16 ?_
 refine JP.nil (by kernel_rfl) ?_
 refine wz4 ?_
 refine JC.test (fun h1 => ?_) (fun h1 => ?_)
 ·have e1 : Xip ⟨no, disk, room, l, wait, seq, up, peers, next, miss⟩ c = ⟨no, (storeT disk room c).1, room, l ++ [c], wait, seq, up, peers, next, miss⟩ := if_pos h1
  rw [e1]
  dsimp only
  skip
  refine JC.more (fun w ho => ho.pub) ?_
  refine JC.drawP mixed ?_
  refine Xab 0 ?_
  refine Xab 1 ?_
  refine Xab 2 ?_
  refine Xab 3 ?_
  refine Xab 4 ?_
  refine Xab 5 ?_
  refine Xab 6 ?_
  refine JP.tv 7 [.own br 136 [.int .i64 no, .slice ad disk.length kd, .int .i64 room, .slice al l.length kl, .slice aw wait.length kw, .int .i64 seq, .bool up, .slice ap peers.length kp, .int .i64 next, .int .i64 miss]] ?_
  refine JP.tv 8 [.own bc 29 [.int .i64 c.ev.node, .int .i64 c.ev.seq, .int .i64 c.gen, .slice a c.parents.length k, .int .i64 c.op.kind, .string c.op.key, .string c.op.elem, .int .i64 c.op.n]] ?_
  refine Xal 9 rfl rfl (Ww rfl ⟨rfl, by decide, by decide, by decide⟩ (fun bl => Wd (nO ?_)))
  refine Xal 10 rfl rfl (Xa1 (u := c) rfl (by exact ⟨rfl, rfl, by decide⟩) hl (fun al2 kl2 => Wd (nO ?_)))
  refine Xab 11 ?_
  refine Xab 12 ?_
  refine Xab 13 ?_
  refine JP.reslot 37 (.pointer (some ⟨br, 1, none⟩)) rfl ?_
  refine Xal 14 rfl rfl (Wi (Wd (nO ?_)))
  refine Xab 15 ?_
  refine Xab 16 ?_
  refine Xab 17 ?_
  refine JP.reslot 40 (.pointer (some ⟨br, 3, none⟩)) rfl ?_
  refine Xal 18 rfl rfl (Wi (Wd (nO ?_)))
  refine JP.nil (by kernel_rfl) ?_
  refine wz10 ?_
  exact CT.dn ⟨ad2, kd2, al2, kl2, aw, kw, ap, kp⟩ rfl
 ·have e1 : Xip ⟨no, disk, room, l, wait, seq, up, peers, next, miss⟩ c = ⟨no, disk, room, l, wait, seq, up, peers, next, miss⟩ := if_neg h1
  rw [e1]
  dsimp only
  refine wz1 ?_
  exact CT.dn ⟨ad, kd, al, kl, aw, kw, ap, kp⟩ rfl
end
theorem Xy0 {c : Commit} (h : may c = true) : Xas c = (Xan c, 0) := by simp [Xas, h]
theorem Xr4 {b : List UInt8} {room : Int} {c : Commit} (h : (storeT b room c).2 = 0) : ((storeT b room c).1.length : Int) ≤ room ∧ (storeT b room c).1 = b ++ Xbu (Xan c) ∧ may c = true := by
 unfold storeT at h ⊢
 split at h
 ·rename_i h1
  rw [if_pos h1]
  have hm : may c = true := by
   unfold Xas at h1
   split at h1
   ·assumption
   ·cases h1
  rw [Xy0 hm] at h ⊢
  unfold Xe3 at h ⊢
  split at h
  ·cases h
  ·split at h
   ·cases h
   ·rename_i h2 h3
    rw [if_neg h2, if_neg h3]
    refine ⟨?_, rfl, hm⟩
    rw [List.length_append]
    omega
 ·rename_i h1; exact absurd h h1
structure NdOk (N : Nat) (n : Nd) : Prop where
 fl : ∀ x ∈ n.l, fine x
 fw : ∀ x ∈ n.wait, fine x
 disk : n.disk.length ≤ 1048576
 room : n.room ≤ 1048576
 len : n.l.length + n.wait.length ≤ N
theorem Xfr {L rl : List Commit} {H : List ID} {rc : Commit} (h : Xar L H = (rc, rl, true)) : rc ∈ L ∧ rl.length + 1 = L.length ∧ (∀ x ∈ rl, x ∈ L) ∧ ∃ i, ∃ hi : i < L.length, rc = L[i] ∧ rl = L.eraseIdx i ∧ Xfk H L[i] = true := by
 unfold Xar at h
 split at h
 ·rename_i i hi
  obtain ⟨h1, h2, _⟩ := List.findIdx?_eq_some_iff_getElem.1 hi
  injection h with h3 h4
  injection h4 with h4 _
  have h5 : L.getD i Xcv = L[i] := by simp [h1]
  rw [h5] at h3
  subst h3 h4
  exact ⟨List.getElem_mem h1, by rw [List.length_eraseIdx, if_pos h1]; omega, fun x hx => List.mem_of_mem_eraseIdx hx, i, h1, rfl, rfl, h2⟩
 ·injection h with h3 h4
  injection h4 with h4 h5
  cases h5
theorem Xog (n : Nd) (c : Commit) : (Xip n c).wait = n.wait := by unfold Xip; split <;> rfl
theorem Xep (n : Nd) (c : Commit) (rest : List Commit) : (Xda n c rest).wait = rest := by
 unfold Xda; split
 ·rw [Xog]
 ·rfl
theorem Xqe {n : Nd} {rc : Commit} {rl : List Commit} (h : Xar n.wait (idsP n.l) = (rc, rl, true)) : Xdb n = Xdb (Xda n rc rl) := by
 have h1 := (Xfr h).2.1
 unfold Xdb
 rw [Xep, ← h1, Xdt, h]
 rfl
theorem Xr5 {n : Nd} {rc : Commit} {rl : List Commit} (h : Xar n.wait (idsP n.l) = (rc, rl, false)) : Xdb n = n := by
 unfold Xdb
 cases hw : n.wait.length with
 | zero => rfl
 | succ f => rw [Xdt, h]; rfl
theorem Xy1 {N : Nat} {n : Nd} {c : Commit} (h : NdOk N n) (hc : fine c) : NdOk (N + 1) (Xip n c) := by
 unfold Xip
 split
 ·rename_i h1
  have h2 := (Xr4 h1).1
  have h3 := h.room
  have h4 := h.len
  refine ⟨fun x hx => ?_, h.fw, ?_, h.room, ?_⟩
  ·rcases List.mem_append.1 hx with hx | hx
   ·exact h.fl x hx
   ·rw [List.mem_singleton] at hx; subst hx; exact hc
  ·show (storeT n.disk n.room c).1.length ≤ 1048576; omega
  ·show (n.l ++ [c]).length + n.wait.length ≤ N + 1
   rw [List.length_append, List.length_singleton]; omega
 ·exact ⟨h.fl, h.fw, h.disk, h.room, by have := h.len; omega⟩
theorem X0y {N : Nat} {n : Nd} {rc : Commit} {rl : List Commit} (h : NdOk (N + 1) n) (hr : Xar n.wait (idsP n.l) = (rc, rl, true)) : NdOk N { n with wait := rl } := by
 obtain ⟨h1, h2, h3, _⟩ := Xfr hr
 exact ⟨h.fl, fun x hx => h.fw x (h3 x hx), h.disk, h.room, by have := h.len; show n.l.length + rl.length ≤ N; omega⟩
theorem Xmz {N : Nat} {n : Nd} {rc : Commit} {rl : List Commit} (h : NdOk N n) (hr : Xar n.wait (idsP n.l) = (rc, rl, true)) : NdOk N (Xda n rc rl) := by
 obtain ⟨h1, h2, h3, _⟩ := Xfr hr
 have hN : 1 ≤ N := by have := h.len; omega
 obtain ⟨M, rfl⟩ : ∃ M, N = M + 1 := ⟨N - 1, by omega⟩
 have hr' := X0y h hr
 unfold Xda
 split
 ·exact Xy1 hr' (h.fw rc h1)
 ·exact ⟨hr'.fl, hr'.fw, hr'.disk, hr'.room, by have := hr'.len; omega⟩
section
variable {w0 w : World} {F : Nat → Prop} {Γ : List Fact} {br : Nat}
theorem Xr6 (n : Nd) (y : Na) (hok : NdOk 900 n) (ho : Hold w0 F (repF br n y ++ Γ) w) :
  Calls prog 164 ⟨[.pointer (some ⟨br, 0, none⟩)]⟩ w fun x w' => ∃ y' : Na, x = .returned (.tuple ⟨[]⟩) ∧ Hold w0 F (repF br (Xdb n) y' ++ Γ) w' := by
 refine Xbq (v := fun y : Na => .tuple ⟨[]⟩) (B := fun y' => repF br (Xdb n) y' ++ Γ) func164 rfl ntmps164 rfl rfl _ ho ?_
 dsimp only [repF, List.cons_append, List.nil_append]
 refine wz14 ?_
 refine Xfb (fun (m : Nd) (z : Na) => [(0, .pointer (some ⟨br, 0, none⟩))])
  (fun m z => .own br 136 (ndC m z) :: .res (buf z.l z.lk 29 m.l) :: .st (sl z.d z.dk m.disk) :: .st (sl z.w z.wk m.wait) :: .st (sl z.p z.pk m.peers) :: Γ)
  (fun m z => NdOk 900 m ∧ Xdb m = Xdb n) (fun m _ => m.wait.length) n y ⟨hok, rfl⟩ iI ?_
 rintro ⟨no, disk, room, l, wait, seq, up, peers, next, miss⟩ ⟨ad, kd, al, kl, aw, kw, ap, kp⟩ ⟨hm, hS⟩
 obtain ⟨hfl, hfw, hdk, hrm, hln⟩ := id hm
 dsimp only [ndC] at *
 obtain ⟨⟨rc, rl, rb⟩, hR⟩ : ∃ R, Xar wait (idsP l) = R := ⟨_, rfl⟩
 refine wz14 ?_
 refine Xj6 (fun y : (Option Addr × Nat) × (Option Addr × Nat) × Nat => [(0, .pointer (some ⟨br, 0, none⟩)), (2, .pointer (some ⟨y.2.2, 0, none⟩)), (3, .slice y.2.1.1 rl.length y.2.1.2), (4, .bool rb)])
  (fun y => .own y.2.2 29 [.int .i64 rc.ev.node, .int .i64 rc.ev.seq, .int .i64 rc.gen, .slice y.1.1 rc.parents.length y.1.2, .int .i64 rc.op.kind, .string rc.op.key, .string rc.op.elem, .int .i64 rc.op.n] :: .st (sl y.1.1 y.1.2 rc.parents) :: .st (sl y.2.1.1 y.2.1.2 rl) :: .own br 136 [.int .i64 no, .slice ad disk.length kd, .int .i64 room, .slice al l.length kl, .slice aw wait.length kw, .int .i64 seq, .bool up, .slice ap peers.length kp, .int .i64 next, .int .i64 miss] :: .res (buf al kl 29 l) :: .st (sl ad kd disk) :: .st (sl aw kw wait) :: .st (sl ap kp peers) :: Γ) ?_ ?_
 ·refine JC.drawP mixed ?_
  refine Xab 0 ?_
  refine Xab 1 ?_
  refine Xab 2 ?_
  refine Xab 3 ?_
  refine Xab 4 ?_
  refine JP.tv 5 [.own br 136 [.int .i64 no, .slice ad disk.length kd, .int .i64 room, .slice al l.length kl, .slice aw wait.length kw, .int .i64 seq, .bool up, .slice ap peers.length kp, .int .i64 next, .int .i64 miss]] ?_
  refine Xab 6 ?_
  refine Xab 7 ?_
  refine Xab 8 ?_
  refine Xab 9 ?_
  refine Xab 10 ?_
  refine JP.tv 11 [.own br 136 [.int .i64 no, .slice ad disk.length kd, .int .i64 room, .slice al l.length kl, .slice aw wait.length kw, .int .i64 seq, .bool up, .slice ap peers.length kp, .int .i64 next, .int .i64 miss]] ?_
  refine JP.both 12 18 (by kernel_rfl) rfl rfl rfl rfl (JR.callBuf rfl (fun w1 hw => (Xiq w1 (fun _ => True) al kl l hw.bufSlOf (by omega) hfl).plain (fun _ _ => rfl)) (fun ai ki => Wd (nO ?_))) (Wg rfl (fun bc => Wd (nO ?_)))
  ·refine JP.more (fun w1 ho => ho.pub) ?_
   refine JP.both 13 18 (by kernel_rfl) rfl rfl rfl rfl (Xjj (v := fun y : (Option Addr × Nat) × (Option Addr × Nat) => .tuple ⟨[Xax rc y.1.1 y.1.2, .slice y.2.1 rl.length y.2.2, .bool rb]⟩) (B := fun y => .st (sl y.1.1 y.1.2 rc.parents)) (C := fun y => .st (sl y.2.1 y.2.2 rl)) rfl (fun w1 hw => Xoa w1 _ aw ai kw ki wait (idsP l) rc rl rb hR hw.get hw.get (by omega) hfw) (fun z => Wd (nO ?_))) (Wg rfl (fun bc => Wd (nO ?_)))
   ·rcases z with ⟨⟨a2, k2⟩, ⟨a3, k3⟩⟩
    dsimp only
    refine Xab 14 ?_
    refine Xab 15 ?_
    refine Xab 16 ?_
    refine Xab 17 ?_
    refine Xal 18 rfl rfl (Wg rfl (fun bc => Wd (nO ?_)))
    refine Xal 19 rfl rfl (Wi (Wd (nO ?_)))
    refine Xab 20 ?_
    refine Xab 21 ?_
    exact JP.nil (by kernel_rfl) ⟨rfl, ((a2, k2), (a3, k3), bc), iI⟩
   ·refine Xal 13 rfl rfl (Xjj (v := fun y : (Option Addr × Nat) × (Option Addr × Nat) => .tuple ⟨[Xax rc y.1.1 y.1.2, .slice y.2.1 rl.length y.2.2, .bool rb]⟩) (B := fun y => .st (sl y.1.1 y.1.2 rc.parents)) (C := fun y => .st (sl y.2.1 y.2.2 rl)) rfl (fun w1 hw => Xoa w1 _ aw ai kw ki wait (idsP l) rc rl rb hR hw.get hw.get (by omega) hfw) (fun z => Wd (nO ?_)))
    rcases z with ⟨⟨a2, k2⟩, ⟨a3, k3⟩⟩
    dsimp only
    refine Xab 14 ?_
    refine Xab 15 ?_
    refine Xab 16 ?_
    refine Xab 17 ?_
    refine Xal 19 rfl rfl (Wi (Wd (nO ?_)))
    refine Xab 20 ?_
    refine Xab 21 ?_
    exact JP.nil (by kernel_rfl) ⟨rfl, ((a2, k2), (a3, k3), bc), iI⟩
  ·refine Xal 12 rfl rfl (JR.callBuf rfl (fun w1 hw => (Xiq w1 (fun _ => True) al kl l hw.bufSlOf (by omega) hfl).plain (fun _ _ => rfl)) (fun ai ki => Wd (nO ?_)))
   refine JP.more (fun w1 ho => ho.pub) ?_
   refine Xal 13 rfl rfl (Xjj (v := fun y : (Option Addr × Nat) × (Option Addr × Nat) => .tuple ⟨[Xax rc y.1.1 y.1.2, .slice y.2.1 rl.length y.2.2, .bool rb]⟩) (B := fun y => .st (sl y.1.1 y.1.2 rc.parents)) (C := fun y => .st (sl y.2.1 y.2.2 rl)) rfl (fun w1 hw => Xoa w1 _ aw ai kw ki wait (idsP l) rc rl rb hR hw.get hw.get (by omega) hfw) (fun z => Wd (nO ?_)))
   rcases z with ⟨⟨a2, k2⟩, ⟨a3, k3⟩⟩
   dsimp only
   refine Xab 14 ?_
   refine Xab 15 ?_
   refine Xab 16 ?_
   refine Xab 17 ?_
   refine Xal 19 rfl rfl (Wi (Wd (nO ?_)))
   refine Xab 20 ?_
   refine Xab 21 ?_
   exact JP.nil (by kernel_rfl) ⟨rfl, ((a2, k2), (a3, k3), bc), iI⟩
 rintro ⟨⟨a2, k2⟩, ⟨a3, k3⟩, bc⟩
 dsimp only
 cases rb with
 | false =>
  have h1 := Xr5 (n := ⟨no, disk, room, l, wait, seq, up, peers, next, miss⟩) hR
  rw [h1] at hS
  rw [← hS]
  dsimp only
  refine wz8 ?_
  exact CT.dn (Y := Na) ⟨ad, kd, al, kl, aw, kw, ap, kp⟩ rfl
 | true =>
  obtain ⟨hrcm, hrll, hrlm, _⟩ := Xfr hR
  have hrc := hfw rc hrcm
  have hstep := Xqe (n := ⟨no, disk, room, l, wait, seq, up, peers, next, miss⟩) hR
  have hok1 := Xmz hm hR
  have hw1 := Xep ⟨no, disk, room, l, wait, seq, up, peers, next, miss⟩ rc rl
  refine wz7 ?_
  refine Wf OpV.nilCheck rfl ?_
  refine wz9 ?_
  have hfa : ∀ x ∈ l ++ [rc], fine x := fun x hx => by
   rcases List.mem_append.1 hx with hx | hx
   ·exact hfl x hx
   ·rw [List.mem_singleton] at hx; subst hx; exact hrc
  refine Xj6 (fun _ : Unit => [(0, .pointer (some ⟨br, 0, none⟩)), (2, .pointer (some ⟨bc, 0, none⟩)), (3, .slice a3 rl.length k3), (4, .bool true), (41, .bool (closedB (l ++ [rc])))])
   (fun _ => .own bc 29 [.int .i64 rc.ev.node, .int .i64 rc.ev.seq, .int .i64 rc.gen, .slice a2 rc.parents.length k2, .int .i64 rc.op.kind, .string rc.op.key, .string rc.op.elem, .int .i64 rc.op.n] :: .st (sl a2 k2 rc.parents) :: .st (sl a3 k3 rl) :: .own br 136 [.int .i64 no, .slice ad disk.length kd, .int .i64 room, .slice al l.length kl, .slice a3 rl.length k3, .int .i64 seq, .bool up, .slice ap peers.length kp, .int .i64 next, .int .i64 miss] :: .res (buf al kl 29 l) :: .st (sl ad kd disk) :: .st (sl aw kw wait) :: .st (sl ap kp peers) :: Γ) ?_ ?_
  ·refine Xw5 fun w2 => ?_
   refine JC.drawP mixed ?_
   refine Xab 0 ?_
   refine Xab 1 ?_
   refine Xab 2 ?_
   refine Xab 3 ?_
   refine Xab 4 ?_
   refine JP.tv 5 [.st (ro br 0 [.int .i64 no, .slice ad disk.length kd, .int .i64 room, .slice al l.length kl, .slice a3 rl.length k3, .int .i64 seq, .bool up, .slice ap peers.length kp, .int .i64 next, .int .i64 miss])] ?_
   refine JP.tv 7 [.st (ro bc 0 [.int .i64 rc.ev.node, .int .i64 rc.ev.seq, .int .i64 rc.gen, .slice a2 rc.parents.length k2, .int .i64 rc.op.kind, .string rc.op.key, .string rc.op.elem, .int .i64 rc.op.n])] ?_
   refine JP.both 6 8 (by kernel_rfl) rfl rfl rfl rfl (JR.callBuf rfl (fun w1 hw => Xh0 w1 _ al kl l hw.get (by omega)) (fun a4 k4 => Wd (nO ?_))) (Ww rfl ⟨rfl, by decide, by decide, by decide⟩ (fun bl => Wd (nO ?_)))
   ·refine Xal 8 rfl rfl (Ww rfl ⟨rfl, by decide, by decide, by decide⟩ (fun bl => Wd (nO ?_)))
    refine Xal 9 rfl rfl (Xa1 (u := rc) rfl (by exact ⟨rfl, rfl, by decide⟩) (by omega) (fun a5 k5 => Wd (nO ?_)))
    refine Xal 10 rfl rfl (JR.callV rfl (fun w1 hw => (Xfn w1 (fun _ => True) a5 k5 (l ++ [rc]) (closedB (l ++ [rc])) hw.bufSlOf (by simp; omega) hfa Xb6).any) (Wd (nO ?_)))
    exact JP.nil (by kernel_rfl) ⟨rfl, (), iI⟩
   ·refine Xal 6 rfl rfl (JR.callBuf rfl (fun w1 hw => Xh0 w1 _ al kl l hw.get (by omega)) (fun a4 k4 => Wd (nO ?_)))
    refine Xal 9 rfl rfl (Xa1 (u := rc) rfl (by exact ⟨rfl, rfl, by decide⟩) (by omega) (fun a5 k5 => Wd (nO ?_)))
    refine Xal 10 rfl rfl (JR.callV rfl (fun w1 hw => (Xfn w1 (fun _ => True) a5 k5 (l ++ [rc]) (closedB (l ++ [rc])) hw.bufSlOf (by simp; omega) hfa Xb6).any) (Wd (nO ?_)))
    exact JP.nil (by kernel_rfl) ⟨rfl, (), iI⟩
  rintro ⟨⟩
  cases hcl : closedB (l ++ [rc]) with
  | false =>
   have e1 : Xda ⟨no, disk, room, l, wait, seq, up, peers, next, miss⟩ rc rl = ⟨no, disk, room, l, rl, seq, up, peers, next, miss⟩ := if_neg (by rw [hcl]; exact Bool.false_ne_true)
   rw [e1] at hok1 hw1 hstep
   refine wz2 ?_
   exact ⟨⟨no, disk, room, l, rl, seq, up, peers, next, miss⟩, ⟨ad, kd, al, kl, a3, k3, ap, kp⟩, ⟨hok1, by rw [← hstep]; exact hS⟩, by show rl.length < wait.length; omega, iI⟩
  | true =>
   have e1 : Xda ⟨no, disk, room, l, wait, seq, up, peers, next, miss⟩ rc rl = Xip ⟨no, disk, room, l, rl, seq, up, peers, next, miss⟩ rc := if_pos hcl
   rw [e1] at hok1 hw1 hstep
   refine wz8 ?_
   refine JC.drawP mixed ?_
   refine Xab 0 ?_
   refine Xab 1 ?_
   refine Xab 2 ?_
   refine JP.tv 3 [.own bc 29 [.int .i64 rc.ev.node, .int .i64 rc.ev.seq, .int .i64 rc.gen, .slice a2 rc.parents.length k2, .int .i64 rc.op.kind, .string rc.op.key, .string rc.op.elem, .int .i64 rc.op.n]] ?_
   refine JP.more (Γ' := repF br ⟨no, disk, room, l, rl, seq, up, peers, next, miss⟩ ⟨ad, kd, al, kl, a3, k3, ap, kp⟩ ++ .st (sl a2 k2 rc.parents) :: Γ) (fun w1 ho => (ho.ent : Hold _ _ (.own br 136 [.int .i64 no, .slice ad disk.length kd, .int .i64 room, .slice al l.length kl, .slice a3 rl.length k3, .int .i64 seq, .bool up, .slice ap peers.length kp, .int .i64 next, .int .i64 miss] :: .res (buf al kl 29 l) :: .st (sl ad kd disk) :: .st (sl a3 k3 rl) :: .st (sl ap kp peers) :: .st (sl a2 k2 rc.parents) :: Γ) w1)) ?_
   refine Xal 4 rfl rfl (Xbi (v := fun y : Na => .int .i64 (storeT disk room rc).2) (B := fun y' => repF br (Xip ⟨no, disk, room, l, rl, seq, up, peers, next, miss⟩ rc) y' ++ Γ) rfl (fun w1 hw => Xyz ⟨no, disk, room, l, rl, seq, up, peers, next, miss⟩ ⟨ad, kd, al, kl, a3, k3, ap, kp⟩ rc a2 k2 hrc.1 hdk (by show l.length < _; omega) hw) (fun y2 => Wd (nO ?_)))
   generalize Xip ⟨no, disk, room, l, rl, seq, up, peers, next, miss⟩ rc = n2 at hok1 hw1 hstep
   dsimp only [repF, List.cons_append, List.nil_append]
   refine JP.nil (by kernel_rfl) ?_
   refine wz2 ?_
   exact ⟨n2, y2, ⟨hok1, by rw [← hstep]; exact hS⟩, by rw [hw1]; show rl.length < wait.length; omega, iI⟩
end
theorem Xlk {L : List Commit} {c x : Commit} (h : x ∈ Xbl L c) : x ∈ L ∨ x = c := by
 unfold Xbl at h
 split at h
 ·exact .inl h
 ·have := List.mem_of_mem_drop h
  rcases List.mem_append.1 this with h | h
  ·exact .inl h
  ·exact .inr (List.mem_singleton.1 h)
theorem Xur (L : List Commit) (c : Commit) : (Xbl L c).length ≤ L.length + 1 := by
 unfold Xbl
 split
 ·omega
 ·rw [List.length_drop, List.length_append, List.length_singleton]; omega
theorem Xzi {N : Nat} {n : Nd} {c : Commit} (h : NdOk N n) (hc : fine c) : NdOk (N + 1) { n with wait := Xbl n.wait c } := by
 refine ⟨h.fl, fun x hx => ?_, h.disk, h.room, ?_⟩
 ·rcases Xlk hx with hx | rfl
  ·exact h.fw x hx
  ·exact hc
 ·have := h.len
  have := Xur n.wait c
  show n.l.length + (Xbl n.wait c).length ≤ N + 1
  omega
section
variable {w0 w : World} {F : Nat → Prop} {Γ : List Fact} {br : Nat}
theorem Xw6 (n : Nd) (y : Na) (c : Commit) (a : Option Addr) (k : Nat) (hc : fine c) (hok : NdOk 899 n) (ho : Hold w0 F (repF br n y ++ .st (sl a k c.parents) :: Γ) w) :
  Calls prog 106 ⟨[.pointer (some ⟨br, 0, none⟩), Xax c a k]⟩ w fun x w' => ∃ y' : Na, x = .returned (.tuple ⟨[]⟩) ∧ Hold w0 F (repF br (Xc1 n c) y' ++ Γ) w' := by
 refine Xbq (v := fun y : Na => .tuple ⟨[]⟩) (B := fun y' => repF br (Xc1 n c) y' ++ Γ) func106 rfl ntmps106 rfl rfl _ ho ?_
 rcases n with ⟨no, disk, room, l, wait, seq, up, peers, next, miss⟩
 rcases y with ⟨ad, kd, al, kl, aw, kw, ap, kp⟩
 obtain ⟨hfl, hfw, hdk, hrm, hln⟩ := id hok
 dsimp only [repF, ndC, List.cons_append, List.nil_append] at *
 (repeat (refine wE ?_; intro _)); refine wA ?_
 rename_i bc
 refine JR.callV rfl (fun w1 hw => Xea w1 _ c a k hw.get hc.1) ?_
 (repeat (refine wE ?_; intro _)); refine wA ?_
 rename_i bi
 refine Xj6 (fun _ : Unit => [(0, .pointer (some ⟨br, 0, none⟩)), (3, .pointer (some ⟨bc, 0, none⟩)), (37, .bool (!Xb1 no seq (idsP l) c))])
  (fun _ => .own bc 29 [.int .i64 c.ev.node, .int .i64 c.ev.seq, .int .i64 c.gen, .slice a c.parents.length k, .int .i64 c.op.kind, .string c.op.key, .string c.op.elem, .int .i64 c.op.n] :: .st (sl a k c.parents) :: .own br 136 [.int .i64 no, .slice ad disk.length kd, .int .i64 room, .slice al l.length kl, .slice aw wait.length kw, .int .i64 seq, .bool up, .slice ap peers.length kp, .int .i64 next, .int .i64 miss] :: .res (buf al kl 29 l) :: .st (sl ad kd disk) :: .st (sl aw kw wait) :: .st (sl ap kp peers) :: Γ) ?_ ?_
 ·refine Xw5 fun w2 => ?_
  refine JC.drawP mixed ?_
  refine Xab 0 ?_
  refine Xab 1 ?_
  refine Xab 2 ?_
  by_cases h1 : may c = true
  case neg =>
   have h1' : may c = false := by rw [← Bool.not_eq_true]; exact h1
   have hfr : Xb1 no seq (idsP l) c = false := by unfold Xb1; rw [h1']; rfl
   rw [hfr, Bool.not_false]
   refine JP.reslot 13 (.bool true) (by congr 1; exact decide_eq_true (fun h => h1 ((Xd0 c).1 h))) ?_
   refine JP.ov 3 ?_
   refine JP.ov 4 ?_
   refine Xab 5 ?_
   refine Xab 6 ?_
   refine JP.ov 7 ?_
   refine JP.ov 8 ?_
   refine JP.ov 9 ?_
   refine JP.ov 10 ?_
   refine JP.ov 11 ?_
   refine JP.ov 12 ?_
   refine JP.ov 13 ?_
   refine JP.ov 14 ?_
   refine JP.ov 15 ?_
   refine Xab 16 ?_
   refine Xab 17 ?_
   refine JP.ov 18 ?_
   refine JP.ov 19 ?_
   refine JP.ov 20 ?_
   refine JP.ov 21 ?_
   refine JP.ov 22 ?_
   refine JP.ov 23 ?_
   refine JP.ov 24 ?_
   refine JP.ov 25 ?_
   refine Xab 26 ?_
   exact JP.nil (by kernel_rfl) ⟨rfl, (), iI⟩
  refine JP.reslot 13 (.bool false) (by congr 1; exact decide_eq_false (fun h => h ((Xd0 c).2 h1))) ?_
  refine JP.tv 3 [.st (ro bc 0 [.int .i64 c.ev.node, .int .i64 c.ev.seq, .int .i64 c.gen, .slice a c.parents.length k, .int .i64 c.op.kind, .string c.op.key, .string c.op.elem, .int .i64 c.op.n])] ?_
  refine Xal 4 rfl rfl (JR.callV rfl (fun w1 hw => Xco w1 _ c a k hw.get hc.1) (Wd (nO ?_)))
  cases h2 : merge c with
  | true =>
   have hfr : Xb1 no seq (idsP l) c = false := by unfold Xb1; rw [h1, h2]; rfl
   rw [hfr, Bool.not_false]
   refine Xab 5 ?_
   refine Xab 6 ?_
   refine JP.ov 7 ?_
   refine JP.ov 8 ?_
   refine JP.ov 9 ?_
   refine JP.ov 10 ?_
   refine JP.ov 11 ?_
   refine JP.ov 12 ?_
   refine JP.ov 13 ?_
   refine JP.ov 14 ?_
   refine JP.ov 15 ?_
   refine Xab 16 ?_
   refine Xab 17 ?_
   refine JP.ov 18 ?_
   refine JP.ov 19 ?_
   refine JP.ov 20 ?_
   refine JP.ov 21 ?_
   refine JP.ov 22 ?_
   refine JP.ov 23 ?_
   refine JP.ov 24 ?_
   refine JP.ov 25 ?_
   refine Xab 26 ?_
   exact JP.nil (by kernel_rfl) ⟨rfl, (), iI⟩
  | false =>
  refine Xab 5 ?_
  refine Xab 6 ?_
  refine Xab 7 ?_
  refine Xab 8 ?_
  refine Xab 9 ?_
  refine Xab 10 ?_
  refine Xab 11 ?_
  refine JP.tv 12 [.st (ro br 0 [.int .i64 no, .slice ad disk.length kd, .int .i64 room, .slice al l.length kl, .slice aw wait.length kw, .int .i64 seq, .bool up, .slice ap peers.length kp, .int .i64 next, .int .i64 miss])] ?_
  refine JP.tv 14 [.st (ro bi 0 (idc (Xaq c).1))] ?_
  refine Xal 13 rfl rfl (JR.callBuf rfl (fun w1 hw => Xiq w1 _ al kl l hw.get (by omega) hfl) (fun ai ki => Wd (nO ?_)))
  refine Xal 15 rfl rfl (JR.callV rfl (fun w1 hw => (Xq5 w1 (fun _ => True) ai ki (idsP l) (Xaq c).1 hw.bufSlOf).any) (Wd (nO ?_)))
  by_cases h3 : (Xaq c).1 ∈ idsP l
  case pos =>
   have hfr : Xb1 no seq (idsP l) c = false := by unfold Xb1 idC; rw [h1, h2, decide_eq_true h3]; rfl
   rw [hfr, Bool.not_false]
   refine JP.reslot 26 (.bool true) (by rw [decide_eq_true h3]) ?_
   refine Xab 16 ?_
   refine Xab 17 ?_
   refine JP.ov 18 ?_
   refine JP.ov 19 ?_
   refine JP.ov 20 ?_
   refine JP.ov 21 ?_
   refine JP.ov 22 ?_
   refine JP.ov 23 ?_
   refine JP.ov 24 ?_
   refine JP.ov 25 ?_
   refine Xab 26 ?_
   exact JP.nil (by kernel_rfl) ⟨rfl, (), iI⟩
  refine JP.reslot 26 (.bool false) (by rw [decide_eq_false h3]) ?_
  refine Xab 16 ?_
  refine Xab 17 ?_
  refine Xab 18 ?_
  refine Xab 19 ?_
  refine Xab 20 ?_
  refine Xab 21 ?_
  refine JP.tv 22 [.st (ro br 0 [.int .i64 no, .slice ad disk.length kd, .int .i64 room, .slice al l.length kl, .slice aw wait.length kw, .int .i64 seq, .bool up, .slice ap peers.length kp, .int .i64 next, .int .i64 miss])] ?_
  refine JP.tv 23 [.st (ro bc 0 [.int .i64 c.ev.node, .int .i64 c.ev.seq, .int .i64 c.gen, .slice a c.parents.length k, .int .i64 c.op.kind, .string c.op.key, .string c.op.elem, .int .i64 c.op.n])] ?_
  refine Xal 24 rfl rfl (JR.callV rfl (fun w1 hw => Xgt w1 _ ⟨no, disk, room, l, wait, seq, up, peers, next, miss⟩ ⟨ad, kd, al, kl, aw, kw, ap, kp⟩ c a k) (Wd (nO ?_)))
  have hfr : Xb1 no seq (idsP l) c = Xeo no seq c := by unfold Xb1 idC; rw [h1, h2, decide_eq_false h3]; rfl
  rw [hfr]
  dsimp only
  refine Xab 25 ?_
  refine Xab 26 ?_
  exact JP.nil (by kernel_rfl) ⟨rfl, (), iI⟩
 rintro ⟨⟩
 cases hfr : Xb1 no seq (idsP l) c with
 | false =>
  have e1 : Xc1 ⟨no, disk, room, l, wait, seq, up, peers, next, miss⟩ c = ⟨no, disk, room, l, wait, seq, up, peers, next, miss⟩ := if_neg (by show ¬ Xb1 no seq (idsP l) c = true; rw [hfr]; exact Bool.false_ne_true)
  rw [e1]
  dsimp only
  refine wz8 ?_
  exact CT.dn (Y := Na) ⟨ad, kd, al, kl, aw, kw, ap, kp⟩ rfl
 | true =>
  have e1 : Xc1 ⟨no, disk, room, l, wait, seq, up, peers, next, miss⟩ c = Xdb ⟨no, disk, room, l, Xbl wait c, seq, up, peers, next, miss⟩ := if_pos hfr
  rw [e1]
  have hok2 := Xzi hok hc
  refine wz7 ?_
  refine JC.drawP mixed ?_
  refine Xab 0 ?_
  refine Xab 1 ?_
  refine Xab 2 ?_
  refine Xab 3 ?_
  refine Xab 4 ?_
  refine Xab 5 ?_
  refine JP.tv 6 [.own br 136 [.int .i64 no, .slice ad disk.length kd, .int .i64 room, .slice al l.length kl, .slice aw wait.length kw, .int .i64 seq, .bool up, .slice ap peers.length kp, .int .i64 next, .int .i64 miss]] ?_
  refine JP.tv 7 [.own bc 29 [.int .i64 c.ev.node, .int .i64 c.ev.seq, .int .i64 c.gen, .slice a c.parents.length k, .int .i64 c.op.kind, .string c.op.key, .string c.op.elem, .int .i64 c.op.n]] ?_
  refine Xal 8 rfl rfl (JR.callSl rfl (fun w1 hw => Xx1 w1 _ aw a kw k wait c hw.get hw.get (by omega) hfw hc) (fun a3 k3 => Wd (nO ?_)))
  refine Xab 9 ?_
  refine Xab 10 ?_
  refine Xab 11 ?_
  refine Xab 12 ?_
  refine JP.reslot 50 (.pointer (some ⟨br, 4, none⟩)) rfl ?_
  refine Xal 13 rfl rfl (Wi (Wd (nO ?_)))
  refine JP.nil (by kernel_rfl) ?_
  refine wz14 ?_
  refine JR.more (Γ' := repF br ⟨no, disk, room, l, Xbl wait c, seq, up, peers, next, miss⟩ ⟨ad, kd, al, kl, a3, k3, ap, kp⟩ ++ Γ) (fun w1 ho => (ho.ent : Hold _ _ (.own br 136 [.int .i64 no, .slice ad disk.length kd, .int .i64 room, .slice al l.length kl, .slice a3 (Xbl wait c).length k3, .int .i64 seq, .bool up, .slice ap peers.length kp, .int .i64 next, .int .i64 miss] :: .res (buf al kl 29 l) :: .st (sl ad kd disk) :: .st (sl a3 k3 (Xbl wait c)) :: .st (sl ap kp peers) :: Γ) w1)) ?_
  refine Xbi (v := fun y : Na => .tuple ⟨[]⟩) (B := fun y' => repF br (Xdb ⟨no, disk, room, l, Xbl wait c, seq, up, peers, next, miss⟩) y' ++ Γ) rfl (fun w1 hw => Xr6 _ _ hok2 hw) ?_
  intro y2
  refine wz10 ?_
  exact Xde y2 rfl (fun w ho => ho)
end
structure NdFew (n : Nd) : Prop where
 fl : ∀ x ∈ n.l, fine x
 fw : ∀ x ∈ n.wait, fine x
 disk : n.disk.length ≤ 1048576
 len : n.l.length + n.wait.length ≤ 800
 peers : n.peers.length ≤ 1000
theorem Xw7 (n : Nd) (y : Na) (h1 : (sl y.d y.dk n.disk).holds F w) (h2 : (sl y.l y.lk n.l).holds F w) (h3 : (sl y.w y.wk n.wait).holds F w) (h4 : (sl y.p y.pk n.peers).holds F w) (hn : NdFew n) :
  Gives prog 104 [ndV n y] w F (fun z : Nat × Na => .pointer (some ⟨z.1, 0, none⟩)) (fun z => repF z.1 n z.2) := by
 rcases n with ⟨no, disk, room, l, wait, seq, up, peers, next, miss⟩
 rcases y with ⟨ad, kd, al, kl, aw, kw, ap, kp⟩
 obtain ⟨hfl, hfw, hdk, hln, hpl⟩ := hn
 dsimp only [ndV, ndC] at *
 refine Xaa func104 rfl ntmps104 rfl rfl [.st (sl ad kd disk), .st (sl al kl l), .st (sl aw kw wait), .st (sl ap kp peers)] (.start4 h1 h2 h3 h4) ?_
 (repeat (refine wE ?_; intro _)); refine wA ?_
 rename_i bn
 refine JC.drawP mixed ?_
 refine Xab 0 ?_
 refine JP.tv 1 [.own bn 50 [.int .i64 no, .slice ad disk.length kd, .int .i64 room, .slice al l.length kl, .slice aw wait.length kw, .int .i64 seq, .bool up, .slice ap peers.length kp, .int .i64 next, .int .i64 miss]] ?_
 refine Xab 3 ?_
 refine JP.tv 4 [.own bn 50 [.int .i64 no, .slice ad disk.length kd, .int .i64 room, .slice al l.length kl, .slice aw wait.length kw, .int .i64 seq, .bool up, .slice ap peers.length kp, .int .i64 next, .int .i64 miss]] ?_
 refine Xal 2 rfl rfl (JR.callBuf rfl (fun w1 hw => Xqd w1 _ ad kd disk hw.get (by omega)) (fun a1 k1 => Wd (nO ?_)))
 refine JP.more (fun w1 ho => ho.pub) ?_
 refine Xab 6 ?_
 refine Xal 5 rfl rfl (JR.callBuf rfl (fun w1 hw => Xmy w1 _ ap kp peers hw.get (by omega)) (fun a2 k2 => Wd (nO ?_)))
 refine JP.more (fun w1 ho => ho.pub) ?_
 refine JP.reslot 9 (.pointer (some ⟨bn, 1, none⟩)) rfl ?_
 refine Xal 7 rfl rfl (Wi (Wd (nO ?_)))
 refine Xab 8 ?_
 refine JP.reslot 10 (.pointer (some ⟨bn, 7, none⟩)) rfl ?_
 refine Xal 9 rfl rfl (Wi (Wd (nO ?_)))
 refine JP.nil (by kernel_rfl) ?_
 refine wz14 ?_
 refine JC.drawP mixed ?_
 refine Xab 0 ?_
 refine JP.tv 1 [.own bn 50 [.int .i64 no, .slice a1 disk.length k1, .int .i64 room, .slice al l.length kl, .slice aw wait.length kw, .int .i64 seq, .bool up, .slice a2 peers.length k2, .int .i64 next, .int .i64 miss]] ?_
 refine Xab 3 ?_
 refine JP.tv 4 [.own bn 50 [.int .i64 no, .slice a1 disk.length k1, .int .i64 room, .slice al l.length kl, .slice aw wait.length kw, .int .i64 seq, .bool up, .slice a2 peers.length k2, .int .i64 next, .int .i64 miss]] ?_
 refine Xal 2 rfl rfl (JR.callBuf rfl (fun w1 hw => Xir w1 _ al kl l hw.get (by omega) hfl) (fun a3 k3 => Wd (nO ?_)))
 refine Xab 6 ?_
 refine Xal 5 rfl rfl (JR.callBuf rfl (fun w1 hw => Xir w1 _ aw kw wait hw.get (by omega) hfw) (fun a4 k4 => Wd (nO ?_)))
 refine JP.more (fun w1 ho => ho.pub) ?_
 refine JP.reslot 17 (.pointer (some ⟨bn, 3, none⟩)) rfl ?_
 refine Xal 7 rfl rfl (Wi (Wd (nO ?_)))
 refine Xab 8 ?_
 refine JP.reslot 18 (.pointer (some ⟨bn, 4, none⟩)) rfl ?_
 refine Xal 9 rfl rfl (Wi (Wd (nO ?_)))
 refine JP.nil (by kernel_rfl) ?_
 refine wz9 ?_
 refine Wf (OpV.build [.int .i64 no, .slice a1 disk.length k1, .int .i64 room, .slice a3 l.length k3, .slice a4 wait.length k4, .int .i64 seq, .bool up, .slice a2 peers.length k2, .int .i64 next, .int .i64 miss] (by kernel_rfl)) rfl ?_
 refine wz13 ?_
 refine Wf (OpV.build [.int .i64 no, .slice a1 disk.length k1, .int .i64 room, .slice a3 l.length k3, .slice a4 wait.length k4, .int .i64 seq, .bool up, .slice a2 peers.length k2, .int .i64 next, .int .i64 miss] (by kernel_rfl)) rfl ?_
 (repeat (refine wE ?_; intro _)); refine wA ?_
 rename_i br
 exact CT.dn (br, ⟨a1, k1, a3, k3, a4, k4, a2, k2⟩) rfl
theorem Xm0 (no room : Int) : Gives prog 47 [.int .i64 no, .int .i64 room] w F (fun _ : Unit => .tuple ⟨[ndV (newN no room).1 na0, .bool (newN no room).2]⟩) (fun _ => []) := by
 refine Xaa func47 rfl ntmps47 rfl rfl [] (.start w F) ?_
 (repeat (refine wE ?_; intro _)); refine wA ?_
 refine JR.callV rfl (fun w1 hw => Xli w1 _ no room) ?_
 cases hfit : Xfp no room with
 | false =>
  have e1 : newN no room = (nd0, false) := if_neg (by rw [hfit]; exact Bool.false_ne_true)
  rw [e1]
  refine wz8 ?_
  refine Wf (OpV.build [.int .i64 0, .slice none 0 0, .int .i64 0, .slice none 0 0, .slice none 0 0, .int .i64 0, .bool false, .slice none 0 0, .int .i64 0, .int .i64 0] (by kernel_rfl)) rfl ?_
  refine wz9 ?_
  exact CT.dn () rfl
 | true =>
  have e1 : newN no room = ({ nd0 with no := no, room := room, up := true }, true) := if_pos hfit
  rw [e1]
  refine wz7 ?_
  refine Wf (OpV.build [.int .i64 no, .slice none 0 0, .int .i64 room, .slice none 0 0, .slice none 0 0, .int .i64 0, .bool true, .slice none 0 0, .int .i64 0, .int .i64 0] (by kernel_rfl)) rfl ?_
  refine wz9 ?_
  exact CT.dn () rfl
end
end
section
variable {P : Program} {n : Nn} {w0 : World} {F : Nat → Prop} {Q : Cont} {e : E} {Γ : List Fact}
end
section
variable {P : Program} {n : Nn} {w0 : World} {F : Nat → Prop} {ops : Array Oper} {i d : Nat} {t : TypeId} {pos : String} {aft : Array Edge} {g : Option (Nat × Bool)} {os : List Oper} {Q : Cont} {e : E} {Γ : List Fact}
theorem Xm1 [Dr] {d : Option Nat} {x ix : Operand} {kk : IntKind} {j : Int} {k m c : Nat} {ty el : TypeId} {ed : TypeDesc} {sz by_ eb b : Nat} {z ez : Value} [hx : Ev e x (.slice (some ⟨b, 0, none⟩) m c)] [hi : Ev e ix (.int kk j)] [hk : NatI j k] [hT : Ty P ty (.slice el) sz by_ z] [hE : Ty P el ed 1 eb ez] (h : k < m) :
  OpV P n w0 F ⟨d, .indexAddr ty x ix, t, pos, aft, g⟩ e Γ (.pointer (some ⟨b, k, none⟩)) :=
 fun a w fr ho => by
  have e1 := Xat (P := P) (t := ty) w
  have e2 := Xa9 (P := P) (t := el) w
  have hj := hk.ok
  subst hj
  simp [execOp, hx.ok n a fr, hi.ok n a fr, Instr.indexAt, e1, e2, asIntOf, Addr.add_mid, h]
end
section
variable {w0 : World} {F : Nat → Prop} {Γ : List Fact}
end
section
attribute [local irreducible] JC JO JR JQ andThen inBlock OpV Gives Xae JM JS
section
attribute [local irreducible] Xaq
theorem Xm2 (n : Nd) (y : Na) (h1 : (sl y.d y.dk n.disk).holds F w) (h2 : (sl y.l y.lk n.l).holds F w) (h3 : (sl y.w y.wk n.wait).holds F w) (h4 : (sl y.p y.pk n.peers).holds F w) (hn : NdFew n) :
  Gives prog 75 [ndV n y] w F (fun z : Na => ndV n z) (fun z => ndB n z) := by
 rcases n with ⟨no, disk, room, l, wait, seq, up, peers, next, miss⟩
 rcases y with ⟨ad, kd, al, kl, aw, kw, ap, kp⟩
 obtain ⟨hfl, hfw, hdk, hln, hpl⟩ := hn
 dsimp only [ndV, ndC, ndB] at *
 refine Xaa func75 rfl ntmps75 rfl rfl [.st (sl ad kd disk), .st (sl al kl l), .st (sl aw kw wait), .st (sl ap kp peers)] (.start4 h1 h2 h3 h4) ?_
 (repeat (refine wE ?_; intro _)); refine wA ?_
 rename_i bn b2
 refine JC.drawP mixed ?_
 refine Xab 0 ?_
 refine JP.tv 1 [.own bn 50 [.int .i64 no, .slice ad disk.length kd, .int .i64 room, .slice al l.length kl, .slice aw wait.length kw, .int .i64 seq, .bool up, .slice ap peers.length kp, .int .i64 next, .int .i64 miss]] ?_
 refine Xab 3 ?_
 refine JP.tv 4 [.own bn 50 [.int .i64 no, .slice ad disk.length kd, .int .i64 room, .slice al l.length kl, .slice aw wait.length kw, .int .i64 seq, .bool up, .slice ap peers.length kp, .int .i64 next, .int .i64 miss]] ?_
 refine Xal 2 rfl rfl (JR.callBuf rfl (fun w1 hw => Xqd w1 _ ad kd disk hw.get (by omega)) (fun a1 k1 => Wd (nO ?_)))
 refine JP.more (fun w1 ho => ho.pub) ?_
 refine Xal 5 rfl rfl (JR.callBuf rfl (fun w1 hw => Xmy w1 _ ap kp peers hw.get (by omega)) (fun a2 k2 => Wd (nO ?_)))
 refine JP.more (fun w1 ho => ho.pub) ?_
 refine Xab 6 ?_
 refine JP.reslot 14 (.pointer (some ⟨bn, 1, none⟩)) rfl ?_
 refine Xal 7 rfl rfl (Wi (Wd (nO ?_)))
 refine Xab 8 ?_
 refine JP.reslot 15 (.pointer (some ⟨bn, 7, none⟩)) rfl ?_
 refine Xal 9 rfl rfl (Wi (Wd (nO ?_)))
 refine JP.nil (by kernel_rfl) ?_
 (repeat (refine wE ?_; intro _)); refine wA ?_
 rename_i bl
 refine Xnd (fun (i : Nat) pl ql pw qw => [(1, .pointer (some ⟨bn, 0, none⟩)), (2, .pointer (some ⟨b2, 0, none⟩)), (18, .slice (some ⟨bl, 0, none⟩) 2 2), (19, .int .i64 2), (20, .int .i64 (i : Int))])
  (fun i pl ql pw qw => [.own bn 50 [.int .i64 no, .slice a1 disk.length k1, .int .i64 room, .slice pl l.length ql, .slice pw wait.length qw, .int .i64 seq, .bool up, .slice a2 peers.length k2, .int .i64 next, .int .i64 miss], .own bl 169 [.pointer (some ⟨bn, 3, none⟩), .pointer (some ⟨bn, 4, none⟩)], .own b2 50 [.int .i64 0, .slice none 0 0, .int .i64 0, .slice none 0 0, .slice none 0 0, .int .i64 0, .bool false, .slice none 0 0, .int .i64 0, .int .i64 0], .st (sl a1 k1 disk), .st (sl a2 k2 peers), .st (sl pl ql l), .st (sl pw qw wait)])
  (fun i _ _ _ _ => i ≤ 2) (fun i _ _ _ _ => 2 - i) 0 al kl aw kw (Nat.zero_le _) iI ?_
 intro i pl ql pw qw hi
 refine wz11 ?_
 refine JC.test (fun hlt2 => ?_) (fun hge2 => ?_)
 ·obtain rfl | rfl : i = 0 ∨ i = 1 := by omega
  ·refine JC.buf_nil (α := Commit) 29 ?_
   refine wz14 ?_
   refine Wf (Xm1 (k := 0) (by omega)) rfl ?_
   refine wz9 ?_
   refine Wf OpV.nilCheck rfl ?_
   refine wA ?_
   refine Xdc (fun (j : Nat) (out : List Commit) r s => [(1, .pointer (some ⟨bn, 0, none⟩)), (2, .pointer (some ⟨b2, 0, none⟩)), (4, .pointer (some ⟨bn, 3, none⟩)), (18, .slice (some ⟨bl, 0, none⟩) 2 2), (19, .int .i64 2), (20, .int .i64 0), (5, .slice r out.length s), (26, .slice pl l.length ql), (27, .int .i64 (l.length : Int)), (28, .int .i64 (j : Int))])
    (fun (j : Nat) (out : List Commit) r s => [.res (buf r s 29 out), .own bn 50 [.int .i64 no, .slice a1 disk.length k1, .int .i64 room, .slice pl l.length ql, .slice pw wait.length qw, .int .i64 seq, .bool up, .slice a2 peers.length k2, .int .i64 next, .int .i64 miss], .own bl 169 [.pointer (some ⟨bn, 3, none⟩), .pointer (some ⟨bn, 4, none⟩)], .own b2 50 [.int .i64 0, .slice none 0 0, .int .i64 0, .slice none 0 0, .slice none 0 0, .int .i64 0, .bool false, .slice none 0 0, .int .i64 0, .int .i64 0], .st (sl a1 k1 disk), .st (sl a2 k2 peers), .st (sl pl ql l), .st (sl pw qw wait)])
    (fun j out r s => j ≤ l.length ∧ out = l.take j) (fun j _ _ _ => l.length - j) 0 [] none 0 ⟨Nat.zero_le _, rfl⟩ iI ?_
   intro j out r s ⟨hj, hout⟩
   refine wz11 ?_
   refine JC.test (fun hlt => ?_) (fun hge => ?_)
   ·have hlt' : j < l.length := by omega
    refine wz14 ?_
    refine Xaj rfl hlt' ?_
    intro b5 o5 p5 q5
    (repeat (refine wE ?_; intro _)); refine wA ?_
    refine JR.callSl rfl (fun w hw => Xhj w _ p5 q5 _ hw.get (hfl _ (List.getElem_mem hlt')).2) ?_
    intro p6 q6
    (repeat (refine wE ?_; intro _)); refine wA ?_
    refine Xa1 (u := l[j]) rfl (by exact ⟨rfl, rfl, by decide⟩) (by subst hout; simp; omega) ?_
    intro r2 s2
    refine wz2 ?_
    exact ⟨j + 1, out ++ [l[j]], r2, s2, ⟨by omega, by rw [hout, List.take_succ_eq_append_getElem (by omega)]⟩, by omega, iI⟩
   ·obtain rfl : out = l := by rw [hout, List.take_of_length_le (by omega)]
    refine JC.more (fun w1 ho => ho.pub) ?_
    refine wz3 ?_
    refine Wf OpV.nilCheck rfl ?_
    refine wA ?_
    exact ⟨1, r, s, pw, qw, by omega, by omega, iI⟩
  ·refine JC.buf_nil (α := Commit) 29 ?_
   refine wz14 ?_
   refine Wf (Xm1 (k := 1) (by omega)) rfl ?_
   refine wz9 ?_
   refine Wf OpV.nilCheck rfl ?_
   refine wA ?_
   refine Xdc (fun (j : Nat) (out : List Commit) r s => [(1, .pointer (some ⟨bn, 0, none⟩)), (2, .pointer (some ⟨b2, 0, none⟩)), (4, .pointer (some ⟨bn, 4, none⟩)), (18, .slice (some ⟨bl, 0, none⟩) 2 2), (19, .int .i64 2), (20, .int .i64 1), (5, .slice r out.length s), (26, .slice pw wait.length qw), (27, .int .i64 (wait.length : Int)), (28, .int .i64 (j : Int))])
    (fun (j : Nat) (out : List Commit) r s => [.res (buf r s 29 out), .own bn 50 [.int .i64 no, .slice a1 disk.length k1, .int .i64 room, .slice pl l.length ql, .slice pw wait.length qw, .int .i64 seq, .bool up, .slice a2 peers.length k2, .int .i64 next, .int .i64 miss], .own bl 169 [.pointer (some ⟨bn, 3, none⟩), .pointer (some ⟨bn, 4, none⟩)], .own b2 50 [.int .i64 0, .slice none 0 0, .int .i64 0, .slice none 0 0, .slice none 0 0, .int .i64 0, .bool false, .slice none 0 0, .int .i64 0, .int .i64 0], .st (sl a1 k1 disk), .st (sl a2 k2 peers), .st (sl pl ql l), .st (sl pw qw wait)])
    (fun j out r s => j ≤ wait.length ∧ out = wait.take j) (fun j _ _ _ => wait.length - j) 0 [] none 0 ⟨Nat.zero_le _, rfl⟩ iI ?_
   intro j out r s ⟨hj, hout⟩
   refine wz11 ?_
   refine JC.test (fun hlt => ?_) (fun hge => ?_)
   ·have hlt' : j < wait.length := by omega
    refine wz14 ?_
    refine Xaj rfl hlt' ?_
    intro b5 o5 p5 q5
    (repeat (refine wE ?_; intro _)); refine wA ?_
    refine JR.callSl rfl (fun w hw => Xhj w _ p5 q5 _ hw.get (hfw _ (List.getElem_mem hlt')).2) ?_
    intro p6 q6
    (repeat (refine wE ?_; intro _)); refine wA ?_
    refine Xa1 (u := wait[j]) rfl (by exact ⟨rfl, rfl, by decide⟩) (by subst hout; simp; omega) ?_
    intro r2 s2
    refine wz2 ?_
    exact ⟨j + 1, out ++ [wait[j]], r2, s2, ⟨by omega, by rw [hout, List.take_succ_eq_append_getElem (by omega)]⟩, by omega, iI⟩
   ·obtain rfl : out = wait := by rw [hout, List.take_of_length_le (by omega)]
    refine JC.more (fun w1 ho => ho.pub) ?_
    refine wz3 ?_
    refine Wf OpV.nilCheck rfl ?_
    refine wA ?_
    exact ⟨2, pl, ql, r, s, by omega, by omega, iI⟩
 ·obtain rfl : i = 2 := by omega
  refine wz3 ?_
  exact CT.dn (Y := Na) ⟨a1, k1, pl, ql, pw, qw, a2, k2⟩ rfl
theorem X0z {L : List Commit} (hc : Closed L) : idsP L = cids L := by
 unfold idsP
 rw [if_pos (List.all_eq_true.2 fun c h => hc.may c h)]
theorem Xw8 {L : List Commit} (hc : Closed L) (A : List ID) : partF (Xbf L) A = (Xbf L).filter (fun c => decide (idC c ∈ A)) := by
 rw [partF, Xef (Xi7 hc), if_pos rfl]
theorem Xd1 {L : List Commit} (hc : Closed L) {A : List ID} {c : Commit} : c ∈ partF (Xbf L) A ↔ c ∈ L ∧ idC c ∈ A := by
 rw [Xw8 hc, List.mem_filter, (Xe7 hc).mem_iff, decide_eq_true_eq]
theorem Xm3 {A B : List ID} : Xaw A B false = [] ↔ ∀ x ∈ A, x ∈ B := by
 rw [List.eq_nil_iff_forall_not_mem]
 constructor
 ·intro h x hx
  exact Classical.byContradiction fun hn => h x (Xdl.2 ⟨hx, hn⟩)
 ·intro h x hx
  exact (Xdl.1 hx).2 (h x (Xdl.1 hx).1)
theorem Xw9 {L : List Commit} {x : ID} (h : x ∈ frontF L) : x ∈ cids L := by
 by_cases hc : Closed L
 ·exact ((Xe6 hc).1 h).1
 ·rw [Xp5 hc] at h; cases h
instance : NatI (13 : Int) 13 := ⟨rfl⟩
instance nat17 : NatI (17 : Int) 17 := ⟨rfl⟩
theorem Xxa (x : UInt32) : GivesV prog 89 [w32 x] w F (w32 (Xl4 x)) := by
 refine Xaa func89 rfl ntmps89 rfl rfl [] (.start w F) ?_
 refine wz4 ?_
 refine JC.test (fun h => ?_) (fun h => ?_)
 ·have hx : x = 0 := by apply UInt32.toNat_inj.1; simpa using h
  refine wz10 ?_
  refine JR.reslot 5 (w32 1) rfl ?_
  refine JR.reslot 6 (w32 1) rfl ?_
  refine Wf (Xdi (k := 13) (by omega)) rfl ?_
  refine wz13 ?_
  refine Wf Xav rfl ?_
  refine wz10 ?_
  refine Wf (Xfw (k := 17) (by omega)) rfl ?_
  refine wz13 ?_
  refine Wf Xav rfl ?_
  refine wz10 ?_
  refine Wf (Xdi (k := 5) (by omega)) rfl ?_
  refine wz13 ?_
  refine Wf Xav rfl ?_
  refine wz10 ?_
  refine CT.dn () ?_
  simp only [Xac, Xl4, if_pos hx]
 ·have hx : x ≠ 0 := by rintro rfl; exact h rfl
  refine wz14 ?_
  refine Wf (Xdi (k := 13) (by omega)) rfl ?_
  refine wz13 ?_
  refine Wf Xav rfl ?_
  refine wz10 ?_
  refine Wf (Xfw (k := 17) (by omega)) rfl ?_
  refine wz13 ?_
  refine Wf Xav rfl ?_
  refine wz10 ?_
  refine Wf (Xdi (k := 5) (by omega)) rfl ?_
  refine wz13 ?_
  refine Wf Xav rfl ?_
  refine wz10 ?_
  refine CT.dn () ?_
  simp only [Xac, Xl4, if_neg hx]
theorem Xxb (a : Option Addr) (c : Nat) (L : List Int) (x : UInt32) (h : (sl a c L).holds F w) (hl : L.length ≤ 1000) (hn : L ≠ []) :
  GivesV prog 90 [.slice a L.length c, w32 x] w F (.tuple ⟨[.int .i64 (L.getD (x.toNat % L.length) 0), .bool true]⟩) := by
 have h0 := List.length_pos_iff.2 hn
 have hlt : x.toNat % L.length < L.length := Nat.mod_lt _ h0
 have hx := x.toNat_lt
 refine Xaa func90 rfl ntmps90 rfl rfl [.st (sl a c L)] (.start1 h) ?_
 refine wz4 ?_
 refine JC.test (fun h1 => ?_) (fun h1 => ?_)
 ·exfalso; omega
 refine wz2 ?_
 refine Wf Xa6 rfl ?_
 refine JO.reslot 13 (.int .u32 (L.length : Int)) (by rw [Xix, Nat.mod_eq_of_lt (by omega)]) ?_
 refine wz13 ?_
 refine Wf (OpV.rem (by omega)) rfl ?_
 refine JO.reslot 14 (.int .u32 ((x.toNat % L.length : Nat) : Int)) (by congr 1) ?_
 refine wz13 ?_
 refine Wf Xa6 rfl ?_
 refine JO.reslot 15 (.int .i64 ((x.toNat % L.length : Nat) : Int)) (by rw [Xcg (by omega)]) ?_
 refine wz13 ?_
 refine Xjx (k := x.toNat % L.length) rfl hlt ?_
 intro b o
 refine wz9 ?_
 refine CT.dn () ?_
 simp [Xac, List.getD, hlt]
theorem Xxc (m : Int) : GivesV prog 91 [.int .i64 m] w F (.int .i64 (Xoe m)) := by
 refine Xaa func91 rfl ntmps91 rfl rfl [] (.start w F) ?_
 refine wz10 ?_
 refine Wf OpV.max rfl ?_
 refine wz13 ?_
 refine Wf OpV.min rfl ?_
 refine wz13 ?_
 refine Wf (OpV.shl (by omega)) rfl ?_
 refine JO.reslot 6 (.int .i64 (Xoe m)) ?_ ?_
 ·congr 1
  have h1 : (min (max m 0) 6).toNat ≤ 6 := by omega
  have h2 : min (min (max m 0) 6).toNat (IntKind.bits .i64) = (min (max m 0) 6).toNat := Nat.min_eq_left (by show _ ≤ 64; omega)
  rw [h2, Xoe]
  generalize (min (max m 0) 6).toNat = k at h1
  have h3 : k = 0 ∨ k = 1 ∨ k = 2 ∨ k = 3 ∨ k = 4 ∨ k = 5 ∨ k = 6 := by omega
  rcases h3 with rfl | rfl | rfl | rfl | rfl | rfl | rfl <;> decide
 refine wz10 ?_
 exact CT.dn () rfl
theorem X00 (m : Mg) (z : Ma) (h1 : (sl z.i z.ik m.ids).holds F w) (h2 : (sl z.c z.ck m.commits).holds F w) (hf : ∀ c ∈ m.commits, fine c) :
  GivesV prog 40 [mgV m z] w F (.bool (Xgb m)) := by
 have hil : m.ids.length < 9223372036854775807 := by have := h1.2.2.1; simp only [lim] at this; omega
 have hcl : m.commits.length < 9223372036854775807 := by have := h2.2.2.1; simp only [lim] at this; omega
 rcases m with ⟨kind, ids, cs⟩
 rcases z with ⟨ai, ki, ac, kc⟩
 dsimp only [mgV, mgC] at *
 refine Xaa func40 rfl ntmps40 rfl rfl [.st (sl ai ki ids), .st (sl ac kc cs)] (.start2 h1 h2) ?_
 (repeat (refine wE ?_; intro _)); refine wA ?_
 have hdig : kind = 0 ∨ kind = 1 → Xgb ⟨kind, ids, cs⟩ = (decide (ids.length ≤ 16) && Xc7 ids && decide (cs = [])) := fun h => if_pos h
 have hhav : kind = 2 → Xgb ⟨kind, ids, cs⟩ = (decide (ids = []) && decide (cs.length ≤ 6) && cs.all (fun c => may c && !merge c)) := by
  rintro rfl; rfl
 have hnil : decide (((cs.length : Nat) : Int) = 0) = decide (cs = []) := decide_eq_decide.2 ⟨fun h => List.eq_nil_of_length_eq_zero (by omega), fun h => by rw [h]; rfl⟩
 by_cases h0 : kind = 0
 ·rw [hdig (.inl h0)]
  refine JC.reslot 6 (.bool true) (by rw [decide_eq_true h0]) ?_
  refine wX ?_
  refine JO.test 13 (fun h3 => ?_) (fun h3 => ?_)
  ·have h3' : ids.length ≤ 16 := by omega
   refine wz6 ?_
   refine JR.callV rfl (fun w1 hw => Xkg w1 _ ai ki ids hw.get) ?_
   cases hr : Xc7 ids with
   | true =>
    refine wX ?_
    refine CT.dn () ?_
    simp only [Xac]
    rw [decide_eq_true h3', hnil]; rfl
   | false =>
    refine wz8 ?_
    refine CT.dn () ?_
    simp only [Xac]
    simp
  ·have h3' : ¬ ids.length ≤ 16 := by omega
   refine wz8 ?_
   refine CT.dn () ?_
   simp only [Xac]
   simp [h3']
 refine JC.reslot 6 (.bool false) (by rw [decide_eq_false h0]) ?_
 refine wX ?_
 refine JC.test (fun h0' => ?_) (fun h0' => ?_)
 ·rw [hdig (.inr h0')]
  refine wX ?_
  refine JO.test 13 (fun h3 => ?_) (fun h3 => ?_)
  ·have h3' : ids.length ≤ 16 := by omega
   refine wz6 ?_
   refine JR.callV rfl (fun w1 hw => Xkg w1 _ ai ki ids hw.get) ?_
   cases hr : Xc7 ids with
   | true =>
    refine wX ?_
    refine CT.dn () ?_
    simp only [Xac]
    rw [decide_eq_true h3', hnil]; rfl
   | false =>
    refine wz8 ?_
    refine CT.dn () ?_
    simp only [Xac]
    simp
  ·have h3' : ¬ ids.length ≤ 16 := by omega
   refine wz8 ?_
   refine CT.dn () ?_
   simp only [Xac]
   simp [h3']
 refine wz4 ?_
 refine JC.test (fun h2' => ?_) (fun h2' => ?_)
 ·rw [hhav h2']
  refine wX ?_
  refine JO.test 30 (fun h3 => ?_) (fun h3 => ?_)
  ·obtain rfl : ids = [] := List.eq_nil_of_length_eq_zero (by omega)
   refine wX ?_
   refine JO.test 36 (fun h4 => ?_) (fun h4 => ?_)
   ·have h4' : cs.length ≤ 6 := by omega
    refine wz6 ?_
    refine JR.callV rfl (fun w1 hw => Xdu w1 _ ac kc cs hw.get 99 [] (fun c => !may c || merge c) (fun w' G x a' q' hx _ hs => Xyx w' G x a' q' hs (hf x hx).1)) ?_
    refine wz8 ?_
    refine CT.dn () ?_
    simp only [Xac]
    have e9 : (fun c => !(!may c || merge c)) = (fun c => may c && !merge c) := by
     funext c
     cases may c <;> cases merge c <;> rfl
    simp only [h4', decide_true, Bool.true_and, List.not_any_eq_all_not, e9]
   ·have h4' : ¬ cs.length ≤ 6 := by omega
    refine wz8 ?_
    refine CT.dn () ?_
    simp only [Xac]
    simp [h4']
  ·have h3' : ids ≠ [] := by rintro rfl; exact h3 rfl
   refine wz8 ?_
   refine CT.dn () ?_
   simp only [Xac]
   simp [h3']
 ·refine wz12 ?_
  refine CT.dn () ?_
  simp only [Xac]
  have : Xgb ⟨kind, ids, cs⟩ = false := by
   unfold Xgb
   rw [if_neg (by rintro (h | h); exact h0 h; exact h0' h), if_neg h2']
  rw [this]
theorem Xfs (n : Nd) (y : Na) (h1 : (sl y.d y.dk n.disk).holds F w) (h2 : (sl y.l y.lk n.l).holds F w) (h3 : (sl y.w y.wk n.wait).holds F w) (hn : NdFew n) :
  Gives prog 35 [ndV n y] w F (fun z : Ma => .tuple ⟨[mgV (Xdn n).1 z, .int .i64 (Xdn n).2]⟩) (fun z => mgB (Xdn n).1 z) := by
 have hn' := hn
 obtain ⟨no, disk, room, l, wait, seq, up, peers, next, miss⟩ := n
 obtain ⟨ad, kd, al, kl, aw, kw, ap, kp⟩ := y
 dsimp only [ndV, ndC] at *
 have hln : l.length + wait.length ≤ 800 := hn.len
 refine Xaa func35 rfl ntmps35 rfl rfl [.st (sl ad kd disk), .st (sl al kl l), .st (sl aw kw wait)] (.start3 h1 h2 h3) ?_
 (repeat (refine wE ?_; intro _)); refine wA ?_
 rename_i bn b2
 refine JR.callV rfl (fun w1 hw => Xgh w1 _ ⟨no, disk, room, l, wait, seq, up, peers, next, miss⟩ ⟨ad, kd, al, kl, aw, kw, ap, kp⟩ hw.get hw.get hw.get hn.fw) ?_
 cases hm : Xdm ⟨no, disk, room, l, wait, seq, up, peers, next, miss⟩ with
 | false =>
  have e1 : Xdn ⟨no, disk, room, l, wait, seq, up, peers, next, miss⟩ = (mg0, 1) := if_neg (by rw [hm]; exact Bool.false_ne_true)
  rw [e1]
  dsimp only [mg0, List.length_nil]
  refine wz8 ?_
  refine Wf (OpV.build [.int .i64 0, .slice none 0 0, .slice none 0 0] (by kernel_rfl)) rfl ?_
  refine wX ?_
  exact CT.done (Y := Ma) ⟨none, 0, none, 0⟩ rfl (fun w ho => ((ho.add (A := sl (α := Commit) none 0 []) Xak).add (A := sl (α := ID) none 0 []) Xak).ent)
 | true =>
 cases up with
 | false =>
  have e1 : Xdn ⟨no, disk, room, l, wait, seq, false, peers, next, miss⟩ = (mg0, 6) := by unfold Xdn; rw [hm]; rfl
  rw [e1]
  dsimp only [mg0, List.length_nil]
  refine wX ?_
  refine Wf (OpV.build [.int .i64 0, .slice none 0 0, .slice none 0 0] (by kernel_rfl)) rfl ?_
  refine wX ?_
  exact CT.done (Y := Ma) ⟨none, 0, none, 0⟩ rfl (fun w ho => ((ho.add (A := sl (α := Commit) none 0 []) Xak).add (A := sl (α := ID) none 0 []) Xak).ent)
 | true =>
 have e1 : Xdn ⟨no, disk, room, l, wait, seq, true, peers, next, miss⟩ = (⟨0, frontF l, []⟩, 0) := by unfold Xdn; rw [hm]; rfl
 rw [e1]
 refine wX ?_
 refine JR.callSl rfl (fun w1 hw => Xrx w1 _ al kl l hw.get (by omega) hn.fl) ?_
 intro a3 k3
 refine wz13 ?_
 refine Wf (OpV.build [.int .i64 0, .slice a3 (frontF l).length k3, .slice none 0 0] (by kernel_rfl)) rfl ?_
 refine wz9 ?_
 exact CT.done (Y := Ma) ⟨a3, k3, none, 0⟩ rfl (fun w ho => (ho.add (A := sl (α := Commit) none 0 []) Xak).ent)
abbrev heC (n : Nd) (y : Na) (m : Mg) (z : Ma) (t : Bool) : List Value := [.int .i64 n.no, .slice y.d n.disk.length y.dk, .int .i64 n.room, .slice y.l n.l.length y.lk, .slice y.w n.wait.length y.wk, .int .i64 n.seq, .bool n.up, .slice y.p n.peers.length y.pk, .int .i64 n.next, .int .i64 n.miss, .int .i64 m.kind, .slice z.i m.ids.length z.ik, .slice z.c m.commits.length z.ck, .bool t]
section
variable {w0 w : World} {F : Nat → Prop} {Γ : List Fact} {bh : Nat}
theorem Xll (n : Nd) (y : Na) (l : List ID) (a : Option Addr) (k : Nat) (hl : l.length < 9223372036854775807) (ho : Hold w0 F (.own bh 112 (heC n y mg0 ma0 false) :: .st (sl a k l) :: Γ) w) :
  Calls prog 144 ⟨[.pointer (some ⟨bh, 0, none⟩), .slice a l.length k]⟩ w fun x w' => ∃ z : Ma, x = .returned (.tuple ⟨[]⟩) ∧ Hold w0 F (.own bh 112 (heC n y (Xbr l).1 z (Xbr l).2) :: .st (sl z.i z.ik (Xbr l).1.ids) :: .st (sl z.c z.ck (Xbr l).1.commits) :: Γ) w' := by
 refine Xbq (v := fun z : Ma => .tuple ⟨[]⟩) (B := fun z => .own bh 112 (heC n y (Xbr l).1 z (Xbr l).2) :: .st (sl z.i z.ik (Xbr l).1.ids) :: .st (sl z.c z.ck (Xbr l).1.commits) :: Γ) func144 rfl ntmps144 rfl rfl _ ho ?_
 rcases n with ⟨no, disk, room, l0, wait, seq, up, peers, next, miss⟩
 rcases y with ⟨ad, kd, al, kl, aw, kw, ap, kp⟩
 dsimp only [heC, mg0, ma0, List.length_nil]
 refine wz5 ?_
 by_cases h0 : l = []
 ·subst h0
  have e1 : Xbr [] = (mg0, false) := rfl
  rw [e1]
  dsimp only [mg0, List.length_nil]
  refine JR.reslot 7 (.bool false) rfl ?_
  refine Wf OpV.nilCheck rfl ?_
  refine wz9 ?_
  refine Wf OpV.nilCheck rfl ?_
  refine wA ?_
  exact Xde (Y := Ma) ⟨none, 0, none, 0⟩ rfl (fun w ho => ((ho.add (A := sl (α := Commit) none 0 []) Xak).add (A := sl (α := ID) none 0 []) Xak).ent)
 ·have hpos := List.length_pos_iff.2 h0
  have e1 : Xbr l = (⟨1, l.take 16, []⟩, true) := if_neg h0
  rw [e1]
  refine JR.reslot 7 (.bool true) (by congr 1; exact decide_eq_true (by omega)) ?_
  refine Wf OpV.nilCheck rfl ?_
  refine wz9 ?_
  refine Wf OpV.nilCheck rfl ?_
  refine wA ?_
  refine Wf OpV.min rfl ?_
  refine JO.reslot 18 (.int .i64 ((min l.length 16 : Nat) : Int)) (by congr 1; omega) ?_
  refine wz13 ?_
  refine Xh7 (L := l) (k := min l.length 16) rfl rfl (by omega) ?_
  intro a2 k2
  rw [show l.take (min l.length 16) = l.take 16 by rw [Nat.min_comm, ← List.take_take, List.take_length]]
  refine wz13 ?_
  refine Wf (OpV.build [.int .i64 1, .slice a2 (l.take 16).length k2, .slice none 0 0] (by kernel_rfl)) rfl ?_
  refine wz13 ?_
  refine Wf OpV.nilCheck rfl ?_
  refine wz9 ?_
  exact Xde (Y := Ma) ⟨a2, k2, none, 0⟩ rfl (fun w ho => (ho.add (A := sl (α := Commit) none 0 []) Xak).ent)
theorem Xlm (n : Nd) (y : Na) (l : List Commit) (a : Option Addr) (k : Nat) (hl : l.length < 9223372036854775807) (ho : Hold w0 F (.own bh 112 (heC n y mg0 ma0 false) :: .st (sl a k l) :: Γ) w) :
  Calls prog 145 ⟨[.pointer (some ⟨bh, 0, none⟩), .slice a l.length k]⟩ w fun x w' => ∃ z : Ma, x = .returned (.tuple ⟨[]⟩) ∧ Hold w0 F (.own bh 112 (heC n y (Xby l).1 z (Xby l).2) :: .st (sl z.i z.ik (Xby l).1.ids) :: .st (sl z.c z.ck (Xby l).1.commits) :: Γ) w' := by
 refine Xbq (v := fun z : Ma => .tuple ⟨[]⟩) (B := fun z => .own bh 112 (heC n y (Xby l).1 z (Xby l).2) :: .st (sl z.i z.ik (Xby l).1.ids) :: .st (sl z.c z.ck (Xby l).1.commits) :: Γ) func145 rfl ntmps145 rfl rfl _ ho ?_
 rcases n with ⟨no, disk, room, l0, wait, seq, up, peers, next, miss⟩
 rcases y with ⟨ad, kd, al, kl, aw, kw, ap, kp⟩
 dsimp only [heC, mg0, ma0, List.length_nil]
 refine wz5 ?_
 by_cases h0 : l = []
 ·subst h0
  have e1 : Xby [] = (mg0, false) := rfl
  rw [e1]
  dsimp only [mg0, List.length_nil]
  refine JR.reslot 7 (.bool false) rfl ?_
  refine Wf OpV.nilCheck rfl ?_
  refine wz9 ?_
  refine Wf OpV.nilCheck rfl ?_
  refine wA ?_
  exact Xde (Y := Ma) ⟨none, 0, none, 0⟩ rfl (fun w ho => ((ho.add (A := sl (α := Commit) none 0 []) Xak).add (A := sl (α := ID) none 0 []) Xak).ent)
 ·have hpos := List.length_pos_iff.2 h0
  have e1 : Xby l = (⟨2, [], l.take 6⟩, true) := if_neg h0
  rw [e1]
  refine JR.reslot 7 (.bool true) (by congr 1; exact decide_eq_true (by omega)) ?_
  refine Wf OpV.nilCheck rfl ?_
  refine wz9 ?_
  refine Wf OpV.nilCheck rfl ?_
  refine wA ?_
  refine Wf OpV.min rfl ?_
  refine JO.reslot 18 (.int .i64 ((min l.length 6 : Nat) : Int)) (by congr 1; omega) ?_
  refine wz13 ?_
  refine Xh7 (L := l) (k := min l.length 6) rfl rfl (by omega) ?_
  intro a2 k2
  rw [show l.take (min l.length 6) = l.take 6 by rw [Nat.min_comm, ← List.take_take, List.take_length]]
  refine wz13 ?_
  refine Wf (OpV.build [.int .i64 2, .slice none 0 0, .slice a2 (l.take 6).length k2] (by kernel_rfl)) rfl ?_
  refine wz13 ?_
  refine Wf OpV.nilCheck rfl ?_
  refine wz9 ?_
  exact Xde (Y := Ma) ⟨none, 0, a2, k2⟩ rfl (fun w ho => (ho.add (A := sl (α := ID) none 0 []) Xak).ent)
end
theorem Xit (L : List Commit) : (idsP L).length ≤ L.length := by
 unfold idsP; split
 ·rw [Xbp]; exact Nat.le_refl _
 ·exact Nat.zero_le _
theorem Xgi (L : List Commit) : (Xbf L).length ≤ L.length := by
 by_cases h : Closed L
 ·rw [(Xe7 h).length_eq]; exact Nat.le_refl _
 ·rw [(Xfq L).not h]; exact Nat.zero_le _
theorem Xgj {L : List Commit} (hf : ∀ x ∈ L, fine x) : ∀ x ∈ Xbf L, fine x := by
 intro x hx
 by_cases h : Closed L
 ·exact hf x ((Xe7 h).mem_iff.1 hx)
 ·rw [(Xfq L).not h] at hx; cases hx
theorem Xgk (L : List Commit) (A : List ID) : (partF L A).length ≤ L.length := by
 unfold partF; split
 ·exact List.length_filter_le _ _
 ·exact Nat.zero_le _
theorem Xoh (A B : List ID) (w : Bool) : (Xaw A B w).length ≤ A.length := by
 unfold Xaw
 rw [Xfz]
 exact Nat.le_trans (Xf1 _) (by unfold Xc8; exact List.length_filter_le _ _)
section
variable {w0 w : World} {F : Nat → Prop} {Γ : List Fact} {bh : Nat}
theorem Xoi (n : Nd) (y : Na) (m : Mg) (z : Ma) (hn : NdFew n) (hi : m.ids.length ≤ 1000) (ho : Hold w0 F (.own bh 112 (heC n y mg0 ma0 false) :: .st (sl y.d y.dk n.disk) :: .st (sl y.l y.lk n.l) :: .st (sl y.w y.wk n.wait) :: .st (sl y.p y.pk n.peers) :: .st (sl z.i z.ik m.ids) :: .st (sl z.c z.ck m.commits) :: Γ) w) :
  Calls prog 77 ⟨[.pointer (some ⟨bh, 0, none⟩), mgV m z]⟩ w fun x w' => ∃ q : Ma, x = .returned (.tuple ⟨[]⟩) ∧ Hold w0 F (.own bh 112 (heC n y (Xby (partF (Xbf n.l) m.ids)).1 q (Xby (partF (Xbf n.l) m.ids)).2) :: .st (sl q.i q.ik (Xby (partF (Xbf n.l) m.ids)).1.ids) :: .st (sl q.c q.ck (Xby (partF (Xbf n.l) m.ids)).1.commits) :: .st (sl y.d y.dk n.disk) :: .st (sl y.l y.lk n.l) :: .st (sl y.w y.wk n.wait) :: .st (sl y.p y.pk n.peers) :: Γ) w' := by
 refine Xbq (v := fun q : Ma => .tuple ⟨[]⟩) (B := fun q => .own bh 112 (heC n y (Xby (partF (Xbf n.l) m.ids)).1 q (Xby (partF (Xbf n.l) m.ids)).2) :: .st (sl q.i q.ik (Xby (partF (Xbf n.l) m.ids)).1.ids) :: .st (sl q.c q.ck (Xby (partF (Xbf n.l) m.ids)).1.commits) :: .st (sl y.d y.dk n.disk) :: .st (sl y.l y.lk n.l) :: .st (sl y.w y.wk n.wait) :: .st (sl y.p y.pk n.peers) :: Γ) func77 rfl ntmps77 rfl rfl _ ho ?_
 rcases n with ⟨no, disk, room, l, wait, seq, up, peers, next, miss⟩
 rcases y with ⟨ad, kd, al, kl, aw, kw, ap, kp⟩
 rcases m with ⟨kind, ids, cs⟩
 rcases z with ⟨ai, ki, ac, kc⟩
 obtain ⟨hfl, hfw, hdk, hln, hpl⟩ := hn
 dsimp only [mgV, mgC, heC, mg0, ma0, List.length_nil] at *
 (repeat (refine wE ?_; intro _)); refine wA ?_
 rename_i bm
 refine JC.drawP mixed ?_
 refine Xab 0 ?_
 refine Xab 1 ?_
 refine Xab 2 ?_
 refine Xab 3 ?_
 refine Xab 4 ?_
 refine JP.tv 5 [.own bh 112 [.int .i64 no, .slice ad disk.length kd, .int .i64 room, .slice al l.length kl, .slice aw wait.length kw, .int .i64 seq, .bool up, .slice ap peers.length kp, .int .i64 next, .int .i64 miss, .int .i64 0, .slice none 0 0, .slice none 0 0, .bool false]] ?_
 refine Xab 7 ?_
 refine JP.tv 8 [.own bm 52 [.int .i64 kind, .slice ai ids.length ki, .slice ac cs.length kc]] ?_
 refine Xal 6 rfl rfl (JR.callSl rfl (fun w1 hw => Xfo w1 _ al kl l (Xbf l) hw.get (by omega) hfl (Xfq l)) (fun a8 k8 => Wd (nO ?_)))
 refine Xal 9 rfl rfl (JR.callSl rfl (fun w1 hw => Xhw w1 _ a8 ai k8 ki (Xbf l) (partF (Xbf l) ids) ids hw.get hw.get (by have := Xgi l; omega) (Xgj hfl) (Xhu _ _)) (fun a9 k9 => Wd (nO ?_)))
 generalize hpart : partF (Xbf l) ids = part
 refine JP.more (Γ' := .own bh 112 [.int .i64 no, .slice ad disk.length kd, .int .i64 room, .slice al l.length kl, .slice aw wait.length kw, .int .i64 seq, .bool up, .slice ap peers.length kp, .int .i64 next, .int .i64 miss, .int .i64 0, .slice none 0 0, .slice none 0 0, .bool false] :: .st (sl a9 k9 part) :: .st (sl ad kd disk) :: .st (sl al kl l) :: .st (sl aw kw wait) :: .st (sl ap kp peers) :: Γ) (fun w1 ho => ho.ent) ?_
 refine Xal 10 rfl rfl (Xbi (v := fun q : Ma => .tuple ⟨[]⟩) (B := fun q => .own bh 112 (heC ⟨no, disk, room, l, wait, seq, up, peers, next, miss⟩ ⟨ad, kd, al, kl, aw, kw, ap, kp⟩ (Xby part).1 q (Xby part).2) :: .st (sl q.i q.ik (Xby part).1.ids) :: .st (sl q.c q.ck (Xby part).1.commits) :: .st (sl ad kd disk) :: .st (sl al kl l) :: .st (sl aw kw wait) :: .st (sl ap kp peers) :: Γ) rfl (fun w1 hw => Xlm ⟨no, disk, room, l, wait, seq, up, peers, next, miss⟩ ⟨ad, kd, al, kl, aw, kw, ap, kp⟩ part a9 k9 (by have := Xgk (Xbf l) ids; have := Xgi l; rw [hpart] at *; omega) hw) (fun q => Wd (nO ?_)))
 refine JP.nil (by kernel_rfl) ?_
 skip
 exact Xde q rfl (fun w ho => ho)
theorem Xoj (n : Nd) (y : Na) (m : Mg) (z : Ma) (hn : NdFew n) (hi : m.ids.length ≤ 1000) (ho : Hold w0 F (.own bh 112 (heC n y mg0 ma0 false) :: .st (sl y.d y.dk n.disk) :: .st (sl y.l y.lk n.l) :: .st (sl y.w y.wk n.wait) :: .st (sl y.p y.pk n.peers) :: .st (sl z.i z.ik m.ids) :: .st (sl z.c z.ck m.commits) :: Γ) w) :
  Calls prog 76 ⟨[.pointer (some ⟨bh, 0, none⟩), mgV m z]⟩ w fun x w' => ∃ q : Ma, x = .returned (.tuple ⟨[]⟩) ∧ Hold w0 F (.own bh 112 (heC n y (Xbx n.l m.ids).1 q (Xbx n.l m.ids).2) :: .st (sl q.i q.ik (Xbx n.l m.ids).1.ids) :: .st (sl q.c q.ck (Xbx n.l m.ids).1.commits) :: .st (sl y.d y.dk n.disk) :: .st (sl y.l y.lk n.l) :: .st (sl y.w y.wk n.wait) :: .st (sl y.p y.pk n.peers) :: Γ) w' := by
 refine Xbq (v := fun q : Ma => .tuple ⟨[]⟩) (B := fun q => .own bh 112 (heC n y (Xbx n.l m.ids).1 q (Xbx n.l m.ids).2) :: .st (sl q.i q.ik (Xbx n.l m.ids).1.ids) :: .st (sl q.c q.ck (Xbx n.l m.ids).1.commits) :: .st (sl y.d y.dk n.disk) :: .st (sl y.l y.lk n.l) :: .st (sl y.w y.wk n.wait) :: .st (sl y.p y.pk n.peers) :: Γ) func76 rfl ntmps76 rfl rfl _ ho ?_
 rcases n with ⟨no, disk, room, l, wait, seq, up, peers, next, miss⟩
 rcases y with ⟨ad, kd, al, kl, aw, kw, ap, kp⟩
 rcases m with ⟨kind, ids, cs⟩
 rcases z with ⟨ai, ki, ac, kc⟩
 obtain ⟨hfl, hfw, hdk, hln, hpl⟩ := hn
 dsimp only [mgV, mgC, heC, mg0, ma0, List.length_nil] at *
 (repeat (refine wE ?_; intro _)); refine wA ?_
 rename_i bm
 refine Wf OpV.nilCheck rfl ?_
 refine wz6 ?_
 refine JR.callBuf rfl (fun w1 hw => Xiq w1 _ al kl l hw.get (by omega) hfl) ?_
 intro a4 k4
 refine JO.more (fun w1 ho => ho.pub) ?_
 refine wz9 ?_
 refine JR.callBuf rfl (fun w1 hw => Xd8 w1 _ ai a4 ki k4 ids (idsP l) hw.get hw.get (by omega)) ?_
 intro a5 k5
 refine JO.more (fun w1 ho => ho.pub) ?_
 have hll := Xoh ids (idsP l) false
 have hdm : Xbx l ids = if Xaw ids (idsP l) false = [] then Xby (partF (Xbf l) (Xaw (idsP l) (ancF l ids) false)) else Xbr (Xaw ids (idsP l) false) := rfl
 generalize hleft : Xaw ids (idsP l) false = left at hll hdm
 refine wz5 ?_
 refine JC.test (fun h1 => ?_) (fun h1 => ?_)
 ·have hne : left ≠ [] := by rintro rfl; exact absurd h1 (by decide)
  rw [if_neg hne] at hdm
  rw [hdm]
  refine wz14 ?_
  refine JR.more (Γ' := .own bh 112 [.int .i64 no, .slice ad disk.length kd, .int .i64 room, .slice al l.length kl, .slice aw wait.length kw, .int .i64 seq, .bool up, .slice ap peers.length kp, .int .i64 next, .int .i64 miss, .int .i64 0, .slice none 0 0, .slice none 0 0, .bool false] :: .st (sl a5 k5 left) :: .st (sl ad kd disk) :: .st (sl al kl l) :: .st (sl aw kw wait) :: .st (sl ap kp peers) :: Γ) (fun w1 ho => ho.ent) ?_
  refine Xbi (v := fun q : Ma => .tuple ⟨[]⟩) (B := fun q => .own bh 112 (heC ⟨no, disk, room, l, wait, seq, up, peers, next, miss⟩ ⟨ad, kd, al, kl, aw, kw, ap, kp⟩ (Xbr left).1 q (Xbr left).2) :: .st (sl q.i q.ik (Xbr left).1.ids) :: .st (sl q.c q.ck (Xbr left).1.commits) :: .st (sl ad kd disk) :: .st (sl al kl l) :: .st (sl aw kw wait) :: .st (sl ap kp peers) :: Γ) rfl (fun w1 hw => Xll ⟨no, disk, room, l, wait, seq, up, peers, next, miss⟩ ⟨ad, kd, al, kl, aw, kw, ap, kp⟩ left a5 k5 (by omega) hw) ?_
  intro q
  refine wz9 ?_
  exact CT.done (Y := Ma) q rfl (fun w ho => ho)
 ·obtain rfl : left = [] := List.eq_nil_of_length_eq_zero (by omega)
  rw [if_pos rfl] at hdm
  rw [hdm]
  refine wz14 ?_
  refine JC.drawP mixed ?_
  refine Xab 0 ?_
  refine Xab 1 ?_
  refine Xab 2 ?_
  refine Xab 3 ?_
  refine Xab 4 ?_
  refine JP.tv 5 [.own bh 112 [.int .i64 no, .slice ad disk.length kd, .int .i64 room, .slice al l.length kl, .slice aw wait.length kw, .int .i64 seq, .bool up, .slice ap peers.length kp, .int .i64 next, .int .i64 miss, .int .i64 0, .slice none 0 0, .slice none 0 0, .bool false]] ?_
  refine Xab 6 ?_
  refine JP.tv 7 [.own bm 52 [.int .i64 kind, .slice ai ids.length ki, .slice ac cs.length kc]] ?_
  refine Xal 8 rfl rfl (JR.callSl rfl (fun w1 hw => Xw0 w1 _ al ai kl ki l ids (ancF l ids) hw.get hw.get (by omega) (by omega) hfl (Xk6 l ids)) (fun a6 k6 => Wd (nO ?_)))
  refine Xal 9 rfl rfl (JR.callBuf rfl (fun w1 hw => Xd8 w1 _ a4 a6 k4 k6 (idsP l) (ancF l ids) hw.get hw.get (by have := Xit l; omega)) (fun a7 k7 => Wd (nO ?_)))
  refine JP.more (fun w1 ho => ho.pub) ?_
  refine Xab 10 ?_
  refine JP.nil (by kernel_rfl) ?_
  generalize hmore : Xaw (idsP l) (ancF l ids) false = more
  refine wz14 ?_
  refine Wf OpV.nilCheck rfl ?_
  refine wz6 ?_
  refine JR.callSl rfl (fun w1 hw => Xfo w1 _ al kl l (Xbf l) hw.get (by omega) hfl (Xfq l)) ?_
  intro a8 k8
  refine wz6 ?_
  refine JR.callSl rfl (fun w1 hw => Xhw w1 _ a8 a7 k8 k7 (Xbf l) (partF (Xbf l) more) more hw.get hw.get (by have := Xgi l; omega) (Xgj hfl) (Xhu _ _)) ?_
  intro a9 k9
  generalize hpart : partF (Xbf l) more = part
  refine wz13 ?_
  refine JR.more (Γ' := .own bh 112 [.int .i64 no, .slice ad disk.length kd, .int .i64 room, .slice al l.length kl, .slice aw wait.length kw, .int .i64 seq, .bool up, .slice ap peers.length kp, .int .i64 next, .int .i64 miss, .int .i64 0, .slice none 0 0, .slice none 0 0, .bool false] :: .st (sl a9 k9 part) :: .st (sl ad kd disk) :: .st (sl al kl l) :: .st (sl aw kw wait) :: .st (sl ap kp peers) :: Γ) (fun w1 ho => ho.ent) ?_
  refine Xbi (v := fun q : Ma => .tuple ⟨[]⟩) (B := fun q => .own bh 112 (heC ⟨no, disk, room, l, wait, seq, up, peers, next, miss⟩ ⟨ad, kd, al, kl, aw, kw, ap, kp⟩ (Xby part).1 q (Xby part).2) :: .st (sl q.i q.ik (Xby part).1.ids) :: .st (sl q.c q.ck (Xby part).1.commits) :: .st (sl ad kd disk) :: .st (sl al kl l) :: .st (sl aw kw wait) :: .st (sl ap kp peers) :: Γ) rfl (fun w1 hw => Xlm ⟨no, disk, room, l, wait, seq, up, peers, next, miss⟩ ⟨ad, kd, al, kl, aw, kw, ap, kp⟩ part a9 k9 (by have := Xgk (Xbf l) more; have := Xgi l; rw [hpart] at *; omega) hw) ?_
  intro q
  refine wz10 ?_
  exact Xde q rfl (fun w ho => ho)
end
theorem Xm4 {N : Nat} : ∀ (f : Nat) {n : Nd}, NdOk N n → NdOk N (Xdt f n)
 | 0, n, h => h
 | f + 1, n, h => by
  unfold Xdt
  split
  ·rename_i hr
   exact Xm4 f (Xmz h (by rw [← hr]))
  ·exact h
theorem Xy2 {N : Nat} {n : Nd} {c : Commit} (h : NdOk N n) (hc : fine c) : NdOk (N + 1) (Xc1 n c) := by
 unfold Xc1
 split
 ·exact Xm4 _ (Xzi h hc)
 ·exact ⟨h.fl, h.fw, h.disk, h.room, by have := h.len; omega⟩
theorem Xs4 {N : Nat} {n : Nd} (h : NdOk N n) : ∀ (l : List Commit), (∀ c ∈ l, fine c) → NdOk (N + l.length) (l.foldl Xc1 n) := by
 intro l
 induction l generalizing n N with
 | nil => intro _; exact h
 | cons c l ih =>
  intro hl
  have := ih (Xy2 h (hl c (by simp))) (fun x hx => hl x (by simp [hx]))
  rw [List.foldl_cons, List.length_cons]
  exact (by rw [show N + (l.length + 1) = N + 1 + l.length by omega]; exact this)
theorem Xm5 {n : Nd} (h : Xdm n = true) : n.room ≤ 1048576 ∧ (n.disk.length : Int) ≤ n.room ∧ Xfp n.no n.room = true := by
 have h1 : Xfp n.no n.room = true := by
  cases hf : Xfp n.no n.room with
  | true => rfl
  | false => unfold Xdm at h; rw [hf] at h; cases h
 have h2 : ¬ n.room < (n.disk.length : Int) := by
  intro h2
  unfold Xdm at h
  rw [decide_eq_true h2, h1] at h
  cases h
 exact ⟨(Xlj h1).2.2.2, by omega, h1⟩
theorem Xus {w0 w : World} {F : Nat → Prop} {Γ : List Fact} {br : Nat} (n : Nd) (y : Na) (c : Commit) (a : Option Addr) (k : Nat) (hc : fine c) (hok : NdOk 899 n) (ho : Hold w0 F (.own br 136 (ndC n y) :: .res (buf y.l y.lk 29 n.l) :: .st (sl y.d y.dk n.disk) :: .st (sl y.w y.wk n.wait) :: .st (sl y.p y.pk n.peers) :: .st (sl a k c.parents) :: Γ) w) :
  Calls prog 106 ⟨[.pointer (some ⟨br, 0, none⟩), Xax c a k]⟩ w fun x w' => ∃ y' : Na, x = .returned (.tuple ⟨[]⟩) ∧ Hold w0 F (.own br 136 (ndC (Xc1 n c) y') :: .res (buf y'.l y'.lk 29 (Xc1 n c).l) :: .st (sl y'.d y'.dk (Xc1 n c).disk) :: .st (sl y'.w y'.wk (Xc1 n c).wait) :: .st (sl y'.p y'.pk (Xc1 n c).peers) :: Γ) w' := by
 have h := Xw6 n y c a k hc hok ho
 simp only [repF, List.cons_append, List.nil_append] at h
 exact h
theorem Xg2 (n : Nd) (y : Na) (L : List Commit) (a : Option Addr) (k : Nat) (h1 : (sl y.d y.dk n.disk).holds F w) (h2 : (sl y.l y.lk n.l).holds F w) (h3 : (sl y.w y.wk n.wait).holds F w) (h4 : (sl y.p y.pk n.peers).holds F w) (h5 : (sl a k L).holds F w) (hn : NdFew n)
  (hL : L.length ≤ 90) (hf : ∀ c ∈ L, fine c) :
  Gives prog 48 [ndV n y, .slice a L.length k] w F (fun z : Na => ndV (takeL n L) z) (fun z => ndB (takeL n L) z) := by
 refine Xaa func48 rfl ntmps48 rfl rfl (.st (sl a k L) :: ndB n y) ((Hold.start4 h1 h2 h3 h4).add (Asn.mono _ _ _ _ (fun k hk => ⟨.inl hk, by simp [free, Fact.owns]⟩) h5)) ?_
 have hn' := hn
 obtain ⟨no, disk, room, l, wait, seq, up, peers, next, miss⟩ := n
 obtain ⟨ad, kd, al, kl, aw, kw, ap, kp⟩ := y
 dsimp only [ndV, ndC, ndB] at *
 (repeat (refine wE ?_; intro _)); refine wA ?_
 rename_i bn b4
 refine JR.call (v := fun z : Nat × Na => .pointer (some ⟨z.1, 0, none⟩)) (B := fun z => repF z.1 ⟨no, disk, room, l, wait, seq, up, peers, next, miss⟩ z.2) rfl (fun w1 hw => Xw7 w1 _ ⟨no, disk, room, l, wait, seq, up, peers, next, miss⟩ ⟨ad, kd, al, kl, aw, kw, ap, kp⟩ hw.get hw.get hw.get hw.get hn) ?_
 rintro ⟨br, ⟨ad2, kd2, al2, kl2, aw2, kw2, ap2, kp2⟩⟩
 dsimp only [repF, ndC, List.cons_append, List.nil_append]
 refine wz9 ?_
 refine JR.callV rfl (fun w1 hw => Xgh w1 _ ⟨no, disk, room, l, wait, seq, up, peers, next, miss⟩ ⟨ad, kd, al, kl, aw, kw, ap, kp⟩ hw.get hw.get hw.get hn.fw) ?_
 cases hm : Xdm ⟨no, disk, room, l, wait, seq, up, peers, next, miss⟩ with
 | false =>
  have e1 : takeL ⟨no, disk, room, l, wait, seq, up, peers, next, miss⟩ L = ⟨no, disk, room, l, wait, seq, up, peers, next, miss⟩ := if_neg (by rw [hm]; exact Bool.false_ne_true)
  rw [e1]
  dsimp only
  refine wX ?_
  refine Wf OpV.nilCheck rfl ?_
  refine wz9 ?_
  exact CT.done (Y := Na) ⟨ad2, kd2, al2, kl2, aw2, kw2, ap2, kp2⟩ rfl (fun w ho => (ho.pubAt (L := l) al2 kl2).ent)
 | true =>
 cases up with
 | false =>
  have e1 : takeL ⟨no, disk, room, l, wait, seq, false, peers, next, miss⟩ L = ⟨no, disk, room, l, wait, seq, false, peers, next, miss⟩ := if_neg (by rw [hm]; exact Bool.false_ne_true)
  rw [e1]
  dsimp only
  refine wX ?_
  refine Wf OpV.nilCheck rfl ?_
  refine wz9 ?_
  exact CT.done (Y := Na) ⟨ad2, kd2, al2, kl2, aw2, kw2, ap2, kp2⟩ rfl (fun w ho => (ho.pubAt (L := l) al2 kl2).ent)
 | true =>
 have e1 : takeL ⟨no, disk, room, l, wait, seq, true, peers, next, miss⟩ L = L.foldl Xc1 ⟨no, disk, room, l, wait, seq, true, peers, next, miss⟩ := if_pos (by rw [hm]; rfl)
 rw [e1]
 have hrm := (Xm5 hm).1
 have hok0 : NdOk 800 ⟨no, disk, room, l, wait, seq, true, peers, next, miss⟩ := ⟨hn.fl, hn.fw, hn.disk, hrm, hn.len⟩
 generalize hn0 : (⟨no, disk, room, l, wait, seq, true, peers, next, miss⟩ : Nd) = n0 at hok0
 refine wz1 ?_
 refine JR.callBuf rfl (fun w1 hw => Xir w1 _ a k L hw.get (by omega) hf) ?_
 intro a3 k3
 refine JO.more (fun w1 ho => ho.pub) ?_
 refine wz4 ?_
 refine Xb7 (fun (j : Nat) (m : Nd) (z : Na) => [(4, .pointer (some ⟨b4, 0, none⟩)), (5, .pointer (some ⟨br, 0, none⟩)), (17, .slice a3 L.length k3), (18, .int .i64 (L.length : Int)), (19, .int .i64 (j : Int))])
  (fun j m z => .own br 136 (ndC m z) :: .res (buf z.l z.lk 29 m.l) :: .st (sl z.d z.dk m.disk) :: .st (sl z.w z.wk m.wait) :: .st (sl z.p z.pk m.peers) :: [.own b4 50 [.int .i64 0, .slice none 0 0, .int .i64 0, .slice none 0 0, .slice none 0 0, .int .i64 0, .bool false, .slice none 0 0, .int .i64 0, .int .i64 0], .st (sl a3 k3 L)])
  (fun j m z => j ≤ L.length ∧ m = (L.take j).foldl Xc1 n0) (fun j _ _ => L.length - j) 0 n0 ⟨ad2, kd2, al2, kl2, aw2, kw2, ap2, kp2⟩ ⟨Nat.zero_le _, rfl⟩ (by subst hn0; infer_instance) ?_
 rintro j m z ⟨hj, hmj⟩
 have hokm : NdOk (800 + (L.take j).length) m := by rw [hmj]; exact Xs4 hok0 _ (fun c hc => hf c (List.mem_of_mem_take hc))
 have htl : (L.take j).length ≤ 90 := by rw [List.length_take]; omega
 have hok9 : NdOk 899 m := ⟨hokm.fl, hokm.fw, hokm.disk, hokm.room, by have := hokm.len; omega⟩
 refine wz11 ?_
 refine JC.test (fun hlt => ?_) (fun hge => ?_)
 ·have hlt' : j < L.length := by omega
  refine wz14 ?_
  refine Xaj rfl hlt' ?_
  intro b5 o5 p5 q5
  (repeat (refine wE ?_; intro _)); refine wA ?_
  refine JR.more (Γ' := .own br 136 (ndC m z) :: .res (buf z.l z.lk 29 m.l) :: .st (sl z.d z.dk m.disk) :: .st (sl z.w z.wk m.wait) :: .st (sl z.p z.pk m.peers) :: .st (sl p5 q5 L[j].parents) :: [.own b4 50 [.int .i64 0, .slice none 0 0, .int .i64 0, .slice none 0 0, .slice none 0 0, .int .i64 0, .bool false, .slice none 0 0, .int .i64 0, .int .i64 0], .st (sl a3 k3 L)]) (fun w1 ho => ho.ent) ?_
  have hfj := hf _ (List.getElem_mem hlt')
  generalize hcj : L[j] = cj at hfj
  have hcall := fun (w1 : World) hw => Xus (w0 := w) (F := F) (w := w1) (br := br) (Γ := [.own b4 50 [.int .i64 0, .slice none 0 0, .int .i64 0, .slice none 0 0, .slice none 0 0, .int .i64 0, .bool false, .slice none 0 0, .int .i64 0, .int .i64 0], .st (sl a3 k3 L)]) m z cj p5 q5 hfj hok9 hw
  refine Xbi rfl hcall ?_
  subst hcj
  intro z2
  have hnext : Xc1 m L[j] = (L.take (j + 1)).foldl Xc1 n0 := by rw [List.take_succ_eq_append_getElem hlt', List.foldl_append, ← hmj]; rfl
  generalize Xc1 m L[j] = m2 at hnext
  refine wz2 ?_
  exact ⟨j + 1, m2, z2, ⟨by omega, hnext⟩, by omega, iI⟩
 ·obtain rfl : j = L.length := by omega
  rw [List.take_length] at hmj
  rw [← hmj]
  refine wz3 ?_
  refine Wf OpV.nilCheck rfl ?_
  refine wz9 ?_
  exact CT.done (Y := Na) z rfl (fun w ho => (ho.pubAt (L := m.l) z.l z.lk).ent)
theorem Xh1 : ∀ {L : List Commit}, (∀ c ∈ L, c.parents.length ≤ 1000) → (Xap L).length ≤ 1000 * L.length
 | [], _ => by simp [Xap]
 | c :: L, h => by
  have h1 := h c (by simp)
  have h2 := Xh1 (L := L) (fun x hx => h x (by simp [hx]))
  have h3 : Xap (c :: L) = c.parents ++ Xap L := by simp [Xap]
  rw [h3, List.length_append, List.length_cons]
  omega
theorem Xy3 (L : List Commit) (I : List ID) : (Xeu L I).length ≤ (Xap L).length := by
 unfold Xeu
 exact Xoh _ _ _
section
variable {P : Commit → Prop}
theorem Xi8 : ∀ (f : Nat) {n : Nd}, (∀ x ∈ n.wait, P x) → ∀ x ∈ (Xdt f n).wait, P x
 | 0, n, h => h
 | f + 1, n, h => by
  unfold Xdt
  split
  ·rename_i hr
   refine Xi8 f ?_
   rw [Xep]
   exact fun x hx => h x ((Xfr (L := n.wait) (rc := (Xar n.wait (idsP n.l)).1) (rl := (Xar n.wait (idsP n.l)).2.1) (H := idsP n.l) (by rw [← hr])).2.2.1 x hx)
  ·exact h
theorem Xut {n : Nd} {c : Commit} (h : ∀ x ∈ n.wait, P x) (hc : P c) : ∀ x ∈ (Xc1 n c).wait, P x := by
 unfold Xc1
 split
 ·refine Xi8 _ (fun x hx => ?_)
  rcases Xlk hx with hx | rfl
  ·exact h x hx
  ·exact hc
 ·exact h
theorem Xm6 : ∀ (l : List Commit) {n : Nd}, (∀ x ∈ n.wait, P x) → (∀ x ∈ l, P x) → ∀ x ∈ (l.foldl Xc1 n).wait, P x
 | [], n, h, _ => h
 | c :: l, n, h, hl => Xm6 l (Xut h (hl c (by simp))) (fun x hx => hl x (by simp [hx]))
theorem Xgl {n : Nd} {l : List Commit} (h : ∀ x ∈ n.wait, P x) (hl : ∀ x ∈ l, P x) : ∀ x ∈ (takeL n l).wait, P x := by
 unfold takeL
 split
 ·exact Xm6 l h hl
 ·exact h
end
theorem Xxd {n : Nd} {l : List Commit} (h : NdFew n) (hl : ∀ c ∈ l, fine c) : (∀ x ∈ (takeL n l).l, fine x) ∧ (∀ x ∈ (takeL n l).wait, fine x) ∧ (takeL n l).disk.length ≤ 1048576 ∧ (takeL n l).l.length + (takeL n l).wait.length ≤ 800 + l.length := by
 unfold takeL
 split
 ·rename_i hm
  have h1 : Xdm n = true := by simp only [Bool.and_eq_true] at hm; exact hm.1
  have h2 := Xs4 (N := 800) (n := n) ⟨h.fl, h.fw, h.disk, (Xm5 h1).1, h.len⟩ l hl
  exact ⟨h2.fl, h2.fw, h2.disk, h2.len⟩
 ·exact ⟨h.fl, h.fw, h.disk, by have := h.len; omega⟩
section
variable {w0 w : World} {F : Nat → Prop} {Γ : List Fact} {bh : Nat}
theorem Xqf (n : Nd) (y : Na) (m : Mg) (z : Ma) (hn : NdFew n) (hL : m.commits.length ≤ 90) (hfc : ∀ c ∈ m.commits, fine c) (hq : ∀ x ∈ n.wait, x.parents.length ≤ 1000) (hqc : ∀ x ∈ m.commits, x.parents.length ≤ 1000) (ho : Hold w0 F (.own bh 112 (heC n y mg0 ma0 false) :: .st (sl y.d y.dk n.disk) :: .st (sl y.l y.lk n.l) :: .st (sl y.w y.wk n.wait) :: .st (sl y.p y.pk n.peers) :: .st (sl z.i z.ik m.ids) :: .st (sl z.c z.ck m.commits) :: Γ) w) :
  Calls prog 78 ⟨[.pointer (some ⟨bh, 0, none⟩), mgV m z]⟩ w fun x w' => ∃ q : Na × Ma, x = .returned (.tuple ⟨[]⟩) ∧ Hold w0 F ((fun q => .own bh 112 (heC (takeL n m.commits) q.1 (Xbr (Xeu (takeL n m.commits).wait (idsP (takeL n m.commits).l))).1 q.2 (Xbr (Xeu (takeL n m.commits).wait (idsP (takeL n m.commits).l))).2) :: .st (sl q.2.i q.2.ik (Xbr (Xeu (takeL n m.commits).wait (idsP (takeL n m.commits).l))).1.ids) :: .st (sl q.2.c q.2.ck (Xbr (Xeu (takeL n m.commits).wait (idsP (takeL n m.commits).l))).1.commits) :: .st (sl q.1.d q.1.dk (takeL n m.commits).disk) :: .st (sl q.1.l q.1.lk (takeL n m.commits).l) :: .st (sl q.1.w q.1.wk (takeL n m.commits).wait) :: .st (sl q.1.p q.1.pk (takeL n m.commits).peers) :: Γ) q) w' := by
 refine Xbq (v := fun q : Na × Ma => .tuple ⟨[]⟩) (B := fun q => .own bh 112 (heC (takeL n m.commits) q.1 (Xbr (Xeu (takeL n m.commits).wait (idsP (takeL n m.commits).l))).1 q.2 (Xbr (Xeu (takeL n m.commits).wait (idsP (takeL n m.commits).l))).2) :: .st (sl q.2.i q.2.ik (Xbr (Xeu (takeL n m.commits).wait (idsP (takeL n m.commits).l))).1.ids) :: .st (sl q.2.c q.2.ck (Xbr (Xeu (takeL n m.commits).wait (idsP (takeL n m.commits).l))).1.commits) :: .st (sl q.1.d q.1.dk (takeL n m.commits).disk) :: .st (sl q.1.l q.1.lk (takeL n m.commits).l) :: .st (sl q.1.w q.1.wk (takeL n m.commits).wait) :: .st (sl q.1.p q.1.pk (takeL n m.commits).peers) :: Γ) func78 rfl ntmps78 rfl rfl _ ho ?_
 obtain ⟨hfl2, hfw2, hdk2, hln2⟩ := Xxd hn hfc
 have hpw := Xh1 (Xgl (P := fun x => x.parents.length ≤ 1000) (l := m.commits) hq hqc)
 rcases n with ⟨no, disk, room, l, wait, seq, up, peers, next, miss⟩
 rcases y with ⟨ad, kd, al, kl, aw, kw, ap, kp⟩
 rcases m with ⟨kind, ids, cs⟩
 rcases z with ⟨ai, ki, ac, kc⟩
 dsimp only [mgV, mgC, heC, mg0, ma0, List.length_nil] at *
 generalize hn2 : takeL ⟨no, disk, room, l, wait, seq, up, peers, next, miss⟩ cs = n2 at hfl2 hfw2 hdk2 hln2 hpw
 (repeat (refine wE ?_; intro _)); refine wA ?_
 rename_i bm
 refine JC.drawP mixed ?_
 refine Xab 0 ?_
 refine Xab 1 ?_
 refine Xab 2 ?_
 refine Xab 3 ?_
 refine JP.tv 4 [.own bh 112 [.int .i64 no, .slice ad disk.length kd, .int .i64 room, .slice al l.length kl, .slice aw wait.length kw, .int .i64 seq, .bool up, .slice ap peers.length kp, .int .i64 next, .int .i64 miss, .int .i64 0, .slice none 0 0, .slice none 0 0, .bool false]] ?_
 refine Xab 5 ?_
 refine JP.tv 6 [.own bm 52 [.int .i64 kind, .slice ai ids.length ki, .slice ac cs.length kc]] ?_
 refine Xal 7 rfl rfl (JR.call (v := fun z : Na => ndV n2 z) (B := fun z => ndB n2 z) rfl (fun w1 hw => by rw [← hn2]; exact Xg2 w1 _ ⟨no, disk, room, l, wait, seq, up, peers, next, miss⟩ ⟨ad, kd, al, kl, aw, kw, ap, kp⟩ cs ac kc hw.get hw.get hw.get hw.get hw.get hn (by omega) hfc) (fun z2 => Wd (nO ?_)))
 dsimp only [ndB, ndV, ndC, List.cons_append, List.nil_append]
 refine Xab 8 ?_
 refine Xab 9 ?_
 refine JP.reslot 13 (.pointer (some ⟨bh, 0, none⟩)) rfl ?_
 refine Xal 10 rfl rfl (Wi (Wd (nO ?_)))
 refine JP.nil (by kernel_rfl) ?_
 refine wz13 ?_
 refine JC.drawP mixed ?_
 refine Xab 0 ?_
 refine Xab 1 ?_
 refine Xab 2 ?_
 refine Xab 3 ?_
 refine Xab 4 ?_
 refine JP.tv 5 [.own bh 112 [.int .i64 n2.no, .slice z2.d n2.disk.length z2.dk, .int .i64 n2.room, .slice z2.l n2.l.length z2.lk, .slice z2.w n2.wait.length z2.wk, .int .i64 n2.seq, .bool n2.up, .slice z2.p n2.peers.length z2.pk, .int .i64 n2.next, .int .i64 n2.miss, .int .i64 0, .slice none 0 0, .slice none 0 0, .bool false]] ?_
 refine Xab 6 ?_
 refine Xab 7 ?_
 refine Xab 8 ?_
 refine Xab 9 ?_
 refine JP.tv 10 [.own bh 112 [.int .i64 n2.no, .slice z2.d n2.disk.length z2.dk, .int .i64 n2.room, .slice z2.l n2.l.length z2.lk, .slice z2.w n2.wait.length z2.wk, .int .i64 n2.seq, .bool n2.up, .slice z2.p n2.peers.length z2.pk, .int .i64 n2.next, .int .i64 n2.miss, .int .i64 0, .slice none 0 0, .slice none 0 0, .bool false]] ?_
 refine Xal 11 rfl rfl (JR.callBuf rfl (fun w1 hw => Xiq w1 _ z2.l z2.lk n2.l hw.get (by omega) hfl2) (fun a4 k4 => Wd (nO ?_)))
 refine JP.more (fun w1 ho => ho.pub) ?_
 refine Xal 12 rfl rfl (JR.callBuf rfl (fun w1 hw => Xpx w1 _ z2.w a4 z2.wk k4 n2.wait (idsP n2.l) hw.get hw.get (by have := Xit n2.l; omega) (by omega) hfw2) (fun a5 k5 => Wd (nO ?_)))
 refine JP.more (fun w1 ho => ho.pub) ?_
 generalize hms : Xeu n2.wait (idsP n2.l) = ms
 refine JP.more (Γ' := .own bh 112 [.int .i64 n2.no, .slice z2.d n2.disk.length z2.dk, .int .i64 n2.room, .slice z2.l n2.l.length z2.lk, .slice z2.w n2.wait.length z2.wk, .int .i64 n2.seq, .bool n2.up, .slice z2.p n2.peers.length z2.pk, .int .i64 n2.next, .int .i64 n2.miss, .int .i64 0, .slice none 0 0, .slice none 0 0, .bool false] :: .st (sl a5 k5 ms) :: .st (sl z2.d z2.dk n2.disk) :: .st (sl z2.l z2.lk n2.l) :: .st (sl z2.w z2.wk n2.wait) :: .st (sl z2.p z2.pk n2.peers) :: Γ) (fun w1 ho => ho.ent) ?_
 refine Xal 13 rfl rfl (Xbi (v := fun q : Ma => .tuple ⟨[]⟩) (B := fun q => .own bh 112 (heC n2 z2 (Xbr ms).1 q (Xbr ms).2) :: .st (sl q.i q.ik (Xbr ms).1.ids) :: .st (sl q.c q.ck (Xbr ms).1.commits) :: .st (sl z2.d z2.dk n2.disk) :: .st (sl z2.l z2.lk n2.l) :: .st (sl z2.w z2.wk n2.wait) :: .st (sl z2.p z2.pk n2.peers) :: Γ) rfl (fun w1 hw => Xll n2 z2 ms a5 k5 (by have := Xy3 n2.wait (idsP n2.l); rw [hms] at this; omega) hw) (fun q => Wd (nO ?_)))
 refine JP.nil (by kernel_rfl) ?_
 skip
 exact Xde (z2, q) rfl (fun w ho => ho)
end
end
end
section
variable {P : Program} {n : Nn} {w0 : World} {F : Nat → Prop} {ops : Array Oper} {i d : Nat} {t : TypeId} {pos : String} {aft : Array Edge} {g : Option (Nat × Bool)} {os : List Oper} {Q : Cont} {e : E} {Γ : List Fact}
theorem Xln [Dr] {f : Operand} {args : Array Operand} {ats : Array TypeId} {fid : FuncId} {firsts vs us : List Value} {Y : Type} {v : Y → Value} {B : Y → List Fact}
  [hf : Ev e f (.func (.func fid) ⟨firsts⟩ ⟨[]⟩)] [hv : ArgVs e args.toList vs] [hu : App firsts vs us] [hb : Body P fid] (hd : Nat.blt d n.s = true)
  (hg : ∀ w, Hold w0 F Γ w → Calls P fid ⟨us⟩ w fun x w' => ∃ y, x = .returned (v y) ∧ Hold w0 F (B y) w') (k : ∀ y, JO P n w0 F ops (i + 1) os Q ((d, v y) :: e) (B y)) :
  JR P n w0 F ops i ⟨some d, .call ⟨.value f, args, ats⟩, t, pos, aft, g⟩ os Q e Γ := by
 intro hdr a w fr ho
 unfold Oper.wp
 have e1 := hf.ok n a fr
 have e2 : args.map a.eval = ⟨vs⟩ := by apply Array.ext'; simp [hv.ok n a fr]
 have e0 : (resolve a.eval ⟨.value f, args, ats⟩ t).run P w = .ok ⟨.fn (.func fid) ⟨[]⟩, (⟨firsts⟩ : Array Value) ++ args.map a.eval⟩ w := by
  simp [resolve, e1, Deferred.ofValue]
 have e3 : (⟨firsts⟩ : Array Value) ++ (⟨vs⟩ : Array Value) ++ (⟨[]⟩ : Array Value) = ⟨us⟩ := by apply Array.ext'; simp [← hu.ok]
 have e4 : (execOp a.eval ⟨some d, .call ⟨.value f, args, ats⟩, t, pos, aft, g⟩).run P w = .ok (.enter fid ⟨us⟩) w := by
  simp only [execOp, Sem.run_bind, e0, Result.andThen_ok, invoke, e2, e3, hb.ok]
 rw [e4]
 refine Calls.mono (hg w ho) ?_
 rintro x w' ⟨y, rfl, ho'⟩
 exact k y (Xc3 hdr).2 _ w' (fr.put hd _) ho'
end
section
attribute [local irreducible] JC JO JR JQ andThen inBlock OpV Gives Xae JM JS
section
attribute [local irreducible] Xaq
theorem X1s {k : Int} {ids : List ID} {cs : List Commit} (h : Xgb ⟨k, ids, cs⟩ = true) (hk : k = 0 ∨ k = 1) : ids.length ≤ 16 := by
 unfold Xgb at h
 rw [if_pos hk] at h
 simp only [Bool.and_eq_true, decide_eq_true_eq] at h
 exact h.1.1
theorem X01 {k : Int} {ids : List ID} {cs : List Commit} (h : Xgb ⟨k, ids, cs⟩ = true) : k = 0 ∨ k = 1 ∨ k = 2 := by
 by_cases h0 : k = 0
 ·exact .inl h0
 by_cases h1 : k = 1
 ·exact .inr (.inl h1)
 by_cases h2 : k = 2
 ·exact .inr (.inr h2)
 unfold Xgb at h
 rw [if_neg (by rintro (h | h); exact h0 h; exact h1 h), if_neg h2] at h
 cases h
theorem Xok {n : Nd} {m : Mg} (h : (Xdm n && n.up && Xgb m) = false) : Xbc n m = (n, mg0, false) := if_neg (by rw [h]; exact Bool.false_ne_true)
theorem Xg3 (n : Nd) (y : Na) (m : Mg) (z : Ma) (h1 : (sl y.d y.dk n.disk).holds F w) (h2 : (sl y.l y.lk n.l).holds F w) (h3 : (sl y.w y.wk n.wait).holds F w) (h4 : (sl y.p y.pk n.peers).holds F w) (h5 : (sl z.i z.ik m.ids).holds F w) (h6 : (sl z.c z.ck m.commits).holds F w)
  (hn : NdFew n) (hcl : m.commits.length ≤ 90) (hfc : ∀ c ∈ m.commits, fine c) (hq : ∀ x ∈ n.wait, x.parents.length ≤ 1000) (hqc : ∀ x ∈ m.commits, x.parents.length ≤ 1000) :
  Gives prog 31 [ndV n y, mgV m z] w F (fun q : Na × Ma => .tuple ⟨[ndV (Xbc n m).1 q.1, mgV (Xbc n m).2.1 q.2, .bool (Xbc n m).2.2]⟩)
   (fun q => [.st (sl q.1.d q.1.dk (Xbc n m).1.disk), .st (sl q.1.l q.1.lk (Xbc n m).1.l), .st (sl q.1.w q.1.wk (Xbc n m).1.wait), .st (sl q.1.p q.1.pk (Xbc n m).1.peers), .st (sl q.2.i q.2.ik (Xbc n m).2.1.ids), .st (sl q.2.c q.2.ck (Xbc n m).2.1.commits)]) := by
 have hst := (Hold.start4 h1 h2 h3 h4).add (A := sl z.c z.ck m.commits) (Asn.mono _ _ _ _ (fun k hk => ⟨.inl hk, by simp [free, Fact.owns]⟩) h6)
 have hst := hst.add (A := sl z.i z.ik m.ids) (Asn.mono _ _ _ _ (fun k hk => ⟨.inl hk, by simp [free, Fact.owns]⟩) h5)
 have hn' := hn
 obtain ⟨no, disk, room, l, wait, seq, up, peers, next, miss⟩ := n
 obtain ⟨ad, kd, al, kl, aw, kw, ap, kp⟩ := y
 obtain ⟨kind, ids, cs⟩ := m
 obtain ⟨ai, ki, ac, kc⟩ := z
 dsimp only [ndV, ndC, mgV, mgC] at *
 refine Xaa func31 rfl ntmps31 rfl rfl _ hst ?_
 (repeat (refine wE ?_; intro _)); refine wA ?_
 rename_i bn bm b4 b5
 refine JR.call (v := fun z : Na => ndV ⟨no, disk, room, l, wait, seq, up, peers, next, miss⟩ z) (B := fun z => ndB ⟨no, disk, room, l, wait, seq, up, peers, next, miss⟩ z) rfl (fun w1 hw => Xm2 w1 _ ⟨no, disk, room, l, wait, seq, up, peers, next, miss⟩ ⟨ad, kd, al, kl, aw, kw, ap, kp⟩ hw.get hw.get hw.get hw.get hn) ?_
 rintro ⟨ad2, kd2, al2, kl2, aw2, kw2, ap2, kp2⟩
 dsimp only [ndB, ndV, ndC, List.cons_append, List.nil_append]
 refine wz13 ?_
 refine Wf (OpV.build [.int .i64 no, .slice ad2 disk.length kd2, .int .i64 room, .slice al2 l.length kl2, .slice aw2 wait.length kw2, .int .i64 seq, .bool up, .slice ap2 peers.length kp2, .int .i64 next, .int .i64 miss, .int .i64 0, .slice none 0 0, .slice none 0 0, .bool false] (by kernel_rfl)) rfl ?_
 (repeat (refine wE ?_; intro _)); refine wA ?_
 rename_i bh
 refine JR.callV rfl (fun w1 hw => Xgh w1 _ ⟨no, disk, room, l, wait, seq, up, peers, next, miss⟩ ⟨ad, kd, al, kl, aw, kw, ap, kp⟩ hw.get hw.get hw.get hn.fw) ?_
 cases hm : Xdm ⟨no, disk, room, l, wait, seq, up, peers, next, miss⟩ with
 | false =>
  have hx := hm
  rw [Xok (by rw [hx]; simp)]
  dsimp only [mg0, List.length_nil]
  refine wz8 ?_
  refine Wf OpV.nilCheck rfl ?_
  refine wz6 ?_
  refine Wf (OpV.build [.int .i64 0, .slice none 0 0, .slice none 0 0] (by kernel_rfl)) rfl ?_
  refine wz9 ?_
  exact CT.done (Y := Na × Ma) (⟨ad2, kd2, al2, kl2, aw2, kw2, ap2, kp2⟩, ⟨none, 0, none, 0⟩) rfl (fun w ho => ((ho.add (A := sl (α := Commit) none 0 []) Xak).add (A := sl (α := ID) none 0 []) Xak).ent)
 | true =>
 cases up with
 | false =>
  have hx := hm
  rw [Xok (by rw [hx]; simp)]
  dsimp only [mg0, List.length_nil]
  refine wz1 ?_
  refine Wf OpV.nilCheck rfl ?_
  refine wz6 ?_
  refine Wf (OpV.build [.int .i64 0, .slice none 0 0, .slice none 0 0] (by kernel_rfl)) rfl ?_
  refine wz9 ?_
  exact CT.done (Y := Na × Ma) (⟨ad2, kd2, al2, kl2, aw2, kw2, ap2, kp2⟩, ⟨none, 0, none, 0⟩) rfl (fun w ho => ((ho.add (A := sl (α := Commit) none 0 []) Xak).add (A := sl (α := ID) none 0 []) Xak).ent)
 | true =>
 refine wz1 ?_
 refine JR.callV rfl (fun w1 hw => X00 w1 _ ⟨kind, ids, cs⟩ ⟨ai, ki, ac, kc⟩ hw.get hw.get hfc) ?_
 cases hmm : Xgb ⟨kind, ids, cs⟩ with
 | false =>
  have hx := hmm
  rw [Xok (by rw [hx]; simp)]
  dsimp only [mg0, List.length_nil]
  refine wz8 ?_
  refine Wf OpV.nilCheck rfl ?_
  refine wz6 ?_
  refine Wf (OpV.build [.int .i64 0, .slice none 0 0, .slice none 0 0] (by kernel_rfl)) rfl ?_
  refine wz9 ?_
  exact CT.done (Y := Na × Ma) (⟨ad2, kd2, al2, kl2, aw2, kw2, ap2, kp2⟩, ⟨none, 0, none, 0⟩) rfl (fun w ho => ((ho.add (A := sl (α := Commit) none 0 []) Xak).add (A := sl (α := ID) none 0 []) Xak).ent)
 | true =>
 have hn1 : NdFew ⟨no, disk, room, l, wait, seq, true, peers, next, 0⟩ := ⟨hn'.fl, hn'.fw, hn'.disk, hn'.len, hn'.peers⟩
 refine wz7 ?_
 refine Wf OpV.nilCheck rfl ?_
 refine wz9 ?_
 refine JR.makeMap intV rfl ?_
 intro mk
 refine wA ?_
 refine JR.insert (M := []) (0 : Int) List.nodup_nil rfl ?_
 dsimp only [List.nil_append, List.length_cons, List.length_nil]
 refine wA ?_
 refine JR.insert (M := [((0 : Int), _)]) (1 : Int) (by show ([0] : List Int).Nodup; decide) rfl ?_
 dsimp only [List.nil_append, List.cons_append, List.length_cons, List.length_nil]
 refine wA ?_
 refine JR.insert (M := [((0 : Int), _), ((1 : Int), _)]) (2 : Int) (by show ([0, 1] : List Int).Nodup; decide) rfl ?_
 dsimp only [List.nil_append, List.cons_append, List.length_cons, List.length_nil]
 refine wz6 ?_
 rcases X01 hmm with hk | hk | hk
 ·obtain rfl : kind = 0 := hk
  refine Wf (Xbt (M := [((0 : Int), .func (.func 76) ⟨[.pointer (some ⟨bh, 0, none⟩)]⟩ ⟨[]⟩), ((1 : Int), .func (.func 77) ⟨[.pointer (some ⟨bh, 0, none⟩)]⟩ ⟨[]⟩), ((2 : Int), .func (.func 78) ⟨[.pointer (some ⟨bh, 0, none⟩)]⟩ ⟨[]⟩)]) (v := .func (.func 76) ⟨[.pointer (some ⟨bh, 0, none⟩)]⟩ ⟨[]⟩) (0 : Int) (by show ([0, 1, 2] : List Int).Nodup; decide) rfl) rfl ?_
  refine wz9 ?_
  have e9 : Xbc ⟨no, disk, room, l, wait, seq, true, peers, next, miss⟩ ⟨0, ids, cs⟩ = (⟨no, disk, room, l, wait, seq, true, peers, next, 0⟩, Xbx l ids) := by unfold Xbc; rw [hm, hmm]; rfl
  rw [e9]
  generalize hD : Xbx l ids = D
  refine JR.more (Γ' := .own bh 112 [.int .i64 no, .slice ad2 disk.length kd2, .int .i64 room, .slice al2 l.length kl2, .slice aw2 wait.length kw2, .int .i64 seq, .bool true, .slice ap2 peers.length kp2, .int .i64 next, .int .i64 0, .int .i64 0, .slice none 0 0, .slice none 0 0, .bool false] :: .st (sl ad2 kd2 disk) :: .st (sl al2 kl2 l) :: .st (sl aw2 kw2 wait) :: .st (sl ap2 kp2 peers) :: .st (sl ai ki ids) :: .st (sl ac kc cs) :: [.own b4 50 [.int .i64 0, .slice none 0 0, .int .i64 0, .slice none 0 0, .slice none 0 0, .int .i64 0, .bool false, .slice none 0 0, .int .i64 0, .int .i64 0], .own b5 52 [.int .i64 0, .slice none 0 0, .slice none 0 0]]) (fun w1 ho => ho.ent) ?_
  refine Xln (v := fun _ => .tuple ⟨[]⟩) (B := fun q : Ma => .own bh 112 (heC ⟨no, disk, room, l, wait, seq, true, peers, next, 0⟩ ⟨ad2, kd2, al2, kl2, aw2, kw2, ap2, kp2⟩ D.1 q D.2) :: .st (sl q.i q.ik D.1.ids) :: .st (sl q.c q.ck D.1.commits) :: .st (sl ad2 kd2 disk) :: .st (sl al2 kl2 l) :: .st (sl aw2 kw2 wait) :: .st (sl ap2 kp2 peers) :: [.own b4 50 [.int .i64 0, .slice none 0 0, .int .i64 0, .slice none 0 0, .slice none 0 0, .int .i64 0, .bool false, .slice none 0 0, .int .i64 0, .int .i64 0], .own b5 52 [.int .i64 0, .slice none 0 0, .slice none 0 0]]) rfl (fun w1 hw => by have h9 := Xoj ⟨no, disk, room, l, wait, seq, true, peers, next, 0⟩ ⟨ad2, kd2, al2, kl2, aw2, kw2, ap2, kp2⟩ ⟨0, ids, cs⟩ ⟨ai, ki, ac, kc⟩ hn1 (by have := X1s hmm (.inl rfl); show ids.length ≤ 1000; omega) hw; rw [hD] at h9; exact h9) ?_
  intro q
  refine wz10 ?_
  refine JC.drawP mixed ?_
  refine Xab 0 ?_
  refine Xab 1 ?_
  refine Xab 2 ?_
  refine JP.tv 3 [.own bh 112 [.int .i64 no, .slice ad2 disk.length kd2, .int .i64 room, .slice al2 l.length kl2, .slice aw2 wait.length kw2, .int .i64 seq, .bool true, .slice ap2 peers.length kp2, .int .i64 next, .int .i64 0, .int .i64 D.1.kind, .slice q.i D.1.ids.length q.ik, .slice q.c D.1.commits.length q.ck, .bool D.2]] ?_
  refine Xab 4 ?_
  refine Xab 5 ?_
  refine Xab 6 ?_
  refine JP.tv 7 [.own bh 112 [.int .i64 no, .slice ad2 disk.length kd2, .int .i64 room, .slice al2 l.length kl2, .slice aw2 wait.length kw2, .int .i64 seq, .bool true, .slice ap2 peers.length kp2, .int .i64 next, .int .i64 0, .int .i64 D.1.kind, .slice q.i D.1.ids.length q.ik, .slice q.c D.1.commits.length q.ck, .bool D.2]] ?_
  refine Xab 8 ?_
  refine Xab 9 ?_
  refine Xab 10 ?_
  refine JP.tv 11 [.own bh 112 [.int .i64 no, .slice ad2 disk.length kd2, .int .i64 room, .slice al2 l.length kl2, .slice aw2 wait.length kw2, .int .i64 seq, .bool true, .slice ap2 peers.length kp2, .int .i64 next, .int .i64 0, .int .i64 D.1.kind, .slice q.i D.1.ids.length q.ik, .slice q.c D.1.commits.length q.ck, .bool D.2]] ?_
  refine Xal 12 rfl rfl (Wi (Wd (nO ?_)))
  refine Xal 13 rfl rfl (Wi (Wd (nO ?_)))
  refine Xab 14 ?_
  refine JP.nil (by kernel_rfl) ?_
  refine wz13 ?_
  exact CT.dn (Y := Na × Ma) (⟨ad2, kd2, al2, kl2, aw2, kw2, ap2, kp2⟩, q) rfl
 ·obtain rfl : kind = 1 := hk
  refine Wf (Xbt (M := [((0 : Int), .func (.func 76) ⟨[.pointer (some ⟨bh, 0, none⟩)]⟩ ⟨[]⟩), ((1 : Int), .func (.func 77) ⟨[.pointer (some ⟨bh, 0, none⟩)]⟩ ⟨[]⟩), ((2 : Int), .func (.func 78) ⟨[.pointer (some ⟨bh, 0, none⟩)]⟩ ⟨[]⟩)]) (v := .func (.func 77) ⟨[.pointer (some ⟨bh, 0, none⟩)]⟩ ⟨[]⟩) (1 : Int) (by show ([0, 1, 2] : List Int).Nodup; decide) rfl) rfl ?_
  refine wz9 ?_
  have e9 : Xbc ⟨no, disk, room, l, wait, seq, true, peers, next, miss⟩ ⟨1, ids, cs⟩ = (⟨no, disk, room, l, wait, seq, true, peers, next, 0⟩, Xby (partF (Xbf l) ids)) := by unfold Xbc; rw [hm, hmm]; rfl
  rw [e9]
  generalize hD : Xby (partF (Xbf l) ids) = D
  refine JR.more (Γ' := .own bh 112 [.int .i64 no, .slice ad2 disk.length kd2, .int .i64 room, .slice al2 l.length kl2, .slice aw2 wait.length kw2, .int .i64 seq, .bool true, .slice ap2 peers.length kp2, .int .i64 next, .int .i64 0, .int .i64 0, .slice none 0 0, .slice none 0 0, .bool false] :: .st (sl ad2 kd2 disk) :: .st (sl al2 kl2 l) :: .st (sl aw2 kw2 wait) :: .st (sl ap2 kp2 peers) :: .st (sl ai ki ids) :: .st (sl ac kc cs) :: [.own b4 50 [.int .i64 0, .slice none 0 0, .int .i64 0, .slice none 0 0, .slice none 0 0, .int .i64 0, .bool false, .slice none 0 0, .int .i64 0, .int .i64 0], .own b5 52 [.int .i64 0, .slice none 0 0, .slice none 0 0]]) (fun w1 ho => ho.ent) ?_
  refine Xln (v := fun _ => .tuple ⟨[]⟩) (B := fun q : Ma => .own bh 112 (heC ⟨no, disk, room, l, wait, seq, true, peers, next, 0⟩ ⟨ad2, kd2, al2, kl2, aw2, kw2, ap2, kp2⟩ D.1 q D.2) :: .st (sl q.i q.ik D.1.ids) :: .st (sl q.c q.ck D.1.commits) :: .st (sl ad2 kd2 disk) :: .st (sl al2 kl2 l) :: .st (sl aw2 kw2 wait) :: .st (sl ap2 kp2 peers) :: [.own b4 50 [.int .i64 0, .slice none 0 0, .int .i64 0, .slice none 0 0, .slice none 0 0, .int .i64 0, .bool false, .slice none 0 0, .int .i64 0, .int .i64 0], .own b5 52 [.int .i64 0, .slice none 0 0, .slice none 0 0]]) rfl (fun w1 hw => by have h9 := Xoi ⟨no, disk, room, l, wait, seq, true, peers, next, 0⟩ ⟨ad2, kd2, al2, kl2, aw2, kw2, ap2, kp2⟩ ⟨1, ids, cs⟩ ⟨ai, ki, ac, kc⟩ hn1 (by have := X1s hmm (.inr rfl); show ids.length ≤ 1000; omega) hw; rw [hD] at h9; exact h9) ?_
  intro q
  refine wz10 ?_
  refine JC.drawP mixed ?_
  refine Xab 0 ?_
  refine Xab 1 ?_
  refine Xab 2 ?_
  refine JP.tv 3 [.own bh 112 [.int .i64 no, .slice ad2 disk.length kd2, .int .i64 room, .slice al2 l.length kl2, .slice aw2 wait.length kw2, .int .i64 seq, .bool true, .slice ap2 peers.length kp2, .int .i64 next, .int .i64 0, .int .i64 D.1.kind, .slice q.i D.1.ids.length q.ik, .slice q.c D.1.commits.length q.ck, .bool D.2]] ?_
  refine Xab 4 ?_
  refine Xab 5 ?_
  refine Xab 6 ?_
  refine JP.tv 7 [.own bh 112 [.int .i64 no, .slice ad2 disk.length kd2, .int .i64 room, .slice al2 l.length kl2, .slice aw2 wait.length kw2, .int .i64 seq, .bool true, .slice ap2 peers.length kp2, .int .i64 next, .int .i64 0, .int .i64 D.1.kind, .slice q.i D.1.ids.length q.ik, .slice q.c D.1.commits.length q.ck, .bool D.2]] ?_
  refine Xab 8 ?_
  refine Xab 9 ?_
  refine Xab 10 ?_
  refine JP.tv 11 [.own bh 112 [.int .i64 no, .slice ad2 disk.length kd2, .int .i64 room, .slice al2 l.length kl2, .slice aw2 wait.length kw2, .int .i64 seq, .bool true, .slice ap2 peers.length kp2, .int .i64 next, .int .i64 0, .int .i64 D.1.kind, .slice q.i D.1.ids.length q.ik, .slice q.c D.1.commits.length q.ck, .bool D.2]] ?_
  refine Xal 12 rfl rfl (Wi (Wd (nO ?_)))
  refine Xal 13 rfl rfl (Wi (Wd (nO ?_)))
  refine Xab 14 ?_
  refine JP.nil (by kernel_rfl) ?_
  refine wz13 ?_
  exact CT.dn (Y := Na × Ma) (⟨ad2, kd2, al2, kl2, aw2, kw2, ap2, kp2⟩, q) rfl
 ·obtain rfl : kind = 2 := hk
  refine Wf (Xbt (M := [((0 : Int), .func (.func 76) ⟨[.pointer (some ⟨bh, 0, none⟩)]⟩ ⟨[]⟩), ((1 : Int), .func (.func 77) ⟨[.pointer (some ⟨bh, 0, none⟩)]⟩ ⟨[]⟩), ((2 : Int), .func (.func 78) ⟨[.pointer (some ⟨bh, 0, none⟩)]⟩ ⟨[]⟩)]) (v := .func (.func 78) ⟨[.pointer (some ⟨bh, 0, none⟩)]⟩ ⟨[]⟩) (2 : Int) (by show ([0, 1, 2] : List Int).Nodup; decide) rfl) rfl ?_
  refine wz9 ?_
  have e9 : Xbc ⟨no, disk, room, l, wait, seq, true, peers, next, miss⟩ ⟨2, ids, cs⟩ = (takeL ⟨no, disk, room, l, wait, seq, true, peers, next, 0⟩ cs, Xbr (Xeu (takeL ⟨no, disk, room, l, wait, seq, true, peers, next, 0⟩ cs).wait (idsP (takeL ⟨no, disk, room, l, wait, seq, true, peers, next, 0⟩ cs).l))) := by unfold Xbc; rw [hm, hmm]; rfl
  rw [e9]
  generalize hn2 : takeL ⟨no, disk, room, l, wait, seq, true, peers, next, 0⟩ cs = n2
  generalize hD : Xbr (Xeu n2.wait (idsP n2.l)) = D
  refine JR.more (Γ' := .own bh 112 [.int .i64 no, .slice ad2 disk.length kd2, .int .i64 room, .slice al2 l.length kl2, .slice aw2 wait.length kw2, .int .i64 seq, .bool true, .slice ap2 peers.length kp2, .int .i64 next, .int .i64 0, .int .i64 0, .slice none 0 0, .slice none 0 0, .bool false] :: .st (sl ad2 kd2 disk) :: .st (sl al2 kl2 l) :: .st (sl aw2 kw2 wait) :: .st (sl ap2 kp2 peers) :: .st (sl ai ki ids) :: .st (sl ac kc cs) :: [.own b4 50 [.int .i64 0, .slice none 0 0, .int .i64 0, .slice none 0 0, .slice none 0 0, .int .i64 0, .bool false, .slice none 0 0, .int .i64 0, .int .i64 0], .own b5 52 [.int .i64 0, .slice none 0 0, .slice none 0 0]]) (fun w1 ho => ho.ent) ?_
  refine Xln (v := fun _ => .tuple ⟨[]⟩) (B := fun q : Na × Ma => .own bh 112 (heC n2 q.1 D.1 q.2 D.2) :: .st (sl q.2.i q.2.ik D.1.ids) :: .st (sl q.2.c q.2.ck D.1.commits) :: .st (sl q.1.d q.1.dk n2.disk) :: .st (sl q.1.l q.1.lk n2.l) :: .st (sl q.1.w q.1.wk n2.wait) :: .st (sl q.1.p q.1.pk n2.peers) :: [.own b4 50 [.int .i64 0, .slice none 0 0, .int .i64 0, .slice none 0 0, .slice none 0 0, .int .i64 0, .bool false, .slice none 0 0, .int .i64 0, .int .i64 0], .own b5 52 [.int .i64 0, .slice none 0 0, .slice none 0 0]]) rfl (fun w1 hw => by have h9 := Xqf ⟨no, disk, room, l, wait, seq, true, peers, next, 0⟩ ⟨ad2, kd2, al2, kl2, aw2, kw2, ap2, kp2⟩ ⟨2, ids, cs⟩ ⟨ai, ki, ac, kc⟩ hn1 hcl hfc hq hqc hw; dsimp only at h9; rw [hn2, hD] at h9; exact h9) ?_
  intro q
  refine wz10 ?_
  refine JC.drawP mixed ?_
  refine Xab 0 ?_
  refine Xab 1 ?_
  refine Xab 2 ?_
  refine JP.tv 3 [.own bh 112 [.int .i64 n2.no, .slice q.1.d n2.disk.length q.1.dk, .int .i64 n2.room, .slice q.1.l n2.l.length q.1.lk, .slice q.1.w n2.wait.length q.1.wk, .int .i64 n2.seq, .bool n2.up, .slice q.1.p n2.peers.length q.1.pk, .int .i64 n2.next, .int .i64 n2.miss, .int .i64 D.1.kind, .slice q.2.i D.1.ids.length q.2.ik, .slice q.2.c D.1.commits.length q.2.ck, .bool D.2]] ?_
  refine Xab 4 ?_
  refine Xab 5 ?_
  refine Xab 6 ?_
  refine JP.tv 7 [.own bh 112 [.int .i64 n2.no, .slice q.1.d n2.disk.length q.1.dk, .int .i64 n2.room, .slice q.1.l n2.l.length q.1.lk, .slice q.1.w n2.wait.length q.1.wk, .int .i64 n2.seq, .bool n2.up, .slice q.1.p n2.peers.length q.1.pk, .int .i64 n2.next, .int .i64 n2.miss, .int .i64 D.1.kind, .slice q.2.i D.1.ids.length q.2.ik, .slice q.2.c D.1.commits.length q.2.ck, .bool D.2]] ?_
  refine Xab 8 ?_
  refine Xab 9 ?_
  refine Xab 10 ?_
  refine JP.tv 11 [.own bh 112 [.int .i64 n2.no, .slice q.1.d n2.disk.length q.1.dk, .int .i64 n2.room, .slice q.1.l n2.l.length q.1.lk, .slice q.1.w n2.wait.length q.1.wk, .int .i64 n2.seq, .bool n2.up, .slice q.1.p n2.peers.length q.1.pk, .int .i64 n2.next, .int .i64 n2.miss, .int .i64 D.1.kind, .slice q.2.i D.1.ids.length q.2.ik, .slice q.2.c D.1.commits.length q.2.ck, .bool D.2]] ?_
  refine Xal 12 rfl rfl (Wi (Wd (nO ?_)))
  refine Xal 13 rfl rfl (Wi (Wd (nO ?_)))
  refine Xab 14 ?_
  refine JP.nil (by kernel_rfl) ?_
  refine wz13 ?_
  exact CT.dn (Y := Na × Ma) q rfl
noncomputable def tickW (n : Nd) (now : Int) (x : UInt32) : Nd × Int × Mg × Bool × UInt32 :=
 if (Xdn n).2 = 0 ∧ n.next ≤ now ∧ n.peers ≠ [] then
  ({ n with next := now + Xoe n.miss, miss := IntKind.i64.wrap (min n.miss 5 + 1) }, n.peers.getD ((Xl4 x).toNat % n.peers.length) 0, (Xdn n).1, true, Xl4 x)
 else (n, 0, mg0, false, x)
theorem Xol {n : Nd} {now : Int} {x : UInt32} (h : ¬ ((Xdn n).2 = 0 ∧ n.next ≤ now ∧ n.peers ≠ [])) : tickW n now x = (n, 0, mg0, false, x) := if_neg h
theorem Xy4 (m : Int) : 1 ≤ Xoe m ∧ Xoe m ≤ 64 := by
 unfold Xoe
 have h1 : (min (max m 0) 6).toNat ≤ 6 := by omega
 generalize (min (max m 0) 6).toNat = k at h1
 have h3 : k = 0 ∨ k = 1 ∨ k = 2 ∨ k = 3 ∨ k = 4 ∨ k = 5 ∨ k = 6 := by omega
 rcases h3 with rfl | rfl | rfl | rfl | rfl | rfl | rfl <;> decide
theorem Xr7 (n : Nd) (y : Na) (now : Int) (x : UInt32) (h1 : (sl y.d y.dk n.disk).holds F w) (h2 : (sl y.l y.lk n.l).holds F w) (h3 : (sl y.w y.wk n.wait).holds F w) (h4 : (sl y.p y.pk n.peers).holds F w)
  (hn : NdFew n) (hnow : -4611686018427387904 ≤ now ∧ now ≤ 4611686018427387904) :
  Gives prog 37 [ndV n y, .int .i64 now, w32 x] w F (fun q : Na × Ma => .tuple ⟨[ndV (tickW n now x).1 q.1, .int .i64 (tickW n now x).2.1, mgV (tickW n now x).2.2.1 q.2, .bool (tickW n now x).2.2.2.1, w32 (tickW n now x).2.2.2.2]⟩)
   (fun q => [.st (sl q.1.d q.1.dk (tickW n now x).1.disk), .st (sl q.1.l q.1.lk (tickW n now x).1.l), .st (sl q.1.w q.1.wk (tickW n now x).1.wait), .st (sl q.1.p q.1.pk (tickW n now x).1.peers), .st (sl q.2.i q.2.ik (tickW n now x).2.2.1.ids), .st (sl q.2.c q.2.ck (tickW n now x).2.2.1.commits)]) := by
 have hn' := hn
 obtain ⟨no, disk, room, l, wait, seq, up, peers, next, miss⟩ := n
 obtain ⟨ad, kd, al, kl, aw, kw, ap, kp⟩ := y
 have hpl : peers.length ≤ 1000 := hn.peers
 dsimp only [ndV, ndC] at *
 refine Xaa func37 rfl ntmps37 rfl rfl [.st (sl ad kd disk), .st (sl al kl l), .st (sl aw kw wait), .st (sl ap kp peers)] (.start4 h1 h2 h3 h4) ?_
 (repeat (refine wE ?_; intro _)); refine wA ?_
 rename_i bn b6 b8
 refine JR.call (v := fun z : Na => ndV ⟨no, disk, room, l, wait, seq, up, peers, next, miss⟩ z) (B := fun z => ndB ⟨no, disk, room, l, wait, seq, up, peers, next, miss⟩ z) rfl (fun w1 hw => Xm2 w1 _ ⟨no, disk, room, l, wait, seq, up, peers, next, miss⟩ ⟨ad, kd, al, kl, aw, kw, ap, kp⟩ hw.get hw.get hw.get hw.get hn) ?_
 rintro ⟨ad2, kd2, al2, kl2, aw2, kw2, ap2, kp2⟩
 dsimp only [ndB, ndV, ndC, List.cons_append, List.nil_append]
 refine wz9 ?_
 generalize hT : Xdn ⟨no, disk, room, l, wait, seq, up, peers, next, miss⟩ = T
 refine JR.call (v := fun z : Ma => .tuple ⟨[mgV T.1 z, .int .i64 T.2]⟩) (B := fun z => mgB T.1 z) rfl (fun w1 hw => by rw [← hT]; exact Xfs w1 _ ⟨no, disk, room, l, wait, seq, up, peers, next, miss⟩ ⟨ad2, kd2, al2, kl2, aw2, kw2, ap2, kp2⟩ hw.get hw.get hw.get hn) ?_
 intro z
 dsimp only [mgB, mgV, mgC, List.cons_append, List.nil_append]
 (repeat (refine wE ?_; intro _)); refine wA ?_
 rename_i b11
 by_cases hT2 : T.2 = 0
 case neg =>
  have hx : ¬ ((Xdn ⟨no, disk, room, l, wait, seq, up, peers, next, miss⟩).2 = 0 ∧ next ≤ now ∧ peers ≠ []) := by rw [hT]; rintro ⟨h, _⟩; exact hT2 h
  refine JO.reslot 24 (.bool true) (by congr 1; exact decide_eq_true hT2) ?_
  rw [Xol hx]
  dsimp only [mg0, List.length_nil]
  refine wz1 ?_
  refine Wf (OpV.build [.int .i64 0, .slice none 0 0, .slice none 0 0] (by kernel_rfl)) rfl ?_
  refine wz9 ?_
  exact CT.done (Y := Na × Ma) (⟨ad2, kd2, al2, kl2, aw2, kw2, ap2, kp2⟩, ⟨none, 0, none, 0⟩) rfl (fun w ho => ((ho.add (A := sl (α := Commit) none 0 []) Xak).add (A := sl (α := ID) none 0 []) Xak).ent)
 refine JO.reslot 24 (.bool false) (by congr 1; exact decide_eq_false (fun h => h hT2)) ?_
 refine wz11 ?_
 by_cases hnx : next ≤ now
 case neg =>
  have hx : ¬ ((Xdn ⟨no, disk, room, l, wait, seq, up, peers, next, miss⟩).2 = 0 ∧ next ≤ now ∧ peers ≠ []) := by rintro ⟨_, h, _⟩; exact hnx h
  refine JO.reslot 30 (.bool true) (by congr 1; exact decide_eq_true (by omega)) ?_
  rw [Xol hx]
  dsimp only [mg0, List.length_nil]
  refine wz1 ?_
  refine Wf (OpV.build [.int .i64 0, .slice none 0 0, .slice none 0 0] (by kernel_rfl)) rfl ?_
  refine wz9 ?_
  exact CT.done (Y := Na × Ma) (⟨ad2, kd2, al2, kl2, aw2, kw2, ap2, kp2⟩, ⟨none, 0, none, 0⟩) rfl (fun w ho => ((ho.add (A := sl (α := Commit) none 0 []) Xak).add (A := sl (α := ID) none 0 []) Xak).ent)
 refine JO.reslot 30 (.bool false) (by congr 1; exact decide_eq_false (by omega)) ?_
 refine wz11 ?_
 refine JC.test (fun hp => ?_) (fun hp => ?_)
 ·have hx : ¬ ((Xdn ⟨no, disk, room, l, wait, seq, up, peers, next, miss⟩).2 = 0 ∧ next ≤ now ∧ peers ≠ []) := by
   rintro ⟨_, _, h⟩
   exact h (List.eq_nil_of_length_eq_zero (by omega))
  rw [Xol hx]
  dsimp only [mg0, List.length_nil]
  refine wz9 ?_
  refine Wf (OpV.build [.int .i64 0, .slice none 0 0, .slice none 0 0] (by kernel_rfl)) rfl ?_
  refine wz9 ?_
  exact CT.done (Y := Na × Ma) (⟨ad2, kd2, al2, kl2, aw2, kw2, ap2, kp2⟩, ⟨none, 0, none, 0⟩) rfl (fun w ho => ((ho.add (A := sl (α := Commit) none 0 []) Xak).add (A := sl (α := ID) none 0 []) Xak).ent)
 have hpn : peers ≠ [] := by rintro rfl; exact hp rfl
 have e1 : tickW ⟨no, disk, room, l, wait, seq, up, peers, next, miss⟩ now x = (⟨no, disk, room, l, wait, seq, up, peers, now + Xoe miss, IntKind.i64.wrap (min miss 5 + 1)⟩, peers.getD ((Xl4 x).toNat % peers.length) 0, T.1, true, Xl4 x) := by
  unfold tickW
  rw [hT, if_pos ⟨hT2, hnx, hpn⟩]
 rw [e1]
 have hwx := Xy4 miss
 refine wz14 ?_
 refine JR.callV rfl (fun w1 hw => Xxa w1 _ x) ?_
 refine wz9 ?_
 refine JR.callV rfl (fun w1 hw => Xxb w1 _ ap2 kp2 peers (Xl4 x) hw.get hpl hpn) ?_
 refine wz4 ?_
 refine JC.drawP mixed ?_
 refine Xab 0 ?_
 refine Xab 1 ?_
 refine JP.tv 2 [.own bn 50 [.int .i64 no, .slice ad2 disk.length kd2, .int .i64 room, .slice al2 l.length kl2, .slice aw2 wait.length kw2, .int .i64 seq, .bool up, .slice ap2 peers.length kp2, .int .i64 next, .int .i64 miss]] ?_
 refine Xab 5 ?_
 refine JP.tv 6 [.own bn 50 [.int .i64 no, .slice ad2 disk.length kd2, .int .i64 room, .slice al2 l.length kl2, .slice aw2 wait.length kw2, .int .i64 seq, .bool up, .slice ap2 peers.length kp2, .int .i64 next, .int .i64 miss]] ?_
 refine JP.pure 7 rfl (by kernel_rfl) rfl (fun _ => OpV.min) rfl rfl ?_
 refine JP.pure 8 rfl (by kernel_rfl) rfl (fun _ => Xse) rfl rfl ?_
 refine Xal 3 rfl rfl (JR.callV rfl (fun w1 hw => Xxc w1 _ miss) (Wd (nO ?_)))
 refine JP.pure 4 rfl (by kernel_rfl) rfl (fun _ => Vt (by omega)) rfl rfl ?_
 refine Xab 9 ?_
 refine JP.reslot 57 (.pointer (some ⟨bn, 8, none⟩)) rfl ?_
 refine Xal 10 rfl rfl (Wi (Wd (nO ?_)))
 refine Xab 11 ?_
 refine JP.reslot 58 (.pointer (some ⟨bn, 9, none⟩)) rfl ?_
 refine Xal 12 rfl rfl (Wi (Wd (nO ?_)))
 refine JP.nil (by kernel_rfl) ?_
 refine wz14 ?_
 refine JC.drawP mixed ?_
 refine JP.tv 0 [.own bn 50 [.int .i64 no, .slice ad2 disk.length kd2, .int .i64 room, .slice al2 l.length kl2, .slice aw2 wait.length kw2, .int .i64 seq, .bool up, .slice ap2 peers.length kp2, .int .i64 (now + Xoe miss), .int .i64 (IntKind.i64.wrap (min miss 5 + 1))]] ?_
 refine Xab 1 ?_
 refine JP.tv 2 [.own b11 52 [.int .i64 T.1.kind, .slice z.i T.1.ids.length z.ik, .slice z.c T.1.commits.length z.ck]] ?_
 refine Xab 3 ?_
 refine Xal 4 rfl rfl (Wi (Wd (nO ?_)))
 refine Xab 5 ?_
 refine Xal 6 rfl rfl (Wi (Wd (nO ?_)))
 refine Xab 7 ?_
 refine Xab 8 ?_
 refine JP.nil (by kernel_rfl) ?_
 refine wz13 ?_
 exact CT.dn (Y := Na × Ma) (⟨ad2, kd2, al2, kl2, aw2, kw2, ap2, kp2⟩, z) rfl
structure NdSmall (n : Nd) : Prop where
 few : NdFew n
 l : n.l.length ≤ 8
 wait : n.wait.length ≤ 10
 disk : n.disk.length ≤ 1200
 peers : n.peers.length ≤ 20
 ql : ∀ x ∈ n.l, x.parents.length ≤ 1000
 qw : ∀ x ∈ n.wait, x.parents.length ≤ 1000
theorem Xqg {L : List Commit} {m : Nat} (h : fewL L m = true) : ∀ x ∈ L, x.parents.length ≤ 1000 := by
 simp only [fewL, Bool.and_eq_true, decide_eq_true_eq, List.all_eq_true] at h
 intro x hx
 have := h.2 x hx
 simp only [fewC, Bool.and_eq_true, decide_eq_true_eq] at this
 omega
def Xdo (l : List Commit) : List UInt8 := Xaf (l.map Xan)
theorem Xm7 {l : List Commit} {i : Nat} (h : i < l.length) : Xdo (l.take (i + 1)) = Xdo (l.take i) ++ Xbu (Xan l[i]) := by
 unfold Xdo
 rw [List.take_succ_eq_append_getElem h, List.map_append, Xdf]
 simp [Xaf]
theorem Xom {l : List Commit} (h : ∀ c ∈ l, may c = true) : (Xdo l).length ≤ 414 * l.length := by
 induction l with
 | nil => simp [Xdo, Xaf]
 | cons c l ih =>
  have h1 := Xce (h c (by simp))
  have h2 := ih fun d hd => h d (by simp [hd])
  have h3 := Xa5 (Xan c).length
  have e : Xdo (c :: l) = Xbu (Xan c) ++ Xdo l := by simp [Xdo, Xaf]
  rw [e, List.length_append, Xb8, List.length_cons]
  omega
theorem Xr8 {l : List Commit} {i : Nat} (h : i < l.length) (hm : ∀ c ∈ l, may c = true) (hl : l.length ≤ 1000) : storeT (Xdo (l.take i)) 1048576 l[i] = (Xdo (l.take (i + 1)), 0) := by
 have hc := hm l[i] (List.getElem_mem h)
 have h1 := Xce hc
 have h2 := Xom (l := l.take (i + 1)) fun d hd => hm d (List.mem_of_mem_take hd)
 have hp : Xas l[i] = (Xan l[i], 0) := by unfold Xas; rw [hc]; rfl
 have h3 : (l.take (i + 1)).length = i + 1 := by rw [List.length_take]; omega
 rw [Xm7 h, List.length_append] at h2
 unfold storeT
 rw [hp]
 dsimp only
 rw [if_pos rfl]
 unfold Xe3
 rw [if_neg (by omega), if_neg (by omega), Xm7 h]
theorem Xi9 : ∀ (xs : List (List UInt8)), (∀ x ∈ xs, x.length ≤ 4000) → ∀ r, readL (Xaf xs ++ r) = xs ++ readL r
 | [], _, r => rfl
 | x :: xs, h, r => by
  have h1 : readStep (Xaf (x :: xs) ++ r) = some (x, Xaf xs ++ r) := by
   rw [Xem, List.append_assoc]; exact Xl0 (h x (by simp)) _
  rw [Xml h1, Xi9 xs (fun y hy => h y (by simp [hy])) r]
  rfl
theorem Xlo : readL [] = [] := rfl
theorem Xs5 : ∀ (l : List Commit), (∀ c ∈ l, may c = true) → ∀ m, decL (l.map Xan ++ m) = l ++ decL m
 | [], _, m => rfl
 | c :: l, h, m => by
  have h1 := Xyv (h c (by simp)) []
  rw [List.append_nil] at h1
  show decL (Xan c :: (l.map Xan ++ m)) = _
  rcases Xhx (Xan c) (l.map Xan ++ m) with ⟨d, hd, he⟩ | ⟨hn, _⟩
  ·rw [h1] at hd
   cases hd
   rw [he, Xs5 l (fun d hd => h d (by simp [hd])) m]
   rfl
  ·exact (hn ⟨c, h1⟩).elim
theorem Xm8 : ∀ (l acc : List Commit), (∀ j, j < l.length → Closed (acc ++ l.take (j + 1))) → ∀ m, Xbe acc (l ++ m) = Xbe (acc ++ l) m
 | [], acc, _, m => by simp
 | c :: l, acc, h, m => by
  have h0 := h 0 (by simp)
  show Xbe acc (c :: (l ++ m)) = _
  rw [Xbe, if_pos (by simpa using h0), Xm8 l (acc ++ [c]) (fun j hj => by simpa using h (j + 1) (by simpa using hj)) m]
  simp
theorem Xxe (L : List Commit) : ∀ (ps : List ID) (g : Int), g ≤ ps.foldl (fun g p => max g (Xb9 L p)) g ∧ ∀ p ∈ ps, Xb9 L p ≤ ps.foldl (fun g p => max g (Xb9 L p)) g
 | [], g => ⟨Int.le_refl _, by simp⟩
 | q :: ps, g => by
  obtain ⟨h1, h2⟩ := Xxe L ps (max g (Xb9 L q))
  refine ⟨by simp only [List.foldl_cons]; omega, fun p hp => ?_⟩
  simp only [List.foldl_cons]
  rcases List.mem_cons.1 hp with rfl | hp
  ·omega
  ·exact h2 p hp
theorem Xqh {L : List Commit} {p : ID} {ps : List ID} (h : p ∈ ps) : Xb9 L p ≤ Xen L ps := (Xxe L ps 0).2 p h
theorem Closed.take {s : List Commit} (h : Closed s) (hs : s.Pairwise leS) (k : Nat) : Closed (s.take k) := by
 refine h.sub (fun c hc => List.mem_of_mem_take hc) (Xk0 h.nodup (List.take_sublist k s)) fun c hc p hp => ?_
 obtain ⟨i, hi, rfl⟩ := List.getElem_of_mem hc
 rw [List.length_take] at hi
 rw [List.getElem_take] at hp
 have hm : s[i] ∈ s := List.getElem_mem _
 have hf := h.fine s[i] hm
 obtain ⟨d, hd, rfl⟩ := Xai.1 (hf.here p hp)
 obtain ⟨j, hj, rfl⟩ := List.getElem_of_mem hd
 have hg : Xb9 s (idC s[j]) ≤ Xen s s[i].parents := Xqh hp
 rw [Xcy h.nodup hd] at hg
 have hg2 := hf.gen
 have hji : j < i := by
  rcases Nat.lt_trichotomy j i with h1 | h1 | h1
  ·exact h1
  ·subst h1; omega
  ·have := List.pairwise_iff_getElem.1 hs i j (by omega) hj h1
   rcases this with h2 | ⟨h2, _⟩ <;> omega
 exact Xai.2 ⟨s[j], List.mem_of_getElem? (i := j) (by rw [List.getElem?_take_of_lt (by omega), List.getElem?_eq_getElem hj]), rfl⟩
theorem Xuu {l : List Commit} (h : ∀ c ∈ l, may c = true) : ∀ x ∈ l.map Xan, x.length ≤ 4000 := by
 intro x hx
 obtain ⟨c, hc, rfl⟩ := List.mem_map.1 hx
 have := Xce (h c hc)
 omega
theorem Xuv {l : List Commit} (h : ∀ c ∈ l, may c = true) {r : List UInt8} (hr : readL r = []) : readL (Xdo l ++ r) = l.map Xan ∧ Xcs (Xdo l ++ r) = Xbe [] l := by
 have h1 : readL (Xdo l ++ r) = l.map Xan := by unfold Xdo; rw [Xi9 _ (Xuu h), hr, List.append_nil]
 refine ⟨h1, ?_⟩
 unfold Xcs
 rw [h1]
 have := Xs5 l h []
 rw [List.append_nil] at this
 rw [this]
 have e : decL [] = [] := rfl
 rw [e, List.append_nil]
theorem Xqi {l : List Commit} (h : ∀ c ∈ l, may c = true) (hc : ∀ j, j < l.length → Closed (l.take (j + 1))) {r : List UInt8} (hr : readL r = []) : Xcs (Xdo l ++ r) = l ∧ Xck (Xdo l ++ r) = (Xdo l).length := by
 obtain ⟨h1, h2⟩ := Xuv h hr
 have h3 : Xbe [] l = l := by
  have := Xm8 l [] (fun j hj => by simpa using hc j hj) []
  simpa [Xbe] using this
 rw [h3] at h2
 refine ⟨h2, ?_⟩
 unfold Xck
 rw [h1, h2, ← List.map_take, List.take_length]
 rfl
theorem Xs6 : Xcs [] = [] ∧ Xck [] = 0 := by
 have h : Xcs [] = [] := by unfold Xcs; rw [Xlo]; rfl
 exact ⟨h, by unfold Xck; rw [h, Xlo]; rfl⟩
theorem Xh2 {no room : Int} {peers : List Int} {next miss : Int} (h : Xfp no room = true) : Xdm ⟨no, [], room, [], [], 0, true, peers, next, miss⟩ = true := by
 have hr := Xlj h
 rw [Xof (n := ⟨no, [], room, [], [], 0, true, peers, next, miss⟩) h (by show ¬ room < ((0 : Nat) : Int); omega) rfl]
 show (decide (Xcs [] = []) && decide (Xck [] = 0) && decide ((0 : Int) = Xjh [] no) && true && true) = true
 rw [Xs6.1, Xs6.2]
 rfl
def n0 : Nd := ⟨0, [], 1000, [], [], 0, true, [], 0, 0⟩
theorem Xzj : NdFew n0 := ⟨by simp [n0], by simp [n0], by simp [n0], by simp [n0], by simp [n0]⟩
theorem X1t : NdFew ⟨0, [], 1000, [], [], 0, true, [1], 0, 0⟩ := ⟨by simp, by simp, by simp, by simp, by simp⟩
theorem X1u : newN 0 1000 = (n0, true) := by unfold newN; rw [if_pos (by decide)]; rfl
theorem X02 (a : ID) : Xbc n0 ⟨0, [a], []⟩ = (n0, ⟨1, [a], []⟩, true) := by
 have h1 : Xdm n0 = true := Xh2 (by decide)
 have h2 : Xgb ⟨0, [a], []⟩ = true := rfl
 have h3 : Xbx [] [a] = (⟨1, [a], []⟩, true) := by
  have : idsP [] = [] := rfl
  unfold Xbx
  rw [this, Xym a [] (by simp), if_neg (by simp), Xbr, if_neg (by simp)]
  rfl
 unfold Xbc
 rw [h1, h2]
 show (if true = true then _ else _) = _
 rw [if_pos rfl, if_pos rfl]
 show (_, Xbx [] [a]) = _
 rw [h3]; rfl
theorem X03 : Xdn n0 = (⟨0, [], []⟩, 0) := by
 have h1 : Xdm n0 = true := Xh2 (by decide)
 have h2 : frontF n0.l = [] := (Xp8 Xmr).2 rfl
 unfold Xdn
 rw [h1, if_pos rfl, h2]; rfl
theorem X04 (x : UInt32) : tickW ⟨0, [], 1000, [], [], 0, true, [1], 0, 0⟩ 0 x = (⟨0, [], 1000, [], [], 0, true, [1], 1, 1⟩, 1, ⟨0, [], []⟩, true, Xl4 x) := by
 have h1 : Xdm ⟨0, [], 1000, [], [], 0, true, [1], 0, 0⟩ = true := Xh2 (by decide)
 have h2 : frontF [] = [] := (Xp8 Xmr).2 rfl
 have h3 : Xdn ⟨0, [], 1000, [], [], 0, true, [1], 0, 0⟩ = (⟨0, [], []⟩, 0) := by
  unfold Xdn
  rw [h1, if_pos rfl]
  show (if true = true then (Mg.mk 0 (frontF []) [], (0 : Int)) else _) = _
  rw [h2]; rfl
 unfold tickW
 rw [h3, if_pos ⟨rfl, by decide, by simp⟩]
 have h4 : (Xl4 x).toNat % ([1] : List Int).length = 0 := Nat.mod_one _
 rw [h4]
 rfl
theorem Xxf {F : Nat → Prop} {w : World} {b : Nat} {x : Int} (h : (ro b 0 [.int .i64 x]).holds F w) : (sl (some ⟨b, 0, none⟩) 1 [x]).holds F w := by
 refine ⟨by simp, by simp [maxLen], by simp [lim], fun _ => ⟨b, 0, rfl, h.1, h.2.1, fun i hi => ⟨(), ?_, by simp [Cell.facts]⟩⟩⟩
 have hi0 : i = 0 := by simpa using hi
 subst hi0
 exact fun j v hj => by simpa using h.2.2 j v hj
def id1 : ID := ⟨1 :: List.replicate 31 0, by simp⟩
theorem Xqj : GivesV prog 28 [] w F (.bool true) := by
 refine Xaa func28 rfl ntmps28 rfl rfl [] (.start w F) ?_
 refine wz10 ?_
 refine JR.call (v := fun _ : Unit => .tuple ⟨[ndV (newN 0 1000).1 na0, .bool (newN 0 1000).2]⟩) (B := fun _ => []) rfl (fun w1 hw => Xm0 w1 _ 0 1000) ?_
 intro _
 rw [X1u]
 dsimp only [n0, na0, ndV, ndC, List.length_nil, List.nil_append]
 (repeat (refine wE ?_; intro _)); refine wA ?_
 rename_i b1
 refine Wf (OpV.build (idc id1) (by kernel_rfl)) rfl ?_
 (repeat (refine wE ?_; intro _)); refine wA ?_
 rename_i b3 bl
 refine JR.pubOwn bl ?_
 refine Wf (OpV.build [.int .i64 0, .slice (some ⟨bl, 0, none⟩) 1 1, .slice none 0 0] (by kernel_rfl)) rfl ?_
 refine wz13 ?_
 refine JR.call (v := fun q : Na × Ma => .tuple ⟨[ndV (Xbc n0 ⟨0, [id1], []⟩).1 q.1, mgV (Xbc n0 ⟨0, [id1], []⟩).2.1 q.2, .bool (Xbc n0 ⟨0, [id1], []⟩).2.2]⟩) (B := fun q => [.st (sl q.1.d q.1.dk (Xbc n0 ⟨0, [id1], []⟩).1.disk), .st (sl q.1.l q.1.lk (Xbc n0 ⟨0, [id1], []⟩).1.l), .st (sl q.1.w q.1.wk (Xbc n0 ⟨0, [id1], []⟩).1.wait), .st (sl q.1.p q.1.pk (Xbc n0 ⟨0, [id1], []⟩).1.peers), .st (sl q.2.i q.2.ik (Xbc n0 ⟨0, [id1], []⟩).2.1.ids), .st (sl q.2.c q.2.ck (Xbc n0 ⟨0, [id1], []⟩).2.1.commits)]) rfl (fun w1 hw => Xg3 w1 _ n0 na0 ⟨0, [id1], []⟩ ⟨some ⟨bl, 0, none⟩, 1, none, 0⟩ Xak Xak Xak Xak (Xyn (hw.get (A := ro bl 0 (idc id1)))) Xak Xzj (by decide) (by simp) (by simp [n0]) (by simp)) ?_
 rintro ⟨⟨a4, k4, a5, k5, a6, k6, a7, k7⟩, ⟨a8, k8, a9, k9⟩⟩
 rw [X02]
 dsimp only [n0, ndV, ndC, mgV, mgC, List.length_nil, List.cons_append, List.nil_append]
 (repeat (refine wE ?_; intro _)); refine wA ?_
 rename_i b4 b5
 refine JR.call (v := fun z : Ma => .tuple ⟨[mgV (Xdn n0).1 z, .int .i64 (Xdn n0).2]⟩) (B := fun z => mgB (Xdn n0).1 z) rfl (fun w1 hw => Xfs w1 _ n0 na0 Xak Xak Xak Xzj) ?_
 rintro ⟨p1, q1, p2, q2⟩
 rw [X03]
 dsimp only [mgB, mgV, mgC, List.length_nil, List.cons_append, List.nil_append]
 (repeat (refine wE ?_; intro _)); refine wA ?_
 rename_i b7 bi
 refine JR.pubOwn bi ?_
 refine JR.call (v := fun q : Na × Ma => .tuple ⟨[ndV (tickW ⟨0, [], 1000, [], [], 0, true, [1], 0, 0⟩ 0 1).1 q.1, .int .i64 (tickW ⟨0, [], 1000, [], [], 0, true, [1], 0, 0⟩ 0 1).2.1, mgV (tickW ⟨0, [], 1000, [], [], 0, true, [1], 0, 0⟩ 0 1).2.2.1 q.2, .bool (tickW ⟨0, [], 1000, [], [], 0, true, [1], 0, 0⟩ 0 1).2.2.2.1, w32 (tickW ⟨0, [], 1000, [], [], 0, true, [1], 0, 0⟩ 0 1).2.2.2.2]⟩) (B := fun q => [.st (sl q.1.d q.1.dk (tickW ⟨0, [], 1000, [], [], 0, true, [1], 0, 0⟩ 0 1).1.disk), .st (sl q.1.l q.1.lk (tickW ⟨0, [], 1000, [], [], 0, true, [1], 0, 0⟩ 0 1).1.l), .st (sl q.1.w q.1.wk (tickW ⟨0, [], 1000, [], [], 0, true, [1], 0, 0⟩ 0 1).1.wait), .st (sl q.1.p q.1.pk (tickW ⟨0, [], 1000, [], [], 0, true, [1], 0, 0⟩ 0 1).1.peers), .st (sl q.2.i q.2.ik (tickW ⟨0, [], 1000, [], [], 0, true, [1], 0, 0⟩ 0 1).2.2.1.ids), .st (sl q.2.c q.2.ck (tickW ⟨0, [], 1000, [], [], 0, true, [1], 0, 0⟩ 0 1).2.2.1.commits)]) rfl (fun w1 hw => Xr7 w1 _ ⟨0, [], 1000, [], [], 0, true, [1], 0, 0⟩ ⟨none, 0, none, 0, none, 0, some ⟨bi, 0, none⟩, 1⟩ 0 1 Xak Xak Xak (Xxf hw.get) X1t (by decide)) ?_
 rintro ⟨⟨c4, r4, c5, r5, c6, r6, c7, r7⟩, ⟨c8, r8, c9, r9⟩⟩
 rw [X04]
 dsimp only [ndV, ndC, mgV, mgC, List.length_nil, List.cons_append, List.nil_append]
 (repeat (refine wE ?_; intro _)); refine wA ?_
 refine Xb2 (L := [id1]) (.slice a8 [id1].length k8) 0 (by decide) ?_
 intro b9 o9
 refine Xb0 mixed (by kernel_rfl) ?_
 refine wY ?_
 refine JQ.reslot 51 (.bool true) (by simp) ?_
 skip
 refine JQ.reslot 58 (.bool true) (by simp) ?_
 skip
 refine JQ.call rfl rfl (fun w1 hw => Xgh w1 _ n0 ⟨a4, k4, a5, k5, a6, k6, a7, k7⟩ (hw.get (A := sl a4 k4 ([] : List UInt8))) (hw.get (A := sl a5 k5 ([] : List Commit))) (hw.get (A := sl a6 k6 ([] : List Commit))) (by simp [n0])) ?_
 refine JQ.reslot 60 (.bool true) (by rw [show Xdm n0 = true from Xh2 (by decide)]) ?_
 refine wY ?_
 refine wz13 ?_
 exact CT.dn () (by simp [Xac])
theorem Xon {n : Nd} {k : Int} {ids : List ID} {cs : List Commit} (h1 : Xdm n = true) (h2 : n.up = true) (h3 : Xgb ⟨k, ids, cs⟩ = true) :
  Xbc n ⟨k, ids, cs⟩ = if k = 0 then ({ n with miss := 0 }, Xbx n.l ids) else if k = 1 then ({ n with miss := 0 }, Xby (partF (Xbf n.l) ids)) else (takeL { n with miss := 0 } cs, Xbr (Xeu (takeL { n with miss := 0 } cs).wait (idsP (takeL { n with miss := 0 } cs).l))) := by
 unfold Xbc
 rw [h1, h2, h3]; rfl
noncomputable abbrev hearV (n : Nd) (m : Mg) (q : Na × Ma) : Value := .tuple ⟨[ndV (Xbc n m).1 q.1, mgV (Xbc n m).2.1 q.2, .bool (Xbc n m).2.2]⟩
noncomputable abbrev hearB (n : Nd) (m : Mg) (q : Na × Ma) : List Fact := [.st (sl q.1.d q.1.dk (Xbc n m).1.disk), .st (sl q.1.l q.1.lk (Xbc n m).1.l), .st (sl q.1.w q.1.wk (Xbc n m).1.wait), .st (sl q.1.p q.1.pk (Xbc n m).1.peers), .st (sl q.2.i q.2.ik (Xbc n m).2.1.ids), .st (sl q.2.c q.2.ck (Xbc n m).2.1.commits)]
structure Cut (s : List Commit) (at_ : Int) (i k : Nat) : Prop where
 le : k ≤ i
 fits : ((Xdo (s.take k)).length : Int) ≤ at_
 next : k < i → at_ < ((Xdo (s.take (k + 1))).length : Int)
theorem Cut.yes {s : List Commit} {at_ : Int} {i k : Nat} (h : Cut s at_ i k) (hn : ((Xdo (s.take (i + 1))).length : Int) ≤ at_) : Cut s at_ (i + 1) (i + 1) :=
 ⟨Nat.le_refl _, hn, fun hlt => absurd hlt (by omega)⟩
theorem Cut.no {s : List Commit} {at_ : Int} {i k : Nat} (h : Cut s at_ i k) (hn : ¬ ((Xdo (s.take (i + 1))).length : Int) ≤ at_) : Cut s at_ (i + 1) k := by
 refine ⟨by have := h.le; omega, h.fits, fun hlt => ?_⟩
 by_cases hk : k < i
 ·exact h.next hk
 ·have : k = i := by have := h.le; omega
  subst this; omega
theorem Xy5 {s : List Commit} {c : Commit} (hs : ∀ x ∈ s, may x = true) (hc : may c = true) (hl : s.length ≤ 900) : storeT (Xdo s) 1048576 c = (Xdo (s ++ [c]), 0) := by
 have hm : ∀ x ∈ s ++ [c], may x = true := fun x hx => by
  rcases List.mem_append.1 hx with hx | hx
  ·exact hs x hx
  ·rw [List.mem_singleton] at hx; subst hx; exact hc
 have h := Xr8 (l := s ++ [c]) (i := s.length) (by simp) hm (by simp; omega)
 have e1 : (s ++ [c]).take s.length = s := List.take_left' rfl
 have e2 : (s ++ [c])[s.length]'(by simp) = c := by simp
 have e3 : (s ++ [c]).take (s.length + 1) = s ++ [c] := List.take_of_length_le (by simp)
 rw [e1, e2, e3] at h
 exact h
theorem Xm9 : ∀ (S : List Commit) (i : Nat) (hi : i < S.length), S.Perm (S[i] :: S.eraseIdx i)
 | [], i, hi => absurd hi (by simp)
 | a :: S, 0, hi => by simp
 | a :: S, i + 1, hi => by
  have := (Xm9 S i (by simpa using hi)).cons a
  simp only [List.getElem_cons_succ, List.eraseIdx_cons_succ]
  exact this.trans (List.Perm.swap _ _ _)
structure Dn (L S : List Commit) : Prop where
 sub : ∀ c ∈ S, c ∈ L
 nodup : (cids S).Nodup
 here : ∀ k, ∀ c ∈ S.take k, ∀ p ∈ c.parents, p ∈ cids (S.take k)
section
variable {L S : List Commit}
theorem Dn.take (hc : Closed L) (h : Dn L S) (k : Nat) : Closed (S.take k) :=
 hc.sub (fun c hm => h.sub c (List.mem_of_mem_take hm)) (Xk0 h.nodup (List.take_sublist k S)) (h.here k)
theorem Dn.all (h : Dn L S) : ∀ c ∈ S, ∀ p ∈ c.parents, p ∈ cids S := by
 have := h.here S.length
 rwa [List.take_length] at this
theorem Dn.closed (hc : Closed L) (h : Dn L S) : Closed S := by
 have := h.take hc S.length
 rwa [List.take_length] at this
theorem Dn.nil : Dn L [] := ⟨by simp, by simp [cids], by simp⟩
theorem Dn.snoc {c : Commit} (h : Dn L S) (hm : c ∈ L) (hn : idC c ∉ cids S) (hp : ∀ p ∈ c.parents, p ∈ cids S) : Dn L (S ++ [c]) := by
 refine ⟨fun x hx => ?_, ?_, fun k => ?_⟩
 ·rcases List.mem_append.1 hx with hx | hx
  ·exact h.sub x hx
  ·rw [List.mem_singleton] at hx; subst hx; exact hm
 ·rw [Xcz]
  refine List.nodup_append.2 ⟨h.nodup, by simp, fun a ha b hb => ?_⟩
  rw [List.mem_singleton] at hb
  subst hb
  rintro rfl
  exact hn ha
 ·by_cases hk : k ≤ S.length
  ·rw [List.take_append_of_le_length hk]; exact h.here k
  ·rw [List.take_of_length_le (by simp; omega), Xcz]
   intro x hx p hpx
   rcases List.mem_append.1 hx with hx | hx
   ·exact List.mem_append.2 (.inl (h.all x hx p hpx))
   ·rw [List.mem_singleton] at hx; subst hx; exact List.mem_append.2 (.inl (hp p hpx))
theorem Xr9 (hc : Closed L) {A B : List Commit} (hA : ∀ c ∈ A, c ∈ L) (hB : ∀ c ∈ B, c ∈ L) {c : Commit} (hm : c ∈ A) (hi : idC c ∈ cids B) : c ∈ B := by
 obtain ⟨d, hd, he⟩ := Xai.1 hi
 rw [← Xmp hc.nodup (hB d hd) (hA c hm) he]; exact hd
theorem Xoo (hc : Closed L) (h : ∀ c ∈ S, c ∈ L) (hn : (cids S).Nodup) : S.length ≤ L.length := by
 have := Xga (cids S) (cids L) hn (fun x hx => by
  obtain ⟨c, hm, rfl⟩ := Xai.1 hx
  exact Xai.2 ⟨c, h c hm, rfl⟩)
 simpa [cids] using this
end
structure Pre (L : List Commit) (n : Nd) : Prop where
 no : 6 ≤ n.no ∧ n.no ≤ 7
 room : n.room = 1048576
 up : n.up = true
 seq : n.seq = 0
 disk : n.disk = Xdo n.l
 dn : Dn L n.l
 wsub : ∀ c ∈ n.wait, c ∈ L
 wnew : ∀ c ∈ n.wait, idC c ∉ cids n.l
 wnodup : (cids n.wait).Nodup
 peers : n.peers = []
structure Gd (L : List Commit) (n : Nd) : Prop extends Pre L n where
 rest : ∀ c ∈ n.wait, Xfk (cids n.l) c = false
def allI (n : Nd) : List ID := cids n.l ++ cids n.wait
theorem Xdg {n : Nd} {x : ID} : x ∈ allI n ↔ x ∈ cids n.l ∨ x ∈ cids n.wait := List.mem_append
section
variable {L : List Commit}
theorem Xqk {H : List ID} {c : Commit} : Xfk H c = true ↔ ∀ p ∈ c.parents, p ∈ H := by
 unfold Xfk
 rw [decide_eq_true_eq, List.length_eq_zero_iff, Xm3]
theorem Pre.ids (hc : Closed L) {n : Nd} (h : Pre L n) : idsP n.l = cids n.l := X0z (h.dn.closed hc)
theorem Pre.wlen (hc : Closed L) {n : Nd} (h : Pre L n) : n.wait.length ≤ L.length := Xoo hc h.wsub h.wnodup
theorem Pre.llen (hc : Closed L) {n : Nd} (h : Pre L n) : n.l.length ≤ L.length := Xoo hc h.dn.sub h.dn.nodup
theorem Xxg {l : List Commit} {no : Int} (h : ∀ c ∈ l, c.ev.node ≠ no) : Xjh l no = 0 := by
 have : ∀ (l : List Commit) (g : Int), (∀ c ∈ l, c.ev.node ≠ no) → l.foldl (fun n c => if c.ev.node = no then max n c.ev.seq else n) g = g := by
  intro l
  induction l with
  | nil => intro g _; rfl
  | cons c l ih =>
   intro g h
   rw [List.foldl_cons, if_neg (h c (by simp))]
   exact ih g fun x hx => h x (by simp [hx])
 exact this l 0 h
theorem Pre.mayN (hc : Closed L) (h6 : L.length ≤ 6) (h5 : ∀ c ∈ L, c.ev.node ≤ 5) {n : Nd} (h : Pre L n) : Xdm n = true := by
 have hlm : ∀ c ∈ n.l, may c = true := fun c hm => hc.may c (h.dn.sub c hm)
 have hld := h.llen hc
 have hwl := h.wlen hc
 obtain ⟨h1, h2⟩ := h.no
 have hdl : n.disk.length ≤ 414 * n.l.length := by rw [h.disk]; exact Xom hlm
 have hlo := Xqi hlm (fun j hj => h.dn.take hc (j + 1)) Xlo
 rw [List.append_nil, ← h.disk] at hlo
 have hfit : Xfp n.no n.room = true := by
  unfold Xfp
  rw [h.room]
  simp only [Bool.and_eq_true, decide_eq_true_eq]
  omega
 rw [Xof hfit (by rw [h.room]; omega) h.up, hlo.1, hlo.2, h.seq, Xxg (fun c hm => by have := h5 c (h.dn.sub c hm); omega)]
 simp only [decide_true, Bool.true_and, Bool.and_eq_true, decide_eq_true_eq, List.all_eq_true]
 refine ⟨by omega, fun c hm => ?_⟩
 unfold Xb1 Xeo
 have hcl := h.wsub c hm
 rw [hc.may c hcl, (hc.fine c hcl).merge, h.ids hc]
 have := h5 c hcl
 have hne : c.ev.node ≠ n.no := by omega
 simp [h.wnew c hm, hne]
theorem Pre.step (hc : Closed L) (h6 : L.length ≤ 6) {n : Nd} (h : Pre L n) {rc : Commit} {rl : List Commit} (hr : Xar n.wait (idsP n.l) = (rc, rl, true)) :
  Pre L (Xda n rc rl) ∧ (∀ x, x ∈ allI (Xda n rc rl) ↔ x ∈ allI n) ∧ (∀ x ∈ cids n.l, x ∈ cids (Xda n rc rl).l) := by
 obtain ⟨h1, h2, h3, i, hi, h4, h5, h7⟩ := Xfr hr
 rw [h.ids hc, ← h4, Xqk] at h7
 have hrc := h.wsub rc h1
 have hnew := h.wnew rc h1
 have hdn := h.dn.snoc hrc hnew h7
 have hcl : closedB (n.l ++ [rc]) = true := Xef (hdn.closed hc)
 have hll := h.llen hc
 have hput := Xy5 (s := n.l) (c := rc) (fun x hx => hc.may x (h.dn.sub x hx)) (hc.may rc hrc) (by omega)
 have e1 : Xda n rc rl = { n with wait := rl, disk := Xdo (n.l ++ [rc]), l := n.l ++ [rc] } := by
  unfold Xda
  rw [if_pos hcl]
  unfold Xip
  dsimp only
  rw [h.disk, h.room, hput, if_pos rfl]
 have hsp : n.wait.Perm (rc :: rl) := by
  rw [h4, h5]
  exact Xm9 _ i hi
 have hwn : (cids (rc :: rl)).Nodup := (Xcx hsp).nodup_iff.1 h.wnodup
 rw [e1]
 refine ⟨⟨h.no, h.room, h.up, h.seq, rfl, hdn, fun c hm => h.wsub c (h3 c hm), fun c hm => ?_, ?_, h.peers⟩, fun x => ?_, fun x hx => ?_⟩
 ·show idC c ∉ cids (n.l ++ [rc])
  rw [Xcz, List.mem_append, List.mem_singleton]
  rintro (h8 | h8)
  ·exact h.wnew c (h3 c hm) h8
  ·have : idC c ∈ cids rl := Xai.2 ⟨c, hm, rfl⟩
   rw [h8] at this
   exact (List.nodup_cons.1 hwn).1 this
 ·exact (List.nodup_cons.1 hwn).2
 ·rw [Xdg, Xdg]
  show x ∈ cids (n.l ++ [rc]) ∨ x ∈ cids rl ↔ _
  rw [Xcz, List.mem_append, List.mem_singleton, (Xcx hsp).mem_iff]
  simp only [cids, List.map_cons, List.mem_cons]
  constructor
  ·rintro ((h8 | h8) | h8)
   ·exact .inl h8
   ·exact .inr (.inl h8)
   ·exact .inr (.inr h8)
  ·rintro (h8 | h8 | h8)
   ·exact .inl (.inl h8)
   ·exact .inl (.inr h8)
   ·exact .inr h8
 ·show x ∈ cids (n.l ++ [rc])
  rw [Xcz]; exact List.mem_append.2 (.inl hx)
theorem Pre.settle (hc : Closed L) (h6 : L.length ≤ 6) : ∀ (f : Nat) {n : Nd}, Pre L n → n.wait.length ≤ f →
  Gd L (Xdt f n) ∧ (∀ x, x ∈ allI (Xdt f n) ↔ x ∈ allI n) ∧ (∀ x ∈ cids n.l, x ∈ cids (Xdt f n).l)
 | 0, n, h, hf => by
  have h0 : n.wait = [] := List.eq_nil_of_length_eq_zero (by omega)
  exact ⟨⟨h, fun c hm => by have hm' : c ∈ n.wait := hm; rw [h0] at hm'; cases hm'⟩, fun x => Iff.rfl, fun x hx => hx⟩
 | f + 1, n, h, hf => by
  unfold Xdt
  split
  ·rename_i hr
   have hr' : Xar n.wait (idsP n.l) = ((Xar n.wait (idsP n.l)).1, (Xar n.wait (idsP n.l)).2.1, true) := by rw [← hr]
   obtain ⟨h1, h2, h3⟩ := h.step hc h6 hr'
   have h4 := (Xfr hr').2.1
   obtain ⟨k1, k2, k3⟩ := Pre.settle hc h6 f h1 (by rw [Xep]; omega)
   exact ⟨k1, fun x => (k2 x).trans (h2 x), fun x hx => k3 x (h3 x hx)⟩
  ·rename_i hr
   refine ⟨⟨h, fun c hm => ?_⟩, fun x => Iff.rfl, fun x hx => hx⟩
   unfold Xar at hr
   split at hr
   ·exact absurd rfl hr
   ·rename_i hf
    rw [List.findIdx?_eq_none_iff] at hf
    have := hf c hm
    rw [h.ids hc] at this
    simpa using this
theorem X05 (hc : Closed L) (h6 : L.length ≤ 6) {n : Nd} (h : Pre L n) {c : Commit} (hm : c ∈ L) (hn : idC c ∉ cids n.l) :
  Pre L { n with wait := Xbl n.wait c } ∧ ∀ x, x ∈ cids (Xbl n.wait c) ↔ x ∈ cids n.wait ∨ x = idC c := by
 unfold Xbl
 rw [hc.may c hm, (hc.fine c hm).merge]
 by_cases ha : n.wait.any (fun d => decide (c = d)) = true
 ·rw [if_pos (by simpa using ha)]
  obtain ⟨d, hd, he⟩ := List.any_eq_true.1 ha
  have he' : c = d := by simpa using he
  refine ⟨h, fun x => ⟨.inl, fun hx => hx.elim id fun e => ?_⟩⟩
  rw [e, he']; exact Xai.2 ⟨d, hd, rfl⟩
 ·rw [if_neg (by simpa using ha)]
  have hcw : c ∉ n.wait := fun hx => ha (List.any_eq_true.2 ⟨c, hx, by simp⟩)
  have hiw : idC c ∉ cids n.wait := fun hx => hcw (Xr9 hc (A := [c]) (by simpa using hm) h.wsub (by simp) hx)
  have hnd : (cids (n.wait ++ [c])).Nodup := by
   rw [Xcz]
   refine List.nodup_append.2 ⟨h.wnodup, by simp, fun a ha b hb => ?_⟩
   rw [List.mem_singleton] at hb
   subst hb
   rintro rfl
   exact hiw ha
  have hsub : ∀ x ∈ n.wait ++ [c], x ∈ L := fun x hx => by
   rcases List.mem_append.1 hx with hx | hx
   ·exact h.wsub x hx
   ·rw [List.mem_singleton] at hx; subst hx; exact hm
  have hlen := Xoo hc hsub hnd
  rw [List.length_append, List.length_singleton] at hlen
  rw [show n.wait.length + 1 - 8 = 0 by omega, List.drop_zero]
  refine ⟨⟨h.no, h.room, h.up, h.seq, h.disk, h.dn, hsub, fun x hx => ?_, hnd, h.peers⟩, fun x => by rw [Xcz, List.mem_append, List.mem_singleton]⟩
  rcases List.mem_append.1 hx with hx | hx
  ·exact h.wnew x hx
  ·rw [List.mem_singleton] at hx; subst hx; exact hn
theorem Gd.take1 (hc : Closed L) (h6 : L.length ≤ 6) (h5 : ∀ c ∈ L, c.ev.node ≤ 5) {n : Nd} (h : Gd L n) {c : Commit} (hm : c ∈ L) :
  Gd L (Xc1 n c) ∧ (∀ x, x ∈ allI (Xc1 n c) ↔ x ∈ allI n ∨ x = idC c) ∧ (∀ x ∈ cids n.l, x ∈ cids (Xc1 n c).l) := by
 have hno := h.no.1
 have h5c := h5 c hm
 have hne : c.ev.node ≠ n.no := by omega
 have hfr : Xb1 n.no n.seq (idsP n.l) c = !decide (idC c ∈ cids n.l) := by
  unfold Xb1 Xeo
  rw [hc.may c hm, (hc.fine c hm).merge, h.ids hc]
  simp [hne]
 unfold Xc1
 rw [hfr]
 by_cases hi : idC c ∈ cids n.l
 ·rw [if_neg (by simp [hi])]
  refine ⟨h, fun x => ⟨.inl, fun hx => hx.elim id fun e => ?_⟩, fun x hx => hx⟩
  rw [e, Xdg]; exact .inl hi
 ·rw [if_pos (by simp [hi])]
  obtain ⟨h1, h2⟩ := X05 hc h6 h.toPre hm hi
  obtain ⟨k1, k2, k3⟩ := Pre.settle hc h6 _ h1 (Nat.le_refl _)
  refine ⟨k1, fun x => ?_, k3⟩
  rw [Xdb, k2 x, Xdg, Xdg]
  show x ∈ cids n.l ∨ x ∈ cids (Xbl n.wait c) ↔ _
  rw [h2 x, or_assoc]
theorem Gd.takes (hc : Closed L) (h6 : L.length ≤ 6) (h5 : ∀ c ∈ L, c.ev.node ≤ 5) : ∀ (l : List Commit) {n : Nd}, Gd L n → (∀ c ∈ l, c ∈ L) →
  Gd L (l.foldl Xc1 n) ∧ (∀ x, x ∈ allI (l.foldl Xc1 n) ↔ x ∈ allI n ∨ x ∈ cids l) ∧ (∀ x ∈ cids n.l, x ∈ cids (l.foldl Xc1 n).l)
 | [], n, h, _ => ⟨h, fun x => by simp [cids], fun x hx => hx⟩
 | c :: l, n, h, hl => by
  obtain ⟨h1, h2, h3⟩ := h.take1 hc h6 h5 (hl c (by simp))
  obtain ⟨k1, k2, k3⟩ := Gd.takes hc h6 h5 l h1 (fun x hx => hl x (by simp [hx]))
  refine ⟨k1, fun x => ?_, fun x hx => k3 x (h3 x hx)⟩
  rw [List.foldl_cons, k2 x, h2 x]
  simp only [cids, List.map_cons, List.mem_cons, or_assoc]
theorem Gd.takeL (hc : Closed L) (h6 : L.length ≤ 6) (h5 : ∀ c ∈ L, c.ev.node ≤ 5) {n : Nd} (h : Gd L n) {l : List Commit} (hl : ∀ c ∈ l, c ∈ L) :
  Gd L (takeL n l) ∧ (∀ x, x ∈ allI (takeL n l) ↔ x ∈ allI n ∨ x ∈ cids l) ∧ (∀ x ∈ cids n.l, x ∈ cids (takeL n l).l) := by
 have e : (Xdm n && n.up) = true := by rw [h.mayN hc h6 h5, h.up]; rfl
 unfold Ab.takeL
 rw [if_pos e]
 exact Gd.takes hc h6 h5 l h hl
theorem Gd.miss {n : Nd} (h : Gd L n) (m : Int) : Gd L { n with miss := m } := ⟨⟨h.no, h.room, h.up, h.seq, h.disk, h.dn, h.wsub, h.wnew, h.wnodup, h.peers⟩, h.rest⟩
theorem Gd.none (hc : Closed L) {n : Nd} (h : Gd L n) (hp : ∀ c ∈ n.wait, ∀ p ∈ c.parents, p ∈ allI n) : n.wait = [] := by
 have key : ∀ (k : Nat) (c : Commit), c ∈ n.wait → c.gen.toNat ≤ k → False := by
  intro k
  induction k with
  | zero =>
   intro c hm hk
   have := X0t hc (h.wsub c hm)
   omega
  | succ k ih =>
   intro c hm hk
   have h1 := h.rest c hm
   have h2 : ¬ ∀ p ∈ c.parents, p ∈ cids n.l := fun h3 => by rw [Xqk.2 h3] at h1; cases h1
   apply h2
   intro p hpc
   rcases Xdg.1 (hp c hm p hpc) with h3 | h3
   ·exact h3
   ·obtain ⟨d, hd, rfl⟩ := Xai.1 h3
    refine (ih d hd ?_).elim
    have h4 := Xqh (L := L) hpc
    rw [Xcy hc.nodup (h.wsub d hd)] at h4
    have h5 := (hc.fine c (h.wsub c hm)).gen
    omega
 cases hw : n.wait with
 | nil => rfl
 | cons c l => exact (key _ c (by rw [hw]; simp) (Nat.le_refl _)).elim
theorem Xuw {W : List Commit} (h : ∀ c ∈ W, may c = true) : Xcp W = cids W := by
 unfold Xcp cids
 induction W with
 | nil => rfl
 | cons c W ih =>
  have h1 : Xn4 c = some (idC c) := by unfold Xn4 idC; rw [if_pos ((Xd0 c).2 (h c (by simp)))]
  rw [List.filterMap_cons_some h1, ih fun x hx => h x (by simp [hx]), List.map_cons]
theorem Gd.missing (hc : Closed L) {n : Nd} (h : Gd L n) {x : ID} : x ∈ Xeu n.wait (idsP n.l) ↔ (∃ c ∈ n.wait, x ∈ c.parents) ∧ x ∉ allI n := by
 unfold Xeu
 rw [Xdl, Xi6, h.ids hc, Xuw fun c hm => hc.may c (h.wsub c hm)]
 rfl
end
noncomputable def talkF : Nat → Nd → Nd → Mg → Nd × Nd
 | 0, p, q, _ => (p, q)
 | k + 1, p, q, m =>
  if (Xbc q m).2.2 then
   if (Xbc p (Xbc q m).2.1).2.2 then talkF k (Xbc p (Xbc q m).2.1).1 (Xbc q m).1 (Xbc p (Xbc q m).2.1).2.1
   else ((Xbc p (Xbc q m).2.1).1, (Xbc q m).1)
  else (p, (Xbc q m).1)
structure MsgOk (L : List Commit) (m : Mg) : Prop where
 sub : ∀ c ∈ m.commits, c ∈ L
 few : m.commits.length ≤ 6
 ids : m.ids.length ≤ 16
section
variable {L : List Commit}
theorem X06 (hc : Closed L) {S : List Commit} (h : Dn L S) (A : List ID) {c : Commit} (hm : c ∈ partF (Xbf S) A) : c ∈ L := h.sub c ((Xd1 (h.closed hc)).1 hm).1
theorem Xop (hc : Closed L) {S : List Commit} (h : Dn L S) (A : List ID) : (partF (Xbf S) A).length ≤ L.length :=
 Nat.le_trans (Xgk _ _) (Nat.le_trans (Xgi _) (Xoo hc h.sub h.nodup))
theorem Xxh (hc : Closed L) {S : List Commit} (h : Dn L S) (A : List ID) : MsgOk L (Xby (partF (Xbf S) A)).1 := by
 unfold Xby
 split
 ·exact ⟨by simp [mg0], by simp [mg0], by simp [mg0]⟩
 ·exact ⟨fun c hm => X06 hc h A (List.mem_of_mem_take hm), by simp; omega, by simp⟩
theorem Xxi (M : List ID) : MsgOk L (Xbr M).1 := by
 unfold Xbr
 split
 ·exact ⟨by simp [mg0], by simp [mg0], by simp [mg0]⟩
 ·exact ⟨by simp, by simp, by simp; omega⟩
theorem Gd.hear (hc : Closed L) (h6 : L.length ≤ 6) (h5 : ∀ c ∈ L, c.ev.node ≤ 5) {n : Nd} (h : Gd L n) {m : Mg} (hm : MsgOk L m) : Gd L (Xbc n m).1 ∧ MsgOk L (Xbc n m).2.1 := by
 unfold Xbc
 split
 ·split
  ·refine ⟨h.miss 0, ?_⟩
   dsimp only
   unfold Xbx
   split
   ·exact Xxh hc h.dn _
   ·exact Xxi _
  ·split
   ·exact ⟨h.miss 0, Xxh hc h.dn _⟩
   ·exact ⟨((h.miss 0).takeL hc h6 h5 hm.sub).1, Xxi _⟩
 ·exact ⟨h, by simp [mg0], by simp [mg0], by simp [mg0]⟩
theorem over (hc : Closed L) {S T : List Commit} (hS : Dn L S) (hT : Dn L T) (h : ∀ x ∈ frontF S, x ∈ cids T) : ∀ x ∈ cids S, x ∈ cids T := by
 have hSc := hS.closed hc
 have hpar : ∀ y x, par S y x → y ∈ cids T → x ∈ cids T := by
  rintro y x ⟨c, hm, rfl, hx, _⟩ hy
  exact hT.all c (Xr9 hc hS.sub hT.sub hm hy) x hx
 have hkn : ∀ y x, Xbz S y x → y ∈ cids T → x ∈ cids T := by
  intro y x hk
  induction hk with
  | single h1 => exact hpar _ _ h1
  | tail _ h1 ih => exact fun hy => hpar _ _ h1 (ih hy)
 intro x hx
 rcases Xp7 hSc hx with h1 | ⟨y, hy, hk⟩
 ·exact h x h1
 ·exact hkn y x hk (h y hy)
theorem Xna (A B : List ID) (w : Bool) : Xc7 (Xaw A B w) = true := Xob _ (Xk7 A B w) (Xim A B w)
theorem Xql (hc : Closed L) (h6 : L.length ≤ 6) (h5 : ∀ c ∈ L, c.ev.node ≤ 5) {n : Nd} (h : Gd L n) {A : List ID} (hr : Xc7 A = true) (hl : A.length ≤ 16) :
  Xbc n ⟨1, A, []⟩ = ({ n with miss := 0 }, Xby (partF (Xbf n.l) A)) := by
 rw [Xon (h.mayN hc h6 h5) h.up (by unfold Xgb; rw [if_pos (.inr rfl), hr, decide_eq_true hl]; rfl), if_neg (by decide), if_pos rfl]
theorem Xqm (hc : Closed L) (h6 : L.length ≤ 6) (h5 : ∀ c ∈ L, c.ev.node ≤ 5) {n : Nd} (h : Gd L n) {cs : List Commit} (hs : ∀ c ∈ cs, c ∈ L) (hl : cs.length ≤ 6) :
  Xbc n ⟨2, [], cs⟩ = (takeL { n with miss := 0 } cs, Xbr (Xeu (takeL { n with miss := 0 } cs).wait (idsP (takeL { n with miss := 0 } cs).l))) := by
 have hall : cs.all (fun c => may c && !merge c) = true := List.all_eq_true.2 fun c hm => by rw [hc.may c (hs c hm), (hc.fine c (hs c hm)).merge]; rfl
 rw [Xon (h.mayN hc h6 h5) h.up (by unfold Xgb; rw [if_neg (by simp), if_pos rfl, hall, decide_eq_true hl]; rfl), if_neg (by decide), if_neg (by decide)]
theorem Xsa (hc : Closed L) (h6 : L.length ≤ 6) (h5 : ∀ c ∈ L, c.ev.node ≤ 5) {n : Nd} (h : Gd L n) {A : List ID} (hr : Xc7 A = true) (hl : A.length ≤ 16) :
  Xbc n ⟨0, A, []⟩ = ({ n with miss := 0 }, Xbx n.l A) := by
 rw [Xon (h.mayN hc h6 h5) h.up (by unfold Xgb; rw [if_pos (.inl rfl), hr, decide_eq_true hl]; rfl), if_pos rfl]
theorem Xlp {l : List Commit} (h : l ≠ []) (h6 : l.length ≤ 6) : Xby l = (⟨2, [], l⟩, true) := by
 unfold Xby; rw [if_neg h, List.take_of_length_le h6]
theorem Xqn {l : List ID} (h : l ≠ []) (h6 : l.length ≤ 16) : Xbr l = (⟨1, l, []⟩, true) := by
 unfold Xbr; rw [if_neg h, List.take_of_length_le h6]
structure TalkR (L : List Commit) (p : Nd) (U : ID → Prop) (r : Nd × Nd) : Prop where
 fp : Gd L r.1
 fq : Gd L r.2
 pw : r.1.wait = []
 qw : r.2.wait = []
 all : ∀ x, x ∈ cids r.2.l ↔ U x
 more : ∀ x ∈ cids p.l, x ∈ cids r.1.l
 less : ∀ x ∈ cids r.1.l, U x
def todo (p : Nd) (A : List ID) : List ID := (cids p.l).filter (fun x => !decide (x ∈ A))
theorem Xxj {p : Nd} {A B : List ID} (h : ∀ x ∈ A, x ∈ B) {x : ID} (hx : x ∈ cids p.l) (h1 : x ∉ A) (h2 : x ∈ B) : (todo p B).length < (todo p A).length := by
 have hle : ∀ l : List ID, (l.filter (fun x => !decide (x ∈ B))).length ≤ (l.filter (fun x => !decide (x ∈ A))).length := by
  intro l
  induction l with
  | nil => simp
  | cons y l ih =>
   simp only [List.filter_cons]
   by_cases hA : y ∈ A
   ·have hB := h y hA
    simpa [hA, hB] using ih
   ·by_cases hB : y ∈ B
    ·simp only [hA, hB, decide_true, decide_false, Bool.not_true, Bool.not_false, if_true, Bool.false_eq_true, if_false, List.length_cons]; omega
    ·simp only [hA, hB, decide_false, Bool.not_false, if_true, List.length_cons]; omega
 have key : ∀ l : List ID, x ∈ l → (l.filter (fun x => !decide (x ∈ B))).length < (l.filter (fun x => !decide (x ∈ A))).length := by
  intro l
  induction l with
  | nil => intro h; cases h
  | cons y l ih =>
   intro hm
   simp only [List.filter_cons]
   rcases List.mem_cons.1 hm with rfl | hm
   ·have := hle l
    simp only [h1, h2, decide_true, decide_false, Bool.not_true, Bool.not_false, if_true, Bool.false_eq_true, if_false, List.length_cons]; omega
   ·have := ih hm
    by_cases hA : y ∈ A
    ·have hB := h y hA
     simpa [hA, hB] using this
    ·by_cases hB : y ∈ B
     ·simp only [hA, hB, decide_true, decide_false, Bool.not_true, Bool.not_false, if_true, Bool.false_eq_true, if_false, List.length_cons]; omega
     ·simp only [hA, hB, decide_false, Bool.not_false, if_true, List.length_cons]; omega
 exact key _ hx
theorem asks (hc : Closed L) (h6 : L.length ≤ 6) (h5 : ∀ c ∈ L, c.ev.node ≤ 5) : ∀ (k : Nat) (p q : Nd) (cs : List Commit), Gd L p → p.wait = [] → Gd L q → (∀ c ∈ cs, c ∈ p.l) → cs.length ≤ 6 →
  (∀ c ∈ q.wait, c ∈ p.l) → (∀ x ∈ frontF p.l, x ∈ allI q ∨ x ∈ cids cs) → (todo p (allI q ++ cids cs)).length < k → TalkR L p (fun x => x ∈ allI q ∨ x ∈ cids p.l) (talkF k p q ⟨2, [], cs⟩)
 | 0, _, _, _, _, _, _, _, _, _, _, hk => absurd hk (by omega)
 | k + 1, p, q, cs, hp, hpw, hq, hcs, hcl, hqw, hf, hk => by
  have hcL : ∀ c ∈ cs, c ∈ L := fun c hm => hp.dn.sub c (hcs c hm)
  obtain ⟨g1, g2, g3⟩ := (hq.miss 0).takeL hc h6 h5 hcL
  have gw := Xgl (P := fun c => c ∈ p.l) (n := { q with miss := 0 }) (l := cs) hqw hcs
  have hh := Xqm hc h6 h5 hq hcL hcl
  generalize takeL { q with miss := 0 } cs = q1 at g1 g2 g3 gw hh
  have g2' : ∀ x, x ∈ allI q1 ↔ x ∈ allI q ∨ x ∈ cids cs := g2
  have hmis := fun x => g1.missing hc (x := x)
  generalize hM : Xeu q1.wait (idsP q1.l) = M at hh hmis
  have hMn : M.Nodup := by rw [← hM]; exact Xim _ _ _
  have hMr : Xc7 M = true := by rw [← hM]; exact Xna _ _ _
  have hMp : ∀ x ∈ M, x ∈ cids p.l := fun x hx => by
   obtain ⟨⟨c, hm, hxp⟩, _⟩ := (hmis x).1 hx
   exact hp.dn.all c (gw c hm) x hxp
  have hMl : M.length ≤ 6 := by
   have := Xga M (cids p.l) hMn hMp
   have h7 := hp.llen hc
   rw [Xbp] at this
   omega
  unfold talkF
  rw [hh]
  by_cases hM0 : M = []
  ·have e1 : Xbr M = (mg0, false) := if_pos hM0
   rw [e1]
   dsimp only
   rw [if_neg Bool.false_ne_true]
   have hw0 : q1.wait = [] := g1.none hc fun c hm x hx => by
    by_cases h8 : x ∈ allI q1
    ·exact h8
    ·have := (hmis x).2 ⟨⟨c, hm, hx⟩, h8⟩
     rw [hM0] at this; cases this
   have hall : ∀ x, x ∈ cids q1.l ↔ x ∈ allI q ∨ x ∈ cids cs := fun x => by
    rw [← g2' x, Xdg, hw0]; simp [cids]
   have hov := over hc hp.dn g1.dn fun x hx => (hall x).2 (hf x hx)
   refine ⟨hp, g1, hpw, hw0, fun x => ?_, fun x hx => hx, fun x hx => .inr hx⟩
   constructor
   ·intro hx
    rcases (hall x).1 hx with h8 | h8
    ·exact .inl h8
    ·obtain ⟨c, hm, rfl⟩ := Xai.1 h8
     exact .inr (Xai.2 ⟨c, hcs c hm, rfl⟩)
   ·rintro (h8 | h8)
    ·exact (hall x).2 (.inl h8)
    ·exact hov x h8
  ·rw [Xqn hM0 (by omega)]
   dsimp only
   rw [if_pos rfl, Xql hc h6 h5 hp hMr (by omega)]
   have hpc := hp.dn.closed hc
   have hT := fun c => Xd1 hpc (A := M) (c := c)
   have hTl : (partF (Xbf p.l) M).length ≤ 6 := Nat.le_trans (Xop hc hp.dn M) h6
   generalize partF (Xbf p.l) M = T at hT hTl
   obtain ⟨x0, hx0⟩ := List.exists_mem_of_ne_nil M hM0
   obtain ⟨c0, hc0, e0⟩ := Xai.1 (hMp x0 hx0)
   have hc0T : c0 ∈ T := (hT c0).2 ⟨hc0, by rw [e0]; exact hx0⟩
   rw [Xlp (List.ne_nil_of_mem hc0T) hTl]
   dsimp only
   rw [if_pos rfl]
   have hx0q := ((hmis x0).1 hx0).2
   have hless := Xxj (p := p) (A := allI q ++ cids cs) (B := allI q1 ++ cids T) (x := x0)
    (fun x hx => by
     rw [List.mem_append, g2' x]
     exact .inl (List.mem_append.1 hx))
    (hMp x0 hx0) (fun hx => hx0q ((g2' x0).2 (List.mem_append.1 hx))) (List.mem_append.2 (.inr (Xai.2 ⟨c0, hc0T, e0⟩)))
   have ih := asks hc h6 h5 k { p with miss := 0 } q1 T (hp.miss 0) hpw g1 (fun c hm => ((hT c).1 hm).1) hTl gw (fun x hx => .inl ((g2' x).2 (hf x hx))) (by
    show (todo p (allI q1 ++ cids T)).length < k
    omega)
   refine ⟨ih.fp, ih.fq, ih.pw, ih.qw, fun x => ?_, ih.more, fun x hx => ?_⟩
   ·rw [ih.all x, g2' x]
    constructor
    ·rintro ((h8 | h8) | h8)
     ·exact .inl h8
     ·obtain ⟨c, hm, rfl⟩ := Xai.1 h8
      exact .inr (Xai.2 ⟨c, hcs c hm, rfl⟩)
     ·exact .inr h8
    ·rintro (h8 | h8)
     ·exact .inl (.inl h8)
     ·exact .inr h8
   ·have := ih.less x hx
    rw [g2' x] at this
    rcases this with (h8 | h8) | h8
    ·exact .inl h8
    ·obtain ⟨c, hm, rfl⟩ := Xai.1 h8
     exact .inr (Xai.2 ⟨c, hcs c hm, rfl⟩)
    ·exact .inr h8
theorem Xs7 (hc : Closed L) (h6 : L.length ≤ 6) (h5 : ∀ c ∈ L, c.ev.node ≤ 5) {p q : Nd} (hp : Gd L p) (hq : Gd L q) (hpw : p.wait = []) (hqw : q.wait = []) :
  TalkR L p (fun x => x ∈ cids p.l ∨ x ∈ cids q.l) (talkF 20 p q ⟨0, frontF p.l, []⟩) := by
 have hpc := hp.dn.closed hc
 have hqc := hq.dn.closed hc
 have hfl := Xk9 hpc
 have hqa : ∀ x, x ∈ allI q ↔ x ∈ cids q.l := fun x => by rw [Xdg, hqw]; simp [cids]
 have hfp : ∀ x ∈ frontF p.l, x ∈ cids p.l := fun x hx => Xw9 hx
 unfold talkF
 rw [Xsa hc h6 h5 hq (Xrw _) (by omega)]
 unfold Xbx
 by_cases hW : Xaw (frontF p.l) (idsP q.l) false = []
 ·rw [if_pos hW]
  rw [Xm3, hq.ids hc] at hW
  have hov := over hc hp.dn hq.dn hW
  have hT := fun c => Xd1 hqc (A := Xaw (idsP q.l) (ancF q.l (frontF p.l)) false) (c := c)
  have hTl : (partF (Xbf q.l) (Xaw (idsP q.l) (ancF q.l (frontF p.l)) false)).length ≤ 6 := Nat.le_trans (Xop hc hq.dn _) h6
  generalize partF (Xbf q.l) (Xaw (idsP q.l) (ancF q.l (frontF p.l)) false) = T at hT hTl
  have hqT : ∀ x ∈ cids q.l, x ∈ cids p.l ∨ x ∈ cids T := by
   intro x hx
   obtain ⟨c, hm, rfl⟩ := Xai.1 hx
   by_cases ha : idC c ∈ ancF q.l (frontF p.l)
   ·left
    have h1 := ((Xk6 q.l (frontF p.l)).mem hqc _).1 ha
    rcases h1.2 with h2 | ⟨y, hy, hk⟩
    ·exact hfp _ h2
    ·have hpar : ∀ y x, par q.l y x → y ∈ cids p.l → x ∈ cids p.l := by
      rintro y x ⟨d, hd, rfl, hx, _⟩ hy
      exact hp.dn.all d (Xr9 hc hq.dn.sub hp.dn.sub hd hy) x hx
     have hkn : ∀ y x, Xbz q.l y x → y ∈ cids p.l → x ∈ cids p.l := by
      intro y x hk
      induction hk with
      | single h1 => exact hpar _ _ h1
      | tail _ h1 ih => exact fun hy => hpar _ _ h1 (ih hy)
     exact hkn y _ hk (hfp y hy)
   ·right
    exact Xai.2 ⟨c, (hT c).2 ⟨hm, Xdl.2 ⟨by rw [hq.ids hc]; exact hx, ha⟩⟩, rfl⟩
  by_cases hT0 : T = []
  ·have e1 : Xby T = (mg0, false) := if_pos hT0
   rw [e1]
   dsimp only
   rw [if_neg Bool.false_ne_true]
   refine ⟨hp, hq.miss 0, hpw, hqw, fun x => ⟨.inr, fun h => h.elim (hov x) id⟩, fun x hx => hx, fun x hx => .inl hx⟩
  ·rw [Xlp hT0 hTl]
   dsimp only
   have hTL : ∀ c ∈ T, c ∈ L := fun c hm => hq.dn.sub c ((hT c).1 hm).1
   obtain ⟨g1, g2, g3⟩ := (hp.miss 0).takeL hc h6 h5 hTL
   have gw := Xgl (P := fun c => c ∈ q.l) (n := { p with miss := 0 }) (l := T) (fun c hm => by rw [show ({ p with miss := 0 } : Nd).wait = [] from hpw] at hm; cases hm) (fun c hm => ((hT c).1 hm).1)
   have hh := Xqm hc h6 h5 hp hTL hTl
   generalize takeL { p with miss := 0 } T = p1 at g1 g2 g3 gw hh
   have hpa : ∀ x, x ∈ allI { p with miss := 0 } ↔ x ∈ cids p.l := fun x => by rw [Xdg]; show x ∈ cids p.l ∨ x ∈ cids p.wait ↔ _; rw [hpw]; simp [cids]
   have hall : ∀ x ∈ cids q.l, x ∈ allI p1 := fun x hx => (g2 x).2 ((hqT x hx).imp (hpa x).2 id)
   have hw0 : p1.wait = [] := g1.none hc fun c hm x hx => hall x (hq.dn.all c (gw c hm) x hx)
   have hM : Xeu p1.wait (idsP p1.l) = [] := by
    rw [List.eq_nil_iff_forall_not_mem]
    intro x hx
    rw [g1.missing hc, hw0] at hx
    obtain ⟨⟨c, hm, _⟩, _⟩ := hx
    cases hm
   rw [if_pos rfl, hh, hM]
   have e1 : Xbr [] = (mg0, false) := rfl
   rw [e1]
   dsimp only
   rw [if_neg Bool.false_ne_true]
   have hp1 : ∀ x, x ∈ cids p1.l ↔ x ∈ cids p.l ∨ x ∈ cids T := fun x => by
    rw [← hpa x, ← g2 x, Xdg, hw0]; simp [cids]
   refine ⟨g1, hq.miss 0, hw0, hqw, fun x => ⟨.inr, fun h => h.elim (hov x) id⟩, fun x hx => (hp1 x).2 (.inl hx), fun x hx => ?_⟩
   rcases (hp1 x).1 hx with h8 | h8
   ·exact .inl h8
   ·obtain ⟨c, hm, rfl⟩ := Xai.1 h8
    exact .inr (Xai.2 ⟨c, ((hT c).1 hm).1, rfl⟩)
 ·rw [if_neg hW]
  have hWp : ∀ x ∈ Xaw (frontF p.l) (idsP q.l) false, x ∈ cids p.l := fun x hx => hfp x (Xdl.1 hx).1
  have hWq : ∀ x ∈ frontF p.l, x ∈ cids q.l ∨ x ∈ Xaw (frontF p.l) (idsP q.l) false := fun x hx => by
   by_cases h8 : x ∈ cids q.l
   ·exact .inl h8
   ·exact .inr (Xdl.2 ⟨hx, by rw [hq.ids hc]; exact h8⟩)
  have hWl : (Xaw (frontF p.l) (idsP q.l) false).length ≤ 8 := Nat.le_trans (Xoh _ _ _) hfl
  have hWr := Xna (frontF p.l) (idsP q.l) false
  generalize Xaw (frontF p.l) (idsP q.l) false = W at hW hWp hWq hWl hWr
  rw [Xqn hW (by omega)]
  dsimp only
  rw [if_pos rfl, Xql hc h6 h5 hp hWr (by omega)]
  have hT := fun c => Xd1 hpc (A := W) (c := c)
  have hTl : (partF (Xbf p.l) W).length ≤ 6 := Nat.le_trans (Xop hc hp.dn W) h6
  generalize partF (Xbf p.l) W = T at hT hTl
  obtain ⟨x0, hx0⟩ := List.exists_mem_of_ne_nil W hW
  obtain ⟨c0, hc0, e0⟩ := Xai.1 (hWp x0 hx0)
  have hc0T : c0 ∈ T := (hT c0).2 ⟨hc0, by rw [e0]; exact hx0⟩
  rw [Xlp (List.ne_nil_of_mem hc0T) hTl]
  dsimp only
  rw [if_pos rfl]
  have ih := asks hc h6 h5 19 { p with miss := 0 } { q with miss := 0 } T (hp.miss 0) hpw (hq.miss 0) (fun c hm => ((hT c).1 hm).1) hTl (fun c hm => by rw [show ({ q with miss := 0 } : Nd).wait = [] from hqw] at hm; cases hm)
   (fun x hx => (hWq x hx).imp (fun h8 => (hqa x).2 h8) (fun h8 => by
    obtain ⟨c, hm, rfl⟩ := Xai.1 (hWp x h8)
    exact Xai.2 ⟨c, (hT c).2 ⟨hm, h8⟩, rfl⟩)) (by
    have h9 : (todo { p with miss := 0 } (allI { q with miss := 0 } ++ cids T)).length ≤ (cids p.l).length := List.length_filter_le _ _
    have h7 := hp.llen hc
    rw [Xbp] at h9
    omega)
  have hqa' : ∀ x, x ∈ allI { q with miss := 0 } ↔ x ∈ cids q.l := hqa
  refine ⟨ih.fp, ih.fq, ih.pw, ih.qw, fun x => ?_, ih.more, fun x hx => ?_⟩
  ·rw [ih.all x, hqa' x]; exact or_comm
  ·have := ih.less x hx
   rw [hqa' x] at this
   exact or_comm.1 this
end
theorem Gd.few {L : List Commit} (hc : Closed L) (h6 : L.length ≤ 6) (hf : ∀ x ∈ L, fine x) {n : Nd} (h : Gd L n) : NdFew n := by
 have h1 := h.llen hc
 have h2 := h.wlen hc
 have h3 : (Xdo n.l).length ≤ 414 * n.l.length := Xom fun c hm => hc.may c (h.dn.sub c hm)
 have h4 := h.disk
 exact ⟨fun x hx => hf x (h.dn.sub x hx), fun x hx => hf x (h.wsub x hx), by rw [h4]; omega, by omega, by rw [h.peers]; decide⟩
theorem Xs8 (L : List Commit) (hc : Closed L) (h6 : L.length ≤ 6) (h5 : ∀ c ∈ L, c.ev.node ≤ 5) (hf : ∀ x ∈ L, fine x) (hq : ∀ x ∈ L, x.parents.length ≤ 1000)
  (p q : Nd) (y z : Na) (m : Mg) (v : Ma) (hp : Gd L p) (hqq : Gd L q) (hm : MsgOk L m)
  (a1 : (sl y.d y.dk p.disk).holds F w) (a2 : (sl y.l y.lk p.l).holds F w) (a3 : (sl y.w y.wk p.wait).holds F w) (a4 : (sl y.p y.pk p.peers).holds F w)
  (b1 : (sl z.d z.dk q.disk).holds F w) (b2 : (sl z.l z.lk q.l).holds F w) (b3 : (sl z.w z.wk q.wait).holds F w) (b4 : (sl z.p z.pk q.peers).holds F w)
  (c1 : (sl v.i v.ik m.ids).holds F w) (c2 : (sl v.c v.ck m.commits).holds F w) :
  Gives prog 50 [ndV p y, ndV q z, mgV m v] w F (fun r : Na × Na => .tuple ⟨[ndV (talkF 20 p q m).1 r.1, ndV (talkF 20 p q m).2 r.2]⟩)
   (fun r => [.st (sl r.1.d r.1.dk (talkF 20 p q m).1.disk), .st (sl r.1.l r.1.lk (talkF 20 p q m).1.l), .st (sl r.1.w r.1.wk (talkF 20 p q m).1.wait), .st (sl r.1.p r.1.pk (talkF 20 p q m).1.peers), .st (sl r.2.d r.2.dk (talkF 20 p q m).2.disk), .st (sl r.2.l r.2.lk (talkF 20 p q m).2.l), .st (sl r.2.w r.2.wk (talkF 20 p q m).2.wait), .st (sl r.2.p r.2.pk (talkF 20 p q m).2.peers)]) := by
 have hst := (Hold.start4 a1 a2 a3 a4).add (A := sl z.d z.dk q.disk) (Asn.mono _ _ _ _ (fun k hk => ⟨.inl hk, by simp [free, Fact.owns]⟩) b1)
 have hst := hst.add (A := sl z.l z.lk q.l) (Asn.mono _ _ _ _ (fun k hk => ⟨.inl hk, by simp [free, Fact.owns]⟩) b2)
 have hst := hst.add (A := sl z.w z.wk q.wait) (Asn.mono _ _ _ _ (fun k hk => ⟨.inl hk, by simp [free, Fact.owns]⟩) b3)
 have hst := hst.add (A := sl z.p z.pk q.peers) (Asn.mono _ _ _ _ (fun k hk => ⟨.inl hk, by simp [free, Fact.owns]⟩) b4)
 have hst := hst.add (A := sl v.i v.ik m.ids) (Asn.mono _ _ _ _ (fun k hk => ⟨.inl hk, by simp [free, Fact.owns]⟩) c1)
 have hst := hst.add (A := sl v.c v.ck m.commits) (Asn.mono _ _ _ _ (fun k hk => ⟨.inl hk, by simp [free, Fact.owns]⟩) c2)
 clear a1 a2 a3 a4 b1 b2 b3 b4 c1 c2
 refine Xaa func50 rfl ntmps50 rfl rfl _ hst ?_
 (repeat (refine wE ?_; intro _)); refine wA ?_
 rename_i b3 b4 b5 b6 b7
 refine Xb7 (fun (i : Nat) (S : Nd × Nd × Mg) (A : Na × Na × Ma) => [(3, .pointer (some ⟨b3, 0, none⟩)), (4, .pointer (some ⟨b4, 0, none⟩)), (5, .pointer (some ⟨b5, 0, none⟩)), (6, .pointer (some ⟨b6, 0, none⟩)), (7, .pointer (some ⟨b7, 0, none⟩)), (8, .int .i64 (i : Int))])
  (fun i S A => [.own b3 50 (ndC S.1 A.1), .own b4 50 (ndC S.2.1 A.2.1), .own b5 52 (mgC S.2.2 A.2.2), .own b6 50 [.int .i64 0, .slice none 0 0, .int .i64 0, .slice none 0 0, .slice none 0 0, .int .i64 0, .bool false, .slice none 0 0, .int .i64 0, .int .i64 0], .own b7 50 [.int .i64 0, .slice none 0 0, .int .i64 0, .slice none 0 0, .slice none 0 0, .int .i64 0, .bool false, .slice none 0 0, .int .i64 0, .int .i64 0], .st (sl A.1.d A.1.dk S.1.disk), .st (sl A.1.l A.1.lk S.1.l), .st (sl A.1.w A.1.wk S.1.wait), .st (sl A.1.p A.1.pk S.1.peers), .st (sl A.2.1.d A.2.1.dk S.2.1.disk), .st (sl A.2.1.l A.2.1.lk S.2.1.l), .st (sl A.2.1.w A.2.1.wk S.2.1.wait), .st (sl A.2.1.p A.2.1.pk S.2.1.peers), .st (sl A.2.2.i A.2.2.ik S.2.2.ids), .st (sl A.2.2.c A.2.2.ck S.2.2.commits)])
  (fun i S A => i ≤ 20 ∧ Gd L S.1 ∧ Gd L S.2.1 ∧ MsgOk L S.2.2 ∧ talkF (20 - i) S.1 S.2.1 S.2.2 = talkF 20 p q m) (fun i _ _ => 20 - i) 0 (p, q, m) (y, z, v) ⟨by omega, hp, hqq, hm, rfl⟩ iI ?_
 clear hp hqq hm
 generalize talkF 20 p q m = R
 rintro i ⟨p, q, m⟩ ⟨y, z, v⟩ ⟨hi, hp, hqq, hm, hR⟩
 dsimp only at hp hqq hm hR ⊢
 refine wz11 ?_
 refine JC.test (fun hlt => ?_) (fun hge => ?_)
 ·obtain ⟨k, hk⟩ : ∃ k, 20 - i = k + 1 := ⟨19 - i, by omega⟩
  rw [hk, talkF] at hR
  obtain ⟨hg1, hg2⟩ := hqq.hear hc h6 h5 hm
  have g1 := fun w1 F1 x1 x2 x3 x4 x5 x6 => Xg3 w1 F1 q z m v x1 x2 x3 x4 x5 x6 (hqq.few hc h6 hf) (by have := hm.few; omega) (fun c hx => hf c (hm.sub c hx)) (fun c hx => hq c (hqq.wsub c hx)) (fun c hx => hq c (hm.sub c hx))
  generalize Xbc q m = H at hR hg1 hg2 g1
  obtain ⟨Q, r, t⟩ := H
  dsimp only at hR hg1 hg2 g1
  refine wz1 ?_
  refine JR.call (v := fun A : Na × Ma => .tuple ⟨[ndV Q A.1, mgV r A.2, .bool t]⟩) (B := fun A => [.st (sl A.1.d A.1.dk Q.disk), .st (sl A.1.l A.1.lk Q.l), .st (sl A.1.w A.1.wk Q.wait), .st (sl A.1.p A.1.pk Q.peers), .st (sl A.2.i A.2.ik r.ids), .st (sl A.2.c A.2.ck r.commits)]) rfl (fun w1 hw => g1 w1 _ hw.get hw.get hw.get hw.get hw.get hw.get) ?_
  rintro ⟨zQ, vr⟩
  dsimp only [List.cons_append, List.nil_append]
  (repeat (refine wE ?_; intro _)); refine wA ?_
  cases t with
  | false =>
   rw [if_neg Bool.false_ne_true] at hR
   rw [← hR]
   obtain ⟨P, hP⟩ : ∃ P, P = p := ⟨_, rfl⟩
   obtain ⟨yP, hyP⟩ : ∃ yP, yP = y := ⟨_, rfl⟩
   subst hP hyP
   refine wz12 ?_
   refine JC.drawP mixed ?_
   refine JP.tv 0 [.own b3 50 (ndC P yP)] ?_
   refine JP.tv 1 [.own b4 50 (ndC Q zQ)] ?_
   refine Xal 2 rfl rfl (Wi (Wd (nO ?_)))
   refine Xal 3 rfl rfl (Wi (Wd (nO ?_)))
   refine JP.nil (by kernel_rfl) ?_
   refine wz13 ?_
   exact CT.dn (Y := Na × Na) (yP, zQ) rfl
  | true =>
   rw [if_pos rfl] at hR
   obtain ⟨hg3, hg4⟩ := hp.hear hc h6 h5 hg2
   have g2 := fun w1 F1 x1 x2 x3 x4 x5 x6 => Xg3 w1 F1 p y r vr x1 x2 x3 x4 x5 x6 (hp.few hc h6 hf) (by have := hg2.few; omega) (fun c hx => hf c (hg2.sub c hx)) (fun c hx => hq c (hp.wsub c hx)) (fun c hx => hq c (hg2.sub c hx))
   generalize Xbc p r = H at hR hg3 hg4 g2
   obtain ⟨P, s, u⟩ := H
   dsimp only at hR hg3 hg4 g2
   refine wA ?_
   refine JR.call (v := fun A : Na × Ma => .tuple ⟨[ndV P A.1, mgV s A.2, .bool u]⟩) (B := fun A => [.st (sl A.1.d A.1.dk P.disk), .st (sl A.1.l A.1.lk P.l), .st (sl A.1.w A.1.wk P.wait), .st (sl A.1.p A.1.pk P.peers), .st (sl A.2.i A.2.ik s.ids), .st (sl A.2.c A.2.ck s.commits)]) rfl (fun w1 hw => g2 w1 _ hw.get hw.get hw.get hw.get hw.get hw.get) ?_
   rintro ⟨yP, vs⟩
   dsimp only [List.cons_append, List.nil_append]
   (repeat (refine wE ?_; intro _)); refine wA ?_
   cases u with
   | false =>
    rw [if_neg Bool.false_ne_true] at hR
    rw [← hR]
    refine wz12 ?_
    refine JC.drawP mixed ?_
    refine JP.tv 0 [.own b3 50 (ndC P yP)] ?_
    refine JP.tv 1 [.own b4 50 (ndC Q zQ)] ?_
    refine Xal 2 rfl rfl (Wi (Wd (nO ?_)))
    refine Xal 3 rfl rfl (Wi (Wd (nO ?_)))
    refine JP.nil (by kernel_rfl) ?_
    refine wz13 ?_
    exact CT.dn (Y := Na × Na) (yP, zQ) rfl
   | true =>
    rw [if_pos rfl] at hR
    refine wA ?_
    exact ⟨i + 1, (P, Q, s), (yP, zQ, vs), ⟨by omega, hg3, hg1, hg4, by rw [show 20 - (i + 1) = k by omega]; exact hR⟩, by omega, iI⟩
 ·obtain rfl : i = 20 := by omega
  rw [show 20 - 20 = 0 from rfl, talkF] at hR
  rw [← hR]
  obtain ⟨P, hP⟩ : ∃ P, P = p := ⟨_, rfl⟩
  obtain ⟨yP, hyP⟩ : ∃ yP, yP = y := ⟨_, rfl⟩
  obtain ⟨Q, hQ⟩ : ∃ Q, Q = q := ⟨_, rfl⟩
  obtain ⟨zQ, hzQ⟩ : ∃ zQ, zQ = z := ⟨_, rfl⟩
  subst hP hyP hQ hzQ
  dsimp only
  refine wz3 ?_
  refine JC.drawP mixed ?_
  refine JP.tv 0 [.own b3 50 (ndC P yP)] ?_
  refine JP.tv 1 [.own b4 50 (ndC Q zQ)] ?_
  refine Xal 2 rfl rfl (Wi (Wd (nO ?_)))
  refine Xal 3 rfl rfl (Wi (Wd (nO ?_)))
  refine JP.nil (by kernel_rfl) ?_
  refine wz13 ?_
  exact CT.dn (Y := Na × Na) (yP, zQ) rfl
theorem Xxk {L : List Commit} {c : Commit} {i : Nat} (h : ∀ x ∈ L.take i, x.ev.node ≤ 5) (hi : i < L.length) (h5 : L[i].ev.node ≤ 5) : ∀ x ∈ L.take (i + 1), x.ev.node ≤ 5 := by
 intro x hx
 rcases (Xa3 hi).1 hx with hx | rfl
 ·exact h x hx
 ·exact h5
def Xft (no : Int) : Nd := ⟨no, [], 1048576, [], [], 0, true, [], 0, 0⟩
theorem Xsb {L : List Commit} {no : Int} (h : 6 ≤ no ∧ no ≤ 7) : Gd L (Xft no) :=
 ⟨⟨h, rfl, rfl, rfl, rfl, Dn.nil, by simp [Xft], by simp [Xft], by simp [Xft, cids], rfl⟩, by simp [Xft]⟩
theorem Xzk {P : Program} {f : FuncId} {args : List Value} {w : World} {F : Nat → Prop} {el : TypeId} {L M : List ID} (e : L = M) (h : GivesBuf P f args w F el L) : GivesBuf P f args w F el M := e ▸ h
theorem Xs9 (no : Int) (h : no = 6 ∨ no = 7) : Gives prog 47 [.int .i64 no, .int .i64 1048576] w F (fun _ : Unit => .tuple ⟨[ndV (Xft no) na0, .bool true]⟩) (fun _ => []) := by
 have h9 := Xm0 w F no 1048576
 have e : newN no 1048576 = (Xft no, true) := by rcases h with rfl | rfl <;> rfl
 rw [e] at h9
 exact h9
theorem Xqo {L : List Commit} (hc : Closed L) (h6 : L.length ≤ 6) (h5 : ∀ c ∈ L, c.ev.node ≤ 5) {no : Int} (h : 6 ≤ no ∧ no ≤ 7) (A : List ID) :
  Gd L (takeL (Xft no) (Xbf (partF L (ancF L A)))) ∧ (takeL (Xft no) (Xbf (partF L (ancF L A)))).wait = [] := by
 have hpc := Xp9 hc A
 have hsub : ∀ c ∈ Xbf (partF L (ancF L A)), c ∈ L := fun c hm => Xhv ((Xe7 hpc).mem_iff.1 hm)
 have hsc := Xi7 hpc
 have g0 := Xsb (L := L) h
 obtain ⟨g1, g2, g3⟩ := g0.takeL hc h6 h5 hsub
 have gw := Xgl (P := fun c => c ∈ Xbf (partF L (ancF L A))) (n := Xft no) (l := Xbf (partF L (ancF L A))) (fun c hm => by cases hm) (fun c hm => hm)
 refine ⟨g1, g1.none hc fun c hm p hp => (g2 p).2 (.inr ?_)⟩
 exact (hsc.fine c (gw c hm)).here p hp
theorem Xta (L : List Commit) (A : List ID) : (Xbf (partF L A)).length ≤ L.length := Nat.le_trans (Xgi _) (Xgk _ _)
theorem Xtb {L : List Commit} (hc : Closed L) {n : Nd} (h : Gd L n) {W : List ID} (h1 : ∀ x, x ∈ W ↔ x ∈ cids n.l) (h2 : W.Nodup) (h3 : W.Pairwise (fun x y => idLt y x = false)) : Xcc (Xdj (idsP n.l)) = W := by
 rw [h.ids hc]
 refine Xfh ((List.perm_ext_iff_of_nodup ((Xb5 _).nodup_iff.2 (Xbw _)) h2).2 fun x => ?_) (Xbo _) h3
 rw [Xf0, Xe1, h1 x]
theorem law_fair (a b d : Option Addr) (k m q : Nat) (l : List Commit) (A B : List ID) (h : (sl a k l).holds F w) (hA : (sl b m A).holds F w) (hB : (sl d q B).holds F w) :
  GivesV prog 11 [.slice a l.length k, .slice b A.length m, .slice d B.length q] w F (.bool true) := by
 have hAl : A.length < 9223372036854775807 := by have := hA.2.2.1; simp only [lim] at this; omega
 have hBl : B.length < 9223372036854775807 := by have := hB.2.2.1; simp only [lim] at this; omega
 refine Xaa func11 rfl ntmps11 rfl rfl [.st (sl a k l), .st (sl b m A), .st (sl d q B)] (.start3 h hA hB) ?_
 refine wz10 ?_
 refine JR.callV rfl (fun w1 hw => Xqj w1 _) ?_
 refine wz10 ?_
 refine JR.callV rfl (fun w1 hw => X0h w1 _ a k l 6 hw.get) ?_
 cases hfew : fewL l 6 with
 | false =>
  refine wz8 ?_
  exact CT.dn () rfl
 | true =>
 obtain ⟨h6, hf⟩ := Xyp hfew
 have hq := Xqg hfew
 refine wz5 ?_
 by_cases g1 : A.length > 20
 ·refine JO.reslot 36 (.bool true) (by congr 1; exact decide_eq_true (by omega)) ?_
  refine wz8 ?_
  exact CT.dn () rfl
 refine JO.reslot 36 (.bool false) (by congr 1; exact decide_eq_false (by omega)) ?_
 refine wz5 ?_
 by_cases g2 : B.length > 20
 ·refine JO.reslot 41 (.bool true) (by congr 1; exact decide_eq_true (by omega)) ?_
  refine wz8 ?_
  exact CT.dn () rfl
 refine JO.reslot 41 (.bool false) (by congr 1; exact decide_eq_false (by omega)) ?_
 refine wz6 ?_
 refine JR.callV rfl (fun w1 hw => Xfn w1 _ a k l (closedB l) hw.get (by omega) hf Xb6) ?_
 cases hcl : closedB l with
 | false =>
  refine wz8 ?_
  exact CT.dn () rfl
 | true =>
 have hc : Closed l := Xb6.1 hcl
 refine wz7 ?_
 refine Xay (fun (i : Nat) => [(0, .slice a l.length k), (1, .slice b A.length m), (2, .slice d B.length q), (9, .int .i64 (i : Int))])
  (fun _ => [.st (sl a k l), .st (sl b m A), .st (sl d q B)]) (fun i => i ≤ l.length ∧ ∀ x ∈ l.take i, x.ev.node ≤ 5) (fun i => l.length - i) 0 ⟨Nat.zero_le _, by simp⟩ iI ?_
 rintro i ⟨hi, h5⟩
 refine wz11 ?_
 refine JC.test (fun hlt => ?_) (fun hge => ?_)
 ·have hlt' : i < l.length := by omega
  refine wz14 ?_
  refine Xaj rfl hlt' ?_
  intro b3 o3 p3 q3
  refine wA ?_
  refine JC.test (fun hx => ?_) (fun hx => ?_)
  ·refine wz5 ?_
   exact CT.dn () rfl
  refine wz2 ?_
  exact ⟨i + 1, ⟨by omega, Xxk (c := l[i]) h5 hlt' (by omega)⟩, by omega, iI⟩
 obtain rfl : i = l.length := by omega
 rw [List.take_length] at h5
 obtain ⟨gp, gpw⟩ := Xqo hc h6 h5 (no := 6) ⟨by omega, by omega⟩ A
 obtain ⟨gq, gqw⟩ := Xqo hc h6 h5 (no := 7) ⟨by omega, by omega⟩ B
 have cp := fun w1 F1 a1 a2 x => Xg2 w1 F1 (Xft 6) na0 (Xbf (partF l (ancF l A))) a1 a2 Xak Xak Xak Xak x (Xsb (L := l) ⟨by omega, by omega⟩ |>.few hc h6 hf) (by have := Xta l (ancF l A); omega) (Xgj fun x hx => hf x (Xhv hx))
 have cq := fun w1 F1 a1 a2 x => Xg2 w1 F1 (Xft 7) na0 (Xbf (partF l (ancF l B))) a1 a2 Xak Xak Xak Xak x (Xsb (L := l) ⟨by omega, by omega⟩ |>.few hc h6 hf) (by have := Xta l (ancF l B); omega) (Xgj fun x hx => hf x (Xhv hx))
 generalize takeL (Xft 6) (Xbf (partF l (ancF l A))) = p at gp gpw cp
 generalize takeL (Xft 7) (Xbf (partF l (ancF l B))) = r at gq gqw cq
 refine wz3 ?_
 refine JR.call (v := fun _ : Unit => .tuple ⟨[ndV (Xft 6) na0, .bool true]⟩) (B := fun _ => []) rfl (fun w1 hw => Xs9 w1 _ 6 (.inl rfl)) ?_
 rintro ⟨⟩
 dsimp only [List.cons_append, List.nil_append]
 (repeat (refine wE ?_; intro _)); refine wA ?_
 rename_i b10
 refine JR.call (v := fun _ : Unit => .tuple ⟨[ndV (Xft 7) na0, .bool true]⟩) (B := fun _ => []) rfl (fun w1 hw => Xs9 w1 _ 7 (.inr rfl)) ?_
 rintro ⟨⟩
 dsimp only [List.cons_append, List.nil_append]
 (repeat (refine wE ?_; intro _)); refine wA ?_
 rename_i b12
 refine Xj6 (fun y : Na => [(0, .slice a l.length k), (2, .slice d B.length q), (10, .pointer (some ⟨b10, 0, none⟩)), (12, .pointer (some ⟨b12, 0, none⟩))])
  (fun y => [.own b10 50 (ndC p y), .own b12 50 (ndC (Xft 7) na0), .st (sl y.d y.dk p.disk), .st (sl y.l y.lk p.l), .st (sl y.w y.wk p.wait), .st (sl y.p y.pk p.peers), .st (sl a k l), .st (sl d q B)]) ?_ ?_
 ·refine JC.drawP mixed ?_
  refine JP.tv 0 [.own b10 50 (ndC (Xft 6) na0)] ?_
  refine Xab 1 ?_
  refine Xab 2 ?_
  refine Xab 3 ?_
  refine Xal 4 rfl rfl (JR.callSl rfl (fun w1 hw => Xw0 w1 _ a b k m l A (ancF l A) hw.get hw.get (by omega) (by omega) hf (Xk6 l A)) (fun a4 k4 => Wd (nO ?_)))
  refine Xal 5 rfl rfl (JR.callSl rfl (fun w1 hw => Xhw w1 _ a a4 k k4 l (partF l (ancF l A)) (ancF l A) hw.get hw.get (by omega) hf (Xhu _ _)) (fun a5 k5 => Wd (nO ?_)))
  refine Xal 6 rfl rfl (JR.callSl rfl (fun w1 hw => Xfo w1 _ a5 k5 (partF l (ancF l A)) (Xbf (partF l (ancF l A))) hw.get (by have := Xgk l (ancF l A); omega) (fun x hx => hf x (Xhv hx)) (Xfq _)) (fun a6 k6 => Wd (nO ?_)))
  refine Xal 7 rfl rfl (JR.call (v := fun z : Na => ndV p z) (B := fun z => ndB p z) rfl (fun w1 hw => cp w1 _ a6 k6 (hw.get (A := sl a6 k6 (Xbf (partF l (ancF l A)))))) (fun y => Wd (nO ?_)))
  dsimp only [ndB, List.cons_append, List.nil_append]
  refine Xal 8 rfl rfl (Wi (Wd (nO ?_)))
  exact JP.nil (by kernel_rfl) ⟨rfl, y, iI⟩
 intro y
 refine wz14 ?_
 refine Xj6 (fun z : Na => [(10, .pointer (some ⟨b10, 0, none⟩)), (12, .pointer (some ⟨b12, 0, none⟩))])
  (fun z => [.own b10 50 (ndC p y), .own b12 50 (ndC r z), .st (sl y.d y.dk p.disk), .st (sl y.l y.lk p.l), .st (sl y.w y.wk p.wait), .st (sl y.p y.pk p.peers), .st (sl z.d z.dk r.disk), .st (sl z.l z.lk r.l), .st (sl z.w z.wk r.wait), .st (sl z.p z.pk r.peers)]) ?_ ?_
 ·refine JC.drawP mixed ?_
  refine JP.tv 0 [.own b12 50 (ndC (Xft 7) na0)] ?_
  refine Xab 1 ?_
  refine Xab 2 ?_
  refine Xab 3 ?_
  refine Xal 4 rfl rfl (JR.callSl rfl (fun w1 hw => Xw0 w1 _ a d k q l B (ancF l B) hw.get hw.get (by omega) (by omega) hf (Xk6 l B)) (fun a4 k4 => Wd (nO ?_)))
  refine Xal 5 rfl rfl (JR.callSl rfl (fun w1 hw => Xhw w1 _ a a4 k k4 l (partF l (ancF l B)) (ancF l B) hw.get hw.get (by omega) hf (Xhu _ _)) (fun a5 k5 => Wd (nO ?_)))
  refine Xal 6 rfl rfl (JR.callSl rfl (fun w1 hw => Xfo w1 _ a5 k5 (partF l (ancF l B)) (Xbf (partF l (ancF l B))) hw.get (by have := Xgk l (ancF l B); omega) (fun x hx => hf x (Xhv hx)) (Xfq _)) (fun a6 k6 => Wd (nO ?_)))
  refine Xal 7 rfl rfl (JR.call (v := fun z : Na => ndV r z) (B := fun z => ndB r z) rfl (fun w1 hw => cq w1 _ a6 k6 (hw.get (A := sl a6 k6 (Xbf (partF l (ancF l B)))))) (fun z => Wd (nO ?_)))
  dsimp only [ndB, List.cons_append, List.nil_append]
  refine Xal 8 rfl rfl (Wi (Wd (nO ?_)))
  exact JP.nil (by kernel_rfl) ⟨rfl, z, iI⟩
 intro z
 have hpl := gp.few hc h6 hf
 have hrl := gq.few hc h6 hf
 have hln1 := hpl.len
 have hln2 := hrl.len
 have hil1 := Xit p.l
 have hil2 := Xit r.l
 obtain ⟨W, hW⟩ : ∃ W, W = Xcc (Xdj (idsP p.l ++ idsP r.l)) := ⟨_, rfl⟩
 refine wz14 ?_
 refine Xj6 (fun y2 : Option Addr × Nat => [(10, .pointer (some ⟨b10, 0, none⟩)), (12, .pointer (some ⟨b12, 0, none⟩)), (14, .slice y2.1 W.length y2.2)])
  (fun y2 => [.own b10 50 (ndC p y), .own b12 50 (ndC r z), .st (sl y.d y.dk p.disk), .st (sl y.l y.lk p.l), .st (sl y.w y.wk p.wait), .st (sl y.p y.pk p.peers), .st (sl z.d z.dk r.disk), .st (sl z.l z.lk r.l), .st (sl z.w z.wk r.wait), .st (sl z.p z.pk r.peers), .st (sl y2.1 y2.2 W)]) ?_ ?_
 ·refine JC.drawP mixed ?_
  refine Xab 0 ?_
  refine JP.tv 1 [.own b10 50 (ndC p y)] ?_
  refine Xab 3 ?_
  refine JP.tv 4 [.own b12 50 (ndC r z)] ?_
  refine Xal 2 rfl rfl (JR.callSl rfl (fun w1 hw => Xik w1 _ y.l y.lk p.l hw.get (by omega) hpl.fl) (fun a4 k4 => Wd (nO ?_)))
  refine Xal 5 rfl rfl (JR.callSl rfl (fun w1 hw => Xik w1 _ z.l z.lk r.l hw.get (by omega) hrl.fl) (fun a5 k5 => Wd (nO ?_)))
  refine Xal 6 rfl rfl (JR.callBuf (L := W) rfl (fun w1 hw => by rw [hW]; exact Xyr w1 _ a4 a5 k4 k5 (idsP p.l) (idsP r.l) hw.get hw.get (by omega) (by omega)) (fun a6 k6 => Wd (nO ?_)))
  refine JP.more (fun w1 ho => ho.pub) ?_
  refine Xab 7 ?_
  exact JP.nil (by kernel_rfl) ⟨rfl, (a6, k6), iI⟩
 rintro ⟨aw, kw⟩
 dsimp only
 have hWm : ∀ x, x ∈ W ↔ x ∈ cids p.l ∨ x ∈ cids r.l := fun x => by rw [hW, Xf0, Xe1, List.mem_append, gp.ids hc, gq.ids hc]
 have hWn : W.Nodup := by rw [hW]; exact (Xb5 _).nodup_iff.2 (Xbw _)
 have hWs : W.Pairwise (fun x y => idLt y x = false) := by rw [hW]; exact Xbo _
 clear hW cp cq hpl hrl hln1 hln2 hil1 hil2
 refine wz4 ?_
 refine Xb7 (fun (i : Nat) (S : Nd × Nd) (Y : Na × Na) => [(10, .pointer (some ⟨b10, 0, none⟩)), (12, .pointer (some ⟨b12, 0, none⟩)), (14, .slice aw W.length kw), (15, .int .i64 (i : Int))])
  (fun i S Y => [.own b10 50 (ndC S.1 Y.1), .own b12 50 (ndC S.2 Y.2), .st (sl Y.1.d Y.1.dk S.1.disk), .st (sl Y.1.l Y.1.lk S.1.l), .st (sl Y.1.w Y.1.wk S.1.wait), .st (sl Y.1.p Y.1.pk S.1.peers), .st (sl Y.2.d Y.2.dk S.2.disk), .st (sl Y.2.l Y.2.lk S.2.l), .st (sl Y.2.w Y.2.wk S.2.wait), .st (sl Y.2.p Y.2.pk S.2.peers), .st (sl aw kw W)])
  (fun i S _ => i ≤ 4 ∧ Gd l S.1 ∧ Gd l S.2 ∧ S.1.wait = [] ∧ S.2.wait = [] ∧ (∀ x, x ∈ W ↔ x ∈ cids S.1.l ∨ x ∈ cids S.2.l) ∧ (1 ≤ i → (∀ x, x ∈ W ↔ x ∈ cids S.1.l) ∧ ∀ x, x ∈ W ↔ x ∈ cids S.2.l)) (fun i _ _ => 4 - i) 0 (p, r) (y, z) ⟨by omega, gp, gq, gpw, gqw, hWm, fun h0 => absurd h0 (by omega)⟩ iI ?_
 clear gp gq gpw gqw hWm
 clear p r y z
 rintro i ⟨p, r⟩ ⟨y, z⟩ ⟨hi, gp, gq, gpw, gqw, hWm, hWd⟩
 dsimp only at gp gq gpw gqw hWm hWd ⊢
 have hpf := gp.few hc h6 hf
 have hrf := gq.few hc h6 hf
 refine wz11 ?_
 refine JC.test (fun hlt => ?_) (fun hge => ?_)
 ·have ht1 : Xdn p = (⟨0, frontF p.l, []⟩, 0) := by unfold Xdn; rw [gp.mayN hc h6 h5, gp.up]; rfl
  have c1 := fun w1 F1 x1 x2 x3 => Xfs w1 F1 p y x1 x2 x3 hpf
  rw [ht1] at c1
  have hm1 : MsgOk l ⟨0, frontF p.l, []⟩ := ⟨by simp, by simp, by have := Xk9 (gp.dn.closed hc); show (frontF p.l).length ≤ 16; omega⟩
  have R1 := Xs7 hc h6 h5 gp gq gpw gqw
  have c2 := fun w1 F1 v x1 x2 x3 x4 x5 x6 x7 x8 x9 x10 => Xs8 w1 F1 l hc h6 h5 hf hq p r y z ⟨0, frontF p.l, []⟩ v gp gq hm1 x1 x2 x3 x4 x5 x6 x7 x8 x9 x10
  generalize talkF 20 p r ⟨0, frontF p.l, []⟩ = T1 at R1 c2
  obtain ⟨p2, r2⟩ := T1
  obtain ⟨gp2, gr2, gpw2, grw2, hU, hmore, hless⟩ := R1
  dsimp only at gp2 gr2 gpw2 grw2 hU hmore hless c2
  refine wz1 ?_
  refine JR.call (v := fun v : Ma => .tuple ⟨[mgV ⟨0, frontF p.l, []⟩ v, .int .i64 0]⟩) (B := fun v => [.st (sl v.i v.ik (frontF p.l)), .st (sl (α := Commit) v.c v.ck [])]) rfl (fun w1 hw => c1 w1 _ hw.get hw.get hw.get) ?_
  intro v
  dsimp only [List.cons_append, List.nil_append]
  (repeat (refine wE ?_; intro _)); refine wA ?_
  refine JR.call (v := fun A : Na × Na => .tuple ⟨[ndV p2 A.1, ndV r2 A.2]⟩) (B := fun A => [.st (sl A.1.d A.1.dk p2.disk), .st (sl A.1.l A.1.lk p2.l), .st (sl A.1.w A.1.wk p2.wait), .st (sl A.1.p A.1.pk p2.peers), .st (sl A.2.d A.2.dk r2.disk), .st (sl A.2.l A.2.lk r2.l), .st (sl A.2.w A.2.wk r2.wait), .st (sl A.2.p A.2.pk r2.peers)]) rfl (fun w1 hw => c2 w1 _ v hw.get hw.get hw.get hw.get hw.get hw.get hw.get hw.get hw.get hw.get) ?_
  rintro ⟨y2, z2⟩
  dsimp only [List.cons_append, List.nil_append]
  have hrf2 := gr2.few hc h6 hf
  have ht2 : Xdn r2 = (⟨0, frontF r2.l, []⟩, 0) := by unfold Xdn; rw [gr2.mayN hc h6 h5, gr2.up]; rfl
  have c3 := fun w1 F1 x1 x2 x3 => Xfs w1 F1 r2 z2 x1 x2 x3 hrf2
  rw [ht2] at c3
  have hm2 : MsgOk l ⟨0, frontF r2.l, []⟩ := ⟨by simp, by simp, by have := Xk9 (gr2.dn.closed hc); show (frontF r2.l).length ≤ 16; omega⟩
  have R2 := Xs7 hc h6 h5 gr2 gp2 grw2 gpw2
  have c4 := fun w1 F1 v x1 x2 x3 x4 x5 x6 x7 x8 x9 x10 => Xs8 w1 F1 l hc h6 h5 hf hq r2 p2 z2 y2 ⟨0, frontF r2.l, []⟩ v gr2 gp2 hm2 x1 x2 x3 x4 x5 x6 x7 x8 x9 x10
  generalize talkF 20 r2 p2 ⟨0, frontF r2.l, []⟩ = T2 at R2 c4
  obtain ⟨r3, p3⟩ := T2
  obtain ⟨gr3, gp3, grw3, gpw3, hU2, hmore2, hless2⟩ := R2
  dsimp only at gr3 gp3 grw3 gpw3 hU2 hmore2 hless2 c4
  refine wA ?_
  refine JR.call (v := fun v : Ma => .tuple ⟨[mgV ⟨0, frontF r2.l, []⟩ v, .int .i64 0]⟩) (B := fun v => [.st (sl v.i v.ik (frontF r2.l)), .st (sl (α := Commit) v.c v.ck [])]) rfl (fun w1 hw => c3 w1 _ hw.get hw.get hw.get) ?_
  intro v2
  dsimp only [List.cons_append, List.nil_append]
  (repeat (refine wE ?_; intro _)); refine wA ?_
  refine JR.call (v := fun A : Na × Na => .tuple ⟨[ndV r3 A.1, ndV p3 A.2]⟩) (B := fun A => [.st (sl A.1.d A.1.dk r3.disk), .st (sl A.1.l A.1.lk r3.l), .st (sl A.1.w A.1.wk r3.wait), .st (sl A.1.p A.1.pk r3.peers), .st (sl A.2.d A.2.dk p3.disk), .st (sl A.2.l A.2.lk p3.l), .st (sl A.2.w A.2.wk p3.wait), .st (sl A.2.p A.2.pk p3.peers)]) rfl (fun w1 hw => c4 w1 _ v2 hw.get hw.get hw.get hw.get hw.get hw.get hw.get hw.get hw.get hw.get) ?_
  rintro ⟨z3, y3⟩
  dsimp only [List.cons_append, List.nil_append]
  have k1 : ∀ x, x ∈ W ↔ x ∈ cids r2.l := fun x => (hWm x).trans (hU x).symm
  have k2 : ∀ x ∈ cids p2.l, x ∈ W := fun x hx => (hWm x).2 (hless x hx)
  have k3 : ∀ x, x ∈ W ↔ x ∈ cids p3.l := fun x => ⟨fun hx => (hU2 x).2 (.inl ((k1 x).1 hx)), fun hx => ((hU2 x).1 hx).elim (k1 x).2 (k2 x)⟩
  have k4 : ∀ x, x ∈ W ↔ x ∈ cids r3.l := fun x => ⟨fun hx => hmore2 x ((k1 x).1 hx), fun hx => (hless2 x hx).elim (k1 x).2 (k2 x)⟩
  refine wA ?_
  exact ⟨i + 1, (p3, r3), (y3, z3), ⟨by omega, gp3, gr3, gpw3, grw3, fun x => ⟨fun hx => .inl ((k3 x).1 hx), fun hx => hx.elim (k3 x).2 (k4 x).2⟩, fun _ => ⟨k3, k4⟩⟩, by omega, iI⟩
 ·obtain rfl : i = 4 := by omega
  obtain ⟨k1, k2⟩ := hWd (by omega)
  have s1 := Xtb hc gp k1 hWn hWs
  have s2 := Xtb hc gq k2 hWn hWs
  have hln1 := hpf.len
  have hln2 := hrf.len
  have hil1 := Xit p.l
  have hil2 := Xit r.l
  refine wA ?_
  refine JR.callSl rfl (fun w1 hw => Xik w1 _ y.l y.lk p.l hw.get (by omega) hpf.fl) ?_
  intro a4 k4
  refine wz13 ?_
  refine JR.callBuf (L := W) rfl (fun w1 hw => Xzk s1 (Xjp w1 _ a4 k4 (idsP p.l) hw.get (by omega))) ?_
  intro a5 k5
  refine JO.more (fun w1 ho => ho.pub) ?_
  refine wz6 ?_
  refine JR.callV rfl (fun w1 hw => Xk2 w1 _ a5 aw k5 kw W W hw.get hw.get) ?_
  rw [decide_eq_true rfl]
  refine wz9 ?_
  refine JR.callSl rfl (fun w1 hw => Xik w1 _ z.l z.lk r.l hw.get (by omega) hrf.fl) ?_
  intro a6 k6
  refine wz13 ?_
  refine JR.callBuf (L := W) rfl (fun w1 hw => Xzk s2 (Xjp w1 _ a6 k6 (idsP r.l) hw.get (by omega))) ?_
  intro a7 k7
  refine JO.more (fun w1 ho => ho.pub) ?_
  refine wz6 ?_
  refine JR.callV rfl (fun w1 hw => Xk2 w1 _ a7 aw k7 kw W W hw.get hw.get) ?_
  rw [decide_eq_true rfl]
  refine wz8 ?_
  exact CT.dn () rfl
end
end
structure OpenT (P : Program) (α : Type) [Cell α] (t : TypeId) : Prop where
 ok : ∀ {H : Type} {enc : TypeId × Value → H} {w : World} {sp : Nat → Bool} {held : Bool} {fuel : Nat} {cs : List Value} {x : DataW H × List MemPlace},
  DataW.trod enc P w 0 sp held fuel t cs = some x → (∀ n ∈ x.1.weights P t, n ≤ reachBytes) → ∃ (u : α) (y : Cell.Ix α), cs = Cell.cells u y ∧ ∀ A ∈ Cell.facts u y, A.holds (fun _ => True) w
theorem Xgu {H : Type} {P : Program} {e : TypeId} {d : DataW H} {n : Nat} (hn : n ∈ d.weights P e) : ∀ {ds : List (DataW H)}, d ∈ ds → n ∈ DataW.weightsAll P e ds
 | [], h => by cases h
 | d' :: ds, h => by
  simp only [DataW.weightsAll, List.mem_append]
  rcases List.mem_cons.1 h with rfl | h
  ·exact .inl hn
  ·exact .inr (Xgu hn h)
theorem Xoq (a : Addr) : (a.add 0).add 0 = a := by simp [Addr.add]
theorem Xxl {w : World} {a : Addr} {n : Nat} {ci : List Value} (h : w.cells? 0 a n = some ci) (j : Nat) (v : Value) (hv : ci[j]? = some v) : w.cell? (a.add j) = some v := by
 unfold World.cells? at h
 rw [if_pos (Nat.zero_le _)] at h
 have hl := mapM_some_length h
 have hj : j < n := by
  have := (List.getElem?_eq_some_iff.1 hv).1
  rw [hl, List.length_range] at this
  exact this
 have := mapM_some_get h j j (by simp [hj])
 rw [this, hv]
theorem OpenT.slice {P : Program} {α : Type} [Cell α] {t e : TypeId} (hO : OpenT P α e) (ht : P.underlying t = some (.slice e)) (hc : P.cellsOf e = Cell.sz α) (hb : 1 ≤ P.bytesOf e)
  {H : Type} {enc : TypeId × Value → H} {w : World} {sp : Nat → Bool} {held : Bool} {fuel : Nat} {cs : List Value} {x : DataW H × List MemPlace}
  (h : DataW.trod enc P w 0 sp held fuel t cs = some x) (hw : ∀ n ∈ x.1.weights P t, n ≤ reachBytes) :
  ∃ (a : Option Addr) (c : Nat) (L : List α), cs = [.slice a L.length c] ∧ (sl a c L).holds (fun _ => True) w := by
 rcases DataW.trod_slice ht h with ⟨rfl, rfl⟩ | ⟨a, len, cap, elems, rest, n, _, rfl, rfl, _, hlc, hcm, hlen, helems, _, _⟩
 ·exact ⟨none, 0, [], rfl, Xak⟩
 ·simp only [DataW.weights, ht] at hw
  have hw1 : len ≤ reachBytes := by
   have := hw _ (List.mem_cons_self ..)
   simp only [List.length_map] at this
   have h2 : (elems.length + rest.length) * 1 ≤ (elems.length + rest.length) * P.bytesOf e := Nat.mul_le_mul_left _ hb
   omega
  have key : ∀ i (hi : i < len), ∃ (u : α), ∃ (y : Cell.Ix α), (∀ j v, (Cell.cells u y)[j]? = some v → w.cell? ((a.add (i * Cell.sz α)).add j) = some v) ∧ ∀ A ∈ Cell.facts u y, A.holds (fun _ => True) w := by
   intro i hi
   have h1 := helems i hi
   have hi' : i < elems.length := by omega
   rw [List.getElem?_eq_getElem hi', hc] at h1
   obtain ⟨ci, hci, hd⟩ := Option.bind_eq_some_iff.1 h1
   obtain ⟨u, y, rfl, hf⟩ := hO.ok hd (fun n hn => hw n (List.mem_cons_of_mem _ (List.mem_append_left _ (Xgu hn (List.mem_map_of_mem (List.getElem_mem hi'))))))
   exact ⟨u, y, fun j v hv => Xxl hci j v hv, hf⟩
  obtain ⟨f, hf⟩ := Classical.axiomOfChoice (fun i : Fin len => key i.1 i.2)
  refine ⟨some a, cap, List.ofFn f, by simp, ?_⟩
  have hR : reachBytes = 140737488351232 := rfl
  refine ⟨by simpa using hlc, hcm, by simp only [List.length_ofFn, lim]; omega, fun hne => ?_⟩
  have h0 : 0 < len := by
   have := List.length_pos_iff.2 hne
   simpa using this
  obtain ⟨y0, hy0, _⟩ := hf ⟨0, h0⟩
  have hpos : 0 < (Cell.cells (f ⟨0, h0⟩) y0).length := by rw [Cell.len]; exact Cell.pos
  have hc0 := hy0 0 _ (List.getElem?_eq_getElem hpos)
  simp only [Nat.zero_mul, Xoq] at hc0
  obtain ⟨b, off, spot⟩ := a
  have hspot : spot = none := by
   cases spot with
   | none => rfl
   | some s =>
    unfold World.cell? at hc0
    split at hc0
    ·simp at hc0
    ·cases hc0
  subst hspot
  refine ⟨b, off, rfl, trivial, ?_, fun i hi => ?_⟩
  ·rcases Nat.lt_or_ge b w.heap.size with h | h
   ·exact h
   ·unfold World.cell? at hc0
    simp [Array.getElem?_eq_none h] at hc0
  ·have hi' : i < len := by simpa using hi
   obtain ⟨y, hy, hfa⟩ := hf ⟨i, hi'⟩
   refine ⟨y, fun j v hv => ?_, fun A hA => ?_⟩
   ·simp only [List.getElem_ofFn] at hv
    have := hy j v hv
    rw [Addr.add_mid, Addr.add_mid] at this
    exact this
   ·simp only [List.getElem_ofFn] at hA
    exact hfa A hA
def Xor : Value → UInt8
 | .int _ n => UInt8.ofNat n.toNat
 | _ => 0
set_option maxRecDepth 100000 in
theorem open_id : OpenT prog ID 81 := ⟨fun {H enc w sp held fuel cs x} h _ => by
 have hcell : prog.cellsOf 5 = 1 := by kernel_rfl
 have hcell2 : prog.cellsOf 81 = 32 := by kernel_rfl
 obtain ⟨xs, m, rfl, rfl, hl, hlx, hx⟩ := DataW.trod_array underlying81 h
 rw [hcell2] at hl
 have key : ∀ i (hi : i < cs.length), cs[i] = Xah (Xor cs[i]) := by
  intro i hi
  have h1 := hx i (by omega)
  rw [hcell, Nat.mul_one, List.getElem?_eq_getElem (by omega)] at h1
  have h2 : (cs.drop i).take 1 = [cs[i]] := by
   rw [List.drop_eq_getElem_cons hi]; rfl
  rw [h2] at h1
  obtain ⟨n, hn, _, hw⟩ := DataW.trod_int underlying5 h1
  injection hn with hn
  have hb : 0 ≤ n ∧ n ≤ 255 := by simpa [Lit.wf, IntKind.min, IntKind.max, IntKind.signed, IntKind.bits] using hw
  rw [hn]
  simp only [Xor, Xah, Value.int.injEq, true_and]
  rw [UInt8.toNat_ofNat']
  omega
 refine ⟨⟨cs.map Xor, by rw [List.length_map]; exact hl⟩, (), ?_, by simp [Cell.facts]⟩
 show cs = (cs.map Xor).map Xah
 apply List.ext_getElem
 ·simp
 ·intro i h1 h2
  simp only [List.getElem_map]
  exact key i h1⟩
set_option maxRecDepth 100000 in
theorem open_commit : OpenT prog Commit 29 := ⟨fun {H enc w sp held fuel cs x} h hw => by
 have c24 : prog.cellsOf 24 = 2 := by kernel_rfl
 have c27 : prog.cellsOf 27 = 4 := by kernel_rfl
 have c29 : prog.cellsOf 29 = 8 := by kernel_rfl
 have c25 : prog.cellsOf 25 = 1 := by kernel_rfl
 have c3 : prog.cellsOf 3 = 1 := by kernel_rfl
 have c9 : prog.cellsOf 9 = 1 := by kernel_rfl
 obtain ⟨xs, m, rfl, rfl, hl, hlx, hx⟩ := DataW.trod_struct underlying29 h
 rw [c29] at hl
 match cs, hl with
 | [v0, v1, v2, v3, v4, v5, v6, v7], _ =>
 match xs, hlx with
 | [x0, x1, x2, x3], _ =>
 have h0 := hx 0 _ rfl
 have h1 := hx 1 _ rfl
 have h2 := hx 2 _ rfl
 have h3 := hx 3 _ rfl
 simp only [List.getElem_toArray, List.getElem_cons_zero, List.getElem_cons_succ, c24, c3, c25, c27, List.drop_zero, List.drop_succ_cons, List.take_succ_cons, List.take_zero, List.getElem?_cons_zero, List.getElem?_cons_succ] at h0 h1 h2 h3
 obtain ⟨ys, m', rfl, rfl, _, hly, hy⟩ := DataW.trod_struct underlying24 h0
 match ys, hly with
 | [y0, y1], _ =>
 have e0 := hy 0 _ rfl
 have e1 := hy 1 _ rfl
 simp only [List.getElem_toArray, List.getElem_cons_zero, List.getElem_cons_succ, c3, List.drop_zero, List.drop_succ_cons, List.take_succ_cons, List.take_zero, List.getElem?_cons_zero, List.getElem?_cons_succ] at e0 e1
 obtain ⟨n0, q0, _, _⟩ := DataW.trod_int underlying3 e0
 obtain ⟨n1, q1, _, _⟩ := DataW.trod_int underlying3 e1
 obtain ⟨n2, q2, _, _⟩ := DataW.trod_int underlying3 h1
 obtain ⟨zs, m2, hm2, rfl, _, hlz, hz⟩ := DataW.trod_struct underlying27 h3
 match zs, hlz with
 | [z0, z1, z2, z3], _ =>
 have g0 := hz 0 _ rfl
 have g1 := hz 1 _ rfl
 have g2 := hz 2 _ rfl
 have g3 := hz 3 _ rfl
 simp only [List.getElem_toArray, List.getElem_cons_zero, List.getElem_cons_succ, c3, c9, List.drop_zero, List.drop_succ_cons, List.take_succ_cons, List.take_zero, List.getElem?_cons_zero, List.getElem?_cons_succ] at g0 g1 g2 g3
 obtain ⟨k0, r0, _, _⟩ := DataW.trod_int underlying3 g0
 obtain ⟨s1, r1, r1x, _⟩ := DataW.trod_string underlying9 g1
 obtain ⟨s2, r2, r2x, _⟩ := DataW.trod_string underlying9 g2
 obtain ⟨k3, r3, _, _⟩ := DataW.trod_int underlying3 g3
 simp only [DataW.weights, underlying29, List.map_cons, List.map_nil, DataW.weightsEach, List.append_nil, List.mem_append, List.map_toArray] at hw
 obtain ⟨pa, pc, L, q3, hsl⟩ := open_id.slice underlying25 (by kernel_rfl) (by rw [show prog.bytesOf 81 = 32 by kernel_rfl]; decide) h2 (fun n hn => hw n (by simp [hn]))
 injection q0 with q0
 injection q1 with q1
 injection q2 with q2
 injection q3 with q3
 injection r0 with r0
 injection r1 with r1
 injection r2 with r2
 injection r3 with r3
 subst q0 q1 q2 q3 r0 r1 r2 r3
 exact ⟨⟨⟨n0, n1⟩, n2, L, ⟨k0, s1, s2, k3⟩⟩, (pa, pc), rfl, fun A hA => by simp only [Cell.facts, List.mem_singleton] at hA; subst hA; exact hsl⟩⟩
end Ab
end Go.Proofs.YtdgeffphifgflaaGreat
namespace Go.Proofs.YtdgeffphifgflaaGreat
open Go Go.ChangeShapes Go.WideShapes Go.ChangeAt Go.RowKit
set_option linter.unusedVariables false
theorem X19 : ownKnob Tryz.prog.godebug = none := by kernel_rfl
theorem laid : laidOutB Tryz.prog = true := by kernel_rfl
theorem Xzl {P : Program} {H : Type} {enc : TypeId × Value → H} {W : World} {α : Type} [Ab.Cell α] {t e : TypeId} (hO : Ab.OpenT P α e) (ht : P.underlying t = some (.slice e)) (hc : P.cellsOf e = Ab.Cell.sz α) (hb : 1 ≤ P.bytesOf e)
    {r : Reach} {base : Nat} {v : Value} {d : DataW H} {p : List MemPlace} (hv : Value.okWide P W r base t v) (h : DataW.Trod enc P W 0 (fun _ => true) true t v d p) (hw : ∀ n ∈ d.weights P t, n ≤ reachBytes) :
    ∃ (a : Option Addr) (c : Nat) (L : List α), v = .slice a L.length c ∧ (Ab.sl a c L).holds (fun _ => True) W := by
  obtain ⟨a, len, cap, rfl⟩ := okWide_slice ht hv
  obtain ⟨fuel, hf⟩ := h
  obtain ⟨a', c', L, hcs, hsl⟩ := hO.slice ht hc hb hf hw
  simp [Value.cells] at hcs
  obtain ⟨rfl, rfl, rfl⟩ := hcs
  exact ⟨_, _, L, rfl, hsl⟩
theorem Xqp : Tryz.prog.bytesOf 29 = 96 := by kernel_rfl
theorem Xy6 : Tryz.prog.bytesOf 81 = 32 := by kernel_rfl
section
variable {H : Type} {enc : TypeId × Value → H} {W : World} {r : Reach} {base : Nat} {v : Value} {d : DataW H} {p : List MemPlace}
set_option maxRecDepth 100000 in
theorem Xsc (hv : Value.okWide Tryz.prog W r base 35 v) (h : DataW.Trod enc Tryz.prog W 0 (fun _ => true) true 35 v d p) (hw : ∀ n ∈ d.weights Tryz.prog 35, n ≤ reachBytes) :
    ∃ (a : Option Addr) (c : Nat) (L : List Ab.Commit), v = .slice a L.length c ∧ (Ab.sl a c L).holds (fun _ => True) W :=
  Xzl Ab.open_commit Tryz.underlying35 (by kernel_rfl) (by rw [Xqp]; decide) hv h hw
set_option maxRecDepth 100000 in
theorem Xxm (hv : Value.okWide Tryz.prog W r base 25 v) (h : DataW.Trod enc Tryz.prog W 0 (fun _ => true) true 25 v d p) (hw : ∀ n ∈ d.weights Tryz.prog 25, n ≤ reachBytes) :
    ∃ (a : Option Addr) (c : Nat) (L : List Ab.ID), v = .slice a L.length c ∧ (Ab.sl a c L).holds (fun _ => True) W :=
  Xzl Ab.open_id Tryz.underlying25 (by kernel_rfl) (by rw [Xy6]; decide) hv h hw
end
section
variable {H : Type} {enc : TypeId × Value → H} {P : Program} {w : World} {base : Nat} {spare : Nat → Bool} {held : Bool}
end
end Go.Proofs.YtdgeffphifgflaaGreat
