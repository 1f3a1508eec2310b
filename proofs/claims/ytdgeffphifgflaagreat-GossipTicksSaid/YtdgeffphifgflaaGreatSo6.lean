/- Lemmas for the walks, part 6 of 6: R10, R15, RefN, R17a, R17b, BrF, BrG, R17c, Poke, GsA, GsP, Peer, GsB, R18a, GsC, GsD, GsE, FsA, R20a, GsF, Bound, GsG, GsH, GsI, StB, StC, GsJ, GsK, R20b, R19, R20c, GsO, Entry, Shut, ShutN. -/
import Derived.Test.YtdgeffphifgflaaGreatSo5
import Derived.Test.YtdgeffphifgflaaGreatSo2
import Derived.Test.YtdgeffphifgflaaGreatSo4
import Derived.Test.YtdgeffphifgflaaGreatSo1
import Derived.Test.YtdgeffphifgflaaGreatSo3
import Derived.SizedLaws
import Derived.ChangeArms
import Derived.KernelRfl
import Derived.OpenShut
import Derived.Test.YtdgeffphifgflaaGreatRows
import Derived.ProofKit
import Derived.Carry
namespace Go.Proofs.YtdgeffphifgflaaGreat
namespace Ab
open Go Go.RowKit Go.Proofs.Tryz
set_option linter.unusedVariables false
set_option linter.unusedSimpArgs false
set_option synthInstance.maxSize 4000
set_option synthInstance.maxHeartbeats 400000
set_option maxHeartbeats 16000000
variable (w : World) (F : Nat → Prop)
section
attribute [local irreducible] JC JO JR JQ andThen inBlock OpV Gives Xan JM JS
theorem Xw7 (a : Option Addr) (c : Nat) (b : List UInt8) (h : (sl a c b).holds F w) (hl : b.length ≤ 34359738368) :
  Gives prog 63 [.slice a b.length c] w F (fun y : GetY b => .tuple ⟨[Xax (getT b).1 y.pa y.pc, .slice y.ra (getT b).2.1.length y.rc, .int .i64 (getT b).2.2]⟩)
   (fun y => [.st (sl y.pa y.pc (getT b).1.parents), .st (sl y.ra y.rc (getT b).2.1)]) := by
 obtain ⟨B1, hB1⟩ : ∃ B, B = b.drop (getN b).2 := ⟨_, rfl⟩
 obtain ⟨B2, hB2⟩ : ∃ B, B = B1.drop (getN B1).2 := ⟨_, rfl⟩
 obtain ⟨B3, hB3⟩ : ∃ B, B = B2.drop (getN B2).2 := ⟨_, rfl⟩
 obtain ⟨B4, hB4⟩ : ∃ B, B = B3.drop (getN B3).2 := ⟨_, rfl⟩
 have hbad := X2o hB1 hB2 hB3
 have hgood := X0i hB1 hB2 hB3 hB4
 have l1 : B1.length ≤ b.length := by rw [hB1, List.length_drop]; omega
 have l2 : B2.length ≤ b.length := by rw [hB2, List.length_drop]; omega
 have l3 : B3.length ≤ b.length := by rw [hB3, List.length_drop]; omega
 have l4 : B4.length ≤ b.length := by rw [hB4, List.length_drop]; omega
 have n0 := Xdu b
 have n1 := Xdu B1
 have n2 := Xdu B2
 have n3 := Xdu B3
 refine Xaa func63 rfl ntmps63 rfl rfl [.st (sl a c b)] (.start1 h) ?_
 (repeat (refine wE ?_; intro _)); refine wA ?_
 rename_i b2
 refine Wf (OpV.build [.slice a b.length c, .bool false] (by kernel_rfl)) rfl ?_
 (repeat (refine wE ?_; intro _)); refine wA ?_
 rename_i br
 refine Wf (OpV.build [.int .i64 0, .int .i64 0, .int .i64 0, .slice none 0 0, .int .i64 0, .string .empty, .string .empty, .int .i64 0] (by kernel_rfl)) rfl ?_
 (repeat (refine wE ?_; intro _)); refine wA ?_
 rename_i b6
 refine JR.more (Γ' := .own br 152 [.slice a b.length c, .bool false] :: .st (sl a c b) :: [.own b6 29 [.int .i64 0, .int .i64 0, .int .i64 0, .slice none 0 0, .int .i64 0, .string .empty, .string .empty, .int .i64 0], .own b2 29 [.int .i64 0, .int .i64 0, .int .i64 0, .slice none 0 0, .int .i64 0, .string .empty, .string .empty, .int .i64 0]]) (fun w ho => ho.ent) ?_
 refine Xbk (v := fun y : Option Addr × Nat => .int .u64 ((getN b).1 : Int)) (B := fun y => .own br 152 [.slice y.1 (b.drop (getN b).2).length y.2, .bool (false || decide ((getN b).2 = 0))] :: .st (sl y.1 y.2 (b.drop (getN b).2)) :: [.own b6 29 [.int .i64 0, .int .i64 0, .int .i64 0, .slice none 0 0, .int .i64 0, .string .empty, .string .empty, .int .i64 0], .own b2 29 [.int .i64 0, .int .i64 0, .int .i64 0, .slice none 0 0, .int .i64 0, .string .empty, .string .empty, .int .i64 0]]) rfl (fun w1 hw => Xvo hl hw) ?_
 rintro ⟨a1, c1⟩
 dsimp only
 rw [← hB1]
 obtain ⟨d1, hd1⟩ : ∃ d, d = (false || decide ((getN b).2 = 0)) := ⟨_, rfl⟩
 rw [← hd1]
 generalize (getN b).1 = m0 at n0 hgood ⊢
 refine wz13 ?_
 refine JR.callV rfl (fun w1 hw => Xpe w1 _ m0 n0) ?_
 generalize Xb9 m0 = z0 at hgood ⊢
 refine wz6 ?_
 refine JR.reslot 22 (.pointer (some ⟨b6, 0, none⟩)) rfl ?_
 refine Wi ?_
 refine wz10 ?_
 refine JR.more (Γ' := .own br 152 [.slice a1 B1.length c1, .bool d1] :: .st (sl a1 c1 B1) :: [.own b6 29 [.int .i64 z0, .int .i64 0, .int .i64 0, .slice none 0 0, .int .i64 0, .string .empty, .string .empty, .int .i64 0], .own b2 29 [.int .i64 0, .int .i64 0, .int .i64 0, .slice none 0 0, .int .i64 0, .string .empty, .string .empty, .int .i64 0]]) (fun w ho => ho.ent) ?_
 refine Xbk (v := fun y : Option Addr × Nat => .int .u64 ((getN B1).1 : Int)) (B := fun y => .own br 152 [.slice y.1 (B1.drop (getN B1).2).length y.2, .bool (d1 || decide ((getN B1).2 = 0))] :: .st (sl y.1 y.2 (B1.drop (getN B1).2)) :: [.own b6 29 [.int .i64 z0, .int .i64 0, .int .i64 0, .slice none 0 0, .int .i64 0, .string .empty, .string .empty, .int .i64 0], .own b2 29 [.int .i64 0, .int .i64 0, .int .i64 0, .slice none 0 0, .int .i64 0, .string .empty, .string .empty, .int .i64 0]]) rfl (fun w1 hw => Xvo (by omega) hw) ?_
 rintro ⟨a2, c2⟩
 dsimp only
 rw [← hB2]
 obtain ⟨d2, hd2⟩ : ∃ d, d = (d1 || decide ((getN B1).2 = 0)) := ⟨_, rfl⟩
 rw [← hd2]
 generalize (getN B1).1 = m1 at n1 hgood ⊢
 refine wz13 ?_
 refine Wf Xaq rfl ?_
 generalize IntKind.i64.wrap (m1 : Int) = z1 at hgood ⊢
 refine wz9 ?_
 refine JR.more (Γ' := .own br 152 [.slice a2 B2.length c2, .bool d2] :: .st (sl a2 c2 B2) :: [.own b6 29 [.int .i64 z0, .int .i64 z1, .int .i64 0, .slice none 0 0, .int .i64 0, .string .empty, .string .empty, .int .i64 0], .own b2 29 [.int .i64 0, .int .i64 0, .int .i64 0, .slice none 0 0, .int .i64 0, .string .empty, .string .empty, .int .i64 0]]) (fun w ho => ho.ent) ?_
 refine Xbk (v := fun y : Option Addr × Nat => .int .u64 ((getN B2).1 : Int)) (B := fun y => .own br 152 [.slice y.1 (B2.drop (getN B2).2).length y.2, .bool (d2 || decide ((getN B2).2 = 0))] :: .st (sl y.1 y.2 (B2.drop (getN B2).2)) :: [.own b6 29 [.int .i64 z0, .int .i64 z1, .int .i64 0, .slice none 0 0, .int .i64 0, .string .empty, .string .empty, .int .i64 0], .own b2 29 [.int .i64 0, .int .i64 0, .int .i64 0, .slice none 0 0, .int .i64 0, .string .empty, .string .empty, .int .i64 0]]) rfl (fun w1 hw => Xvo (by omega) hw) ?_
 rintro ⟨a3, c3⟩
 dsimp only
 rw [← hB3]
 obtain ⟨d3, hd3⟩ : ∃ d, d = (d2 || decide ((getN B2).2 = 0)) := ⟨_, rfl⟩
 rw [← hd3]
 generalize (getN B2).1 = m2 at n2 hgood ⊢
 refine wz13 ?_
 refine Wf Xaq rfl ?_
 generalize IntKind.i64.wrap (m2 : Int) = z2 at hgood ⊢
 refine wz9 ?_
 refine JR.more (Γ' := .own br 152 [.slice a3 B3.length c3, .bool d3] :: .st (sl a3 c3 B3) :: [.own b6 29 [.int .i64 z0, .int .i64 z1, .int .i64 z2, .slice none 0 0, .int .i64 0, .string .empty, .string .empty, .int .i64 0], .own b2 29 [.int .i64 0, .int .i64 0, .int .i64 0, .slice none 0 0, .int .i64 0, .string .empty, .string .empty, .int .i64 0]]) (fun w ho => ho.ent) ?_
 refine Xbk (v := fun y : Option Addr × Nat => .int .u64 ((getN B3).1 : Int)) (B := fun y => .own br 152 [.slice y.1 (B3.drop (getN B3).2).length y.2, .bool (d3 || decide ((getN B3).2 = 0))] :: .st (sl y.1 y.2 (B3.drop (getN B3).2)) :: [.own b6 29 [.int .i64 z0, .int .i64 z1, .int .i64 z2, .slice none 0 0, .int .i64 0, .string .empty, .string .empty, .int .i64 0], .own b2 29 [.int .i64 0, .int .i64 0, .int .i64 0, .slice none 0 0, .int .i64 0, .string .empty, .string .empty, .int .i64 0]]) rfl (fun w1 hw => Xvo (by omega) hw) ?_
 rintro ⟨a4, c4⟩
 dsimp only
 rw [← hB4]
 obtain ⟨d4, hd4⟩ : ∃ d, d = (d3 || decide ((getN B3).2 = 0)) := ⟨_, rfl⟩
 rw [← hd4]
 generalize (getN B3).1 = m3 at n3 hgood ⊢
 refine wz4 ?_
 have hd : d4 = false → (getN b).2 ≠ 0 ∧ (getN B1).2 ≠ 0 ∧ (getN B2).2 ≠ 0 ∧ (getN B3).2 ≠ 0 := by
  intro h
  rw [hd4, hd3, hd2, hd1] at h
  simp only [Bool.or_eq_false_iff, decide_eq_false_iff_not, Bool.false_or] at h
  exact ⟨h.1.1.1, h.1.1.2, h.1.2, h.2⟩
 have hdt : d4 = true → getC b = none := by
  intro h
  apply hbad
  rw [hd4, hd3, hd2, hd1] at h
  simp only [Bool.or_eq_true, decide_eq_true_eq, Bool.false_or] at h
  omega
 replace hgood : d4 = false → getC b = (Xcx m3 B4).bind fun q => opR z0 z1 z2 q.1 q.2 := fun h => hgood (hd h).1 (hd h).2.1 (hd h).2.2.1 (hd h).2.2.2
 clear hd hbad hd4 hd3 hd2 hd1 hB1 hB2 hB3 hB4
 generalize a4 = r1
 refine JC.more (Γ' := .res (buf (α := ID) none 0 81 []) :: .own br 152 [.slice r1 B4.length c4, .bool d4] :: .st (sl r1 c4 B4) :: [.own b6 29 [.int .i64 z0, .int .i64 z1, .int .i64 z2, .slice none 0 0, .int .i64 0, .string .empty, .string .empty, .int .i64 0], .own b2 29 [.int .i64 0, .int .i64 0, .int .i64 0, .slice none 0 0, .int .i64 0, .string .empty, .string .empty, .int .i64 0]]) (fun w ho => (ho.ent : Hold _ _ (.own br 152 [.slice r1 B4.length c4, .bool d4] :: .st (sl r1 c4 B4) :: [.own b6 29 [.int .i64 z0, .int .i64 z1, .int .i64 z2, .slice none 0 0, .int .i64 0, .string .empty, .string .empty, .int .i64 0], .own b2 29 [.int .i64 0, .int .i64 0, .int .i64 0, .slice none 0 0, .int .i64 0, .string .empty, .string .empty, .int .i64 0]]) w).bufNil) ?_
 refine Xh7 (fun (i : Nat) (ps : List ID) (p : Option Addr × Nat) (B : List UInt8) (r : (Option Addr × Nat) × Bool) => [(2, .pointer (some ⟨b2, 0, none⟩)), (5, .pointer (some ⟨br, 0, none⟩)), (6, .pointer (some ⟨b6, 0, none⟩)), (7, .int .u64 (m3 : Int)), (8, .int .u64 (i : Int))])
  (fun i ps p B r => .own br 152 [.slice r.1.1 B.length r.1.2, .bool r.2] :: .st (sl r.1.1 r.1.2 B) :: .res (buf p.1 p.2 81 ps) :: [.own b6 29 [.int .i64 z0, .int .i64 z1, .int .i64 z2, .slice p.1 ps.length p.2, .int .i64 0, .string .empty, .string .empty, .int .i64 0], .own b2 29 [.int .i64 0, .int .i64 0, .int .i64 0, .slice none 0 0, .int .i64 0, .string .empty, .string .empty, .int .i64 0]])
  (fun i ps p B r => i ≤ m3 ∧ B.length ≤ b.length ∧ (r.2 = true → getC b = none) ∧ (r.2 = false → ps.length = i ∧ 32 * ps.length + B.length ≤ b.length ∧ getC b = (Xcx (m3 - i) B).bind fun q => opR z0 z1 z2 (ps ++ q.1) q.2)) (fun i _ _ _ _ => m3 - i) 0 [] (none, 0) B4 ((r1, c4), d4)
  ⟨Nat.zero_le _, l4, hdt, fun h => ⟨rfl, by simpa using l4, hgood h⟩⟩ iI ?_
 clear hgood hdt
 have hop0 : op0.key.size < 4611686018427387904 ∧ op0.elem.size < 4611686018427387904 := by constructor <;> decide
 rintro i ps ⟨pa, pc⟩ B ⟨⟨ra, rc⟩, bad⟩ ⟨hi, hB, hbad, hgood⟩
 dsimp only at hbad hgood ⊢
 refine wz11 ?_
 by_cases hlt : i < m3
 ·refine JO.reslot 37 (.bool true) (congrArg Value.bool (decide_eq_true (by omega))) ?_
  refine wz6 ?_
  refine Wf OpV.nilCheck rfl ?_
  refine wz1 ?_
  cases bad with
  | true =>
   refine wX ?_
   refine JR.more (fun w ho => (ho.ent : Hold _ _ (.res (buf pa pc 81 ps) :: .own br 152 [.slice ra B.length rc, .bool true] :: .st (sl ra rc B) :: [.own b6 29 [.int .i64 z0, .int .i64 z1, .int .i64 z2, .slice pa ps.length pc, .int .i64 0, .string .empty, .string .empty, .int .i64 0], .own b2 29 [.int .i64 0, .int .i64 0, .int .i64 0, .slice none 0 0, .int .i64 0, .string .empty, .string .empty, .int .i64 0]]) w).pub) ?_
   rw [Xfu (hbad rfl)]
   refine Wf OpV.nilCheck rfl ?_
   refine wX ?_
   refine JR.callV rfl (fun w1 hw => Xd2 w1 _ ⟨⟨z0, z1⟩, z2, ps, op0⟩ pa pc hw.get hop0) ?_
   generalize may ⟨⟨z0, z1⟩, z2, ps, op0⟩ = my
   refine wz10 ?_
   refine Wf OpV.nilCheck rfl ?_
   refine wz1 ?_
   skip
   refine Wf (OpV.build [.int .i64 0, .int .i64 0, .int .i64 0, .slice none 0 0, .int .i64 0, .string .empty, .string .empty, .int .i64 0] (by kernel_rfl)) rfl ?_
   refine wz9 ?_
   exact CT.done (⟨none, 0, none, 0⟩ : GetY b) rfl (fun w ho => ((ho.ent : Hold _ _ [] w).add Xah).add Xah)
  | false =>
   obtain ⟨hlen, hsum, hg⟩ := hgood rfl
   clear hgood hbad
   refine wz1 ?_
   refine JR.more (Γ' := .own br 152 [.slice ra B.length rc, .bool false] :: .st (sl ra rc B) :: .res (buf pa pc 81 ps) :: [.own b6 29 [.int .i64 z0, .int .i64 z1, .int .i64 z2, .slice pa ps.length pc, .int .i64 0, .string .empty, .string .empty, .int .i64 0], .own b2 29 [.int .i64 0, .int .i64 0, .int .i64 0, .slice none 0 0, .int .i64 0, .string .empty, .string .empty, .int .i64 0]]) (fun w ho => ho.ent) ?_
   refine Xbk (v := fun y : Option Addr × Nat => .agg ⟨idc (idR B)⟩) (B := fun y => .own br 152 [.slice y.1 (idS B).length y.2, .bool (false || decide (B.length < 32))] :: .st (sl y.1 y.2 (idS B)) :: .res (buf pa pc 81 ps) :: [.own b6 29 [.int .i64 z0, .int .i64 z1, .int .i64 z2, .slice pa ps.length pc, .int .i64 0, .string .empty, .string .empty, .int .i64 0], .own b2 29 [.int .i64 0, .int .i64 0, .int .i64 0, .slice none 0 0, .int .i64 0, .string .empty, .string .empty, .int .i64 0]]) rfl (fun w1 hw => X53 (by omega) hw) ?_
   rintro ⟨r2, k2⟩
   dsimp only
   (repeat (refine wF ?_; intro _)); refine wX ?_
   refine Xai (L := ps) (u := idR B) rfl (by exact ⟨rfl, rfl, by decide⟩) (by omega) ?_
   intro pa2 pc2
   refine wX ?_
   refine Wf Xgs rfl ?_
   refine JO.reslot 45 (.int .u64 ((i + 1 : Nat) : Int)) (by rw [show (i : Int) + 1 = ((i + 1 : Nat) : Int) from rfl, Xbn, Nat.mod_eq_of_lt (by omega)]) ?_
   refine wz10 ?_
   refine ⟨i + 1, ps ++ [idR B], (pa2, pc2), idS B, ((r2, k2), (false || decide (B.length < 32))), ⟨by omega, ?_, fun h => ?_, fun h => ?_⟩, by omega, iI⟩
   ·unfold idS; split
    ·rw [List.length_drop]; omega
    ·exact hB
   ·have h32 : ¬ 32 ≤ B.length := by simp only [Bool.false_or, decide_eq_true_eq] at h; omega
    rw [hg, show m3 - i = (m3 - (i + 1)) + 1 by omega, show Xcx (m3 - (i + 1) + 1) B = none from dif_neg h32]
    rfl
   ·have h32 : 32 ≤ B.length := by simp only [Bool.false_or, decide_eq_false_iff_not] at h; omega
    have e1 : idR B = Xfr B h32 := dif_pos h32
    have e2 : idS B = B.drop 32 := if_pos h32
    refine ⟨by simp [hlen], ?_, ?_⟩
    ·rw [e2, List.length_append, List.length_drop]
     simp only [List.length_cons, List.length_nil]
     omega
    ·rw [hg, show m3 - i = (m3 - (i + 1)) + 1 by omega, show Xcx (m3 - (i + 1) + 1) B = (Xcx (m3 - (i + 1)) (B.drop 32)).map (fun q => (Xfr B h32 :: q.1, q.2)) from dif_pos h32, e1, e2]
     cases Xcx (m3 - (i + 1)) (B.drop 32) with
     | none => rfl
     | some q => simp
 ·refine JO.reslot 37 (.bool false) (congrArg Value.bool (decide_eq_false (by omega))) ?_
  cases bad with
  | true =>
   refine wX ?_
   refine JR.more (fun w ho => (ho.ent : Hold _ _ (.res (buf pa pc 81 ps) :: .own br 152 [.slice ra B.length rc, .bool true] :: .st (sl ra rc B) :: [.own b6 29 [.int .i64 z0, .int .i64 z1, .int .i64 z2, .slice pa ps.length pc, .int .i64 0, .string .empty, .string .empty, .int .i64 0], .own b2 29 [.int .i64 0, .int .i64 0, .int .i64 0, .slice none 0 0, .int .i64 0, .string .empty, .string .empty, .int .i64 0]]) w).pub) ?_
   rw [Xfu (hbad rfl)]
   refine Wf OpV.nilCheck rfl ?_
   refine wX ?_
   refine JR.callV rfl (fun w1 hw => Xd2 w1 _ ⟨⟨z0, z1⟩, z2, ps, op0⟩ pa pc hw.get hop0) ?_
   generalize may ⟨⟨z0, z1⟩, z2, ps, op0⟩ = my
   refine wz10 ?_
   refine Wf OpV.nilCheck rfl ?_
   refine wz1 ?_
   skip
   refine Wf (OpV.build [.int .i64 0, .int .i64 0, .int .i64 0, .slice none 0 0, .int .i64 0, .string .empty, .string .empty, .int .i64 0] (by kernel_rfl)) rfl ?_
   refine wz9 ?_
   exact CT.done (⟨none, 0, none, 0⟩ : GetY b) rfl (fun w ho => ((ho.ent : Hold _ _ [] w).add Xah).add Xah)
  | false =>
   obtain ⟨hlen, hsum, hg⟩ := hgood rfl
   clear hgood hbad
   obtain rfl : i = m3 := by omega
   rw [Nat.sub_self] at hg
   have hg2 : getC b = opR z0 z1 z2 ps B := by rw [hg]; simp [Xcx]
   clear hg
   refine wX ?_
   refine JR.more (fun w ho => (ho.ent : Hold _ _ (.res (buf pa pc 81 ps) :: .own br 152 [.slice ra B.length rc, .bool false] :: .st (sl ra rc B) :: [.own b6 29 [.int .i64 z0, .int .i64 z1, .int .i64 z2, .slice pa ps.length pc, .int .i64 0, .string .empty, .string .empty, .int .i64 0], .own b2 29 [.int .i64 0, .int .i64 0, .int .i64 0, .slice none 0 0, .int .i64 0, .string .empty, .string .empty, .int .i64 0]]) w).pub) ?_
   refine Wf OpV.nilCheck rfl ?_
   refine wX ?_
   refine JC.test (fun h5 => ?_) (fun h5 => ?_)
   ·have e5 : getC b = if (getOp B).2.2 = 0 then finC ⟨⟨z0, z1⟩, z2, ps, (getOp B).1⟩ (getOp B).2.1 else none := by rw [hg2]; exact if_neg h5
    have htx := Xi6 B
    have hol := Xna B
    refine wz14 ?_
    refine Wf OpV.nilCheck rfl ?_
    refine wz6 ?_
    refine JR.call1 (B := fun y : Option Addr × Nat => .st (sl y.1 y.2 (getOp B).2.1)) rfl (fun w1 hw => X0d w1 _ ra rc B hw.get (by omega)) ?_
    rintro ⟨ro, co⟩
    dsimp only
    obtain ⟨o, R, k, hk⟩ : ∃ o R k, getOp B = (o, R, k) := ⟨_, _, _, rfl⟩
    rw [hk] at e5 htx hol ⊢
    dsimp only at e5 htx hol ⊢
    (repeat (refine wF ?_; intro _)); refine wX ?_
    refine JC.test (fun hk0 => ?_) (fun hk0 => ?_)
    ·rw [if_neg hk0] at e5
     rw [Xfu e5]
     refine wz14 ?_
     refine Wf (OpV.build [.int .i64 0, .int .i64 0, .int .i64 0, .slice none 0 0, .int .i64 0, .string .empty, .string .empty, .int .i64 0] (by kernel_rfl)) rfl ?_
     refine wz9 ?_
     exact CT.done (⟨none, 0, none, 0⟩ : GetY b) rfl (fun w ho => ((ho.ent : Hold _ _ [] w).add Xah).add Xah)
    ·rw [if_pos (by omega)] at e5
     refine wX ?_
     refine Wf OpV.nilCheck rfl ?_
     refine wz6 ?_
     refine JR.reslot 82 (.pointer (some ⟨br, 0, none⟩)) rfl ?_
     refine Wi ?_
     refine wz9 ?_
     refine JR.callV rfl (fun w1 hw => Xd2 w1 _ ⟨⟨z0, z1⟩, z2, ps, o⟩ pa pc hw.get htx) ?_
     cases hmay : may ⟨⟨z0, z1⟩, z2, ps, o⟩ with
     | false =>
      have hg : getC b = none := by rw [e5]; unfold finC; rw [hmay]; rfl
      rw [Xfu hg]
      refine wz10 ?_
      refine Wf OpV.nilCheck rfl ?_
      refine wz1 ?_
      skip
      refine Wf (OpV.build [.int .i64 0, .int .i64 0, .int .i64 0, .slice none 0 0, .int .i64 0, .string .empty, .string .empty, .int .i64 0] (by kernel_rfl)) rfl ?_
      refine wz9 ?_
      exact CT.done (⟨none, 0, none, 0⟩ : GetY b) rfl (fun w ho => ((ho.ent : Hold _ _ [] w).add Xah).add Xah)
     | true =>
      have hg : getC b = some (⟨⟨z0, z1⟩, z2, ps, o⟩, R) := by rw [e5]; unfold finC; rw [hmay]; rfl
      rw [Xgn hg]
      refine wz10 ?_
      refine Wf OpV.nilCheck rfl ?_
      refine wX ?_
      refine JC.drawP mixed ?_
      refine JP.tv 0 [.own b6 29 [.int .i64 z0, .int .i64 z1, .int .i64 z2, .slice pa ps.length pc, .int .i64 o.kind, .string o.key, .string o.elem, .int .i64 o.n]] ?_
      refine Xad 1 ?_
      refine Xad 2 ?_
      refine Xad 3 ?_
      refine JP.tv 4 [.own br 152 [.slice ro R.length co, .bool false]] ?_
      refine Xar 5 rfl rfl (JR.appendNil (L' := R) rfl (by exact ⟨rfl, rfl, by decide⟩) (by omega) fun a5 c5 => Wd (nO ?_))
      refine JP.more (fun w1 ho => ho.pub) ?_
      refine Xar 6 rfl rfl (Wi (Wd (nO ?_)))
      refine Xad 7 ?_
      refine Xad 8 ?_
      refine JP.nil (by kernel_rfl) ?_
      refine wz13 ?_
      exact Xab (⟨pa, pc, a5, c5⟩ : GetY b) rfl
   ·have e5 : getC b = finC ⟨⟨z0, z1⟩, z2, ps, op0⟩ B := by rw [hg2]; exact if_pos (by omega)
    refine wz1 ?_
    refine JR.callV rfl (fun w1 hw => Xd2 w1 _ ⟨⟨z0, z1⟩, z2, ps, op0⟩ pa pc hw.get hop0) ?_
    cases hmay : may ⟨⟨z0, z1⟩, z2, ps, op0⟩ with
    | false =>
     have hg : getC b = none := by rw [e5]; unfold finC; rw [hmay]; rfl
     rw [Xfu hg]
     refine wz10 ?_
     refine Wf OpV.nilCheck rfl ?_
     refine wz1 ?_
     skip
     refine Wf (OpV.build [.int .i64 0, .int .i64 0, .int .i64 0, .slice none 0 0, .int .i64 0, .string .empty, .string .empty, .int .i64 0] (by kernel_rfl)) rfl ?_
     refine wz9 ?_
     exact CT.done (⟨none, 0, none, 0⟩ : GetY b) rfl (fun w ho => ((ho.ent : Hold _ _ [] w).add Xah).add Xah)
    | true =>
     have hg : getC b = some (⟨⟨z0, z1⟩, z2, ps, op0⟩, B) := by rw [e5]; unfold finC; rw [hmay]; rfl
     rw [Xgn hg]
     refine wz10 ?_
     refine Wf OpV.nilCheck rfl ?_
     refine wX ?_
     refine JC.drawP mixed ?_
     refine JP.tv 0 [.own b6 29 [.int .i64 z0, .int .i64 z1, .int .i64 z2, .slice pa ps.length pc, .int .i64 0, .string .empty, .string .empty, .int .i64 0]] ?_
     refine Xad 1 ?_
     refine Xad 2 ?_
     refine Xad 3 ?_
     refine JP.tv 4 [.own br 152 [.slice ra B.length rc, .bool false]] ?_
     refine Xar 5 rfl rfl (JR.appendNil (L' := B) rfl (by exact ⟨rfl, rfl, by decide⟩) (by omega) fun a5 c5 => Wd (nO ?_))
     refine JP.more (fun w1 ho => ho.pub) ?_
     refine Xar 6 rfl rfl (Wi (Wd (nO ?_)))
     refine Xad 7 ?_
     refine Xad 8 ?_
     refine JP.nil (by kernel_rfl) ?_
     refine wz13 ?_
     exact Xab (⟨pa, pc, a5, c5⟩ : GetY b) rfl
theorem X0j : fine com0 := ⟨by unfold Xht; exact (by decide : op0.key.size < 4611686018427387904 ∧ op0.elem.size < 4611686018427387904), by simp [com0]⟩
theorem X0k (b : List UInt8) : fine (getT b).1 ∧ (getT b).1.parents.length ≤ 8 := by
 unfold getT
 split
 ·rename_i q h
  obtain ⟨hm, ht⟩ := Xma (b := b) (c := q.1) (r := q.2) h
  have hp := Xfx hm
  exact ⟨⟨ht, by show q.1.parents.length ≤ _; omega⟩, hp⟩
 ·exact ⟨X0j, by simp [com0]⟩
theorem X2p {b : List UInt8} {c : Commit} (h : getT b = (c, [], 0)) : getC b = some (c, []) := by
 unfold getT at h
 split at h
 ·rename_i q hq
  rw [hq]
  injection h with h1 h2
  injection h2 with h2 h3
  rw [← h1, ← h2]
 ·injection h with h1 h2
  injection h2 with h2 h3
  cases h3
theorem Xld {xs : List Commit} {i : Nat} (h : Xb0 [] xs = Xb0 (xs.take i) (xs.drop i)) (hi : xs.length ≤ i) : Xb0 [] xs = xs.take i := by
 rw [h, List.drop_eq_nil_of_le hi]; rfl
theorem X2q (a : Option Addr) (c : Nat) (b : List UInt8) (h : (sl a c b).holds F w) (hb : b.length ≤ 4900) :
  Xcr prog 18 [.slice a b.length c] w F (Xcc b) [.int .i64 (Xb5 b : Int)] := by
 obtain ⟨rs, hrs⟩ : ∃ rs, rs = readL b := ⟨_, rfl⟩
 obtain ⟨xs, hxs⟩ : ∃ xs, xs = decL rs := ⟨_, rfl⟩
 have hrl : 5 * rs.length ≤ b.length := by
  have h1 := Xer rs
  have h2 := (Xgq b.length b).length_le
  rw [← readL, ← hrs] at h2
  omega
 have hsm : ∀ x ∈ rs, x.length ≤ 4000 := by rw [hrs]; exact Xjd _ _
 have hfx : ∀ x ∈ xs, fine x := by rw [hxs]; exact fun x hx => Xvn hx
 have hfp : ∀ x ∈ xs, fine x ∧ x.parents.length ≤ 1000 := fun x hx => ⟨hfx x hx, by
  obtain ⟨k, hk, rfl⟩ := List.getElem_of_mem hx
  have := Xfx (Xma (Xk8 rs k (by rw [← hxs]; exact hk) (by have := Xh2 rs; rw [← hxs] at this; omega))).1
  simp only [← hxs] at this
  omega⟩
 have hdl : xs.length ≤ rs.length := by rw [hxs]; exact Xh2 rs
 have hat := Xk8 rs
 have hde := Xqn rs
 rw [← hxs] at hat hde
 refine Xaa func18 rfl ntmps18 rfl rfl [.st (sl a c b)] (.start1 h) ?_
 refine wz10 ?_
 refine Xbp rfl (fun w1 hw => X2m w1 _ a c b hw.get (by omega)) ?_
 intro a1 c1
 rw [← hrs]
 refine wz4 ?_
 refine JC.more (Γ' := [.st (sl none 0 (xs.take 0)), .st (sl a1 c1 rs)]) (fun w ho => (ho.ent : Hold _ _ [.st (sl a1 c1 rs)] w).add Xah) ?_
 refine Xcz (fun (i : Nat) (p : Option Addr × Nat) => [(4, .slice a1 rs.length c1), (6, .slice p.1 (xs.take i).length p.2), (7, .int .i64 ((Xak (rs.take i)).length : Int)), (8, .int .i64 (i : Int))])
  (fun i p => [.st (sl p.1 p.2 (xs.take i)), .st (sl a1 c1 rs)]) (fun i p => i ≤ xs.length ∧ Xb0 [] xs = Xb0 (xs.take i) (xs.drop i)) (fun i p => rs.length - i) 0 (none, 0) ⟨Nat.zero_le _, rfl⟩ (show Ent _ _ [(4, .slice a1 rs.length c1), (6, .slice none 0 0), (7, .int .i64 0), (8, .int .i64 0)] [.st (sl none 0 (xs.take 0)), .st (sl a1 c1 rs)] from iI) ?_
 rintro i ⟨p, q⟩ ⟨hi, hcl⟩
 dsimp only
 have hlen : (xs.take i).length = i := by rw [List.length_take]; omega
 refine wz11 ?_
 refine JC.test (fun hlt => ?_) (fun hge => ?_)
 case refine_2 =>
  have hend := Xld hcl (by omega)
  have hlb : Xcc b = xs.take i := by unfold Xcc; rw [← hrs, ← hxs]; exact hend
  have hle : Xb5 b = (Xak (rs.take i)).length := by unfold Xb5; rw [hlb, ← hrs, hlen]
  rw [hlb, hle]
  refine wz3 ?_
  exact Xab (p, q) rfl
 have hi' : i < rs.length := by omega
 obtain ⟨r, hr⟩ : ∃ r, r = rs[i] := ⟨_, rfl⟩
 have hsi : r.length ≤ 4000 := by rw [hr]; exact hsm _ (List.getElem_mem hi')
 have hgf := X0k r
 have hgy := fun c => X2p (b := r) (c := c)
 have hga : ∀ h : i < xs.length, getC r = some (xs[i], []) := fun h => by rw [hr]; exact hat i h hi'
 have hgn : i = xs.length → ¬ ∃ c, getC r = some (c, []) := fun h => by
  have := hde (by omega)
  subst h
  rw [hr]; exact this
 have hgT : ∀ c, getC r = some (c, []) → getT r = (c, [], 0) := fun c h => Xgn h
 have hft : Xft r = (Xbv r, 0) := if_neg (by omega)
 have hfn : (Xak (rs.take (i + 1))).length = (Xak (rs.take i)).length + (Xbv r).length := by rw [hr]; exact Xlq hi'
 refine wz14 ?_
 refine Xd7 (k := i) rfl hi' ?_
 intro b5 o5 a5 c5
 rw [← hr]
 refine wz6 ?_
 refine Xf2 (v := fun y : GetY r => .tuple ⟨[Xax (getT r).1 y.pa y.pc, .slice y.ra (getT r).2.1.length y.rc, .int .i64 (getT r).2.2]⟩) (B := fun y => .st (sl y.pa y.pc (getT r).1.parents)) (C := fun y => .st (sl y.ra y.rc (getT r).2.1)) rfl (fun w1 hw => Xw7 w1 _ a5 c5 r hw.get (by omega)) ?_
 rintro ⟨pa, pc, ra, rc⟩
 dsimp only
 obtain ⟨cm, R, ec, hg⟩ : ∃ cm R ec, getT r = (cm, R, ec) := ⟨_, _, _, rfl⟩
 rw [hg] at hgf hgy hgT ⊢
 dsimp only at hgf ⊢
 (repeat (refine wF ?_; intro _)); refine wX ?_
 rename_i b9
 refine Xgg (fun y : Option Addr × Nat => [(4, .slice a1 rs.length c1), (6, .slice p (xs.take i).length q), (7, .int .i64 ((Xak (rs.take i)).length : Int)), (8, .int .i64 (i : Int)), (10, .slice ra R.length rc), (11, .int .i64 ec), (12, .slice y.1 (xs.take i ++ [cm]).length y.2)])
  (fun y => [.st (sl y.1 y.2 (xs.take i ++ [cm])), .st (sl p q (xs.take i)), .st (sl a1 c1 rs)]) ?_ ?_
 ·refine JC.drawP mixed ?_
  refine Xad 0 ?_
  refine JP.tv 2 [.own b9 29 [.int .i64 cm.ev.node, .int .i64 cm.ev.seq, .int .i64 cm.gen, .slice pa cm.parents.length pc, .int .i64 cm.op.kind, .string cm.op.key, .string cm.op.elem, .int .i64 cm.op.n]] ?_
  refine JP.both 1 3 (by kernel_rfl) rfl rfl rfl rfl (JR.appendNil (L' := xs.take i) rfl (by exact ⟨rfl, rfl, by decide⟩) (by omega) fun a6 c6 => Wd (nO ?_)) (Ww rfl ⟨rfl, by decide, by decide, by decide⟩ (fun bl => Wd (nO ?_)))
  ·refine Xar 3 rfl rfl (Ww rfl ⟨rfl, by decide, by decide, by decide⟩ (fun bl => Wd (nO ?_)))
   refine Xar 4 rfl rfl (Xai (L := xs.take i) (u := cm) rfl (by exact ⟨rfl, rfl, by decide⟩) (by omega) (fun a7 c7 => Wd (nO ?_)))
   refine JP.more (fun w1 ho => ho.pub) ?_
   refine Xad 5 ?_
   exact JP.nil (by kernel_rfl) ⟨rfl, (a7, c7), iI⟩
  ·refine Xar 1 rfl rfl (JR.appendNil (L' := xs.take i) rfl (by exact ⟨rfl, rfl, by decide⟩) (by omega) fun a6 c6 => Wd (nO ?_))
   refine Xar 4 rfl rfl (Xai (L := xs.take i) (u := cm) rfl (by exact ⟨rfl, rfl, by decide⟩) (by omega) (fun a7 c7 => Wd (nO ?_)))
   refine JP.more (fun w1 ho => ho.pub) ?_
   refine Xad 5 ?_
   exact JP.nil (by kernel_rfl) ⟨rfl, (a7, c7), iI⟩
 rintro ⟨a7, c7⟩
 dsimp only
 obtain ⟨N, hN⟩ : ∃ N, N = xs.take i ++ [cm] := ⟨_, rfl⟩
 rw [← hN]
 have hfN : ∀ x ∈ N, fine x ∧ x.parents.length ≤ 1000 := by
  intro x hx
  rw [hN] at hx
  rcases List.mem_append.1 hx with hx | hx
  ·exact hfp x (List.mem_of_mem_take hx)
  ·rw [List.mem_singleton.1 hx]; exact ⟨hgf.1, by omega⟩
 have hlN : N.length = i + 1 := by rw [hN, List.length_append, hlen]; rfl
 obtain ⟨bc, hbc⟩ : ∃ b : Bool, b = true ↔ Closed N := ⟨closedB N, Xcf⟩
 refine wz14 ?_
 refine JR.callV rfl (fun w1 hw => Xjc w1 _ a7 c7 N bc hw.get (by omega) (fun x hx => (hfN x hx).1) (fun x hx => (hfN x hx).2) hbc) ?_
 refine wX ?_
 refine JO.test 45 (fun h1 => ?_) (fun h1 => ?_)
 ·have hend := Xld hcl (Nat.le_of_not_lt fun hl => by
   have := hgT _ (hga hl)
   simp only [Prod.mk.injEq] at this
   exact h1 this.2.2)
  have hlb : Xcc b = xs.take i := by unfold Xcc; rw [← hrs, ← hxs]; exact hend
  have hle : Xb5 b = (Xak (rs.take i)).length := by unfold Xb5; rw [hlb, ← hrs, hlen]
  rw [hlb, hle]
  refine wz12 ?_
  exact Xab (p, q) rfl
 refine wz5 ?_
 refine JO.test 50 (fun h2 => ?_) (fun h2 => ?_)
 ·have hend := Xld hcl (Nat.le_of_not_lt fun hl => by
   have := hgT _ (hga hl)
   simp only [Prod.mk.injEq] at this
   rw [this.2.1] at h2
   simp at h2)
  have hlb : Xcc b = xs.take i := by unfold Xcc; rw [← hrs, ← hxs]; exact hend
  have hle : Xb5 b = (Xak (rs.take i)).length := by unfold Xb5; rw [hlb, ← hrs, hlen]
  rw [hlb, hle]
  refine wz12 ?_
  exact Xab (p, q) rfl
 have hec : ec = 0 := by omega
 have hR : R = [] := List.eq_nil_of_length_eq_zero (by omega)
 have hgc := hgy cm (by rw [hec, hR])
 have hix : i < xs.length := by
  rcases Nat.lt_or_ge i xs.length with hl | hl
  ·exact hl
  ·exact (hgn (by omega) ⟨cm, hgc⟩).elim
 have hcm : xs[i] = cm := by
  have := hga hix
  rw [hgc] at this
  injection this with this
  injection this with this _
  exact this.symm
 have hN2 : N = xs.take (i + 1) := by rw [hN, ← hcm]; exact (List.take_succ_eq_append_getElem hix).symm
 cases bc with
 | false =>
  have hend := Xnq hix hcl (fun hc => by rw [← hN2] at hc; exact Bool.noConfusion (hbc.2 hc))
  have hlb : Xcc b = xs.take i := by unfold Xcc; rw [← hrs, ← hxs]; exact hend
  have hle : Xb5 b = (Xak (rs.take i)).length := by unfold Xb5; rw [hlb, ← hrs, hlen]
  rw [hlb, hle]
  refine wX ?_
  exact Xab (p, q) rfl
 | true =>
  have hst := Xnp hix hcl (by rw [← hN2]; exact hbc.1 rfl)
  rw [hN2] at hlN ⊢
  refine wz7 ?_
  refine Xd7 (k := i) rfl hi' ?_
  intro b6 o6 a8 c8
  rw [← hr]
  refine wz6 ?_
  refine Xbp rfl (fun w1 hw => Xnu w1 _ a8 c8 r hw.get) ?_
  intro a9 c9
  rw [hft]
  dsimp only
  have hpre := Xh3 rs (i + 1)
  have hrb := (Xgq b.length b).length_le
  rw [← readL, ← hrs] at hrb
  refine wX ?_
  refine ⟨i + 1, (a7, c7), ⟨by omega, hst⟩, by omega, ?_⟩
  show Ent _ _ [(4, .slice a1 rs.length c1), (6, .slice a7 (xs.take (i + 1)).length c7), (7, .int .i64 ((Xak (rs.take (i + 1))).length : Int)), (8, .int .i64 ((i + 1 : Nat) : Int))] [.st (sl a7 c7 (xs.take (i + 1))), .st (sl a1 c1 rs)]
  rw [hfn]
  exact iI
section
attribute [local irreducible] JN
section
attribute [local irreducible] Xay
theorem Xle (a b : Option Addr) (k m : Nat) (L : List Commit) (H : List ID) (rc : Commit) (rl : List Commit) (rb : Bool) (hR : Xa8 L H = (rc, rl, rb)) (h : (sl a k L).holds F w) (h' : (sl b m H).holds F w) (hl : L.length < 34359738360) (hf : ∀ x ∈ L, fine x) (hq : ∀ x ∈ L, x.parents.length ≤ 34359738360) :
  Gives prog 200 [.slice a L.length k, .slice b H.length m] w F
   (fun y : (Option Addr × Nat) × (Option Addr × Nat) => .tuple ⟨[Xax rc y.1.1 y.1.2, .slice y.2.1 rl.length y.2.2, .bool rb]⟩)
   (fun y => [.st (sl y.1.1 y.1.2 rc.parents), .st (sl y.2.1 y.2.2 rl)]) := by
 refine Xaa func200 rfl ntmps200 rfl rfl [.st (sl a k L), .st (sl b m H)] (.start2 h h') ?_
 (repeat (refine wE ?_; intro _)); refine wA ?_
 rename_i bc
 refine Xap (fun i : Nat => [(0, .slice a L.length k), (1, .slice b H.length m), (4, .pointer (some ⟨bc, 0, none⟩)), (5, .slice none 0 0), (6, .bool false), (7, .int .i64 (i : Int))])
  (fun i => [.st (sl a k L), .st (sl b m H), .own bc 29 [.int .i64 0, .int .i64 0, .int .i64 0, .slice none 0 0, .int .i64 0, .string .empty, .string .empty, .int .i64 0]])
  (fun i => i ≤ L.length ∧ ∀ j (hj : j < i) (hL : j < L.length), Xej H L[j] = false) (fun i => L.length - i) 0 ⟨Nat.zero_le _, fun j hj => by omega⟩ iI ?_
 intro i ⟨hi, hno⟩
 refine wz11 ?_
 refine JC.test (fun hlt => ?_) (fun hge => ?_)
 ·have hlt' : i < L.length := by omega
  refine wz14 ?_
  refine Xaf rfl hlt' ?_
  intro b1 o1 p1 q1
  refine wz6 ?_
  refine JR.callSl rfl (fun w1 hw => Xi9 w1 _ p1 b q1 m (L[i]).parents H hw.get hw.get (hq _ (List.getElem_mem hlt'))) ?_
  intro a2 c2
  refine wz4 ?_
  refine JC.test (fun h2 => ?_) (fun h2 => ?_)
  ·have hr : Xej H L[i] = true := by
    simp only [Xej, decide_eq_true_eq]; omega
   have hfi : L.findIdx? (Xej H) = some i := List.findIdx?_eq_some_iff_getElem.2 ⟨hlt', hr, fun j hj => by simp [hno j hj (by omega)]⟩
   have hR2 : Xa8 L H = (L[i], L.eraseIdx i, true) := by simp [Xa8, hfi, hlt']
   rw [hR2] at hR
   injection hR with e1 e2
   injection e2 with e2 e3
   subst e1 e2 e3
   have he : L.eraseIdx i = L.take i ++ L.drop (i + 1) := List.eraseIdx_eq_take_drop_succ ..
   refine wz14 ?_
   refine Xa7 (L := L) (.slice a L.length k) i hlt' ?_
   intro b6 o6 p6 q6
   refine JC.more (Γ' := [.st (sl a k (L.take i)), .st (sl (Xcu a k (i + 1) 8) (k - (i + 1)) (L.drop (i + 1))), .st (elA (.slice a L.length k) i 8 b6 o6), .st (ro b6 o6 [.int .i64 (L[i]).ev.node, .int .i64 (L[i]).ev.seq, .int .i64 (L[i]).gen, .slice p6 (L[i]).parents.length q6, .int .i64 (L[i]).op.kind, .string (L[i]).op.key, .string (L[i]).op.elem, .int .i64 (L[i]).op.n]), .st (sl p6 q6 (L[i]).parents), .st (sl a k L), .own bc 29 [.int .i64 0, .int .i64 0, .int .i64 0, .slice none 0 0, .int .i64 0, .string .empty, .string .empty, .int .i64 0]]) (fun w1 ho => ?_) ?_
   ·have hs : (sl a k L).holds _ w1 := ho.get
    have h3 := ho.add (A := sl (Xcu a k (i + 1) 8) (k - (i + 1)) (L.drop (i + 1))) (Xhq hs (by omega))
    have hs2 : (sl a k L).holds _ w1 := h3.get
    exact (h3.add (A := sl a k (L.take i)) (Xez hs2 (by omega) ⟨by have := hs2.1; omega, Nat.le_refl _⟩)).ent
   refine Xjp [.st (sl a k (L.take i)), .st (sl (Xcu a k (i + 1) 8) (k - (i + 1)) (L.drop (i + 1))), .st (elA (.slice a L.length k) i 8 b6 o6), .st (ro b6 o6 [.int .i64 (L[i]).ev.node, .int .i64 (L[i]).ev.seq, .int .i64 (L[i]).gen, .slice p6 (L[i]).parents.length q6, .int .i64 (L[i]).op.kind, .string (L[i]).op.key, .string (L[i]).op.elem, .int .i64 (L[i]).op.n]), .st (sl a k L)] mixed ?_
   refine JN.take 0 rfl (by kernel_rfl) rfl Va rfl rfl ?_
   refine JN.take 1 rfl (by kernel_rfl) rfl Va rfl rfl ?_
   refine JN.take 2 rfl (by kernel_rfl) rfl Ve rfl rfl ?_
   refine JN.take 3 rfl (by kernel_rfl) rfl Vc rfl rfl ?_
   refine JN.take 4 rfl (by kernel_rfl) rfl Va rfl rfl ?_
   refine JN.take 5 rfl (by kernel_rfl) rfl Va rfl rfl ?_
   refine JN.take 6 rfl (by kernel_rfl) rfl (Xca (k := i) (fun w1 ho => by have := (Hold.get (A := sl a k L) ho).1; omega)) rfl rfl ?_
   refine JN.reslot 31 (.slice a (L.take i).length k) (by rw [List.length_take]; congr 1 <;> omega) ?_
   refine JN.take 8 rfl (by kernel_rfl) rfl Va rfl rfl ?_
   refine JN.take 9 rfl (by kernel_rfl) rfl Va rfl rfl ?_
   refine JN.take 10 rfl (by kernel_rfl) rfl (Vk (by omega)) rfl rfl ?_
   refine JN.take 11 rfl (by kernel_rfl) rfl (Xde (l := i + 1) (s := 8) rfl (fun w1 ho => ⟨by omega, (Hold.get (A := sl a k L) ho).1⟩)) rfl rfl ?_
   refine JN.reslot 36 (.slice (Xcu a k (i + 1) 8) (L.drop (i + 1)).length (k - (i + 1))) (by rw [List.length_drop]) ?_
   refine JN.op 7 (by kernel_rfl) rfl rfl (JR.appendNil (L' := L.take i) rfl (by exact ⟨rfl, rfl, by decide⟩) (by rw [List.length_take]; omega) (fun a4 c4 => Wd ⟨rfl, iI, ?_⟩))
   refine JN.op 12 (by kernel_rfl) rfl rfl (Xau (L := L.take i) (L' := L.drop (i + 1)) rfl (by exact ⟨rfl, rfl, by decide⟩) (by rw [List.length_take, List.length_drop]; omega) (fun a5 c5 => Wd ⟨rfl, iI, ?_⟩))
   refine JN.more (fun w1 ho => ho.pub) ?_
   refine JN.op 13 (by kernel_rfl) rfl rfl (Wi (Wd ⟨rfl, iI, ?_⟩))
   refine JN.op 14 (by kernel_rfl) rfl rfl (Wf Vb rfl (Wd ⟨rfl, iI, ?_⟩))
   refine JN.op 15 (by kernel_rfl) rfl rfl (Wf Vb rfl (Wd ⟨rfl, iI, ?_⟩))
   refine JN.nil (by kernel_rfl) ?_
   rw [← he]
   refine wz5 ?_
   exact Xab ((p6, q6), (a5, c5)) rfl
  ·have hnr : Xej H L[i] = false := by
    simp only [Xej, decide_eq_false_iff_not]; omega
   refine wz2 ?_
   refine ⟨i + 1, ⟨by omega, fun j hj hL => ?_⟩, by omega, iI⟩
   by_cases hji : j = i
   ·subst hji; exact hnr
   ·exact hno j (by omega) hL
 ·have hfi : L.findIdx? (Xej H) = none := by
   rw [List.findIdx?_eq_none_iff]
   intro x hx
   obtain ⟨j, hj, rfl⟩ := List.getElem_of_mem hx
   exact hno j (by omega) hj
  have hR2 : Xa8 L H = (Xdt, L, false) := by simp [Xa8, hfi]
  rw [hR2] at hR
  injection hR with e1 e2
  injection e2 with e2 e3
  subst e1 e2 e3
  refine wz3 ?_
  refine Wf (OpV.build [.int .i64 0, .int .i64 0, .int .i64 0, .slice none 0 0, .int .i64 0, .string .empty, .string .empty, .int .i64 0] (by kernel_rfl)) rfl ?_
  refine wz9 ?_
  exact CT.done ((none, 0), (a, k)) rfl (fun w ho => (ho.ent : Hold _ _ [.st (sl a k L)] w).add Xah)
theorem Xnv (a b : Option Addr) (k m : Nat) (L : List Commit) (H : List ID) (h : (sl a k L).holds F w) (h' : (sl b m H).holds F w) (hl : L.length + H.length ≤ 34359738360) (hp : (Xav L).length ≤ 34359738360) (hf : ∀ x ∈ L, fine x) :
  Xbw prog 87 [.slice a L.length k, .slice b H.length m] w F (Xhk L H) := by
 refine Xaa func87 rfl ntmps87 rfl rfl [.st (sl a k L), .st (sl b m H)] (.start2 h h') ?_
 refine wz10 ?_
 refine JR.appendNil (L' := H) rfl (by exact ⟨rfl, rfl, by decide⟩) (by omega) ?_
 intro a2 c2
 refine wz4 ?_
 refine JC.buf_nil (α := ID) 81 ?_
 refine Xh7 (fun (i : Nat) p q r s => [(0, .slice a L.length k), (1, .slice b H.length m), (5, .slice p (Xav (L.take i)).length q), (6, .slice r (H ++ Xb8 (L.take i)).length s), (7, .int .i64 (i : Int))])
  (fun i p q r s => [.st (sl a k L), .res (buf p q 81 (Xav (L.take i))), .res (buf r s 81 (H ++ Xb8 (L.take i)))])
  (fun i _ _ _ _ => i ≤ L.length) (fun i _ _ _ _ => L.length - i) 0 none 0 a2 c2 (Nat.zero_le _) (by rw [List.take_zero, show Xav [] = [] from rfl, show Xb8 [] = [] from rfl, List.append_nil]; infer_instance) ?_
 intro i p q r s hi
 refine wz11 ?_
 refine JC.test (fun hlt => ?_) (fun hge => ?_)
 ·have hlt' : i < L.length := by omega
  have hfx := hf _ (List.getElem_mem hlt')
  have h1 := Xr5 (L.take i)
  rw [List.length_take] at h1
  have h2 := Xi7 L (i + 1)
  rw [Xcb L i hlt', List.length_append] at h2
  refine wz14 ?_
  refine Xaf rfl hlt' ?_
  intro b2 o2 p2 q2
  refine wz6 ?_
  refine JR.callV rfl (fun w1 hw => Xl9 w1 _ (L[i]) p2 q2 hw.get hfx.1) ?_
  (repeat (refine wE ?_; intro _)); refine wA ?_
  refine JC.test (fun h0 => ?_) (fun h0 => ?_)
  ·have ho : Xnc L[i] = some (Xay L[i]).1 := by simp [Xnc, h0]
   have hnx : H ++ Xb8 (L.take (i + 1)) = H ++ Xb8 (L.take i) ++ [(Xay L[i]).1] := by rw [Xg8 _ _ hlt', ho, List.append_assoc]; rfl
   (repeat (refine wE ?_; intro _)); refine wA ?_
   refine Xai rfl (by exact ⟨rfl, rfl, by decide⟩) (by rw [List.length_append]; omega) ?_
   intro r3 s3
   refine wz10 ?_
   refine Xaf rfl hlt' ?_
   intro b3 o3 p4 q4
   refine wz6 ?_
   refine Xau rfl (by exact ⟨rfl, rfl, by decide⟩) (by omega) ?_
   intro p3 q3
   refine wz2 ?_
   exact ⟨i + 1, p3, q3, r3, s3, by omega, by omega, by rw [hnx, Xcb _ _ hlt']; infer_instance⟩
  ·have ho : Xnc L[i] = none := by simp [Xnc, h0]
   have hnx : H ++ Xb8 (L.take (i + 1)) = H ++ Xb8 (L.take i) := by rw [Xg8 _ _ hlt', ho]; simp
   obtain ⟨r3, hr3⟩ : ∃ r3, r3 = r := ⟨_, rfl⟩
   obtain ⟨s3, hs3⟩ : ∃ s3, s3 = s := ⟨_, rfl⟩
   subst hr3 hs3
   refine wz14 ?_
   refine Xaf rfl hlt' ?_
   intro b3 o3 p4 q4
   refine wz6 ?_
   refine Xau rfl (by exact ⟨rfl, rfl, by decide⟩) (by omega) ?_
   intro p3 q3
   refine wz2 ?_
   exact ⟨i + 1, p3, q3, r3, s3, by omega, by omega, by rw [hnx, Xcb _ _ hlt']; infer_instance⟩
 ·obtain rfl : i = L.length := by omega
  rw [List.take_length]
  refine JC.more (Γ' := [.st (sl r s (H ++ Xb8 L)), .st (sl p q (Xav L))]) (fun w1 ho => ?_) ?_
  ·have h1 : Hold _ _ [.res (buf p q 81 (Xav L)), .res (buf r s 81 (H ++ Xb8 L))] w1 := ho.ent
   have h2 : Hold _ _ [.res (buf r s 81 (H ++ Xb8 L)), .st (sl p q (Xav L))] w1 := (h1.pub).ent
   exact h2.pub
  refine wz3 ?_
  refine JR.callSl rfl (fun w1 hw => Xi9 w1 _ p r q s (Xav L) (H ++ Xb8 L) hw.get hw.get (by omega)) ?_
  intro a5 c5
  refine wz10 ?_
  exact CT.done (a5, c5) rfl (fun w ho => (ho.ent : Hold _ _ [.st (sl a5 c5 (Xbg (Xav L) (H ++ Xb8 L) false))] w))
end
end
section
attribute [local irreducible] Xay
theorem X2r (no room : Int) : GivesV prog 147 [.int .i64 no, .int .i64 room] w F (.bool (Xfy no room)) := by
 refine Xaa func147 rfl ntmps147 rfl rfl [] (.start w F) ?_
 refine wz10 ?_
 refine JO.test 7 (fun h1 => ?_) (fun h1 => ?_)
 ·refine wX ?_
  refine JO.test 11 (fun h2 => ?_) (fun h2 => ?_)
  ·refine wX ?_
   refine JO.test 15 (fun h3 => ?_) (fun h3 => ?_)
   ·refine wX ?_
    refine Xab () ?_
    simp only [Xae, Xfy, decide_eq_true h1, decide_eq_true h2, decide_eq_true h3, Bool.true_and]
   ·refine wz8 ?_
    refine Xab () ?_
    simp only [Xae, Xfy, decide_eq_false h3, Bool.and_false, Bool.false_and]
  ·refine wz8 ?_
   refine Xab () ?_
   simp only [Xae, Xfy, decide_eq_false h2, Bool.and_false, Bool.false_and]
 ·refine wz8 ?_
  refine Xab () ?_
  simp only [Xae, Xfy, decide_eq_false h1, Bool.and_false, Bool.false_and]
theorem Xnw (n : Nd) (y : Na) (c : Commit) (a : Option Addr) (k : Nat) :
  GivesV prog 150 [ndV n y, Xax c a k] w F (.bool (Xc1 n.no n.seq c)) := by
 refine Xaa func150 rfl ntmps150 rfl rfl [] (.start w F) ?_
 (repeat (refine wE ?_; intro _)); refine wA ?_
 refine JO.test 11 (fun h1 => ?_) (fun h1 => ?_)
 ·refine wz8 ?_
  refine Xab () ?_
  simp only [Xae, Xc1, decide_eq_true h1, Bool.true_or]
 ·refine wX ?_
  refine Xab () ?_
  simp only [Xae, Xc1, decide_eq_false h1, Bool.false_or]
theorem Xnx (n : Nd) (y : Na) (hd : (sl y.d y.dk n.disk).holds F w) (hl : (sl y.l y.lk n.l).holds F w) (hw : (sl y.w y.wk n.wait).holds F w) (hwf : ∀ x ∈ n.wait, fine x) (hd4 : n.disk.length ≤ 4900) :
  GivesV prog 79 [ndV n y] w F (.bool (Xeb n)) := by
 have hwl : n.wait.length < 9223372036854775807 := by have := hw.2.2.1; simp only [lim] at this; omega
 have hll : n.l.length < 9223372036854775807 := by have := hl.2.2.1; simp only [lim] at this; omega
 rcases n with ⟨no, disk, room, l, wait, seq, up, peers, next, miss⟩
 rcases y with ⟨ad, kd, al, kl, aw, kw, ap, kp⟩
 dsimp only [ndV, ndC] at *
 refine Xaa func79 rfl ntmps79 rfl rfl [.st (sl ad kd disk), .st (sl al kl l), .st (sl aw kw wait)] (.start3 hd hl hw) ?_
 (repeat (refine wE ?_; intro _)); refine wA ?_
 rename_i bn
 refine JR.callV rfl (fun w1 hw => X2r w1 _ no room) ?_
 cases hfit : Xfy no room with
 | false =>
  refine wz8 ?_
  refine Xab () ?_
  simp only [Xae]
  unfold Xeb; rw [hfit]; rfl
 | true =>
 obtain ⟨f1, f2, f3, f4⟩ := Xke hfit
 refine wX ?_
 refine JC.test (fun h2 => ?_) (fun h2 => ?_)
 ·have h2' : room < (disk.length : Int) := by omega
  refine wz9 ?_
  refine Xab () ?_
  simp only [Xae]
  unfold Xeb; rw [hfit, decide_eq_true h2']; rfl
 have h2' : ¬ room < (disk.length : Int) := by omega
 refine wz1 ?_
 cases up with
 | false =>
  rw [Xpc hfit h2' rfl]
  dsimp only
  refine wX ?_
  refine JO.test 36 (fun h3 => ?_) (fun h3 => ?_)
  ·obtain rfl : l = [] := List.eq_nil_of_length_eq_zero (by omega)
   refine wX ?_
   refine JO.test 42 (fun h4 => ?_) (fun h4 => ?_)
   ·obtain rfl : wait = [] := List.eq_nil_of_length_eq_zero (by omega)
    refine wX ?_
    refine Xab () ?_
    simp only [Xae]
    simp
   ·have : wait ≠ [] := by rintro rfl; exact h4 rfl
    refine wz8 ?_
    refine Xab () ?_
    simp only [Xae]
    simp [this]
  ·have : l ≠ [] := by rintro rfl; exact h3 rfl
   refine wz8 ?_
   refine Xab () ?_
   simp only [Xae]
   simp [this]
 | true =>
 rw [Xqp hfit h2' rfl]
 dsimp only
 refine wX ?_
 refine Xbp rfl (fun w1 hw => X2q w1 _ ad kd disk hw.get (by omega)) ?_
 intro a1 k1
 refine wX ?_
 refine JR.callV rfl (fun w1 hw => Xl5 w1 _ a1 al k1 kl (Xcc disk) l hw.get hw.get) ?_
 by_cases hA : Xcc disk = l
 case neg =>
  rw [decide_eq_false hA]
  refine wz10 ?_
  refine Xa6 mixed (by kernel_rfl) ?_
  refine wY ?_
  refine wz8 ?_
  refine Xab () ?_
  simp only [Xae]
  simp
 rw [decide_eq_true hA]
 refine wz10 ?_
 refine Xa6 mixed (by kernel_rfl) ?_
 refine wY ?_
 by_cases hB : Xb5 disk = disk.length
 case neg =>
  refine JQ.reslot 66 (.bool true) (by congr 1; exact decide_eq_true (by omega)) ?_
  refine wY ?_
  refine wz8 ?_
  refine Xab () ?_
  simp only [Xae]
  simp [hB]
 refine JQ.reslot 66 (.bool false) (by congr 1; exact decide_eq_false (by omega)) ?_
 refine wY ?_
 refine JQ.call rfl rfl (fun w1 hw => X2l w1 _ al kl l no hw.get) ?_
 refine wY ?_
 subst hA
 by_cases hC : seq = Xje (Xcc disk) no
 case neg =>
  refine JQ.reslot 76 (.bool true) (by congr 1; exact decide_eq_true hC) ?_
  refine wY ?_
  refine wz8 ?_
  refine Xab () ?_
  simp only [Xae]
  simp [hC]
 refine JQ.reslot 76 (.bool false) (by congr 1; exact decide_eq_false (fun h => h hC)) ?_
 refine wY ?_
 refine wz13 ?_
 refine JC.test (fun h7 => ?_) (fun h7 => ?_)
 ·have : ¬ wait.length ≤ 8 := by omega
  refine wz9 ?_
  refine Xab () ?_
  simp only [Xae]
  simp [this]
 have h8 : wait.length ≤ 8 := by omega
 rw [decide_eq_true hB, decide_eq_true hC, decide_eq_true h8]
 simp only [Bool.true_and]
 refine wz1 ?_
 refine JR.callSl rfl (fun w1 hw => Xe4 w1 _ al kl (Xcc disk) hw.get (by have := Xpd disk; omega) Xns) ?_
 intro a2 k2
 refine wz4 ?_
 generalize hI : idsP (Xcc disk) = I
 refine Xap (fun (k : Nat) => [(1, .pointer (some ⟨bn, 0, none⟩)), (7, .slice a2 I.length k2), (8, .int .i64 (k : Int))])
  (fun _ => [.st (sl a2 k2 I), .own bn 50 [.int .i64 no, .slice ad disk.length kd, .int .i64 room, .slice al (Xcc disk).length kl, .slice aw wait.length kw, .int .i64 seq, .bool true, .slice ap peers.length kp, .int .i64 next, .int .i64 miss], .st (sl aw kw wait)])
  (fun k => k ≤ wait.length ∧ (wait.take k).all (Xbo no seq I) = true) (fun k => wait.length - k) 0 ⟨Nat.zero_le _, by simp⟩ iI ?_
 rintro k ⟨hk, hall⟩
 refine wz11 ?_
 refine JC.test (fun hlt => ?_) (fun hge => ?_)
 ·have hlt' : k < wait.length := by omega
  have hx := hwf _ (List.getElem_mem hlt')
  have hcut := Xug (p := Xbo no seq I) hlt'
  have htk := Xqq hlt' hall
  refine wz1 ?_
  refine Xaf rfl hlt' ?_
  intro b3 o3 p3 q3
  refine wz6 ?_
  refine JR.callV rfl (fun w1 hw => Xl9 w1 _ wait[k] p3 q3 hw.get hx.1) ?_
  (repeat (refine wE ?_; intro _)); refine wA ?_
  refine Xaf rfl hlt' ?_
  intro b4 o4 p4 q4
  refine wz6 ?_
  refine JR.callV rfl (fun w1 hw => Xex w1 _ wait[k] p4 q4 hw.get hx.1) ?_
  refine wz9 ?_
  refine JR.callV rfl (fun w1 hw => Xew w1 _ a2 k2 I (Xay wait[k]).1 hw.get) ?_
  refine wz10 ?_
  generalize he2 : (Xay wait[k]).2 = e2
  generalize hmg : merge wait[k] = mg
  generalize hb2 : decide ((Xay wait[k]).1 ∈ I) = b2
  refine Xgg (fun _ : Unit => [(1, .pointer (some ⟨bn, 0, none⟩)), (7, .slice a2 I.length k2), (8, .int .i64 (k : Int)), (10, .int .i64 e2), (11, .bool mg), (12, .bool b2), (13, .bool (Xc1 no seq wait[k]))])
   (fun _ => [.st (sl a2 k2 I), .own bn 50 [.int .i64 no, .slice ad disk.length kd, .int .i64 room, .slice al (Xcc disk).length kl, .slice aw wait.length kw, .int .i64 seq, .bool true, .slice ap peers.length kp, .int .i64 next, .int .i64 miss], .st (sl aw kw wait)]) ?_ ?_
  ·refine Xa7 (L := wait) (.slice aw wait.length kw) k hlt' ?_
   intro b5 o5 p5 q5
   refine Xa6 mixed (by kernel_rfl) ?_
   refine wY ?_
   refine JQ.call rfl rfl (fun w1 hw => Xnw w1 _ ⟨no, disk, room, Xcc disk, wait, seq, true, peers, next, miss⟩ ⟨ad, kd, al, kl, aw, kw, ap, kp⟩ wait[k] p5 q5) ?_
   dsimp only
   refine wY ?_
   exact ⟨rfl, (), iI⟩
  rintro ⟨⟩
  generalize hst : Xc1 no seq wait[k] = st
  refine wX ?_
  refine JO.test 119 (fun h1 => ?_) (fun h1 => ?_)
  ·have hm : may wait[k] = false := by rw [← Bool.not_eq_true, ← Xc0, he2]; exact h1
   refine wz8 ?_
   refine Xab () ?_
   simp only [Xae]
   rw [hcut (by unfold Xbo; rw [hm]; rfl)]
  have hm : may wait[k] = true := (Xc0 _).1 (by rw [he2]; simpa using h1)
  refine wz7 ?_
  cases mg with
  | true =>
   refine wz8 ?_
   refine Xab () ?_
   simp only [Xae]
   rw [hcut (by unfold Xbo; rw [hm, hmg]; rfl)]
  | false =>
  refine wz7 ?_
  cases b2 with
  | true =>
   refine wz8 ?_
   refine Xab () ?_
   simp only [Xae]
   rw [hcut (by unfold Xbo idC; rw [hm, hmg, hb2]; rfl)]
  | false =>
  refine wz7 ?_
  cases st with
  | false =>
   refine wz8 ?_
   refine Xab () ?_
   simp only [Xae]
   rw [hcut (by unfold Xbo idC; rw [hm, hmg, hb2, hst]; rfl)]
  | true =>
  refine wz2 ?_
  exact ⟨k + 1, ⟨by omega, by rw [htk]; unfold Xbo idC; rw [hm, hmg, hb2, hst]; rfl⟩, by omega, iI⟩
 ·obtain rfl : k = wait.length := by omega
  rw [List.take_length] at hall
  refine wz3 ?_
  refine Xab () ?_
  simp only [Xae]
  rw [hall]
structure NdOq (N : Nat) (n : Nd) : Prop extends NdOk N n where
 ql : ∀ x ∈ n.l, x.parents.length ≤ 1000
 qw : ∀ x ∈ n.wait, x.parents.length ≤ 1000
theorem X0l {n : Nd} {rc : Commit} {rl : List Commit} : ∀ x ∈ (Xen n rc rl).l, x ∈ n.l ∨ x = rc := by
 unfold Xen Xh4
 intro x hx
 split at hx
 ·split at hx
  ·rcases List.mem_append.1 hx with hx | hx
   ·exact .inl hx
   ·exact .inr (List.mem_singleton.1 hx)
  ·exact .inl hx
 ·exact .inl hx
theorem Xpf {N : Nat} {n : Nd} {rc : Commit} {rl : List Commit} (h : NdOq N n) (hr : Xa8 n.wait (idsP n.l) = (rc, rl, true)) : NdOq N (Xen n rc rl) := by
 obtain ⟨h1, h2, h3, _⟩ := Xhc hr
 refine ⟨Xlc h.toNdOk hr, fun x hx => ?_, fun x hx => ?_⟩
 ·rcases X0l x hx with hx | rfl
  ·exact h.ql x hx
  ·exact h.qw x h1
 ·rw [Xey] at hx
  exact h.qw x (h3 x hx)
theorem Xs1 (n : Nd) (y : Na) (h1 : (sl y.d y.dk n.disk).holds F w) (h2 : (sl y.l y.lk n.l).holds F w) (h3 : (sl y.w y.wk n.wait).holds F w) (h4 : (sl y.p y.pk n.peers).holds F w) (hok : NdOq 900 n) :
  Gives prog 156 [ndV n y] w F (fun z => ndV (Xcg n) z) (fun z => ndB (Xcg n) z) := by
 rcases n with ⟨no0, disk0, room0, l0, wait0, seq0, up0, peers0, next0, miss0⟩
 rcases y with ⟨ad0, kd0, al0, kl0, aw0, kw0, ap0, kp0⟩
 dsimp only [ndV, ndC] at h1 h2 h3 h4 ⊢
 refine Xaa func156 rfl ntmps156 rfl rfl [.st (sl ad0 kd0 disk0), .st (sl al0 kl0 l0), .st (sl aw0 kw0 wait0), .st (sl ap0 kp0 peers0)] (.start4 h1 h2 h3 h4) ?_
 (repeat (refine wE ?_; intro _)); refine wA ?_
 rename_i bn b2
 refine Xcz (fun (m : Nd) (z : Na) => [(1, .pointer (some ⟨bn, 0, none⟩)), (2, .pointer (some ⟨b2, 0, none⟩))])
  (fun m z => [.own bn 50 (ndC m z), .own b2 50 [.int .i64 0, .slice none 0 0, .int .i64 0, .slice none 0 0, .slice none 0 0, .int .i64 0, .bool false, .slice none 0 0, .int .i64 0, .int .i64 0], .st (sl z.d z.dk m.disk), .st (sl z.l z.lk m.l), .st (sl z.w z.wk m.wait), .st (sl z.p z.pk m.peers)])
  (fun m z => NdOq 900 m ∧ Xcg m = Xcg ⟨no0, disk0, room0, l0, wait0, seq0, up0, peers0, next0, miss0⟩) (fun m _ => m.wait.length) ⟨no0, disk0, room0, l0, wait0, seq0, up0, peers0, next0, miss0⟩ ⟨ad0, kd0, al0, kl0, aw0, kw0, ap0, kp0⟩ ⟨hok, rfl⟩ iI ?_
 clear h1 h2 h3 h4 hok
 generalize Xcg ⟨no0, disk0, room0, l0, wait0, seq0, up0, peers0, next0, miss0⟩ = S
 rintro ⟨no, disk, room, l, wait, seq, up, peers, next, miss⟩ ⟨ad, kd, al, kl, aw, kw, ap, kp⟩ ⟨hm, hS⟩
 obtain ⟨⟨hfl, hfw, hdk, hrm, hln⟩, hql, hqw⟩ := id hm
 dsimp only [ndC] at *
 obtain ⟨⟨rc, rl, rb⟩, hR⟩ : ∃ R, Xa8 wait (idsP l) = R := ⟨_, rfl⟩
 refine wz14 ?_
 refine Xgg (fun y : (Option Addr × Nat) × (Option Addr × Nat) × Nat => [(1, .pointer (some ⟨bn, 0, none⟩)), (2, .pointer (some ⟨b2, 0, none⟩)), (3, .pointer (some ⟨y.2.2, 0, none⟩)), (4, .slice y.2.1.1 rl.length y.2.1.2), (5, .bool rb)])
  (fun y => [.own y.2.2 29 [.int .i64 rc.ev.node, .int .i64 rc.ev.seq, .int .i64 rc.gen, .slice y.1.1 rc.parents.length y.1.2, .int .i64 rc.op.kind, .string rc.op.key, .string rc.op.elem, .int .i64 rc.op.n], .st (sl y.1.1 y.1.2 rc.parents), .st (sl y.2.1.1 y.2.1.2 rl), .own bn 50 [.int .i64 no, .slice ad disk.length kd, .int .i64 room, .slice al l.length kl, .slice aw wait.length kw, .int .i64 seq, .bool up, .slice ap peers.length kp, .int .i64 next, .int .i64 miss], .own b2 50 [.int .i64 0, .slice none 0 0, .int .i64 0, .slice none 0 0, .slice none 0 0, .int .i64 0, .bool false, .slice none 0 0, .int .i64 0, .int .i64 0], .st (sl ad kd disk), .st (sl al kl l), .st (sl aw kw wait), .st (sl ap kp peers)]) ?_ ?_
 ·refine JC.drawP mixed ?_
  refine Xad 0 ?_
  refine JP.tv 1 [.own bn 50 [.int .i64 no, .slice ad disk.length kd, .int .i64 room, .slice al l.length kl, .slice aw wait.length kw, .int .i64 seq, .bool up, .slice ap peers.length kp, .int .i64 next, .int .i64 miss]] ?_
  refine Xad 2 ?_
  refine JP.tv 3 [.own bn 50 [.int .i64 no, .slice ad disk.length kd, .int .i64 room, .slice al l.length kl, .slice aw wait.length kw, .int .i64 seq, .bool up, .slice ap peers.length kp, .int .i64 next, .int .i64 miss]] ?_
  refine JP.both 4 10 (by kernel_rfl) rfl rfl rfl rfl (JR.callSl rfl (fun w1 hw => Xe4 w1 _ al kl l hw.get (by omega) hfl) (fun ai ki => Wd (nO ?_))) (Wg rfl (fun bc => Wd (nO ?_)))
  ·refine JP.both 5 10 (by kernel_rfl) rfl rfl rfl rfl (Xf2 (v := fun y : (Option Addr × Nat) × (Option Addr × Nat) => .tuple ⟨[Xax rc y.1.1 y.1.2, .slice y.2.1 rl.length y.2.2, .bool rb]⟩) (B := fun y => .st (sl y.1.1 y.1.2 rc.parents)) (C := fun y => .st (sl y.2.1 y.2.2 rl)) rfl (fun w1 hw => Xle w1 _ aw ai kw ki wait (idsP l) rc rl rb hR hw.get hw.get (by omega) hfw (fun x hx => Nat.le_trans (hqw x hx) (by decide))) (fun z => Wd (nO ?_))) (Wg rfl (fun bc => Wd (nO ?_)))
   ·rcases z with ⟨⟨a2, k2⟩, ⟨a3, k3⟩⟩
    dsimp only
    refine Xad 6 ?_
    refine Xad 7 ?_
    refine Xad 8 ?_
    refine Xad 9 ?_
    refine Xar 10 rfl rfl (Wg rfl (fun bc => Wd (nO ?_)))
    refine Xar 11 rfl rfl (Wi (Wd (nO ?_)))
    refine Xad 12 ?_
    refine Xad 13 ?_
    exact JP.nil (by kernel_rfl) ⟨rfl, ((a2, k2), (a3, k3), bc), iI⟩
   ·refine Xar 5 rfl rfl (Xf2 (v := fun y : (Option Addr × Nat) × (Option Addr × Nat) => .tuple ⟨[Xax rc y.1.1 y.1.2, .slice y.2.1 rl.length y.2.2, .bool rb]⟩) (B := fun y => .st (sl y.1.1 y.1.2 rc.parents)) (C := fun y => .st (sl y.2.1 y.2.2 rl)) rfl (fun w1 hw => Xle w1 _ aw ai kw ki wait (idsP l) rc rl rb hR hw.get hw.get (by omega) hfw (fun x hx => Nat.le_trans (hqw x hx) (by decide))) (fun z => Wd (nO ?_)))
    rcases z with ⟨⟨a2, k2⟩, ⟨a3, k3⟩⟩
    dsimp only
    refine Xad 6 ?_
    refine Xad 7 ?_
    refine Xad 8 ?_
    refine Xad 9 ?_
    refine Xar 11 rfl rfl (Wi (Wd (nO ?_)))
    refine Xad 12 ?_
    refine Xad 13 ?_
    exact JP.nil (by kernel_rfl) ⟨rfl, ((a2, k2), (a3, k3), bc), iI⟩
  ·refine Xar 4 rfl rfl (JR.callSl rfl (fun w1 hw => Xe4 w1 _ al kl l hw.get (by omega) hfl) (fun ai ki => Wd (nO ?_)))
   refine Xar 5 rfl rfl (Xf2 (v := fun y : (Option Addr × Nat) × (Option Addr × Nat) => .tuple ⟨[Xax rc y.1.1 y.1.2, .slice y.2.1 rl.length y.2.2, .bool rb]⟩) (B := fun y => .st (sl y.1.1 y.1.2 rc.parents)) (C := fun y => .st (sl y.2.1 y.2.2 rl)) rfl (fun w1 hw => Xle w1 _ aw ai kw ki wait (idsP l) rc rl rb hR hw.get hw.get (by omega) hfw (fun x hx => Nat.le_trans (hqw x hx) (by decide))) (fun z => Wd (nO ?_)))
   rcases z with ⟨⟨a2, k2⟩, ⟨a3, k3⟩⟩
   dsimp only
   refine Xad 6 ?_
   refine Xad 7 ?_
   refine Xad 8 ?_
   refine Xad 9 ?_
   refine Xar 11 rfl rfl (Wi (Wd (nO ?_)))
   refine Xad 12 ?_
   refine Xad 13 ?_
   exact JP.nil (by kernel_rfl) ⟨rfl, ((a2, k2), (a3, k3), bc), iI⟩
 rintro ⟨⟨a2, k2⟩, ⟨a3, k3⟩, bc⟩
 dsimp only
 cases rb with
 | false =>
  have h1 := Xnt (n := ⟨no, disk, room, l, wait, seq, up, peers, next, miss⟩) hR
  rw [h1] at hS
  rw [← hS]
  dsimp only
  refine wA ?_
  exact Xab (Y := Na) ⟨ad, kd, al, kl, aw, kw, ap, kp⟩ rfl
 | true =>
  obtain ⟨hrcm, hrll, hrlm, _⟩ := Xhc hR
  have hrc := hfw rc hrcm
  have hstep := Xls (n := ⟨no, disk, room, l, wait, seq, up, peers, next, miss⟩) hR
  have hok1 := Xpf hm hR
  have hw1 := Xey ⟨no, disk, room, l, wait, seq, up, peers, next, miss⟩ rc rl
  refine wA ?_
  refine Xgg (fun y : Option Addr × Nat => [(1, .pointer (some ⟨bn, 0, none⟩)), (2, .pointer (some ⟨b2, 0, none⟩)), (3, .pointer (some ⟨bc, 0, none⟩)), (6, .slice y.1 (l ++ [rc]).length y.2)])
   (fun y => [.own bc 29 [.int .i64 rc.ev.node, .int .i64 rc.ev.seq, .int .i64 rc.gen, .slice a2 rc.parents.length k2, .int .i64 rc.op.kind, .string rc.op.key, .string rc.op.elem, .int .i64 rc.op.n], .st (sl a2 k2 rc.parents), .st (sl a3 k3 rl), .own bn 50 [.int .i64 no, .slice ad disk.length kd, .int .i64 room, .slice al l.length kl, .slice a3 rl.length k3, .int .i64 seq, .bool up, .slice ap peers.length kp, .int .i64 next, .int .i64 miss], .own b2 50 [.int .i64 0, .slice none 0 0, .int .i64 0, .slice none 0 0, .slice none 0 0, .int .i64 0, .bool false, .slice none 0 0, .int .i64 0, .int .i64 0], .st (sl ad kd disk), .st (sl al kl l), .st (sl aw kw wait), .st (sl ap kp peers), .st (sl y.1 y.2 (l ++ [rc]))]) ?_ ?_
  ·refine JC.drawP mixed ?_
   refine Xad 0 ?_
   refine JP.tv 1 [.own bn 50 [.int .i64 no, .slice ad disk.length kd, .int .i64 room, .slice al l.length kl, .slice a3 rl.length k3, .int .i64 seq, .bool up, .slice ap peers.length kp, .int .i64 next, .int .i64 miss]] ?_
   refine JP.tv 3 [.own bc 29 [.int .i64 rc.ev.node, .int .i64 rc.ev.seq, .int .i64 rc.gen, .slice a2 rc.parents.length k2, .int .i64 rc.op.kind, .string rc.op.key, .string rc.op.elem, .int .i64 rc.op.n]] ?_
   refine JP.both 2 4 (by kernel_rfl) rfl rfl rfl rfl (JR.appendNil (L' := l) rfl (by exact ⟨rfl, rfl, by decide⟩) (by omega) fun a6 c6 => Wd (nO ?_)) (Ww rfl ⟨rfl, by decide, by decide, by decide⟩ (fun bl => Wd (nO ?_)))
   ·refine Xar 4 rfl rfl (Ww rfl ⟨rfl, by decide, by decide, by decide⟩ (fun bl => Wd (nO ?_)))
    refine Xar 5 rfl rfl (Xai (u := rc) rfl (by exact ⟨rfl, rfl, by decide⟩) (by omega) (fun a5 k5 => Wd (nO ?_)))
    refine JP.more (fun w1 ho => ho.pub) ?_
    refine Xad 6 ?_
    exact JP.nil (by kernel_rfl) ⟨rfl, (a5, k5), iI⟩
   ·refine Xar 2 rfl rfl (JR.appendNil (L' := l) rfl (by exact ⟨rfl, rfl, by decide⟩) (by omega) fun a6 c6 => Wd (nO ?_))
    refine Xar 5 rfl rfl (Xai (u := rc) rfl (by exact ⟨rfl, rfl, by decide⟩) (by omega) (fun a5 k5 => Wd (nO ?_)))
    refine JP.more (fun w1 ho => ho.pub) ?_
    refine Xad 6 ?_
    exact JP.nil (by kernel_rfl) ⟨rfl, (a5, k5), iI⟩
  rintro ⟨a5, k5⟩
  dsimp only
  obtain ⟨N, hN⟩ : ∃ N, N = l ++ [rc] := ⟨_, rfl⟩
  rw [← hN]
  have hfN : ∀ x ∈ N, fine x ∧ x.parents.length ≤ 1000 := by
   intro x hx
   rw [hN] at hx
   rcases List.mem_append.1 hx with hx | hx
   ·exact ⟨hfl x hx, hql x hx⟩
   ·rw [List.mem_singleton.1 hx]; exact ⟨hrc, hqw rc hrcm⟩
  have hlN : N.length = l.length + 1 := by rw [hN, List.length_append]; rfl
  refine wz14 ?_
  refine JR.callV rfl (fun w1 hw => Xjc w1 _ a5 k5 N (closedB N) hw.get (by omega) (fun x hx => (hfN x hx).1) (fun x hx => (hfN x hx).2) Xcf) ?_
  cases hcl : closedB N with
  | false =>
   have e1 : Xen ⟨no, disk, room, l, wait, seq, up, peers, next, miss⟩ rc rl = ⟨no, disk, room, l, rl, seq, up, peers, next, miss⟩ := if_neg (by show ¬ closedB (l ++ [rc]) = true; rw [← hN, hcl]; exact Bool.false_ne_true)
   rw [e1] at hok1 hw1 hstep
   refine wA ?_
   exact ⟨⟨no, disk, room, l, rl, seq, up, peers, next, miss⟩, ⟨ad, kd, al, kl, a3, k3, ap, kp⟩, ⟨hok1, by rw [← hstep]; exact hS⟩, by show rl.length < wait.length; omega, iI⟩
  | true =>
   have e1 : Xen ⟨no, disk, room, l, wait, seq, up, peers, next, miss⟩ rc rl = Xh4 ⟨no, disk, room, l, rl, seq, up, peers, next, miss⟩ rc := if_pos (by rw [← hN]; exact hcl)
   rw [e1] at hok1 hw1 hstep
   obtain ⟨nd, ne, hst⟩ : ∃ nd ne, storeT disk room rc = (nd, ne) := ⟨_, _, rfl⟩
   refine wA ?_
   refine Xbp rfl (fun w1 hw => X0c w1 _ ad a2 kd k2 disk room rc hw.get hw.get hrc.1 hdk) ?_
   intro a8 k8
   rw [hst]
   dsimp only
   by_cases h0 : ne = 0
   case neg =>
    have e2 : Xh4 ⟨no, disk, room, l, rl, seq, up, peers, next, miss⟩ rc = ⟨no, disk, room, l, rl, seq, up, peers, next, miss⟩ := if_neg (by show ¬ (storeT disk room rc).2 = 0; rw [hst]; exact h0)
    rw [e2] at hok1 hw1 hstep
    refine wz4 ?_
    refine JC.test (fun hx => (h0 hx).elim) (fun _ => ?_)
    refine wz2 ?_
    exact ⟨⟨no, disk, room, l, rl, seq, up, peers, next, miss⟩, ⟨ad, kd, al, kl, a3, k3, ap, kp⟩, ⟨hok1, by rw [← hstep]; exact hS⟩, by show rl.length < wait.length; omega, iI⟩
   have e2 : Xh4 ⟨no, disk, room, l, rl, seq, up, peers, next, miss⟩ rc = ⟨no, nd, room, N, rl, seq, up, peers, next, miss⟩ := by
    unfold Xh4
    dsimp only
    rw [hst, if_pos h0, hN]
   rw [e2] at hok1 hw1 hstep
   subst h0
   refine wA ?_
   exact ⟨⟨no, nd, room, N, rl, seq, up, peers, next, miss⟩, ⟨a8, k8, a5, k5, a3, k3, ap, kp⟩, ⟨hok1, by rw [← hstep]; exact hS⟩, by show rl.length < wait.length; omega, iI⟩
structure NdFew (n : Nd) : Prop where
 fl : ∀ x ∈ n.l, fine x
 fw : ∀ x ∈ n.wait, fine x
 disk : n.disk.length ≤ 1048576
 len : n.l.length + n.wait.length ≤ 800
 peers : n.peers.length ≤ 1000
theorem X0m (n : Nd) (y : Na) (h1 : (sl y.d y.dk n.disk).holds F w) (h2 : (sl y.l y.lk n.l).holds F w) (h3 : (sl y.w y.wk n.wait).holds F w) (h4 : (sl y.p y.pk n.peers).holds F w) (hn : NdFew n) :
  Gives prog 104 [ndV n y] w F (fun z : Nat × Na => .pointer (some ⟨z.1, 0, none⟩)) (fun z => repF z.1 n z.2) := by
 rcases n with ⟨no, disk, room, l, wait, seq, up, peers, next, miss⟩
 rcases y with ⟨ad, kd, al, kl, aw, kw, ap, kp⟩
 obtain ⟨hfl, hfw, hdk, hln, hpl⟩ := hn
 dsimp only [ndV, ndC] at *
 refine Xaa func104 rfl ntmps104 rfl rfl [.st (sl ad kd disk), .st (sl al kl l), .st (sl aw kw wait), .st (sl ap kp peers)] (.start4 h1 h2 h3 h4) ?_
 (repeat (refine wE ?_; intro _)); refine wA ?_
 rename_i bn
 refine JC.drawP mixed ?_
 refine Xad 0 ?_
 refine JP.tv 1 [.own bn 50 [.int .i64 no, .slice ad disk.length kd, .int .i64 room, .slice al l.length kl, .slice aw wait.length kw, .int .i64 seq, .bool up, .slice ap peers.length kp, .int .i64 next, .int .i64 miss]] ?_
 refine Xad 3 ?_
 refine JP.tv 4 [.own bn 50 [.int .i64 no, .slice ad disk.length kd, .int .i64 room, .slice al l.length kl, .slice aw wait.length kw, .int .i64 seq, .bool up, .slice ap peers.length kp, .int .i64 next, .int .i64 miss]] ?_
 refine Xar 2 rfl rfl (JR.callBuf rfl (fun w1 hw => Xsz w1 _ ad kd disk hw.get (by omega)) (fun a1 k1 => Wd (nO ?_)))
 refine JP.more (fun w1 ho => ho.pub) ?_
 refine Xad 6 ?_
 refine Xar 5 rfl rfl (JR.callBuf rfl (fun w1 hw => Xpb w1 _ ap kp peers hw.get (by omega)) (fun a2 k2 => Wd (nO ?_)))
 refine JP.more (fun w1 ho => ho.pub) ?_
 refine JP.reslot 9 (.pointer (some ⟨bn, 1, none⟩)) rfl ?_
 refine Xar 7 rfl rfl (Wi (Wd (nO ?_)))
 refine Xad 8 ?_
 refine JP.reslot 10 (.pointer (some ⟨bn, 7, none⟩)) rfl ?_
 refine Xar 9 rfl rfl (Wi (Wd (nO ?_)))
 refine JP.nil (by kernel_rfl) ?_
 refine wz14 ?_
 refine JC.drawP mixed ?_
 refine Xad 0 ?_
 refine JP.tv 1 [.own bn 50 [.int .i64 no, .slice a1 disk.length k1, .int .i64 room, .slice al l.length kl, .slice aw wait.length kw, .int .i64 seq, .bool up, .slice a2 peers.length k2, .int .i64 next, .int .i64 miss]] ?_
 refine Xad 3 ?_
 refine JP.tv 4 [.own bn 50 [.int .i64 no, .slice a1 disk.length k1, .int .i64 room, .slice al l.length kl, .slice aw wait.length kw, .int .i64 seq, .bool up, .slice a2 peers.length k2, .int .i64 next, .int .i64 miss]] ?_
 refine Xar 2 rfl rfl (JR.callBuf rfl (fun w1 hw => Xla w1 _ al kl l hw.get (by omega) hfl) (fun a3 k3 => Wd (nO ?_)))
 refine Xad 6 ?_
 refine Xar 5 rfl rfl (JR.callBuf rfl (fun w1 hw => Xla w1 _ aw kw wait hw.get (by omega) hfw) (fun a4 k4 => Wd (nO ?_)))
 refine JP.more (fun w1 ho => ho.pub) ?_
 refine JP.reslot 17 (.pointer (some ⟨bn, 3, none⟩)) rfl ?_
 refine Xar 7 rfl rfl (Wi (Wd (nO ?_)))
 refine Xad 8 ?_
 refine JP.reslot 18 (.pointer (some ⟨bn, 4, none⟩)) rfl ?_
 refine Xar 9 rfl rfl (Wi (Wd (nO ?_)))
 refine JP.nil (by kernel_rfl) ?_
 refine wz9 ?_
 refine Wf (OpV.build [.int .i64 no, .slice a1 disk.length k1, .int .i64 room, .slice a3 l.length k3, .slice a4 wait.length k4, .int .i64 seq, .bool up, .slice a2 peers.length k2, .int .i64 next, .int .i64 miss] (by kernel_rfl)) rfl ?_
 refine wz13 ?_
 refine Wf (OpV.build [.int .i64 no, .slice a1 disk.length k1, .int .i64 room, .slice a3 l.length k3, .slice a4 wait.length k4, .int .i64 seq, .bool up, .slice a2 peers.length k2, .int .i64 next, .int .i64 miss] (by kernel_rfl)) rfl ?_
 (repeat (refine wE ?_; intro _)); refine wA ?_
 rename_i br
 exact Xab (br, ⟨a1, k1, a3, k3, a4, k4, a2, k2⟩) rfl
theorem Xw8 (no room : Int) : Gives prog 47 [.int .i64 no, .int .i64 room] w F (fun _ : Unit => .tuple ⟨[ndV (newN no room).1 na0, .bool (newN no room).2]⟩) (fun _ => []) := by
 refine Xaa func47 rfl ntmps47 rfl rfl [] (.start w F) ?_
 (repeat (refine wE ?_; intro _)); refine wA ?_
 refine JR.callV rfl (fun w1 hw => Xnr w1 _ no room) ?_
 cases hfit : Xfy no room with
 | false =>
  have e1 : newN no room = (nd0, false) := if_neg (by rw [hfit]; exact Bool.false_ne_true)
  rw [e1]
  refine wz8 ?_
  refine Wf (OpV.build [.int .i64 0, .slice none 0 0, .int .i64 0, .slice none 0 0, .slice none 0 0, .int .i64 0, .bool false, .slice none 0 0, .int .i64 0, .int .i64 0] (by kernel_rfl)) rfl ?_
  refine wz9 ?_
  exact Xab () rfl
 | true =>
  have e1 : newN no room = ({ nd0 with no := no, room := room, up := true }, true) := if_pos hfit
  rw [e1]
  refine wz7 ?_
  refine Wf (OpV.build [.int .i64 no, .slice none 0 0, .int .i64 room, .slice none 0 0, .slice none 0 0, .int .i64 0, .bool true, .slice none 0 0, .int .i64 0, .int .i64 0] (by kernel_rfl)) rfl ?_
  refine wz9 ?_
  exact Xab () rfl
theorem Xpg {N : Nat} : ∀ (f : Nat) {n : Nd}, NdOk N n → NdOk N (Xge f n)
 | 0, n, h => h
 | f + 1, n, h => by
  unfold Xge
  split
  ·rename_i hr
   exact Xpg f (Xlc h (by rw [← hr]))
  ·exact h
theorem X2s {N : Nat} {n : Nd} {c : Commit} (h : NdOk N n) (hc : fine c) : NdOk (N + 1) (Xdn n c) := by
 unfold Xdn
 split
 ·exact Xpg _ (Xz8 h hc)
 ·exact ⟨h.fl, h.fw, h.disk, h.room, by have := h.len; omega⟩
theorem Xvq {N : Nat} {n : Nd} (h : NdOk N n) : ∀ (l : List Commit), (∀ c ∈ l, fine c) → NdOk (N + l.length) (l.foldl Xdn n) := by
 intro l
 induction l generalizing n N with
 | nil => intro _; exact h
 | cons c l ih =>
  intro hl
  have := ih (X2s h (hl c (by simp))) (fun x hx => hl x (by simp [hx]))
  rw [List.foldl_cons, List.length_cons]
  exact (by rw [show N + (l.length + 1) = N + 1 + l.length by omega]; exact this)
theorem Xlf {n : Nd} (h : Xeb n = true) : n.room ≤ 1048576 ∧ (n.disk.length : Int) ≤ n.room ∧ Xfy n.no n.room = true := by
 have h1 : Xfy n.no n.room = true := by
  cases hf : Xfy n.no n.room with
  | true => rfl
  | false => unfold Xeb at h; rw [hf] at h; cases h
 have h2 : ¬ n.room < (n.disk.length : Int) := by
  intro h2
  unfold Xeb at h
  rw [decide_eq_true h2, h1] at h
  cases h
 exact ⟨(Xke h1).2.2.2, by omega, h1⟩
theorem Xw9 {w0 w : World} {F : Nat → Prop} {Γ : List Fact} {br : Nat} (n : Nd) (y : Na) (c : Commit) (a : Option Addr) (k : Nat) (hc : fine c) (hok : NdOk 899 n) (ho : Hold w0 F (.own br 136 (ndC n y) :: .res (buf y.l y.lk 29 n.l) :: .st (sl y.d y.dk n.disk) :: .st (sl y.w y.wk n.wait) :: .st (sl y.p y.pk n.peers) :: .st (sl a k c.parents) :: Γ) w) :
  Calls prog 106 ⟨[.pointer (some ⟨br, 0, none⟩), Xax c a k]⟩ w fun x w' => ∃ y' : Na, x = .returned (.tuple ⟨[]⟩) ∧ Hold w0 F (.own br 136 (ndC (Xdn n c) y') :: .res (buf y'.l y'.lk 29 (Xdn n c).l) :: .st (sl y'.d y'.dk (Xdn n c).disk) :: .st (sl y'.w y'.wk (Xdn n c).wait) :: .st (sl y'.p y'.pk (Xdn n c).peers) :: Γ) w' := by
 have h := Xz9 n y c a k hc hok ho
 simp only [repF, List.cons_append, List.nil_append] at h
 exact h
theorem Xuj (n : Nd) (y : Na) (L : List Commit) (a : Option Addr) (k : Nat) (h1 : (sl y.d y.dk n.disk).holds F w) (h2 : (sl y.l y.lk n.l).holds F w) (h3 : (sl y.w y.wk n.wait).holds F w) (h4 : (sl y.p y.pk n.peers).holds F w) (h5 : (sl a k L).holds F w) (hn : NdFew n)
  (hL : L.length ≤ 90) (hf : ∀ c ∈ L, fine c) :
  Gives prog 48 [ndV n y, .slice a L.length k] w F (fun z : Na => ndV (Xbu n L) z) (fun z => ndB (Xbu n L) z) := by
 refine Xaa func48 rfl ntmps48 rfl rfl (.st (sl a k L) :: ndB n y) ((Hold.start4 h1 h2 h3 h4).add (Asn.mono _ _ _ _ (fun k hk => ⟨.inl hk, by simp [free, Fact.owns]⟩) h5)) ?_
 have hn' := hn
 obtain ⟨no, disk, room, l, wait, seq, up, peers, next, miss⟩ := n
 obtain ⟨ad, kd, al, kl, aw, kw, ap, kp⟩ := y
 dsimp only [ndV, ndC, ndB] at *
 (repeat (refine wE ?_; intro _)); refine wA ?_
 rename_i bn b4
 refine JR.call (v := fun z : Nat × Na => .pointer (some ⟨z.1, 0, none⟩)) (B := fun z => repF z.1 ⟨no, disk, room, l, wait, seq, up, peers, next, miss⟩ z.2) rfl (fun w1 hw => X0m w1 _ ⟨no, disk, room, l, wait, seq, up, peers, next, miss⟩ ⟨ad, kd, al, kl, aw, kw, ap, kp⟩ hw.get hw.get hw.get hw.get hn) ?_
 rintro ⟨br, ⟨ad2, kd2, al2, kl2, aw2, kw2, ap2, kp2⟩⟩
 dsimp only [repF, ndC, List.cons_append, List.nil_append]
 refine wz9 ?_
 refine JR.callV rfl (fun w1 hw => Xig w1 _ ⟨no, disk, room, l, wait, seq, up, peers, next, miss⟩ ⟨ad, kd, al, kl, aw, kw, ap, kp⟩ hw.get hw.get hw.get hn.fw) ?_
 cases hm : Xeb ⟨no, disk, room, l, wait, seq, up, peers, next, miss⟩ with
 | false =>
  have e1 : Xbu ⟨no, disk, room, l, wait, seq, up, peers, next, miss⟩ L = ⟨no, disk, room, l, wait, seq, up, peers, next, miss⟩ := if_neg (by rw [hm]; exact Bool.false_ne_true)
  rw [e1]
  dsimp only
  refine wX ?_
  refine Wf OpV.nilCheck rfl ?_
  refine wz9 ?_
  exact CT.done (Y := Na) ⟨ad2, kd2, al2, kl2, aw2, kw2, ap2, kp2⟩ rfl (fun w ho => (ho.pubAt (L := l) al2 kl2).ent)
 | true =>
 cases up with
 | false =>
  have e1 : Xbu ⟨no, disk, room, l, wait, seq, false, peers, next, miss⟩ L = ⟨no, disk, room, l, wait, seq, false, peers, next, miss⟩ := if_neg (by rw [hm]; exact Bool.false_ne_true)
  rw [e1]
  dsimp only
  refine wX ?_
  refine Wf OpV.nilCheck rfl ?_
  refine wz9 ?_
  exact CT.done (Y := Na) ⟨ad2, kd2, al2, kl2, aw2, kw2, ap2, kp2⟩ rfl (fun w ho => (ho.pubAt (L := l) al2 kl2).ent)
 | true =>
 have e1 : Xbu ⟨no, disk, room, l, wait, seq, true, peers, next, miss⟩ L = L.foldl Xdn ⟨no, disk, room, l, wait, seq, true, peers, next, miss⟩ := if_pos (by rw [hm]; rfl)
 rw [e1]
 have hrm := (Xlf hm).1
 have hok0 : NdOk 800 ⟨no, disk, room, l, wait, seq, true, peers, next, miss⟩ := ⟨hn.fl, hn.fw, hn.disk, hrm, hn.len⟩
 generalize hn0 : (⟨no, disk, room, l, wait, seq, true, peers, next, miss⟩ : Nd) = n0 at hok0
 refine wz1 ?_
 refine JR.callBuf rfl (fun w1 hw => Xla w1 _ a k L hw.get (by omega) hf) ?_
 intro a3 k3
 refine JO.more (fun w1 ho => ho.pub) ?_
 refine wz4 ?_
 refine Xby (fun (j : Nat) (m : Nd) (z : Na) => [(4, .pointer (some ⟨b4, 0, none⟩)), (5, .pointer (some ⟨br, 0, none⟩)), (17, .slice a3 L.length k3), (18, .int .i64 (L.length : Int)), (19, .int .i64 (j : Int))])
  (fun j m z => .own br 136 (ndC m z) :: .res (buf z.l z.lk 29 m.l) :: .st (sl z.d z.dk m.disk) :: .st (sl z.w z.wk m.wait) :: .st (sl z.p z.pk m.peers) :: [.own b4 50 [.int .i64 0, .slice none 0 0, .int .i64 0, .slice none 0 0, .slice none 0 0, .int .i64 0, .bool false, .slice none 0 0, .int .i64 0, .int .i64 0], .st (sl a3 k3 L)])
  (fun j m z => j ≤ L.length ∧ m = (L.take j).foldl Xdn n0) (fun j _ _ => L.length - j) 0 n0 ⟨ad2, kd2, al2, kl2, aw2, kw2, ap2, kp2⟩ ⟨Nat.zero_le _, rfl⟩ (by subst hn0; infer_instance) ?_
 rintro j m z ⟨hj, hmj⟩
 have hokm : NdOk (800 + (L.take j).length) m := by rw [hmj]; exact Xvq hok0 _ (fun c hc => hf c (List.mem_of_mem_take hc))
 have htl : (L.take j).length ≤ 90 := by rw [List.length_take]; omega
 have hok9 : NdOk 899 m := ⟨hokm.fl, hokm.fw, hokm.disk, hokm.room, by have := hokm.len; omega⟩
 refine wz11 ?_
 refine JC.test (fun hlt => ?_) (fun hge => ?_)
 ·have hlt' : j < L.length := by omega
  refine wz14 ?_
  refine Xaf rfl hlt' ?_
  intro b5 o5 p5 q5
  (repeat (refine wE ?_; intro _)); refine wA ?_
  refine JR.more (Γ' := .own br 136 (ndC m z) :: .res (buf z.l z.lk 29 m.l) :: .st (sl z.d z.dk m.disk) :: .st (sl z.w z.wk m.wait) :: .st (sl z.p z.pk m.peers) :: .st (sl p5 q5 L[j].parents) :: [.own b4 50 [.int .i64 0, .slice none 0 0, .int .i64 0, .slice none 0 0, .slice none 0 0, .int .i64 0, .bool false, .slice none 0 0, .int .i64 0, .int .i64 0], .st (sl a3 k3 L)]) (fun w1 ho => ho.ent) ?_
  have hfj := hf _ (List.getElem_mem hlt')
  generalize hcj : L[j] = cj at hfj
  have hcall := fun (w1 : World) hw => Xw9 (w0 := w) (F := F) (w := w1) (br := br) (Γ := [.own b4 50 [.int .i64 0, .slice none 0 0, .int .i64 0, .slice none 0 0, .slice none 0 0, .int .i64 0, .bool false, .slice none 0 0, .int .i64 0, .int .i64 0], .st (sl a3 k3 L)]) m z cj p5 q5 hfj hok9 hw
  refine Xbk rfl hcall ?_
  subst hcj
  intro z2
  have hnext : Xdn m L[j] = (L.take (j + 1)).foldl Xdn n0 := by rw [List.take_succ_eq_append_getElem hlt', List.foldl_append, ← hmj]; rfl
  generalize Xdn m L[j] = m2 at hnext
  refine wz2 ?_
  exact ⟨j + 1, m2, z2, ⟨by omega, hnext⟩, by omega, iI⟩
 ·obtain rfl : j = L.length := by omega
  rw [List.take_length] at hmj
  rw [← hmj]
  refine wz3 ?_
  refine Wf OpV.nilCheck rfl ?_
  refine wz9 ?_
  exact CT.done (Y := Na) z rfl (fun w ho => (ho.pubAt (L := m.l) z.l z.lk).ent)
theorem NdOq.mono {N M : Nat} {n : Nd} (h : NdOq N n) (hm : N ≤ M) : NdOq M n := ⟨⟨h.fl, h.fw, h.disk, h.room, Nat.le_trans h.len hm⟩, h.ql, h.qw⟩
theorem Xph {N : Nat} : ∀ (f : Nat) {n : Nd}, NdOq N n → NdOq N (Xge f n)
 | 0, n, h => h
 | f + 1, n, h => by
  unfold Xge
  split
  ·rename_i hr
   exact Xph f (Xpf h (by rw [← hr]))
  ·exact h
theorem X26 {N : Nat} {n : Nd} {c : Commit} (h : NdOq N n) (hc : fine c) (hq : c.parents.length ≤ 1000) : NdOq (N + 1) { n with wait := Xbd n.wait c } := by
 refine ⟨Xz8 h.toNdOk hc, h.ql, fun x hx => ?_⟩
 rcases Xjf hx with hx | rfl
 ·exact h.qw x hx
 ·exact hq
theorem X2t {N : Nat} {n : Nd} {c : Commit} (h : NdOq N n) (hc : fine c) (hq : c.parents.length ≤ 1000) : NdOq (N + 1) (Xdn n c) := by
 unfold Xdn
 split
 ·exact Xph _ (X26 h hc hq)
 ·exact h.mono (by omega)
theorem Xxa (n : Nd) (y : Na) (cs : List Commit) (a : Option Addr) (k : Nat) (h1 : (sl y.d y.dk n.disk).holds F w) (h2 : (sl y.l y.lk n.l).holds F w) (h3 : (sl y.w y.wk n.wait).holds F w) (h4 : (sl y.p y.pk n.peers).holds F w) (h5 : (sl a k cs).holds F w)
  (hn : NdFew n) (hd4 : n.disk.length ≤ 4900) (hql : ∀ x ∈ n.l, x.parents.length ≤ 1000) (hqw : ∀ x ∈ n.wait, x.parents.length ≤ 1000) (hcl : cs.length ≤ 90) (hfc : ∀ c ∈ cs, fine c) (hqc : ∀ c ∈ cs, c.parents.length ≤ 1000) :
  Gives prog 86 [ndV n y, .slice a cs.length k] w F (fun z => ndV (Xbu n cs) z) (fun z => ndB (Xbu n cs) z) := by
 have hst := (Hold.start4 h1 h2 h3 h4).add (A := sl a k cs) (Asn.mono _ _ _ _ (fun k hk => ⟨.inl hk, by simp [free, Fact.owns]⟩) h5)
 have hwf := hn.fw
 rcases n with ⟨no0, disk0, room0, l0, wait0, seq0, up0, peers0, next0, miss0⟩
 rcases y with ⟨ad0, kd0, al0, kl0, aw0, kw0, ap0, kp0⟩
 dsimp only [ndV, ndC] at hst hwf hd4 hql hqw ⊢
 refine Xaa func86 rfl ntmps86 rfl rfl _ hst ?_
 (repeat (refine wE ?_; intro _)); refine wA ?_
 rename_i bn b4
 refine JR.callV rfl (fun w1 hw => Xnx w1 _ ⟨no0, disk0, room0, l0, wait0, seq0, up0, peers0, next0, miss0⟩ ⟨ad0, kd0, al0, kl0, aw0, kw0, ap0, kp0⟩ hw.get hw.get hw.get hwf hd4) ?_
 cases hm : Xeb ⟨no0, disk0, room0, l0, wait0, seq0, up0, peers0, next0, miss0⟩ with
 | false =>
  have e1 : Xbu ⟨no0, disk0, room0, l0, wait0, seq0, up0, peers0, next0, miss0⟩ cs = ⟨no0, disk0, room0, l0, wait0, seq0, up0, peers0, next0, miss0⟩ := if_neg (by rw [hm]; exact Bool.false_ne_true)
  rw [e1]
  dsimp only
  refine wX ?_
  exact Xab (Y := Na) ⟨ad0, kd0, al0, kl0, aw0, kw0, ap0, kp0⟩ rfl
 | true =>
 have hrm := (Xlf hm).1
 cases up0 with
 | false =>
  have e1 : Xbu ⟨no0, disk0, room0, l0, wait0, seq0, false, peers0, next0, miss0⟩ cs = ⟨no0, disk0, room0, l0, wait0, seq0, false, peers0, next0, miss0⟩ := if_neg (by rw [hm]; exact Bool.false_ne_true)
  rw [e1]
  dsimp only
  refine wX ?_
  exact Xab (Y := Na) ⟨ad0, kd0, al0, kl0, aw0, kw0, ap0, kp0⟩ rfl
 | true =>
 have e1 : Xbu ⟨no0, disk0, room0, l0, wait0, seq0, true, peers0, next0, miss0⟩ cs = cs.foldl Xdn ⟨no0, disk0, room0, l0, wait0, seq0, true, peers0, next0, miss0⟩ := if_pos (by rw [hm]; rfl)
 have hoq0 : NdOq 800 ⟨no0, disk0, room0, l0, wait0, seq0, true, peers0, next0, miss0⟩ := ⟨⟨hn.fl, hn.fw, hn.disk, hrm, hn.len⟩, hql, hqw⟩
 rw [e1]
 refine wX ?_
 refine Xby (fun (j : Nat) (m : Nd) (z : Na) => [(1, .slice a cs.length k), (2, .pointer (some ⟨bn, 0, none⟩)), (4, .pointer (some ⟨b4, 0, none⟩)), (6, .int .i64 (j : Int))])
  (fun j m z => [.own bn 50 (ndC m z), .own b4 50 [.int .i64 0, .slice none 0 0, .int .i64 0, .slice none 0 0, .slice none 0 0, .int .i64 0, .bool false, .slice none 0 0, .int .i64 0, .int .i64 0], .st (sl z.d z.dk m.disk), .st (sl z.l z.lk m.l), .st (sl z.w z.wk m.wait), .st (sl z.p z.pk m.peers), .st (sl a k cs)])
  (fun j m _ => j ≤ cs.length ∧ NdOq (800 + j) m ∧ m = (cs.take j).foldl Xdn ⟨no0, disk0, room0, l0, wait0, seq0, true, peers0, next0, miss0⟩) (fun j _ _ => cs.length - j) 0 ⟨no0, disk0, room0, l0, wait0, seq0, true, peers0, next0, miss0⟩ ⟨ad0, kd0, al0, kl0, aw0, kw0, ap0, kp0⟩ ⟨Nat.zero_le _, hoq0, by rw [List.take_zero]; rfl⟩ iI ?_
 clear hst hwf h1 h2 h3 h4 h5 hn hd4 hql hqw hm hrm e1 hoq0
 generalize (⟨no0, disk0, room0, l0, wait0, seq0, true, peers0, next0, miss0⟩ : Nd) = n0
 rintro j ⟨no, disk, room, l, wait, seq, up, peers, next, miss⟩ ⟨ad, kd, al, kl, aw, kw, ap, kp⟩ ⟨hj, hoq0, hm⟩
 obtain ⟨⟨hfl, hfw, hdk, hrm, hln⟩, hql, hqw⟩ := id hoq0
 dsimp only [ndC] at *
 refine wz11 ?_
 refine JC.test (fun hlt => ?_) (fun hge => ?_)
 ·have hlt' : j < cs.length := by omega
  have hfj := hfc _ (List.getElem_mem hlt')
  have hqj := hqc _ (List.getElem_mem hlt')
  have hnx : Xdn ⟨no, disk, room, l, wait, seq, up, peers, next, miss⟩ cs[j] = (cs.take (j + 1)).foldl Xdn n0 := by rw [hm, List.take_succ_eq_append_getElem hlt', List.foldl_append]; rfl
  obtain ⟨c, hc⟩ : ∃ c, c = cs[j] := ⟨_, rfl⟩
  rw [← hc] at hfj hqj hnx
  have hoq := X2t hoq0 hfj hqj
  refine wz14 ?_
  refine Xaf rfl hlt' ?_
  intro b3 o3 p3 q3
  rw [← hc]
  refine wz6 ?_
  refine JR.callV rfl (fun w1 hw => Xl9 w1 _ c p3 q3 hw.get hfj.1) ?_
  (repeat (refine wE ?_; intro _)); refine wA ?_
  rename_i bi
  refine Xaf rfl hlt' ?_
  intro b4' o4 p4 q4
  rw [← hc]
  refine wz6 ?_
  refine JR.callV rfl (fun w1 hw => Xex w1 _ c p4 q4 hw.get hfj.1) ?_
  refine wz10 ?_
  refine Xgg (fun _ : Unit => [(1, .slice a cs.length k), (2, .pointer (some ⟨bn, 0, none⟩)), (4, .pointer (some ⟨b4, 0, none⟩)), (6, .int .i64 (j : Int)), (8, .int .i64 (Xay c).2), (9, .bool (merge c)), (10, .bool (decide ((Xay c).1 ∈ idsP l)))])
   (fun _ => [.own bn 50 [.int .i64 no, .slice ad disk.length kd, .int .i64 room, .slice al l.length kl, .slice aw wait.length kw, .int .i64 seq, .bool up, .slice ap peers.length kp, .int .i64 next, .int .i64 miss], .own b4 50 [.int .i64 0, .slice none 0 0, .int .i64 0, .slice none 0 0, .slice none 0 0, .int .i64 0, .bool false, .slice none 0 0, .int .i64 0, .int .i64 0], .st (sl ad kd disk), .st (sl al kl l), .st (sl aw kw wait), .st (sl ap kp peers), .st (sl a k cs)]) ?_ ?_
  ·refine JC.drawP mixed ?_
   refine Xad 0 ?_
   refine JP.tv 1 [.own bn 50 [.int .i64 no, .slice ad disk.length kd, .int .i64 room, .slice al l.length kl, .slice aw wait.length kw, .int .i64 seq, .bool up, .slice ap peers.length kp, .int .i64 next, .int .i64 miss]] ?_
   refine JP.tv 3 [.own bi 81 (idc (Xay c).1)] ?_
   refine Xar 2 rfl rfl (JR.callSl rfl (fun w1 hw => Xe4 w1 _ al kl l hw.get (by omega) hfl) (fun ai ki => Wd (nO ?_)))
   refine Xar 4 rfl rfl (JR.callV rfl (fun w1 hw => Xew w1 _ ai ki (idsP l) (Xay c).1 hw.get) (Wd (nO ?_)))
   refine Xad 5 ?_
   exact JP.nil (by kernel_rfl) ⟨rfl, (), iI⟩
  rintro ⟨⟩
  refine wz14 ?_
  refine Xgg (fun _ : Unit => [(1, .slice a cs.length k), (2, .pointer (some ⟨bn, 0, none⟩)), (4, .pointer (some ⟨b4, 0, none⟩)), (6, .int .i64 (j : Int)), (8, .int .i64 (Xay c).2), (9, .bool (merge c)), (10, .bool (decide ((Xay c).1 ∈ idsP l))), (11, .bool (Xc1 no seq c))])
   (fun _ => [.own bn 50 [.int .i64 no, .slice ad disk.length kd, .int .i64 room, .slice al l.length kl, .slice aw wait.length kw, .int .i64 seq, .bool up, .slice ap peers.length kp, .int .i64 next, .int .i64 miss], .own b4 50 [.int .i64 0, .slice none 0 0, .int .i64 0, .slice none 0 0, .slice none 0 0, .int .i64 0, .bool false, .slice none 0 0, .int .i64 0, .int .i64 0], .st (sl ad kd disk), .st (sl al kl l), .st (sl aw kw wait), .st (sl ap kp peers), .st (sl a k cs)]) ?_ ?_
  ·refine Xa7 (L := cs) (.slice a cs.length k) j hlt' ?_
   intro b5 o5 p5 q5
   rw [← hc]
   refine Xa6 mixed (by kernel_rfl) ?_
   refine wY ?_
   refine JQ.call rfl rfl (fun w1 hw => Xnw w1 _ ⟨no, disk, room, l, wait, seq, up, peers, next, miss⟩ ⟨ad, kd, al, kl, aw, kw, ap, kp⟩ c p5 q5) ?_
   dsimp only
   refine wY ?_
   exact ⟨rfl, (), iI⟩
  rintro ⟨⟩
  by_cases g1 : may c = true
  case neg =>
   have hfr : Xbo no seq (idsP l) c = false := by unfold Xbo; rw [Bool.eq_false_iff.2 g1]; rfl
   refine wz4 ?_
   refine JO.reslot 54 (.bool false) (by congr 1; exact decide_eq_false (fun h => g1 ((Xc0 c).1 h))) ?_
   have e1 : Xdn ⟨no, disk, room, l, wait, seq, up, peers, next, miss⟩ c = ⟨no, disk, room, l, wait, seq, up, peers, next, miss⟩ := if_neg (by show ¬ Xbo no seq (idsP l) c = true; rw [hfr]; exact Bool.false_ne_true)
   rw [e1] at hnx hoq
   refine wX ?_
   exact ⟨j + 1, ⟨no, disk, room, l, wait, seq, up, peers, next, miss⟩, ⟨ad, kd, al, kl, aw, kw, ap, kp⟩, ⟨by omega, hoq, hnx⟩, by omega, iI⟩
  refine wz4 ?_
  refine JO.reslot 54 (.bool true) (by congr 1; exact decide_eq_true ((Xc0 c).2 g1)) ?_
  cases g2 : merge c with
  | true =>
   have hfr : Xbo no seq (idsP l) c = false := by unfold Xbo; rw [g1, g2]; rfl
   have e1 : Xdn ⟨no, disk, room, l, wait, seq, up, peers, next, miss⟩ c = ⟨no, disk, room, l, wait, seq, up, peers, next, miss⟩ := if_neg (by show ¬ Xbo no seq (idsP l) c = true; rw [hfr]; exact Bool.false_ne_true)
   rw [e1] at hnx hoq
   refine wX ?_
   exact ⟨j + 1, ⟨no, disk, room, l, wait, seq, up, peers, next, miss⟩, ⟨ad, kd, al, kl, aw, kw, ap, kp⟩, ⟨by omega, hoq, hnx⟩, by omega, iI⟩
  | false =>
  by_cases g3 : (Xay c).1 ∈ idsP l
  case pos =>
   have hfr : Xbo no seq (idsP l) c = false := by unfold Xbo idC; rw [g1, g2, decide_eq_true g3]; rfl
   rw [decide_eq_true g3]
   have e1 : Xdn ⟨no, disk, room, l, wait, seq, up, peers, next, miss⟩ c = ⟨no, disk, room, l, wait, seq, up, peers, next, miss⟩ := if_neg (by show ¬ Xbo no seq (idsP l) c = true; rw [hfr]; exact Bool.false_ne_true)
   rw [e1] at hnx hoq
   refine wX ?_
   exact ⟨j + 1, ⟨no, disk, room, l, wait, seq, up, peers, next, miss⟩, ⟨ad, kd, al, kl, aw, kw, ap, kp⟩, ⟨by omega, hoq, hnx⟩, by omega, iI⟩
  rw [decide_eq_false g3]
  have hfs : Xbo no seq (idsP l) c = Xc1 no seq c := by unfold Xbo idC; rw [g1, g2, decide_eq_false g3]; rfl
  cases g4 : Xc1 no seq c with
  | false =>
   have hfr : Xbo no seq (idsP l) c = false := by rw [hfs, g4]
   have e1 : Xdn ⟨no, disk, room, l, wait, seq, up, peers, next, miss⟩ c = ⟨no, disk, room, l, wait, seq, up, peers, next, miss⟩ := if_neg (by show ¬ Xbo no seq (idsP l) c = true; rw [hfr]; exact Bool.false_ne_true)
   rw [e1] at hnx hoq
   refine wX ?_
   exact ⟨j + 1, ⟨no, disk, room, l, wait, seq, up, peers, next, miss⟩, ⟨ad, kd, al, kl, aw, kw, ap, kp⟩, ⟨by omega, hoq, hnx⟩, by omega, iI⟩
  | true =>
  have e1 : Xdn ⟨no, disk, room, l, wait, seq, up, peers, next, miss⟩ c = Xcg ⟨no, disk, room, l, Xbd wait c, seq, up, peers, next, miss⟩ := if_pos (by show Xbo no seq (idsP l) c = true; rw [hfs, g4])
  have hop := (X26 hoq0 hfj hqj).mono (M := 900) (by omega)
  rw [e1] at hnx hoq
  refine wz8 ?_
  refine Xa7 (L := cs) (.slice a cs.length k) j hlt' ?_
  intro b5 o5 p5 q5
  rw [← hc]
  refine JC.drawP mixed ?_
  refine Xad 0 ?_
  refine JP.tv 1 [.own bn 50 [.int .i64 no, .slice ad disk.length kd, .int .i64 room, .slice al l.length kl, .slice aw wait.length kw, .int .i64 seq, .bool up, .slice ap peers.length kp, .int .i64 next, .int .i64 miss]] ?_
  refine Xad 2 ?_
  refine Xad 3 ?_
  refine JP.take 4 [.st (elA (.slice a cs.length k) j 8 b5 o5)] rfl (by kernel_rfl) rfl Ve rfl rfl ?_
  refine JP.tv 5 [.st (ro b5 o5 [.int .i64 c.ev.node, .int .i64 c.ev.seq, .int .i64 c.gen, .slice p5 c.parents.length q5, .int .i64 c.op.kind, .string c.op.key, .string c.op.elem, .int .i64 c.op.n])] ?_
  refine Xar 6 rfl rfl (JR.callSl rfl (fun w1 hw => X2b w1 _ aw p5 kw q5 wait c hw.get hw.get (by omega) hfw hfj) (fun a3 k3 => Wd (nO ?_)))
  refine Xad 7 ?_
  refine JP.reslot 72 (.pointer (some ⟨bn, 4, none⟩)) rfl ?_
  refine Xar 8 rfl rfl (Wi (Wd (nO ?_)))
  refine JP.nil (by kernel_rfl) ?_
  refine wz9 ?_
  refine JR.call (v := fun z : Na => ndV (Xcg ⟨no, disk, room, l, Xbd wait c, seq, up, peers, next, miss⟩) z) (B := fun z => ndB (Xcg ⟨no, disk, room, l, Xbd wait c, seq, up, peers, next, miss⟩) z) rfl (fun w1 hw => Xs1 w1 _ ⟨no, disk, room, l, Xbd wait c, seq, up, peers, next, miss⟩ ⟨ad, kd, al, kl, a3, k3, ap, kp⟩ hw.get hw.get hw.get hw.get hop) ?_
  intro z2
  generalize Xcg ⟨no, disk, room, l, Xbd wait c, seq, up, peers, next, miss⟩ = m2 at hnx hoq
  dsimp only [ndB, ndV, ndC, List.cons_append, List.nil_append]
  refine wX ?_
  exact ⟨j + 1, m2, z2, ⟨by omega, hoq, hnx⟩, by omega, iI⟩
 ·obtain rfl : j = cs.length := by omega
  rw [List.take_length] at hm
  rw [← hm]
  dsimp only
  refine wz3 ?_
  exact Xab (Y := Na) ⟨ad, kd, al, kl, aw, kw, ap, kp⟩ rfl
end
end
section
variable {P : Program} {n : Nn} {w0 : World} {F : Nat → Prop} {Q : Cont} {e : E} {Γ : List Fact}
end
section
variable {P : Program} {n : Nn} {w0 : World} {F : Nat → Prop} {ops : Array Oper} {i d : Nat} {t : TypeId} {pos : String} {aft : Array Edge} {g : Option (Nat × Bool)} {os : List Oper} {Q : Cont} {e : E} {Γ : List Fact}
theorem Xpi [Dr] {d : Option Nat} {x ix : Operand} {kk : IntKind} {j : Int} {k m c : Nat} {ty el : TypeId} {ed : TypeDesc} {sz by_ eb b : Nat} {z ez : Value} [hx : Ev e x (.slice (some ⟨b, 0, none⟩) m c)] [hi : Ev e ix (.int kk j)] [hk : NatI j k] [hT : Ty P ty (.slice el) sz by_ z] [hE : Ty P el ed 1 eb ez] (h : k < m) :
  OpV P n w0 F ⟨d, .indexAddr ty x ix, t, pos, aft, g⟩ e Γ (.pointer (some ⟨b, k, none⟩)) :=
 fun a w fr ho => by
  have e1 := Xba (P := P) (t := ty) w
  have e2 := Xbt (P := P) (t := el) w
  have hj := hk.ok
  subst hj
  simp [execOp, hx.ok n a fr, hi.ok n a fr, Instr.indexAt, e1, e2, asIntOf, Addr.add_mid, h]
end
section
variable {w0 : World} {F : Nat → Prop} {Γ : List Fact}
end
section
attribute [local irreducible] JC JO JR JQ andThen inBlock OpV Gives Xan JM JS
section
attribute [local irreducible] Xay
theorem Xpj (n : Nd) (y : Na) (h1 : (sl y.d y.dk n.disk).holds F w) (h2 : (sl y.l y.lk n.l).holds F w) (h3 : (sl y.w y.wk n.wait).holds F w) (h4 : (sl y.p y.pk n.peers).holds F w) (hn : NdFew n) :
  Gives prog 75 [ndV n y] w F (fun z : Na => ndV n z) (fun z => ndB n z) := by
 rcases n with ⟨no, disk, room, l, wait, seq, up, peers, next, miss⟩
 rcases y with ⟨ad, kd, al, kl, aw, kw, ap, kp⟩
 obtain ⟨hfl, hfw, hdk, hln, hpl⟩ := hn
 dsimp only [ndV, ndC, ndB] at *
 refine Xaa func75 rfl ntmps75 rfl rfl [.st (sl ad kd disk), .st (sl al kl l), .st (sl aw kw wait), .st (sl ap kp peers)] (.start4 h1 h2 h3 h4) ?_
 (repeat (refine wE ?_; intro _)); refine wA ?_
 rename_i bn b2
 refine JC.drawP mixed ?_
 refine Xad 0 ?_
 refine JP.tv 1 [.own bn 50 [.int .i64 no, .slice ad disk.length kd, .int .i64 room, .slice al l.length kl, .slice aw wait.length kw, .int .i64 seq, .bool up, .slice ap peers.length kp, .int .i64 next, .int .i64 miss]] ?_
 refine Xad 3 ?_
 refine JP.tv 4 [.own bn 50 [.int .i64 no, .slice ad disk.length kd, .int .i64 room, .slice al l.length kl, .slice aw wait.length kw, .int .i64 seq, .bool up, .slice ap peers.length kp, .int .i64 next, .int .i64 miss]] ?_
 refine Xar 2 rfl rfl (JR.callBuf rfl (fun w1 hw => Xsz w1 _ ad kd disk hw.get (by omega)) (fun a1 k1 => Wd (nO ?_)))
 refine JP.more (fun w1 ho => ho.pub) ?_
 refine Xar 5 rfl rfl (JR.callBuf rfl (fun w1 hw => Xpb w1 _ ap kp peers hw.get (by omega)) (fun a2 k2 => Wd (nO ?_)))
 refine JP.more (fun w1 ho => ho.pub) ?_
 refine Xad 6 ?_
 refine JP.reslot 14 (.pointer (some ⟨bn, 1, none⟩)) rfl ?_
 refine Xar 7 rfl rfl (Wi (Wd (nO ?_)))
 refine Xad 8 ?_
 refine JP.reslot 15 (.pointer (some ⟨bn, 7, none⟩)) rfl ?_
 refine Xar 9 rfl rfl (Wi (Wd (nO ?_)))
 refine JP.nil (by kernel_rfl) ?_
 (repeat (refine wE ?_; intro _)); refine wA ?_
 rename_i bl
 refine Xh7 (fun (i : Nat) pl ql pw qw => [(1, .pointer (some ⟨bn, 0, none⟩)), (2, .pointer (some ⟨b2, 0, none⟩)), (18, .slice (some ⟨bl, 0, none⟩) 2 2), (19, .int .i64 2), (20, .int .i64 (i : Int))])
  (fun i pl ql pw qw => [.own bn 50 [.int .i64 no, .slice a1 disk.length k1, .int .i64 room, .slice pl l.length ql, .slice pw wait.length qw, .int .i64 seq, .bool up, .slice a2 peers.length k2, .int .i64 next, .int .i64 miss], .own bl 169 [.pointer (some ⟨bn, 3, none⟩), .pointer (some ⟨bn, 4, none⟩)], .own b2 50 [.int .i64 0, .slice none 0 0, .int .i64 0, .slice none 0 0, .slice none 0 0, .int .i64 0, .bool false, .slice none 0 0, .int .i64 0, .int .i64 0], .st (sl a1 k1 disk), .st (sl a2 k2 peers), .st (sl pl ql l), .st (sl pw qw wait)])
  (fun i _ _ _ _ => i ≤ 2) (fun i _ _ _ _ => 2 - i) 0 al kl aw kw (Nat.zero_le _) iI ?_
 intro i pl ql pw qw hi
 refine wz11 ?_
 refine JC.test (fun hlt2 => ?_) (fun hge2 => ?_)
 ·obtain rfl | rfl : i = 0 ∨ i = 1 := by omega
  ·refine JC.buf_nil (α := Commit) 29 ?_
   refine wz14 ?_
   refine Wf (Xpi (k := 0) (by omega)) rfl ?_
   refine wz9 ?_
   refine Wf OpV.nilCheck rfl ?_
   refine wA ?_
   refine Xb7 (fun (j : Nat) (out : List Commit) r s => [(1, .pointer (some ⟨bn, 0, none⟩)), (2, .pointer (some ⟨b2, 0, none⟩)), (4, .pointer (some ⟨bn, 3, none⟩)), (18, .slice (some ⟨bl, 0, none⟩) 2 2), (19, .int .i64 2), (20, .int .i64 0), (5, .slice r out.length s), (26, .slice pl l.length ql), (27, .int .i64 (l.length : Int)), (28, .int .i64 (j : Int))])
    (fun (j : Nat) (out : List Commit) r s => [.res (buf r s 29 out), .own bn 50 [.int .i64 no, .slice a1 disk.length k1, .int .i64 room, .slice pl l.length ql, .slice pw wait.length qw, .int .i64 seq, .bool up, .slice a2 peers.length k2, .int .i64 next, .int .i64 miss], .own bl 169 [.pointer (some ⟨bn, 3, none⟩), .pointer (some ⟨bn, 4, none⟩)], .own b2 50 [.int .i64 0, .slice none 0 0, .int .i64 0, .slice none 0 0, .slice none 0 0, .int .i64 0, .bool false, .slice none 0 0, .int .i64 0, .int .i64 0], .st (sl a1 k1 disk), .st (sl a2 k2 peers), .st (sl pl ql l), .st (sl pw qw wait)])
    (fun j out r s => j ≤ l.length ∧ out = l.take j) (fun j _ _ _ => l.length - j) 0 [] none 0 ⟨Nat.zero_le _, rfl⟩ iI ?_
   intro j out r s ⟨hj, hout⟩
   refine wz11 ?_
   refine JC.test (fun hlt => ?_) (fun hge => ?_)
   ·have hlt' : j < l.length := by omega
    refine wz14 ?_
    refine Xaf rfl hlt' ?_
    intro b5 o5 p5 q5
    (repeat (refine wE ?_; intro _)); refine wA ?_
    refine JR.callSl rfl (fun w hw => Xju w _ p5 q5 _ hw.get (hfl _ (List.getElem_mem hlt')).2) ?_
    intro p6 q6
    (repeat (refine wE ?_; intro _)); refine wA ?_
    refine Xai (u := l[j]) rfl (by exact ⟨rfl, rfl, by decide⟩) (by subst hout; simp; omega) ?_
    intro r2 s2
    refine wz2 ?_
    exact ⟨j + 1, out ++ [l[j]], r2, s2, ⟨by omega, by rw [hout, List.take_succ_eq_append_getElem (by omega)]⟩, by omega, iI⟩
   ·obtain rfl : out = l := by rw [hout, List.take_of_length_le (by omega)]
    refine JC.more (fun w1 ho => ho.pub) ?_
    refine wz3 ?_
    refine Wf OpV.nilCheck rfl ?_
    refine wA ?_
    exact ⟨1, r, s, pw, qw, by omega, by omega, iI⟩
  ·refine JC.buf_nil (α := Commit) 29 ?_
   refine wz14 ?_
   refine Wf (Xpi (k := 1) (by omega)) rfl ?_
   refine wz9 ?_
   refine Wf OpV.nilCheck rfl ?_
   refine wA ?_
   refine Xb7 (fun (j : Nat) (out : List Commit) r s => [(1, .pointer (some ⟨bn, 0, none⟩)), (2, .pointer (some ⟨b2, 0, none⟩)), (4, .pointer (some ⟨bn, 4, none⟩)), (18, .slice (some ⟨bl, 0, none⟩) 2 2), (19, .int .i64 2), (20, .int .i64 1), (5, .slice r out.length s), (26, .slice pw wait.length qw), (27, .int .i64 (wait.length : Int)), (28, .int .i64 (j : Int))])
    (fun (j : Nat) (out : List Commit) r s => [.res (buf r s 29 out), .own bn 50 [.int .i64 no, .slice a1 disk.length k1, .int .i64 room, .slice pl l.length ql, .slice pw wait.length qw, .int .i64 seq, .bool up, .slice a2 peers.length k2, .int .i64 next, .int .i64 miss], .own bl 169 [.pointer (some ⟨bn, 3, none⟩), .pointer (some ⟨bn, 4, none⟩)], .own b2 50 [.int .i64 0, .slice none 0 0, .int .i64 0, .slice none 0 0, .slice none 0 0, .int .i64 0, .bool false, .slice none 0 0, .int .i64 0, .int .i64 0], .st (sl a1 k1 disk), .st (sl a2 k2 peers), .st (sl pl ql l), .st (sl pw qw wait)])
    (fun j out r s => j ≤ wait.length ∧ out = wait.take j) (fun j _ _ _ => wait.length - j) 0 [] none 0 ⟨Nat.zero_le _, rfl⟩ iI ?_
   intro j out r s ⟨hj, hout⟩
   refine wz11 ?_
   refine JC.test (fun hlt => ?_) (fun hge => ?_)
   ·have hlt' : j < wait.length := by omega
    refine wz14 ?_
    refine Xaf rfl hlt' ?_
    intro b5 o5 p5 q5
    (repeat (refine wE ?_; intro _)); refine wA ?_
    refine JR.callSl rfl (fun w hw => Xju w _ p5 q5 _ hw.get (hfw _ (List.getElem_mem hlt')).2) ?_
    intro p6 q6
    (repeat (refine wE ?_; intro _)); refine wA ?_
    refine Xai (u := wait[j]) rfl (by exact ⟨rfl, rfl, by decide⟩) (by subst hout; simp; omega) ?_
    intro r2 s2
    refine wz2 ?_
    exact ⟨j + 1, out ++ [wait[j]], r2, s2, ⟨by omega, by rw [hout, List.take_succ_eq_append_getElem (by omega)]⟩, by omega, iI⟩
   ·obtain rfl : out = wait := by rw [hout, List.take_of_length_le (by omega)]
    refine JC.more (fun w1 ho => ho.pub) ?_
    refine wz3 ?_
    refine Wf OpV.nilCheck rfl ?_
    refine wA ?_
    exact ⟨2, pl, ql, r, s, by omega, by omega, iI⟩
 ·obtain rfl : i = 2 := by omega
  refine wz3 ?_
  exact Xab (Y := Na) ⟨a1, k1, pl, ql, pw, qw, a2, k2⟩ rfl
theorem X0n {L : List Commit} (hc : Closed L) : idsP L = cids L := by
 unfold idsP
 rw [if_pos (List.all_eq_true.2 fun c h => hc.may c h)]
theorem Xs2 {L : List Commit} (hc : Closed L) (A : List ID) : partF (Xcy L) A = (Xcy L).filter (fun c => decide (idC c ∈ A)) := by
 rw [partF, Xfw (Xlr hc), if_pos rfl]
instance : NatI (13 : Int) 13 := ⟨rfl⟩
instance nat17 : NatI (17 : Int) 17 := ⟨rfl⟩
theorem X0o (x : UInt32) : GivesV prog 89 [w32 x] w F (w32 (Xhm x)) := by
 refine Xaa func89 rfl ntmps89 rfl rfl [] (.start w F) ?_
 refine wz4 ?_
 refine JC.test (fun h => ?_) (fun h => ?_)
 ·have hx : x = 0 := by apply UInt32.toNat_inj.1; simpa using h
  refine wz10 ?_
  refine JR.reslot 5 (w32 1) rfl ?_
  refine JR.reslot 6 (w32 1) rfl ?_
  refine Wf (Xd6 (k := 13) (by omega)) rfl ?_
  refine wz13 ?_
  refine Wf Xao rfl ?_
  refine wz10 ?_
  refine Wf (Xgi (k := 17) (by omega)) rfl ?_
  refine wz13 ?_
  refine Wf Xao rfl ?_
  refine wz10 ?_
  refine Wf (Xd6 (k := 5) (by omega)) rfl ?_
  refine wz13 ?_
  refine Wf Xao rfl ?_
  refine wz10 ?_
  refine Xab () ?_
  simp only [Xae, Xhm, if_pos hx]
 ·have hx : x ≠ 0 := by rintro rfl; exact h rfl
  refine wz14 ?_
  refine Wf (Xd6 (k := 13) (by omega)) rfl ?_
  refine wz13 ?_
  refine Wf Xao rfl ?_
  refine wz10 ?_
  refine Wf (Xgi (k := 17) (by omega)) rfl ?_
  refine wz13 ?_
  refine Wf Xao rfl ?_
  refine wz10 ?_
  refine Wf (Xd6 (k := 5) (by omega)) rfl ?_
  refine wz13 ?_
  refine Wf Xao rfl ?_
  refine wz10 ?_
  refine Xab () ?_
  simp only [Xae, Xhm, if_neg hx]
theorem X0p (a : Option Addr) (c : Nat) (L : List Int) (x : UInt32) (h : (sl a c L).holds F w) (hl : L.length ≤ 1000) (hn : L ≠ []) :
  GivesV prog 90 [.slice a L.length c, w32 x] w F (.tuple ⟨[.int .i64 (L.getD (x.toNat % L.length) 0), .bool true]⟩) := by
 have h0 := List.length_pos_iff.2 hn
 have hlt : x.toNat % L.length < L.length := Nat.mod_lt _ h0
 have hx := x.toNat_lt
 refine Xaa func90 rfl ntmps90 rfl rfl [.st (sl a c L)] (.start1 h) ?_
 refine wz4 ?_
 refine JC.test (fun h1 => ?_) (fun h1 => ?_)
 ·exfalso; omega
 refine wz2 ?_
 refine Wf Xaq rfl ?_
 refine JO.reslot 13 (.int .u32 (L.length : Int)) (by rw [Xiu, Nat.mod_eq_of_lt (by omega)]) ?_
 refine wz13 ?_
 refine Wf (OpV.rem (by omega)) rfl ?_
 refine JO.reslot 14 (.int .u32 ((x.toNat % L.length : Nat) : Int)) (by congr 1) ?_
 refine wz13 ?_
 refine Wf Xaq rfl ?_
 refine JO.reslot 15 (.int .i64 ((x.toNat % L.length : Nat) : Int)) (by rw [Xb2 (by omega)]) ?_
 refine wz13 ?_
 refine Xi3 (k := x.toNat % L.length) rfl hlt ?_
 intro b o
 refine wz9 ?_
 refine Xab () ?_
 simp [Xae, List.getD, hlt]
theorem X0q (m : Int) : GivesV prog 91 [.int .i64 m] w F (.int .i64 (Xin m)) := by
 refine Xaa func91 rfl ntmps91 rfl rfl [] (.start w F) ?_
 refine wz10 ?_
 refine Wf OpV.max rfl ?_
 refine wz13 ?_
 refine Wf OpV.min rfl ?_
 refine wz13 ?_
 refine Wf (OpV.shl (by omega)) rfl ?_
 refine JO.reslot 6 (.int .i64 (Xin m)) ?_ ?_
 ·congr 1
  have h1 : (min (max m 0) 6).toNat ≤ 6 := by omega
  have h2 : min (min (max m 0) 6).toNat (IntKind.bits .i64) = (min (max m 0) 6).toNat := Nat.min_eq_left (by show _ ≤ 64; omega)
  rw [h2, Xin]
  generalize (min (max m 0) 6).toNat = k at h1
  have h3 : k = 0 ∨ k = 1 ∨ k = 2 ∨ k = 3 ∨ k = 4 ∨ k = 5 ∨ k = 6 := by omega
  rcases h3 with rfl | rfl | rfl | rfl | rfl | rfl | rfl <;> decide
 refine wz10 ?_
 exact Xab () rfl
theorem X4o (m : Mg) (z : Ma) (h1 : (sl z.i z.ik m.ids).holds F w) (h2 : (sl z.c z.ck m.commits).holds F w) (hf : ∀ c ∈ m.commits, fine c) :
  GivesV prog 40 [mgV m z] w F (.bool (Xhl m)) := by
 have hil : m.ids.length < 9223372036854775807 := by have := h1.2.2.1; simp only [lim] at this; omega
 have hcl : m.commits.length < 9223372036854775807 := by have := h2.2.2.1; simp only [lim] at this; omega
 rcases m with ⟨kind, ids, cs⟩
 rcases z with ⟨ai, ki, ac, kc⟩
 dsimp only [mgV, mgC] at *
 refine Xaa func40 rfl ntmps40 rfl rfl [.st (sl ai ki ids), .st (sl ac kc cs)] (.start2 h1 h2) ?_
 (repeat (refine wE ?_; intro _)); refine wA ?_
 have hdig : kind = 0 ∨ kind = 1 → Xhl ⟨kind, ids, cs⟩ = (decide (ids.length ≤ 16) && Xei ids && decide (cs = [])) := fun h => if_pos h
 have hhav : kind = 2 → Xhl ⟨kind, ids, cs⟩ = (decide (ids = []) && decide (cs.length ≤ 6) && cs.all (fun c => may c && !merge c)) := by
  rintro rfl; rfl
 have hnil : decide (((cs.length : Nat) : Int) = 0) = decide (cs = []) := decide_eq_decide.2 ⟨fun h => List.eq_nil_of_length_eq_zero (by omega), fun h => by rw [h]; rfl⟩
 by_cases h0 : kind = 0
 ·rw [hdig (.inl h0)]
  refine JC.reslot 6 (.bool true) (by rw [decide_eq_true h0]) ?_
  refine wX ?_
  refine JO.test 13 (fun h3 => ?_) (fun h3 => ?_)
  ·have h3' : ids.length ≤ 16 := by omega
   refine wz6 ?_
   refine JR.callV rfl (fun w1 hw => Xm0 w1 _ ai ki ids hw.get) ?_
   cases hr : Xei ids with
   | true =>
    refine wX ?_
    refine Xab () ?_
    simp only [Xae]
    rw [decide_eq_true h3', hnil]; rfl
   | false =>
    refine wz8 ?_
    refine Xab () ?_
    simp only [Xae]
    simp
  ·have h3' : ¬ ids.length ≤ 16 := by omega
   refine wz8 ?_
   refine Xab () ?_
   simp only [Xae]
   simp [h3']
 refine JC.reslot 6 (.bool false) (by rw [decide_eq_false h0]) ?_
 refine wX ?_
 refine JC.test (fun h0' => ?_) (fun h0' => ?_)
 ·rw [hdig (.inr h0')]
  refine wX ?_
  refine JO.test 13 (fun h3 => ?_) (fun h3 => ?_)
  ·have h3' : ids.length ≤ 16 := by omega
   refine wz6 ?_
   refine JR.callV rfl (fun w1 hw => Xm0 w1 _ ai ki ids hw.get) ?_
   cases hr : Xei ids with
   | true =>
    refine wX ?_
    refine Xab () ?_
    simp only [Xae]
    rw [decide_eq_true h3', hnil]; rfl
   | false =>
    refine wz8 ?_
    refine Xab () ?_
    simp only [Xae]
    simp
  ·have h3' : ¬ ids.length ≤ 16 := by omega
   refine wz8 ?_
   refine Xab () ?_
   simp only [Xae]
   simp [h3']
 refine wz4 ?_
 refine JC.test (fun h2' => ?_) (fun h2' => ?_)
 ·rw [hhav h2']
  refine wX ?_
  refine JO.test 30 (fun h3 => ?_) (fun h3 => ?_)
  ·obtain rfl : ids = [] := List.eq_nil_of_length_eq_zero (by omega)
   refine wX ?_
   refine JO.test 36 (fun h4 => ?_) (fun h4 => ?_)
   ·have h4' : cs.length ≤ 6 := by omega
    refine wz6 ?_
    refine JR.callV rfl (fun w1 hw => Xe5 w1 _ ac kc cs hw.get 99 [] (fun c => !may c || merge c) (fun w' G x a' q' hx _ hs => X2g w' G x a' q' hs (hf x hx).1)) ?_
    refine wz8 ?_
    refine Xab () ?_
    simp only [Xae]
    have e9 : (fun c => !(!may c || merge c)) = (fun c => may c && !merge c) := by
     funext c
     cases may c <;> cases merge c <;> rfl
    simp only [h4', decide_true, Bool.true_and, List.not_any_eq_all_not, e9]
   ·have h4' : ¬ cs.length ≤ 6 := by omega
    refine wz8 ?_
    refine Xab () ?_
    simp only [Xae]
    simp [h4']
  ·have h3' : ids ≠ [] := by rintro rfl; exact h3 rfl
   refine wz8 ?_
   refine Xab () ?_
   simp only [Xae]
   simp [h3']
 ·refine wz12 ?_
  refine Xab () ?_
  simp only [Xae]
  have : Xhl ⟨kind, ids, cs⟩ = false := by
   unfold Xhl
   rw [if_neg (by rintro (h | h); exact h0 h; exact h0' h), if_neg h2']
  rw [this]
theorem X0r (m : Mg) (z : Ma) (h1 : (sl z.i z.ik m.ids).holds F w) (h2 : (sl z.c z.ck m.commits).holds F w) (hf : ∀ c ∈ m.commits, fine c) :
  GivesV prog 80 [mgV m z] w F (.bool (Xhl m)) := by
 have hil : m.ids.length < 9223372036854775807 := by have := h1.2.2.1; simp only [lim] at this; omega
 have hcl : m.commits.length < 9223372036854775807 := by have := h2.2.2.1; simp only [lim] at this; omega
 rcases m with ⟨kind, ids, cs⟩
 rcases z with ⟨ai, ki, ac, kc⟩
 dsimp only [mgV, mgC] at *
 refine Xaa func80 rfl ntmps80 rfl rfl [.st (sl ai ki ids), .st (sl ac kc cs)] (.start2 h1 h2) ?_
 (repeat (refine wE ?_; intro _)); refine wA ?_
 rename_i bm
 have hdig : kind = 0 ∨ kind = 1 → Xhl ⟨kind, ids, cs⟩ = (decide (ids.length ≤ 16) && Xei ids && decide (cs = [])) := fun h => if_pos h
 have hhav : kind = 2 → Xhl ⟨kind, ids, cs⟩ = (decide (ids = []) && decide (cs.length ≤ 6) && cs.all (fun c => may c && !merge c)) := by
  rintro rfl; rfl
 have hnil : decide (((cs.length : Nat) : Int) = 0) = decide (cs = []) := decide_eq_decide.2 ⟨fun h => List.eq_nil_of_length_eq_zero (by omega), fun h => by rw [h]; rfl⟩
 by_cases h0 : kind = 0
 ·rw [hdig (.inl h0)]
  refine JO.reslot 10 (.bool true) (by rw [decide_eq_true h0]) ?_
  refine wz1 ?_
  refine JR.callV rfl (fun w1 hw => Xnj w1 _ ai ki ids hw.get) ?_
  cases hr : Xei ids with
  | false =>
   refine wz8 ?_
   refine Xab () ?_
   simp only [Xae]
   simp
  | true =>
  refine wX ?_
  refine JO.test 25 (fun h3 => ?_) (fun h3 => ?_)
  ·have h3' : ids.length ≤ 16 := by omega
   refine wX ?_
   refine Xab () ?_
   simp only [Xae]
   rw [decide_eq_true h3', hnil]; rfl
  ·have h3' : ¬ ids.length ≤ 16 := by omega
   refine wz8 ?_
   refine Xab () ?_
   simp only [Xae]
   simp [h3']
 refine JO.reslot 10 (.bool false) (by rw [decide_eq_false h0]) ?_
 refine wz11 ?_
 refine JC.test (fun h0' => ?_) (fun h0' => ?_)
 ·rw [hdig (.inr h0')]
  refine wz9 ?_
  refine JR.callV rfl (fun w1 hw => Xnj w1 _ ai ki ids hw.get) ?_
  cases hr : Xei ids with
  | false =>
   refine wz8 ?_
   refine Xab () ?_
   simp only [Xae]
   simp
  | true =>
  refine wX ?_
  refine JO.test 25 (fun h3 => ?_) (fun h3 => ?_)
  ·have h3' : ids.length ≤ 16 := by omega
   refine wX ?_
   refine Xab () ?_
   simp only [Xae]
   rw [decide_eq_true h3', hnil]; rfl
  ·have h3' : ¬ ids.length ≤ 16 := by omega
   refine wz8 ?_
   refine Xab () ?_
   simp only [Xae]
   simp [h3']
 refine wX ?_
 by_cases hk : kind = 2
 case neg =>
  refine JO.reslot 34 (.bool true) (by congr 1; exact decide_eq_true hk) ?_
  refine wz8 ?_
  refine Xab () ?_
  simp only [Xae]
  unfold Xhl
  rw [if_neg (by rintro (h | h); exact h0 h; exact h0' h), if_neg hk]
 rw [hhav hk]
 refine JO.reslot 34 (.bool false) (by congr 1; exact decide_eq_false (fun h => h hk)) ?_
 refine wX ?_
 by_cases hi0 : ids = []
 case neg =>
  have := List.length_pos_iff.2 hi0
  refine JO.reslot 40 (.bool true) (by congr 1; exact decide_eq_true (by omega)) ?_
  refine wz8 ?_
  refine Xab () ?_
  simp only [Xae]
  simp [hi0]
 subst hi0
 refine JO.reslot 40 (.bool false) (by congr 1) ?_
 refine wX ?_
 refine JC.test (fun h6 => ?_) (fun h6 => ?_)
 ·have : ¬ cs.length ≤ 6 := by omega
  refine wz9 ?_
  refine Xab () ?_
  simp only [Xae]
  simp [this]
 have h6' : cs.length ≤ 6 := by omega
 rw [decide_eq_true h6']
 simp only [decide_true, Bool.true_and]
 subst hk
 refine wz7 ?_
 refine Xap (fun (k : Nat) => [(1, .pointer (some ⟨bm, 0, none⟩)), (4, .int .i64 (k : Int))])
  (fun _ => [.own bm 52 [.int .i64 2, .slice ai 0 ki, .slice ac cs.length kc], .st (sl ac kc cs)])
  (fun k => k ≤ cs.length ∧ (cs.take k).all (fun c => may c && !merge c) = true) (fun k => cs.length - k) 0 ⟨Nat.zero_le _, by simp⟩ iI ?_
 rintro k ⟨hk, hall⟩
 refine wz11 ?_
 refine JC.test (fun hlt => ?_) (fun hge => ?_)
 ·have hlt' : k < cs.length := by omega
  have hx := hf _ (List.getElem_mem hlt')
  have hcut := Xug (p := fun c => may c && !merge c) hlt'
  have htk := Xqq hlt' hall
  refine wz1 ?_
  refine Xaf rfl hlt' ?_
  intro b3 o3 p3 q3
  refine wz6 ?_
  refine JR.callV rfl (fun w1 hw => Xd2 w1 _ cs[k] p3 q3 hw.get hx.1) ?_
  refine wz9 ?_
  refine Xaf rfl hlt' ?_
  intro b4 o4 p4 q4
  refine wz6 ?_
  refine JR.callV rfl (fun w1 hw => Xex w1 _ cs[k] p4 q4 hw.get hx.1) ?_
  cases hm : may cs[k] with
  | false =>
   refine wz8 ?_
   refine Xab () ?_
   simp only [Xae]
   rw [hcut (by rw [hm]; rfl)]
  | true =>
  cases hmg : merge cs[k] with
  | true =>
   refine wz8 ?_
   refine Xab () ?_
   simp only [Xae]
   rw [hcut (by rw [hm, hmg]; rfl)]
  | false =>
  refine wX ?_
  exact ⟨k + 1, ⟨by omega, by rw [htk]; show (may cs[k] && !merge cs[k]) = true; rw [hm, hmg]; rfl⟩, by omega, iI⟩
 ·obtain rfl : k = cs.length := by omega
  rw [List.take_length] at hall
  refine wz3 ?_
  refine Xab () ?_
  simp only [Xae]
  rw [hall]
theorem Xjg (n : Nd) (y : Na) (h1 : (sl y.d y.dk n.disk).holds F w) (h2 : (sl y.l y.lk n.l).holds F w) (h3 : (sl y.w y.wk n.wait).holds F w) (hn : NdFew n) :
  Gives prog 35 [ndV n y] w F (fun z : Ma => .tuple ⟨[mgV (Xc6 n).1 z, .int .i64 (Xc6 n).2]⟩) (fun z => mgB (Xc6 n).1 z) := by
 have hn' := hn
 obtain ⟨no, disk, room, l, wait, seq, up, peers, next, miss⟩ := n
 obtain ⟨ad, kd, al, kl, aw, kw, ap, kp⟩ := y
 dsimp only [ndV, ndC] at *
 have hln : l.length + wait.length ≤ 800 := hn.len
 refine Xaa func35 rfl ntmps35 rfl rfl [.st (sl ad kd disk), .st (sl al kl l), .st (sl aw kw wait)] (.start3 h1 h2 h3) ?_
 (repeat (refine wE ?_; intro _)); refine wA ?_
 rename_i bn b2
 refine JR.callV rfl (fun w1 hw => Xig w1 _ ⟨no, disk, room, l, wait, seq, up, peers, next, miss⟩ ⟨ad, kd, al, kl, aw, kw, ap, kp⟩ hw.get hw.get hw.get hn.fw) ?_
 cases hm : Xeb ⟨no, disk, room, l, wait, seq, up, peers, next, miss⟩ with
 | false =>
  have e1 : Xc6 ⟨no, disk, room, l, wait, seq, up, peers, next, miss⟩ = (mg0, 1) := if_neg (by rw [hm]; exact Bool.false_ne_true)
  rw [e1]
  dsimp only [mg0, List.length_nil]
  refine wz8 ?_
  refine Wf (OpV.build [.int .i64 0, .slice none 0 0, .slice none 0 0] (by kernel_rfl)) rfl ?_
  refine wX ?_
  exact CT.done (Y := Ma) ⟨none, 0, none, 0⟩ rfl (fun w ho => ((ho.add (A := sl (α := Commit) none 0 []) Xah).add (A := sl (α := ID) none 0 []) Xah).ent)
 | true =>
 cases up with
 | false =>
  have e1 : Xc6 ⟨no, disk, room, l, wait, seq, false, peers, next, miss⟩ = (mg0, 6) := by unfold Xc6; rw [hm]; rfl
  rw [e1]
  dsimp only [mg0, List.length_nil]
  refine wX ?_
  refine Wf (OpV.build [.int .i64 0, .slice none 0 0, .slice none 0 0] (by kernel_rfl)) rfl ?_
  refine wX ?_
  exact CT.done (Y := Ma) ⟨none, 0, none, 0⟩ rfl (fun w ho => ((ho.add (A := sl (α := Commit) none 0 []) Xah).add (A := sl (α := ID) none 0 []) Xah).ent)
 | true =>
 have e1 : Xc6 ⟨no, disk, room, l, wait, seq, true, peers, next, miss⟩ = (⟨0, frontF l, []⟩, 0) := by unfold Xc6; rw [hm]; rfl
 rw [e1]
 refine wX ?_
 refine JR.callSl rfl (fun w1 hw => Xuc w1 _ al kl l hw.get (by omega) hn.fl) ?_
 intro a3 k3
 refine wz13 ?_
 refine Wf (OpV.build [.int .i64 0, .slice a3 (frontF l).length k3, .slice none 0 0] (by kernel_rfl)) rfl ?_
 refine wz9 ?_
 exact CT.done (Y := Ma) ⟨a3, k3, none, 0⟩ rfl (fun w ho => (ho.add (A := sl (α := Commit) none 0 []) Xah).ent)
abbrev heC (n : Nd) (y : Na) (m : Mg) (z : Ma) (t : Bool) : List Value := [.int .i64 n.no, .slice y.d n.disk.length y.dk, .int .i64 n.room, .slice y.l n.l.length y.lk, .slice y.w n.wait.length y.wk, .int .i64 n.seq, .bool n.up, .slice y.p n.peers.length y.pk, .int .i64 n.next, .int .i64 n.miss, .int .i64 m.kind, .slice z.i m.ids.length z.ik, .slice z.c m.commits.length z.ck, .bool t]
section
variable {w0 w : World} {F : Nat → Prop} {Γ : List Fact} {bh : Nat}
theorem Xny (n : Nd) (y : Na) (l : List ID) (a : Option Addr) (k : Nat) (hl : l.length < 9223372036854775807) (ho : Hold w0 F (.own bh 112 (heC n y mg0 ma0 false) :: .st (sl a k l) :: Γ) w) :
  Calls prog 144 ⟨[.pointer (some ⟨bh, 0, none⟩), .slice a l.length k]⟩ w fun x w' => ∃ z : Ma, x = .returned (.tuple ⟨[]⟩) ∧ Hold w0 F (.own bh 112 (heC n y (Xcn l).1 z (Xcn l).2) :: .st (sl z.i z.ik (Xcn l).1.ids) :: .st (sl z.c z.ck (Xcn l).1.commits) :: Γ) w' := by
 refine Xb6 (v := fun z : Ma => .tuple ⟨[]⟩) (B := fun z => .own bh 112 (heC n y (Xcn l).1 z (Xcn l).2) :: .st (sl z.i z.ik (Xcn l).1.ids) :: .st (sl z.c z.ck (Xcn l).1.commits) :: Γ) func144 rfl ntmps144 rfl rfl _ ho ?_
 rcases n with ⟨no, disk, room, l0, wait, seq, up, peers, next, miss⟩
 rcases y with ⟨ad, kd, al, kl, aw, kw, ap, kp⟩
 dsimp only [heC, mg0, ma0, List.length_nil]
 refine wz5 ?_
 by_cases h0 : l = []
 ·subst h0
  have e1 : Xcn [] = (mg0, false) := rfl
  rw [e1]
  dsimp only [mg0, List.length_nil]
  refine JR.reslot 7 (.bool false) rfl ?_
  refine Wf OpV.nilCheck rfl ?_
  refine wz9 ?_
  refine Wf OpV.nilCheck rfl ?_
  refine wA ?_
  exact Xep (Y := Ma) ⟨none, 0, none, 0⟩ rfl (fun w ho => ((ho.add (A := sl (α := Commit) none 0 []) Xah).add (A := sl (α := ID) none 0 []) Xah).ent)
 ·have hpos := List.length_pos_iff.2 h0
  have e1 : Xcn l = (⟨1, l.take 16, []⟩, true) := if_neg h0
  rw [e1]
  refine JR.reslot 7 (.bool true) (by congr 1; exact decide_eq_true (by omega)) ?_
  refine Wf OpV.nilCheck rfl ?_
  refine wz9 ?_
  refine Wf OpV.nilCheck rfl ?_
  refine wA ?_
  refine Wf OpV.min rfl ?_
  refine JO.reslot 18 (.int .i64 ((min l.length 16 : Nat) : Int)) (by congr 1; omega) ?_
  refine wz13 ?_
  refine Xc7 (L := l) (k := min l.length 16) rfl rfl (by omega) ?_
  intro a2 k2
  rw [show l.take (min l.length 16) = l.take 16 by rw [Nat.min_comm, ← List.take_take, List.take_length]]
  refine wz13 ?_
  refine Wf (OpV.build [.int .i64 1, .slice a2 (l.take 16).length k2, .slice none 0 0] (by kernel_rfl)) rfl ?_
  refine wz13 ?_
  refine Wf OpV.nilCheck rfl ?_
  refine wz9 ?_
  exact Xep (Y := Ma) ⟨a2, k2, none, 0⟩ rfl (fun w ho => (ho.add (A := sl (α := Commit) none 0 []) Xah).ent)
theorem Xnz (n : Nd) (y : Na) (l : List Commit) (a : Option Addr) (k : Nat) (hl : l.length < 9223372036854775807) (ho : Hold w0 F (.own bh 112 (heC n y mg0 ma0 false) :: .st (sl a k l) :: Γ) w) :
  Calls prog 145 ⟨[.pointer (some ⟨bh, 0, none⟩), .slice a l.length k]⟩ w fun x w' => ∃ z : Ma, x = .returned (.tuple ⟨[]⟩) ∧ Hold w0 F (.own bh 112 (heC n y (Xch l).1 z (Xch l).2) :: .st (sl z.i z.ik (Xch l).1.ids) :: .st (sl z.c z.ck (Xch l).1.commits) :: Γ) w' := by
 refine Xb6 (v := fun z : Ma => .tuple ⟨[]⟩) (B := fun z => .own bh 112 (heC n y (Xch l).1 z (Xch l).2) :: .st (sl z.i z.ik (Xch l).1.ids) :: .st (sl z.c z.ck (Xch l).1.commits) :: Γ) func145 rfl ntmps145 rfl rfl _ ho ?_
 rcases n with ⟨no, disk, room, l0, wait, seq, up, peers, next, miss⟩
 rcases y with ⟨ad, kd, al, kl, aw, kw, ap, kp⟩
 dsimp only [heC, mg0, ma0, List.length_nil]
 refine wz5 ?_
 by_cases h0 : l = []
 ·subst h0
  have e1 : Xch [] = (mg0, false) := rfl
  rw [e1]
  dsimp only [mg0, List.length_nil]
  refine JR.reslot 7 (.bool false) rfl ?_
  refine Wf OpV.nilCheck rfl ?_
  refine wz9 ?_
  refine Wf OpV.nilCheck rfl ?_
  refine wA ?_
  exact Xep (Y := Ma) ⟨none, 0, none, 0⟩ rfl (fun w ho => ((ho.add (A := sl (α := Commit) none 0 []) Xah).add (A := sl (α := ID) none 0 []) Xah).ent)
 ·have hpos := List.length_pos_iff.2 h0
  have e1 : Xch l = (⟨2, [], l.take 6⟩, true) := if_neg h0
  rw [e1]
  refine JR.reslot 7 (.bool true) (by congr 1; exact decide_eq_true (by omega)) ?_
  refine Wf OpV.nilCheck rfl ?_
  refine wz9 ?_
  refine Wf OpV.nilCheck rfl ?_
  refine wA ?_
  refine Wf OpV.min rfl ?_
  refine JO.reslot 18 (.int .i64 ((min l.length 6 : Nat) : Int)) (by congr 1; omega) ?_
  refine wz13 ?_
  refine Xc7 (L := l) (k := min l.length 6) rfl rfl (by omega) ?_
  intro a2 k2
  rw [show l.take (min l.length 6) = l.take 6 by rw [Nat.min_comm, ← List.take_take, List.take_length]]
  refine wz13 ?_
  refine Wf (OpV.build [.int .i64 2, .slice none 0 0, .slice a2 (l.take 6).length k2] (by kernel_rfl)) rfl ?_
  refine wz13 ?_
  refine Wf OpV.nilCheck rfl ?_
  refine wz9 ?_
  exact Xep (Y := Ma) ⟨none, 0, a2, k2⟩ rfl (fun w ho => (ho.add (A := sl (α := ID) none 0 []) Xah).ent)
end
theorem Xuk (L : List Commit) : (idsP L).length ≤ L.length := by
 unfold idsP; split
 ·rw [Xa2]; exact Nat.le_refl _
 ·exact Nat.zero_le _
theorem Xkh (L : List Commit) : (Xcy L).length ≤ L.length := by
 by_cases h : Closed L
 ·rw [(Xif h).length_eq]; exact Nat.le_refl _
 ·rw [(Xfc L).not h]; exact Nat.zero_le _
theorem Xlg {L : List Commit} (hf : ∀ x ∈ L, fine x) : ∀ x ∈ Xcy L, fine x := by
 intro x hx
 by_cases h : Closed L
 ·exact hf x ((Xif h).mem_iff.1 hx)
 ·rw [(Xfc L).not h] at hx; cases hx
theorem Xvr (L : List Commit) (A : List ID) : (partF L A).length ≤ L.length := by
 unfold partF; split
 ·exact List.length_filter_le _ _
 ·exact Nat.zero_le _
theorem Xqs (A B : List ID) (w : Bool) : (Xbg A B w).length ≤ A.length := by
 unfold Xbg
 rw [Xf3]
 exact Nat.le_trans (Xf5 _) (by unfold Xds; exact List.length_filter_le _ _)
section
variable {w0 w : World} {F : Nat → Prop} {Γ : List Fact} {bh : Nat}
theorem Xqt (n : Nd) (y : Na) (m : Mg) (z : Ma) (hn : NdFew n) (hi : m.ids.length ≤ 1000) (ho : Hold w0 F (.own bh 112 (heC n y mg0 ma0 false) :: .st (sl y.d y.dk n.disk) :: .st (sl y.l y.lk n.l) :: .st (sl y.w y.wk n.wait) :: .st (sl y.p y.pk n.peers) :: .st (sl z.i z.ik m.ids) :: .st (sl z.c z.ck m.commits) :: Γ) w) :
  Calls prog 77 ⟨[.pointer (some ⟨bh, 0, none⟩), mgV m z]⟩ w fun x w' => ∃ q : Ma, x = .returned (.tuple ⟨[]⟩) ∧ Hold w0 F (.own bh 112 (heC n y (Xch (partF (Xcy n.l) m.ids)).1 q (Xch (partF (Xcy n.l) m.ids)).2) :: .st (sl q.i q.ik (Xch (partF (Xcy n.l) m.ids)).1.ids) :: .st (sl q.c q.ck (Xch (partF (Xcy n.l) m.ids)).1.commits) :: .st (sl y.d y.dk n.disk) :: .st (sl y.l y.lk n.l) :: .st (sl y.w y.wk n.wait) :: .st (sl y.p y.pk n.peers) :: Γ) w' := by
 refine Xb6 (v := fun q : Ma => .tuple ⟨[]⟩) (B := fun q => .own bh 112 (heC n y (Xch (partF (Xcy n.l) m.ids)).1 q (Xch (partF (Xcy n.l) m.ids)).2) :: .st (sl q.i q.ik (Xch (partF (Xcy n.l) m.ids)).1.ids) :: .st (sl q.c q.ck (Xch (partF (Xcy n.l) m.ids)).1.commits) :: .st (sl y.d y.dk n.disk) :: .st (sl y.l y.lk n.l) :: .st (sl y.w y.wk n.wait) :: .st (sl y.p y.pk n.peers) :: Γ) func77 rfl ntmps77 rfl rfl _ ho ?_
 rcases n with ⟨no, disk, room, l, wait, seq, up, peers, next, miss⟩
 rcases y with ⟨ad, kd, al, kl, aw, kw, ap, kp⟩
 rcases m with ⟨kind, ids, cs⟩
 rcases z with ⟨ai, ki, ac, kc⟩
 obtain ⟨hfl, hfw, hdk, hln, hpl⟩ := hn
 dsimp only [mgV, mgC, heC, mg0, ma0, List.length_nil] at *
 (repeat (refine wE ?_; intro _)); refine wA ?_
 rename_i bm
 refine JC.drawP mixed ?_
 refine Xad 0 ?_
 refine Xad 1 ?_
 refine Xad 2 ?_
 refine Xad 3 ?_
 refine Xad 4 ?_
 refine JP.tv 5 [.own bh 112 [.int .i64 no, .slice ad disk.length kd, .int .i64 room, .slice al l.length kl, .slice aw wait.length kw, .int .i64 seq, .bool up, .slice ap peers.length kp, .int .i64 next, .int .i64 miss, .int .i64 0, .slice none 0 0, .slice none 0 0, .bool false]] ?_
 refine Xad 7 ?_
 refine JP.tv 8 [.own bm 52 [.int .i64 kind, .slice ai ids.length ki, .slice ac cs.length kc]] ?_
 refine Xar 6 rfl rfl (JR.callSl rfl (fun w1 hw => Xnm w1 _ al kl l (Xcy l) hw.get (by omega) hfl (Xfc l)) (fun a8 k8 => Wd (nO ?_)))
 refine Xar 9 rfl rfl (JR.callSl rfl (fun w1 hw => Xsw w1 _ a8 ai k8 ki (Xcy l) (partF (Xcy l) ids) ids hw.get hw.get (by have := Xkh l; omega) (Xlg hfl) (Xvg _ _)) (fun a9 k9 => Wd (nO ?_)))
 generalize hpart : partF (Xcy l) ids = part
 refine JP.more (Γ' := .own bh 112 [.int .i64 no, .slice ad disk.length kd, .int .i64 room, .slice al l.length kl, .slice aw wait.length kw, .int .i64 seq, .bool up, .slice ap peers.length kp, .int .i64 next, .int .i64 miss, .int .i64 0, .slice none 0 0, .slice none 0 0, .bool false] :: .st (sl a9 k9 part) :: .st (sl ad kd disk) :: .st (sl al kl l) :: .st (sl aw kw wait) :: .st (sl ap kp peers) :: Γ) (fun w1 ho => ho.ent) ?_
 refine Xar 10 rfl rfl (Xbk (v := fun q : Ma => .tuple ⟨[]⟩) (B := fun q => .own bh 112 (heC ⟨no, disk, room, l, wait, seq, up, peers, next, miss⟩ ⟨ad, kd, al, kl, aw, kw, ap, kp⟩ (Xch part).1 q (Xch part).2) :: .st (sl q.i q.ik (Xch part).1.ids) :: .st (sl q.c q.ck (Xch part).1.commits) :: .st (sl ad kd disk) :: .st (sl al kl l) :: .st (sl aw kw wait) :: .st (sl ap kp peers) :: Γ) rfl (fun w1 hw => Xnz ⟨no, disk, room, l, wait, seq, up, peers, next, miss⟩ ⟨ad, kd, al, kl, aw, kw, ap, kp⟩ part a9 k9 (by have := Xvr (Xcy l) ids; have := Xkh l; rw [hpart] at *; omega) hw) (fun q => Wd (nO ?_)))
 refine JP.nil (by kernel_rfl) ?_
 skip
 exact Xep q rfl (fun w ho => ho)
theorem Xqu (n : Nd) (y : Na) (m : Mg) (z : Ma) (hn : NdFew n) (hi : m.ids.length ≤ 1000) (ho : Hold w0 F (.own bh 112 (heC n y mg0 ma0 false) :: .st (sl y.d y.dk n.disk) :: .st (sl y.l y.lk n.l) :: .st (sl y.w y.wk n.wait) :: .st (sl y.p y.pk n.peers) :: .st (sl z.i z.ik m.ids) :: .st (sl z.c z.ck m.commits) :: Γ) w) :
  Calls prog 76 ⟨[.pointer (some ⟨bh, 0, none⟩), mgV m z]⟩ w fun x w' => ∃ q : Ma, x = .returned (.tuple ⟨[]⟩) ∧ Hold w0 F (.own bh 112 (heC n y (Xco n.l m.ids).1 q (Xco n.l m.ids).2) :: .st (sl q.i q.ik (Xco n.l m.ids).1.ids) :: .st (sl q.c q.ck (Xco n.l m.ids).1.commits) :: .st (sl y.d y.dk n.disk) :: .st (sl y.l y.lk n.l) :: .st (sl y.w y.wk n.wait) :: .st (sl y.p y.pk n.peers) :: Γ) w' := by
 refine Xb6 (v := fun q : Ma => .tuple ⟨[]⟩) (B := fun q => .own bh 112 (heC n y (Xco n.l m.ids).1 q (Xco n.l m.ids).2) :: .st (sl q.i q.ik (Xco n.l m.ids).1.ids) :: .st (sl q.c q.ck (Xco n.l m.ids).1.commits) :: .st (sl y.d y.dk n.disk) :: .st (sl y.l y.lk n.l) :: .st (sl y.w y.wk n.wait) :: .st (sl y.p y.pk n.peers) :: Γ) func76 rfl ntmps76 rfl rfl _ ho ?_
 rcases n with ⟨no, disk, room, l, wait, seq, up, peers, next, miss⟩
 rcases y with ⟨ad, kd, al, kl, aw, kw, ap, kp⟩
 rcases m with ⟨kind, ids, cs⟩
 rcases z with ⟨ai, ki, ac, kc⟩
 obtain ⟨hfl, hfw, hdk, hln, hpl⟩ := hn
 dsimp only [mgV, mgC, heC, mg0, ma0, List.length_nil] at *
 (repeat (refine wE ?_; intro _)); refine wA ?_
 rename_i bm
 refine Wf OpV.nilCheck rfl ?_
 refine wz6 ?_
 refine JR.callBuf rfl (fun w1 hw => Xk9 w1 _ al kl l hw.get (by omega) hfl) ?_
 intro a4 k4
 refine JO.more (fun w1 ho => ho.pub) ?_
 refine wz9 ?_
 refine JR.callBuf rfl (fun w1 hw => Xfl w1 _ ai a4 ki k4 ids (idsP l) hw.get hw.get (by omega)) ?_
 intro a5 k5
 refine JO.more (fun w1 ho => ho.pub) ?_
 have hll := Xqs ids (idsP l) false
 have hdm : Xco l ids = if Xbg ids (idsP l) false = [] then Xch (partF (Xcy l) (Xbg (idsP l) (ancF l ids) false)) else Xcn (Xbg ids (idsP l) false) := rfl
 generalize hleft : Xbg ids (idsP l) false = left at hll hdm
 refine wz5 ?_
 refine JC.test (fun h1 => ?_) (fun h1 => ?_)
 ·have hne : left ≠ [] := by rintro rfl; exact absurd h1 (by decide)
  rw [if_neg hne] at hdm
  rw [hdm]
  refine wz14 ?_
  refine JR.more (Γ' := .own bh 112 [.int .i64 no, .slice ad disk.length kd, .int .i64 room, .slice al l.length kl, .slice aw wait.length kw, .int .i64 seq, .bool up, .slice ap peers.length kp, .int .i64 next, .int .i64 miss, .int .i64 0, .slice none 0 0, .slice none 0 0, .bool false] :: .st (sl a5 k5 left) :: .st (sl ad kd disk) :: .st (sl al kl l) :: .st (sl aw kw wait) :: .st (sl ap kp peers) :: Γ) (fun w1 ho => ho.ent) ?_
  refine Xbk (v := fun q : Ma => .tuple ⟨[]⟩) (B := fun q => .own bh 112 (heC ⟨no, disk, room, l, wait, seq, up, peers, next, miss⟩ ⟨ad, kd, al, kl, aw, kw, ap, kp⟩ (Xcn left).1 q (Xcn left).2) :: .st (sl q.i q.ik (Xcn left).1.ids) :: .st (sl q.c q.ck (Xcn left).1.commits) :: .st (sl ad kd disk) :: .st (sl al kl l) :: .st (sl aw kw wait) :: .st (sl ap kp peers) :: Γ) rfl (fun w1 hw => Xny ⟨no, disk, room, l, wait, seq, up, peers, next, miss⟩ ⟨ad, kd, al, kl, aw, kw, ap, kp⟩ left a5 k5 (by omega) hw) ?_
  intro q
  refine wz9 ?_
  exact CT.done (Y := Ma) q rfl (fun w ho => ho)
 ·obtain rfl : left = [] := List.eq_nil_of_length_eq_zero (by omega)
  rw [if_pos rfl] at hdm
  rw [hdm]
  refine wz14 ?_
  refine JC.drawP mixed ?_
  refine Xad 0 ?_
  refine Xad 1 ?_
  refine Xad 2 ?_
  refine Xad 3 ?_
  refine Xad 4 ?_
  refine JP.tv 5 [.own bh 112 [.int .i64 no, .slice ad disk.length kd, .int .i64 room, .slice al l.length kl, .slice aw wait.length kw, .int .i64 seq, .bool up, .slice ap peers.length kp, .int .i64 next, .int .i64 miss, .int .i64 0, .slice none 0 0, .slice none 0 0, .bool false]] ?_
  refine Xad 6 ?_
  refine JP.tv 7 [.own bm 52 [.int .i64 kind, .slice ai ids.length ki, .slice ac cs.length kc]] ?_
  refine Xar 8 rfl rfl (JR.callSl rfl (fun w1 hw => X5c w1 _ al ai kl ki l ids (ancF l ids) hw.get hw.get (by omega) (by omega) hfl (Xt7 l ids)) (fun a6 k6 => Wd (nO ?_)))
  refine Xar 9 rfl rfl (JR.callBuf rfl (fun w1 hw => Xfl w1 _ a4 a6 k4 k6 (idsP l) (ancF l ids) hw.get hw.get (by have := Xuk l; omega)) (fun a7 k7 => Wd (nO ?_)))
  refine JP.more (fun w1 ho => ho.pub) ?_
  refine Xad 10 ?_
  refine JP.nil (by kernel_rfl) ?_
  generalize hmore : Xbg (idsP l) (ancF l ids) false = more
  refine wz14 ?_
  refine Wf OpV.nilCheck rfl ?_
  refine wz6 ?_
  refine JR.callSl rfl (fun w1 hw => Xnm w1 _ al kl l (Xcy l) hw.get (by omega) hfl (Xfc l)) ?_
  intro a8 k8
  refine wz6 ?_
  refine JR.callSl rfl (fun w1 hw => Xsw w1 _ a8 a7 k8 k7 (Xcy l) (partF (Xcy l) more) more hw.get hw.get (by have := Xkh l; omega) (Xlg hfl) (Xvg _ _)) ?_
  intro a9 k9
  generalize hpart : partF (Xcy l) more = part
  refine wz13 ?_
  refine JR.more (Γ' := .own bh 112 [.int .i64 no, .slice ad disk.length kd, .int .i64 room, .slice al l.length kl, .slice aw wait.length kw, .int .i64 seq, .bool up, .slice ap peers.length kp, .int .i64 next, .int .i64 miss, .int .i64 0, .slice none 0 0, .slice none 0 0, .bool false] :: .st (sl a9 k9 part) :: .st (sl ad kd disk) :: .st (sl al kl l) :: .st (sl aw kw wait) :: .st (sl ap kp peers) :: Γ) (fun w1 ho => ho.ent) ?_
  refine Xbk (v := fun q : Ma => .tuple ⟨[]⟩) (B := fun q => .own bh 112 (heC ⟨no, disk, room, l, wait, seq, up, peers, next, miss⟩ ⟨ad, kd, al, kl, aw, kw, ap, kp⟩ (Xch part).1 q (Xch part).2) :: .st (sl q.i q.ik (Xch part).1.ids) :: .st (sl q.c q.ck (Xch part).1.commits) :: .st (sl ad kd disk) :: .st (sl al kl l) :: .st (sl aw kw wait) :: .st (sl ap kp peers) :: Γ) rfl (fun w1 hw => Xnz ⟨no, disk, room, l, wait, seq, up, peers, next, miss⟩ ⟨ad, kd, al, kl, aw, kw, ap, kp⟩ part a9 k9 (by have := Xvr (Xcy l) more; have := Xkh l; rw [hpart] at *; omega) hw) ?_
  intro q
  refine wz10 ?_
  exact Xep q rfl (fun w ho => ho)
end
end
section
attribute [local irreducible] Xay idA l0 l1 ents
theorem X0s {L : List Commit} (hc : Closed L) {out : List ID} (h : ∀ x, x ∈ out ↔ ∃ y, ∃ hy : y < L.length, y < L.length ∧ x = idC L[y] ∧ ∀ c ∈ L, x ∉ c.parents) : Xcm (Xc2 out) = frontF L := by
 refine Xfa ((List.perm_ext_iff_of_nodup ((Xce _).nodup_iff.2 (Xcs _)) (Xt9 L)).2 fun x => ?_) (Xbz _) (Xsm L)
 rw [Xfj, Xdi, h, Xj7 hc]
 constructor
 ·rintro ⟨y, hy, _, rfl, h1⟩; exact ⟨List.mem_map_of_mem (List.getElem_mem hy), h1⟩
 ·rintro ⟨h1, h2⟩
  obtain ⟨i, hi, hie⟩ := List.getElem_of_mem h1
  have hi' : i < L.length := by rw [← Xa2]; exact hi
  exact ⟨i, hi', hi', by rw [← hie, Xbm L i hi], h2⟩
theorem X0t (a : Option Addr) (k : Nat) (L : List Commit) (h : (sl a k L).holds F w) (hl : L.length ≤ 1000) (hf : ∀ x ∈ L, fine x) (hq : ∀ x ∈ L, x.parents.length ≤ 1000) :
  Xbw prog 88 [.slice a L.length k] w F (frontF L) := by
 refine Xaa func88 rfl ntmps88 rfl rfl [.st (sl a k L)] (.start1 h) ?_
 refine wz10 ?_
 refine JR.callV rfl (fun w1 hw => Xjc w1 _ a k L (closedB L) hw.get hl hf hq Xcf) ?_
 cases hb : closedB L with
 | false =>
  refine wz8 ?_
  rw [Xsl (fun hc => by rw [Xfw hc] at hb; cases hb)]
  exact CT.done (none, 0) rfl (fun w ho => (ho.ent : Hold _ _ [] w).add Xah)
 | true =>
 have hc := Xcf.1 hb
 have hcl := Xa2 L
 refine wz7 ?_
 refine JR.callSl (L := cids L) rfl (fun w1 hw => by have := Xe4 w1 _ a k L hw.get (by omega) hf; rwa [Xea hc.may] at this) ?_
 intro e n
 refine wz4 ?_
 refine JC.buf_nil (α := ID) 81 ?_
 refine Xb7 (fun (i : Nat) (out : List ID) r s => [(0, .slice a L.length k), (4, .slice e (cids L).length n), (5, .slice r out.length s), (6, .int .i64 (i : Int))])
  (fun i out r s => [.res (buf r s 81 out), .st (sl e n (cids L)), .st (sl a k L)])
  (fun i out r s => i ≤ L.length ∧ out.length ≤ i ∧ ∀ x, x ∈ out ↔ ∃ y, ∃ hy : y < L.length, y < i ∧ x = idC L[y] ∧ ∀ c ∈ L, x ∉ c.parents) (fun i _ _ _ => L.length - i) 0 [] none 0 ⟨Nat.zero_le _, by simp, fun x => by simp⟩ iI ?_
 intro i out r s ⟨hi, hol, hom⟩
 refine wz11 ?_
 refine JC.test (fun hlt => ?_) (fun hge => ?_)
 ·have hlt' : i < L.length := by omega
  have hxe : (cids L)[i]'(by omega) = idC L[i] := Xbm L i (by omega)
  have hnx : ∀ x, (∃ y, ∃ hy : y < L.length, y < i + 1 ∧ x = idC L[y] ∧ ∀ c ∈ L, x ∉ c.parents) ↔ x ∈ out ∨ (x = idC L[i] ∧ ∀ c ∈ L, x ∉ c.parents) := fun x => by
   rw [hom]
   constructor
   ·rintro ⟨y, hy, hyi, h⟩
    by_cases e : y = i
    ·subst e; exact .inr h
    ·exact .inl ⟨y, hy, by omega, h⟩
   ·rintro (⟨y, hy, hyi, h⟩ | h)
    ·exact ⟨y, hy, by omega, h⟩
    ·exact ⟨i, hlt', by omega, h⟩
  refine wz7 ?_
  refine Xcz (fun (j : Nat) (b : Bool) => [(0, .slice a L.length k), (4, .slice e (cids L).length n), (5, .slice r out.length s), (6, .int .i64 (i : Int)), (7, .bool b), (8, .int .i64 (j : Int))]) (fun j b => [.res (buf r s 81 out), .st (sl e n (cids L)), .st (sl a k L)])
   (fun j b => j ≤ L.length ∧ (b = true ↔ ∃ c ∈ L.take j, idC L[i] ∈ c.parents)) (fun j _ => L.length - j) 0 false ⟨Nat.zero_le _, by simp⟩ iI ?_
  intro j b ⟨hj, hbj⟩
  refine wz11 ?_
  refine JC.test (fun hltj => ?_) (fun hgej => ?_)
  ·have hj' : j < L.length := by omega
   have hsx : (∃ c ∈ L.take (j + 1), idC L[i] ∈ c.parents) ↔ (∃ c ∈ L.take j, idC L[i] ∈ c.parents) ∨ idC L[i] ∈ L[j].parents := by
    simp only [List.take_succ_eq_append_getElem hj', List.mem_append, List.mem_singleton]
    constructor
    ·rintro ⟨c, hc | rfl, h⟩
     ·exact .inl ⟨c, hc, h⟩
     ·exact .inr h
    ·rintro (⟨c, hc, h⟩ | h)
     ·exact ⟨c, .inl hc, h⟩
     ·exact ⟨_, .inr rfl, h⟩
   refine wz14 ?_
   refine Xa7 (L := L) (.slice a L.length k) j hj' ?_
   intro b1 o1 p1 q1
   refine Xbq (L := cids L) (.slice e (cids L).length n) i (by omega) ?_
   intro b2 o2
   rw [hxe]
   refine Xa6 mixed (by kernel_rfl) ?_
   refine wY ?_
   refine JQ.call rfl rfl (fun w1 hw => Xew w1 _ p1 q1 L[j].parents (idC L[i]) hw.get) ?_
   refine wY ?_
   cases b with
   | true =>
    refine wz12 ?_
    exact ⟨j + 1, true, ⟨by omega, ⟨fun _ => hsx.2 (.inl (hbj.1 rfl)), fun _ => rfl⟩⟩, by omega, iI⟩
   | false =>
    refine wX ?_
    refine ⟨j + 1, decide (idC L[i] ∈ L[j].parents), ⟨by omega, ?_⟩, by omega, iI⟩
    rw [hsx, decide_eq_true_iff]
    refine ⟨.inr, fun h => h.elim (fun h => ?_) id⟩
    have := hbj.2 h; cases this
  ·obtain rfl : j = L.length := by omega
   rw [List.take_length] at hbj
   refine wA ?_
   cases b with
   | true =>
    refine wz2 ?_
    refine ⟨i + 1, out, r, s, ⟨by omega, by omega, fun x => ?_⟩, by omega, iI⟩
    rw [hnx]
    refine ⟨.inl, fun h => h.elim id fun h => ?_⟩
    obtain ⟨c, hcm, hcp⟩ := hbj.1 rfl
    exact (h.2 c hcm (h.1 ▸ hcp)).elim
   | false =>
    refine wz8 ?_
    refine Xa9 (L := cids L) (k := i) rfl (by omega) ?_
    intro b3 o3
    rw [hxe]
    (repeat (refine wE ?_; intro _)); refine wA ?_
    refine Xai (u := idC L[i]) rfl (by exact ⟨rfl, rfl, by decide⟩) (by omega) ?_
    intro r2 s2
    refine wz2 ?_
    refine ⟨i + 1, out ++ [idC L[i]], r2, s2, ⟨by omega, by simp; omega, fun x => ?_⟩, by omega, iI⟩
    rw [hnx, List.mem_append, List.mem_singleton]
    refine or_congr_right ⟨fun h => ⟨h, fun c hcm hp => ?_⟩, fun h => h.1⟩
    have := hbj.2 ⟨c, hcm, h ▸ hp⟩
    cases this
 ·obtain rfl : i = L.length := by omega
  refine JC.more (fun w1 ho => ho.pub) ?_
  refine wz3 ?_
  refine JR.callSl rfl (fun w1 hw => Xql w1 _ r s out hw.get (by omega)) ?_
  intro p2 q2
  refine wz10 ?_
  rw [← X0s hc hom]
  exact Xab (p2, q2) rfl
end
section
attribute [local irreducible] Xay
theorem Xpk (n : Nd) (y : Na) (h1 : (sl y.d y.dk n.disk).holds F w) (h2 : (sl y.l y.lk n.l).holds F w) (h3 : (sl y.w y.wk n.wait).holds F w) (hn : NdFew n) (hd4 : n.disk.length ≤ 4900) (hql : ∀ x ∈ n.l, x.parents.length ≤ 1000) :
  Gives prog 36 [ndV n y] w F (fun z : Ma => .tuple ⟨[mgV (Xc6 n).1 z, .int .i64 (Xc6 n).2]⟩) (fun z => mgB (Xc6 n).1 z) := by
 have hn' := hn
 obtain ⟨no, disk, room, l, wait, seq, up, peers, next, miss⟩ := n
 obtain ⟨ad, kd, al, kl, aw, kw, ap, kp⟩ := y
 dsimp only [ndV, ndC] at *
 have hln : l.length + wait.length ≤ 800 := hn.len
 refine Xaa func36 rfl ntmps36 rfl rfl [.st (sl ad kd disk), .st (sl al kl l), .st (sl aw kw wait)] (.start3 h1 h2 h3) ?_
 (repeat (refine wE ?_; intro _)); refine wA ?_
 rename_i bn b2
 refine JR.callV rfl (fun w1 hw => Xnx w1 _ ⟨no, disk, room, l, wait, seq, up, peers, next, miss⟩ ⟨ad, kd, al, kl, aw, kw, ap, kp⟩ hw.get hw.get hw.get hn.fw hd4) ?_
 cases hm : Xeb ⟨no, disk, room, l, wait, seq, up, peers, next, miss⟩ with
 | false =>
  have e1 : Xc6 ⟨no, disk, room, l, wait, seq, up, peers, next, miss⟩ = (mg0, 1) := if_neg (by rw [hm]; exact Bool.false_ne_true)
  rw [e1]
  dsimp only [mg0, List.length_nil]
  refine wz8 ?_
  refine Wf (OpV.build [.int .i64 0, .slice none 0 0, .slice none 0 0] (by kernel_rfl)) rfl ?_
  refine wz9 ?_
  exact CT.done (Y := Ma) ⟨none, 0, none, 0⟩ rfl (fun w ho => ((ho.add (A := sl (α := Commit) none 0 []) Xah).add (A := sl (α := ID) none 0 []) Xah).ent)
 | true =>
 cases up with
 | false =>
  have e1 : Xc6 ⟨no, disk, room, l, wait, seq, false, peers, next, miss⟩ = (mg0, 6) := by unfold Xc6; rw [hm]; rfl
  rw [e1]
  dsimp only [mg0, List.length_nil]
  refine wX ?_
  refine Wf (OpV.build [.int .i64 0, .slice none 0 0, .slice none 0 0] (by kernel_rfl)) rfl ?_
  refine wz9 ?_
  exact CT.done (Y := Ma) ⟨none, 0, none, 0⟩ rfl (fun w ho => ((ho.add (A := sl (α := Commit) none 0 []) Xah).add (A := sl (α := ID) none 0 []) Xah).ent)
 | true =>
 have e1 : Xc6 ⟨no, disk, room, l, wait, seq, true, peers, next, miss⟩ = (⟨0, frontF l, []⟩, 0) := by unfold Xc6; rw [hm]; rfl
 rw [e1]
 refine wX ?_
 refine JR.callSl rfl (fun w1 hw => X0t w1 _ al kl l hw.get (by omega) hn.fl hql) ?_
 intro a3 k3
 refine wz13 ?_
 refine Wf (OpV.build [.int .i64 0, .slice a3 (frontF l).length k3, .slice none 0 0] (by kernel_rfl)) rfl ?_
 refine wz9 ?_
 exact CT.done (Y := Ma) ⟨a3, k3, none, 0⟩ rfl (fun w ho => (ho.add (A := sl (α := Commit) none 0 []) Xah).ent)
theorem Xgr (l : List ID) (a : Option Addr) (k : Nat) (h : (sl a k l).holds F w) :
  Gives prog 83 [.slice a l.length k] w F (fun z : Ma => .tuple ⟨[mgV (Xcn l).1 z, .bool (Xcn l).2]⟩) (fun z => mgB (Xcn l).1 z) := by
 have hL : l.length < 9223372036854775807 := by have := h.2.2.1; simp only [lim] at this; omega
 refine Xaa func83 rfl ntmps83 rfl rfl [.st (sl a k l)] (.start1 h) ?_
 (repeat (refine wE ?_; intro _)); refine wA ?_
 by_cases h0 : l = []
 ·subst h0
  have e1 : Xcn [] = (mg0, false) := rfl
  rw [e1]
  dsimp only [mg0, List.length_nil]
  refine JC.reslot 6 (.bool true) rfl ?_
  refine wz8 ?_
  refine Wf (OpV.build [.int .i64 0, .slice none 0 0, .slice none 0 0] (by kernel_rfl)) rfl ?_
  refine wz9 ?_
  exact CT.done (Y := Ma) ⟨none, 0, none, 0⟩ rfl (fun w ho => ((ho.add (A := sl (α := Commit) none 0 []) Xah).add (A := sl (α := ID) none 0 []) Xah).ent)
 ·have hpos := List.length_pos_iff.2 h0
  have e1 : Xcn l = (⟨1, l.take 16, []⟩, true) := if_neg h0
  rw [e1]
  refine JC.reslot 6 (.bool false) (by congr 1; exact decide_eq_false (by omega)) ?_
  refine wA ?_
  by_cases h16 : l.length ≤ 16
  ·refine JC.reslot 10 (.bool false) (by congr 1; exact decide_eq_false (by omega)) ?_
   have et : l.take 16 = l := List.take_of_length_le h16
   refine wz7 ?_
   refine Wf (OpV.build [.int .i64 1, .slice a l.length k, .slice none 0 0] (by kernel_rfl)) rfl ?_
   rw [et]
   refine wz9 ?_
   exact CT.done (Y := Ma) ⟨a, k, none, 0⟩ rfl (fun w ho => (ho.add (A := sl (α := Commit) none 0 []) Xah).ent)
  ·refine JC.reslot 10 (.bool true) (by congr 1; exact decide_eq_true (by omega)) ?_
   refine wz8 ?_
   refine Xc7 (L := l) (k := 16) rfl rfl (by omega) ?_
   intro a2 k2
   refine wz10 ?_
   refine Wf (OpV.build [.int .i64 1, .slice a2 (l.take 16).length k2, .slice none 0 0] (by kernel_rfl)) rfl ?_
   refine wz9 ?_
   exact CT.done (Y := Ma) ⟨a2, k2, none, 0⟩ rfl (fun w ho => (ho.add (A := sl (α := Commit) none 0 []) Xah).ent)
noncomputable def haveF (L : List Commit) (A : List ID) (t : Bool) : List Commit := (Xcy L).filter (fun c => decide (idC c ∈ A) == t)
theorem Xul {p : Commit → Bool} {s : List Commit} {i : Nat} (h : i < s.length) : (s.take (i + 1)).filter p = if p s[i] then (s.take i).filter p ++ [s[i]] else (s.take i).filter p := by
 rw [List.take_succ_eq_append_getElem h, List.filter_append]
 by_cases hp : p s[i] <;> simp [hp]
theorem Xih (L : List Commit) (A : List ID) (t : Bool) (a b : Option Addr) (k m : Nat) (h : (sl a k L).holds F w) (h' : (sl b m A).holds F w) (hl : L.length ≤ 1000) (hf : ∀ x ∈ L, fine x) (hq : ∀ x ∈ L, x.parents.length ≤ 1000) :
  Gives prog 84 [.slice a L.length k, .slice b A.length m, .bool t] w F (fun z : Ma => .tuple ⟨[mgV (Xch (haveF L A t)).1 z, .bool (Xch (haveF L A t)).2]⟩) (fun z => mgB (Xch (haveF L A t)).1 z) := by
 have hsf := Xlg hf
 have hsl := Xkh L
 have hsi : idsP (Xcy L) = cids (Xcy L) := by
  by_cases hc : Closed L
  ·exact X0n (Xlr hc)
  ·rw [(Xfc L).not hc]; rfl
 unfold haveF
 refine Xaa func84 rfl ntmps84 rfl rfl [.st (sl a k L), .st (sl b m A)] (.start2 h h') ?_
 (repeat (refine wE ?_; intro _)); refine wA ?_
 rename_i b6
 refine JR.callSl rfl (fun w1 hw => Xub w1 _ a k L (Xcy L) hw.get hl hf hq (Xfc L)) ?_
 intro a1 k1
 generalize Xcy L = S at hsf hsl hsi
 refine wz10 ?_
 refine JR.callSl rfl (fun w1 hw => Xe4 w1 _ a1 k1 S hw.get (by omega) hsf) ?_
 intro a2 k2
 rw [hsi]
 generalize hp : (fun c => decide (idC c ∈ A) == t) = p
 refine wz4 ?_
 refine JC.buf_nil (α := Commit) 29 ?_
 refine Xb7 (fun (i : Nat) (out : List Commit) (r : Option Addr) (s : Nat) => [(1, .slice b A.length m), (2, .bool t), (6, .pointer (some ⟨b6, 0, none⟩)), (8, .slice a1 S.length k1), (9, .slice a2 (cids S).length k2), (10, .slice r out.length s), (11, .int .i64 (i : Int))])
  (fun i out r s => [.res (buf r s 29 out), .st (sl b m A), .st (sl a1 k1 S), .st (sl a2 k2 (cids S)), .own b6 52 [.int .i64 0, .slice none 0 0, .slice none 0 0]])
  (fun i out r s => i ≤ S.length ∧ out = (S.take i).filter p ∧ out.length ≤ 6) (fun i _ _ _ => S.length - i) 0 [] none 0 ⟨Nat.zero_le _, by simp, by simp⟩ iI ?_
 rintro i out r s ⟨hi, hout, hol⟩
 refine wz11 ?_
 refine JO.test 21 (fun hlt => ?_) (fun hge => ?_)
 ·have hlt' : i < S.length := by omega
  refine wA ?_
  refine JC.test (fun h6 => ?_) (fun h6 => ?_)
  ·have hfn := Xul (p := p) hlt'
   have hli : i < (cids S).length := by rw [Xa2]; exact hlt'
   have hci : (cids S)[i] = idC S[i] := by simp [cids]
   refine wz14 ?_
   refine Xa9 rfl hli ?_
   intro b3 o3
   rw [hci]
   refine wz6 ?_
   refine JR.callV rfl (fun w1 hw => Xew w1 _ b m A (idC S[i]) hw.get) ?_
   refine wA ?_
   refine JC.test (fun hx => ?_) (fun hx => ?_)
   ·have hpi : p S[i] = true := by rw [← hp]; simpa using hx
    refine wz14 ?_
    refine Xaf rfl hlt' ?_
    intro b4 o4 p4 q4
    (repeat (refine wE ?_; intro _)); refine wA ?_
    refine Xai (u := S[i]) rfl (by exact ⟨rfl, rfl, by decide⟩) (by omega) ?_
    intro r2 s2
    refine wz2 ?_
    exact ⟨i + 1, out ++ [S[i]], r2, s2, ⟨by omega, by rw [hfn, if_pos hpi, hout], by rw [List.length_append, List.length_singleton]; omega⟩, by omega, iI⟩
   ·have hpi : p S[i] = false := by rw [← hp]; simpa using hx
    refine wz2 ?_
    exact ⟨i + 1, out, r, s, ⟨by omega, by rw [hfn, hpi]; exact hout, hol⟩, by omega, iI⟩
  ·have hfull : (S.filter p).take 6 = out := by
    have e := congrArg (List.filter p) (List.take_append_drop i S)
    rw [List.filter_append, ← hout] at e
    rw [← e, List.take_append_of_le_length (by omega), List.take_of_length_le hol]
   have hne : S.filter p ≠ [] := fun h0 => by rw [h0] at hfull; rw [← hfull] at h6; simp at h6
   have e1 : Xch (S.filter p) = (⟨2, [], out⟩, true) := by unfold Xch; rw [if_neg hne, hfull]
   have ho0 : out ≠ [] := fun h0 => by rw [h0] at h6; simp at h6
   have hopos := List.length_pos_iff.2 ho0
   rw [e1]
   refine JC.more (fun w1 ho => ho.pub) ?_
   refine wA ?_
   refine JC.reslot 46 (.bool false) (by congr 1; exact decide_eq_false (by omega)) ?_
   refine wz7 ?_
   refine Wf (OpV.build [.int .i64 2, .slice none 0 0, .slice r out.length s] (by kernel_rfl)) rfl ?_
   refine wz9 ?_
   exact CT.done (Y := Ma) ⟨none, 0, r, s⟩ rfl (fun w ho => (ho.add (A := sl (α := ID) none 0 []) Xah).ent)
 ·obtain rfl : i = S.length := by omega
  rw [List.take_length] at hout
  rw [← hout]
  refine wX ?_
  by_cases ho0 : out = []
  ·have e1 : Xch out = (mg0, false) := if_pos ho0
   rw [e1]
   subst ho0
   dsimp only [mg0, List.length_nil]
   refine JC.reslot 46 (.bool true) rfl ?_
   refine wz8 ?_
   refine Wf (OpV.build [.int .i64 0, .slice none 0 0, .slice none 0 0] (by kernel_rfl)) rfl ?_
   refine wz9 ?_
   exact CT.done (Y := Ma) ⟨none, 0, none, 0⟩ rfl (fun w ho => ((ho.add (A := sl (α := Commit) none 0 []) Xah).add (A := sl (α := ID) none 0 []) Xah).ent)
  ·have hopos := List.length_pos_iff.2 ho0
   have e1 : Xch out = (⟨2, [], out⟩, true) := by unfold Xch; rw [if_neg ho0, List.take_of_length_le hol]
   rw [e1]
   refine JC.more (fun w1 ho => ho.pub) ?_
   refine JC.reslot 46 (.bool false) (by congr 1; exact decide_eq_false (by omega)) ?_
   refine wz7 ?_
   refine Wf (OpV.build [.int .i64 2, .slice none 0 0, .slice r out.length s] (by kernel_rfl)) rfl ?_
   refine wz9 ?_
   exact CT.done (Y := Ma) ⟨none, 0, r, s⟩ rfl (fun w ho => (ho.add (A := sl (α := ID) none 0 []) Xah).ent)
theorem Xhd : ∀ {L : List Commit}, (∀ c ∈ L, c.parents.length ≤ 1000) → (Xav L).length ≤ 1000 * L.length
 | [], _ => by simp [Xav]
 | c :: L, h => by
  have h1 := h c (by simp)
  have h2 := Xhd (L := L) (fun x hx => h x (by simp [hx]))
  have h3 : Xav (c :: L) = c.parents ++ Xav L := by simp [Xav]
  rw [h3, List.length_append, List.length_cons]
  omega
theorem X2u (L : List Commit) (I : List ID) : (Xhk L I).length ≤ (Xav L).length := by
 unfold Xhk
 exact Xqs _ _ _
section
variable {P : Commit → Prop}
theorem Xlt : ∀ (f : Nat) {n : Nd}, (∀ x ∈ n.wait, P x) → ∀ x ∈ (Xge f n).wait, P x
 | 0, n, h => h
 | f + 1, n, h => by
  unfold Xge
  split
  ·rename_i hr
   refine Xlt f ?_
   rw [Xey]
   exact fun x hx => h x ((Xhc (L := n.wait) (rc := (Xa8 n.wait (idsP n.l)).1) (rl := (Xa8 n.wait (idsP n.l)).2.1) (H := idsP n.l) (by rw [← hr])).2.2.1 x hx)
  ·exact h
theorem Xxb {n : Nd} {c : Commit} (h : ∀ x ∈ n.wait, P x) (hc : P c) : ∀ x ∈ (Xdn n c).wait, P x := by
 unfold Xdn
 split
 ·refine Xlt _ (fun x hx => ?_)
  rcases Xjf hx with hx | rfl
  ·exact h x hx
  ·exact hc
 ·exact h
theorem Xpl : ∀ (l : List Commit) {n : Nd}, (∀ x ∈ n.wait, P x) → (∀ x ∈ l, P x) → ∀ x ∈ (l.foldl Xdn n).wait, P x
 | [], n, h, _ => h
 | c :: l, n, h, hl => Xpl l (Xxb h (hl c (by simp))) (fun x hx => hl x (by simp [hx]))
theorem Xpm {n : Nd} {l : List Commit} (h : ∀ x ∈ n.wait, P x) (hl : ∀ x ∈ l, P x) : ∀ x ∈ (Xbu n l).wait, P x := by
 unfold Xbu
 split
 ·exact Xpl l h hl
 ·exact h
end
theorem Xs3 {n : Nd} {l : List Commit} (h : NdFew n) (hl : ∀ c ∈ l, fine c) : (∀ x ∈ (Xbu n l).l, fine x) ∧ (∀ x ∈ (Xbu n l).wait, fine x) ∧ (Xbu n l).disk.length ≤ 1048576 ∧ (Xbu n l).l.length + (Xbu n l).wait.length ≤ 800 + l.length := by
 unfold Xbu
 split
 ·rename_i hm
  have h1 : Xeb n = true := by simp only [Bool.and_eq_true] at hm; exact hm.1
  have h2 := Xvq (N := 800) (n := n) ⟨h.fl, h.fw, h.disk, (Xlf h1).1, h.len⟩ l hl
  exact ⟨h2.fl, h2.fw, h2.disk, h2.len⟩
 ·exact ⟨h.fl, h.fw, h.disk, by have := h.len; omega⟩
section
variable {w0 w : World} {F : Nat → Prop} {Γ : List Fact} {bh : Nat}
theorem Xs4 (n : Nd) (y : Na) (m : Mg) (z : Ma) (hn : NdFew n) (hL : m.commits.length ≤ 90) (hfc : ∀ c ∈ m.commits, fine c) (hq : ∀ x ∈ n.wait, x.parents.length ≤ 1000) (hqc : ∀ x ∈ m.commits, x.parents.length ≤ 1000) (ho : Hold w0 F (.own bh 112 (heC n y mg0 ma0 false) :: .st (sl y.d y.dk n.disk) :: .st (sl y.l y.lk n.l) :: .st (sl y.w y.wk n.wait) :: .st (sl y.p y.pk n.peers) :: .st (sl z.i z.ik m.ids) :: .st (sl z.c z.ck m.commits) :: Γ) w) :
  Calls prog 78 ⟨[.pointer (some ⟨bh, 0, none⟩), mgV m z]⟩ w fun x w' => ∃ q : Na × Ma, x = .returned (.tuple ⟨[]⟩) ∧ Hold w0 F ((fun q => .own bh 112 (heC (Xbu n m.commits) q.1 (Xcn (Xhk (Xbu n m.commits).wait (idsP (Xbu n m.commits).l))).1 q.2 (Xcn (Xhk (Xbu n m.commits).wait (idsP (Xbu n m.commits).l))).2) :: .st (sl q.2.i q.2.ik (Xcn (Xhk (Xbu n m.commits).wait (idsP (Xbu n m.commits).l))).1.ids) :: .st (sl q.2.c q.2.ck (Xcn (Xhk (Xbu n m.commits).wait (idsP (Xbu n m.commits).l))).1.commits) :: .st (sl q.1.d q.1.dk (Xbu n m.commits).disk) :: .st (sl q.1.l q.1.lk (Xbu n m.commits).l) :: .st (sl q.1.w q.1.wk (Xbu n m.commits).wait) :: .st (sl q.1.p q.1.pk (Xbu n m.commits).peers) :: Γ) q) w' := by
 refine Xb6 (v := fun q : Na × Ma => .tuple ⟨[]⟩) (B := fun q => .own bh 112 (heC (Xbu n m.commits) q.1 (Xcn (Xhk (Xbu n m.commits).wait (idsP (Xbu n m.commits).l))).1 q.2 (Xcn (Xhk (Xbu n m.commits).wait (idsP (Xbu n m.commits).l))).2) :: .st (sl q.2.i q.2.ik (Xcn (Xhk (Xbu n m.commits).wait (idsP (Xbu n m.commits).l))).1.ids) :: .st (sl q.2.c q.2.ck (Xcn (Xhk (Xbu n m.commits).wait (idsP (Xbu n m.commits).l))).1.commits) :: .st (sl q.1.d q.1.dk (Xbu n m.commits).disk) :: .st (sl q.1.l q.1.lk (Xbu n m.commits).l) :: .st (sl q.1.w q.1.wk (Xbu n m.commits).wait) :: .st (sl q.1.p q.1.pk (Xbu n m.commits).peers) :: Γ) func78 rfl ntmps78 rfl rfl _ ho ?_
 obtain ⟨hfl2, hfw2, hdk2, hln2⟩ := Xs3 hn hfc
 have hpw := Xhd (Xpm (P := fun x => x.parents.length ≤ 1000) (l := m.commits) hq hqc)
 rcases n with ⟨no, disk, room, l, wait, seq, up, peers, next, miss⟩
 rcases y with ⟨ad, kd, al, kl, aw, kw, ap, kp⟩
 rcases m with ⟨kind, ids, cs⟩
 rcases z with ⟨ai, ki, ac, kc⟩
 dsimp only [mgV, mgC, heC, mg0, ma0, List.length_nil] at *
 generalize hn2 : Xbu ⟨no, disk, room, l, wait, seq, up, peers, next, miss⟩ cs = n2 at hfl2 hfw2 hdk2 hln2 hpw
 (repeat (refine wE ?_; intro _)); refine wA ?_
 rename_i bm
 refine JC.drawP mixed ?_
 refine Xad 0 ?_
 refine Xad 1 ?_
 refine Xad 2 ?_
 refine Xad 3 ?_
 refine JP.tv 4 [.own bh 112 [.int .i64 no, .slice ad disk.length kd, .int .i64 room, .slice al l.length kl, .slice aw wait.length kw, .int .i64 seq, .bool up, .slice ap peers.length kp, .int .i64 next, .int .i64 miss, .int .i64 0, .slice none 0 0, .slice none 0 0, .bool false]] ?_
 refine Xad 5 ?_
 refine JP.tv 6 [.own bm 52 [.int .i64 kind, .slice ai ids.length ki, .slice ac cs.length kc]] ?_
 refine Xar 7 rfl rfl (JR.call (v := fun z : Na => ndV n2 z) (B := fun z => ndB n2 z) rfl (fun w1 hw => by rw [← hn2]; exact Xuj w1 _ ⟨no, disk, room, l, wait, seq, up, peers, next, miss⟩ ⟨ad, kd, al, kl, aw, kw, ap, kp⟩ cs ac kc hw.get hw.get hw.get hw.get hw.get hn (by omega) hfc) (fun z2 => Wd (nO ?_)))
 dsimp only [ndB, ndV, ndC, List.cons_append, List.nil_append]
 refine Xad 8 ?_
 refine Xad 9 ?_
 refine JP.reslot 13 (.pointer (some ⟨bh, 0, none⟩)) rfl ?_
 refine Xar 10 rfl rfl (Wi (Wd (nO ?_)))
 refine JP.nil (by kernel_rfl) ?_
 refine wz13 ?_
 refine JC.drawP mixed ?_
 refine Xad 0 ?_
 refine Xad 1 ?_
 refine Xad 2 ?_
 refine Xad 3 ?_
 refine Xad 4 ?_
 refine JP.tv 5 [.own bh 112 [.int .i64 n2.no, .slice z2.d n2.disk.length z2.dk, .int .i64 n2.room, .slice z2.l n2.l.length z2.lk, .slice z2.w n2.wait.length z2.wk, .int .i64 n2.seq, .bool n2.up, .slice z2.p n2.peers.length z2.pk, .int .i64 n2.next, .int .i64 n2.miss, .int .i64 0, .slice none 0 0, .slice none 0 0, .bool false]] ?_
 refine Xad 6 ?_
 refine Xad 7 ?_
 refine Xad 8 ?_
 refine Xad 9 ?_
 refine JP.tv 10 [.own bh 112 [.int .i64 n2.no, .slice z2.d n2.disk.length z2.dk, .int .i64 n2.room, .slice z2.l n2.l.length z2.lk, .slice z2.w n2.wait.length z2.wk, .int .i64 n2.seq, .bool n2.up, .slice z2.p n2.peers.length z2.pk, .int .i64 n2.next, .int .i64 n2.miss, .int .i64 0, .slice none 0 0, .slice none 0 0, .bool false]] ?_
 refine Xar 11 rfl rfl (JR.callBuf rfl (fun w1 hw => Xk9 w1 _ z2.l z2.lk n2.l hw.get (by omega) hfl2) (fun a4 k4 => Wd (nO ?_)))
 refine JP.more (fun w1 ho => ho.pub) ?_
 refine Xar 12 rfl rfl (JR.callBuf rfl (fun w1 hw => Xr6 w1 _ z2.w a4 z2.wk k4 n2.wait (idsP n2.l) hw.get hw.get (by have := Xuk n2.l; omega) (by omega) hfw2) (fun a5 k5 => Wd (nO ?_)))
 refine JP.more (fun w1 ho => ho.pub) ?_
 generalize hms : Xhk n2.wait (idsP n2.l) = ms
 refine JP.more (Γ' := .own bh 112 [.int .i64 n2.no, .slice z2.d n2.disk.length z2.dk, .int .i64 n2.room, .slice z2.l n2.l.length z2.lk, .slice z2.w n2.wait.length z2.wk, .int .i64 n2.seq, .bool n2.up, .slice z2.p n2.peers.length z2.pk, .int .i64 n2.next, .int .i64 n2.miss, .int .i64 0, .slice none 0 0, .slice none 0 0, .bool false] :: .st (sl a5 k5 ms) :: .st (sl z2.d z2.dk n2.disk) :: .st (sl z2.l z2.lk n2.l) :: .st (sl z2.w z2.wk n2.wait) :: .st (sl z2.p z2.pk n2.peers) :: Γ) (fun w1 ho => ho.ent) ?_
 refine Xar 13 rfl rfl (Xbk (v := fun q : Ma => .tuple ⟨[]⟩) (B := fun q => .own bh 112 (heC n2 z2 (Xcn ms).1 q (Xcn ms).2) :: .st (sl q.i q.ik (Xcn ms).1.ids) :: .st (sl q.c q.ck (Xcn ms).1.commits) :: .st (sl z2.d z2.dk n2.disk) :: .st (sl z2.l z2.lk n2.l) :: .st (sl z2.w z2.wk n2.wait) :: .st (sl z2.p z2.pk n2.peers) :: Γ) rfl (fun w1 hw => Xny n2 z2 ms a5 k5 (by have := X2u n2.wait (idsP n2.l); rw [hms] at this; omega) hw) (fun q => Wd (nO ?_)))
 refine JP.nil (by kernel_rfl) ?_
 skip
 exact Xep (z2, q) rfl (fun w ho => ho)
end
end
end
section
variable {P : Program} {n : Nn} {w0 : World} {F : Nat → Prop} {ops : Array Oper} {i d : Nat} {t : TypeId} {pos : String} {aft : Array Edge} {g : Option (Nat × Bool)} {os : List Oper} {Q : Cont} {e : E} {Γ : List Fact}
theorem Xn0 [Dr] {f : Operand} {args : Array Operand} {ats : Array TypeId} {fid : FuncId} {firsts vs us : List Value} {Y : Type} {v : Y → Value} {B : Y → List Fact}
  [hf : Ev e f (.func (.func fid) ⟨firsts⟩ ⟨[]⟩)] [hv : ArgVs e args.toList vs] [hu : App firsts vs us] [hb : Body P fid] (hd : Nat.blt d n.s = true)
  (hg : ∀ w, Hold w0 F Γ w → Calls P fid ⟨us⟩ w fun x w' => ∃ y, x = .returned (v y) ∧ Hold w0 F (B y) w') (k : ∀ y, JO P n w0 F ops (i + 1) os Q ((d, v y) :: e) (B y)) :
  JR P n w0 F ops i ⟨some d, .call ⟨.value f, args, ats⟩, t, pos, aft, g⟩ os Q e Γ := by
 intro hdr a w fr ho
 unfold Oper.wp
 have e1 := hf.ok n a fr
 have e2 : args.map a.eval = ⟨vs⟩ := by apply Array.ext'; simp [hv.ok n a fr]
 have e0 : (resolve a.eval ⟨.value f, args, ats⟩ t).run P w = .ok ⟨.fn (.func fid) ⟨[]⟩, (⟨firsts⟩ : Array Value) ++ args.map a.eval⟩ w := by
  simp [resolve, e1, Deferred.ofValue]
 have e3 : (⟨firsts⟩ : Array Value) ++ (⟨vs⟩ : Array Value) ++ (⟨[]⟩ : Array Value) = ⟨us⟩ := by apply Array.ext'; simp [← hu.ok]
 have e4 : (execOp a.eval ⟨some d, .call ⟨.value f, args, ats⟩, t, pos, aft, g⟩).run P w = .ok (.enter fid ⟨us⟩) w := by
  simp only [execOp, Sem.run_bind, e0, Result.andThen_ok, invoke, e2, e3, hb.ok]
 rw [e4]
 refine Calls.mono (hg w ho) ?_
 rintro x w' ⟨y, rfl, ho'⟩
 exact k y (Xef hdr).2 _ w' (fr.put hd _) ho'
end
section
attribute [local irreducible] JC JO JR JQ andThen inBlock OpV Gives Xan JM JS
section
attribute [local irreducible] Xay
theorem X4p {k : Int} {ids : List ID} {cs : List Commit} (h : Xhl ⟨k, ids, cs⟩ = true) (hk : k = 0 ∨ k = 1) : ids.length ≤ 16 := by
 unfold Xhl at h
 rw [if_pos hk] at h
 simp only [Bool.and_eq_true, decide_eq_true_eq] at h
 exact h.1.1
theorem X0u {k : Int} {ids : List ID} {cs : List Commit} (h : Xhl ⟨k, ids, cs⟩ = true) : k = 0 ∨ k = 1 ∨ k = 2 := by
 by_cases h0 : k = 0
 ·exact .inl h0
 by_cases h1 : k = 1
 ·exact .inr (.inl h1)
 by_cases h2 : k = 2
 ·exact .inr (.inr h2)
 unfold Xhl at h
 rw [if_neg (by rintro (h | h); exact h0 h; exact h1 h), if_neg h2] at h
 cases h
theorem Xii {n : Nd} {m : Mg} (h : (Xeb n && n.up && Xhl m) = false) : Xci n m = (n, mg0, false) := if_neg (by rw [h]; exact Bool.false_ne_true)
theorem Xn1 (n : Nd) (y : Na) (m : Mg) (z : Ma) (h1 : (sl y.d y.dk n.disk).holds F w) (h2 : (sl y.l y.lk n.l).holds F w) (h3 : (sl y.w y.wk n.wait).holds F w) (h4 : (sl y.p y.pk n.peers).holds F w) (h5 : (sl z.i z.ik m.ids).holds F w) (h6 : (sl z.c z.ck m.commits).holds F w)
  (hn : NdFew n) (hcl : m.commits.length ≤ 90) (hfc : ∀ c ∈ m.commits, fine c) (hq : ∀ x ∈ n.wait, x.parents.length ≤ 1000) (hqc : ∀ x ∈ m.commits, x.parents.length ≤ 1000) :
  Gives prog 31 [ndV n y, mgV m z] w F (fun q : Na × Ma => .tuple ⟨[ndV (Xci n m).1 q.1, mgV (Xci n m).2.1 q.2, .bool (Xci n m).2.2]⟩)
   (fun q => [.st (sl q.1.d q.1.dk (Xci n m).1.disk), .st (sl q.1.l q.1.lk (Xci n m).1.l), .st (sl q.1.w q.1.wk (Xci n m).1.wait), .st (sl q.1.p q.1.pk (Xci n m).1.peers), .st (sl q.2.i q.2.ik (Xci n m).2.1.ids), .st (sl q.2.c q.2.ck (Xci n m).2.1.commits)]) := by
 have hst := (Hold.start4 h1 h2 h3 h4).add (A := sl z.c z.ck m.commits) (Asn.mono _ _ _ _ (fun k hk => ⟨.inl hk, by simp [free, Fact.owns]⟩) h6)
 have hst := hst.add (A := sl z.i z.ik m.ids) (Asn.mono _ _ _ _ (fun k hk => ⟨.inl hk, by simp [free, Fact.owns]⟩) h5)
 have hn' := hn
 obtain ⟨no, disk, room, l, wait, seq, up, peers, next, miss⟩ := n
 obtain ⟨ad, kd, al, kl, aw, kw, ap, kp⟩ := y
 obtain ⟨kind, ids, cs⟩ := m
 obtain ⟨ai, ki, ac, kc⟩ := z
 dsimp only [ndV, ndC, mgV, mgC] at *
 refine Xaa func31 rfl ntmps31 rfl rfl _ hst ?_
 (repeat (refine wE ?_; intro _)); refine wA ?_
 rename_i bn bm b4 b5
 refine JR.call (v := fun z : Na => ndV ⟨no, disk, room, l, wait, seq, up, peers, next, miss⟩ z) (B := fun z => ndB ⟨no, disk, room, l, wait, seq, up, peers, next, miss⟩ z) rfl (fun w1 hw => Xpj w1 _ ⟨no, disk, room, l, wait, seq, up, peers, next, miss⟩ ⟨ad, kd, al, kl, aw, kw, ap, kp⟩ hw.get hw.get hw.get hw.get hn) ?_
 rintro ⟨ad2, kd2, al2, kl2, aw2, kw2, ap2, kp2⟩
 dsimp only [ndB, ndV, ndC, List.cons_append, List.nil_append]
 refine wz13 ?_
 refine Wf (OpV.build [.int .i64 no, .slice ad2 disk.length kd2, .int .i64 room, .slice al2 l.length kl2, .slice aw2 wait.length kw2, .int .i64 seq, .bool up, .slice ap2 peers.length kp2, .int .i64 next, .int .i64 miss, .int .i64 0, .slice none 0 0, .slice none 0 0, .bool false] (by kernel_rfl)) rfl ?_
 (repeat (refine wE ?_; intro _)); refine wA ?_
 rename_i bh
 refine JR.callV rfl (fun w1 hw => Xig w1 _ ⟨no, disk, room, l, wait, seq, up, peers, next, miss⟩ ⟨ad, kd, al, kl, aw, kw, ap, kp⟩ hw.get hw.get hw.get hn.fw) ?_
 cases hm : Xeb ⟨no, disk, room, l, wait, seq, up, peers, next, miss⟩ with
 | false =>
  have hx := hm
  rw [Xii (by rw [hx]; simp)]
  dsimp only [mg0, List.length_nil]
  refine wz8 ?_
  refine Wf OpV.nilCheck rfl ?_
  refine wz6 ?_
  refine Wf (OpV.build [.int .i64 0, .slice none 0 0, .slice none 0 0] (by kernel_rfl)) rfl ?_
  refine wz9 ?_
  exact CT.done (Y := Na × Ma) (⟨ad2, kd2, al2, kl2, aw2, kw2, ap2, kp2⟩, ⟨none, 0, none, 0⟩) rfl (fun w ho => ((ho.add (A := sl (α := Commit) none 0 []) Xah).add (A := sl (α := ID) none 0 []) Xah).ent)
 | true =>
 cases up with
 | false =>
  have hx := hm
  rw [Xii (by rw [hx]; simp)]
  dsimp only [mg0, List.length_nil]
  refine wz1 ?_
  refine Wf OpV.nilCheck rfl ?_
  refine wz6 ?_
  refine Wf (OpV.build [.int .i64 0, .slice none 0 0, .slice none 0 0] (by kernel_rfl)) rfl ?_
  refine wz9 ?_
  exact CT.done (Y := Na × Ma) (⟨ad2, kd2, al2, kl2, aw2, kw2, ap2, kp2⟩, ⟨none, 0, none, 0⟩) rfl (fun w ho => ((ho.add (A := sl (α := Commit) none 0 []) Xah).add (A := sl (α := ID) none 0 []) Xah).ent)
 | true =>
 refine wz1 ?_
 refine JR.callV rfl (fun w1 hw => X4o w1 _ ⟨kind, ids, cs⟩ ⟨ai, ki, ac, kc⟩ hw.get hw.get hfc) ?_
 cases hmm : Xhl ⟨kind, ids, cs⟩ with
 | false =>
  have hx := hmm
  rw [Xii (by rw [hx]; simp)]
  dsimp only [mg0, List.length_nil]
  refine wz8 ?_
  refine Wf OpV.nilCheck rfl ?_
  refine wz6 ?_
  refine Wf (OpV.build [.int .i64 0, .slice none 0 0, .slice none 0 0] (by kernel_rfl)) rfl ?_
  refine wz9 ?_
  exact CT.done (Y := Na × Ma) (⟨ad2, kd2, al2, kl2, aw2, kw2, ap2, kp2⟩, ⟨none, 0, none, 0⟩) rfl (fun w ho => ((ho.add (A := sl (α := Commit) none 0 []) Xah).add (A := sl (α := ID) none 0 []) Xah).ent)
 | true =>
 have hn1 : NdFew ⟨no, disk, room, l, wait, seq, true, peers, next, 0⟩ := ⟨hn'.fl, hn'.fw, hn'.disk, hn'.len, hn'.peers⟩
 refine wz7 ?_
 refine Wf OpV.nilCheck rfl ?_
 refine wz9 ?_
 refine JR.makeMap intV rfl ?_
 intro mk
 refine wA ?_
 refine JR.insert (M := []) (0 : Int) List.nodup_nil rfl ?_
 dsimp only [List.nil_append, List.length_cons, List.length_nil]
 refine wA ?_
 refine JR.insert (M := [((0 : Int), _)]) (1 : Int) (by show ([0] : List Int).Nodup; decide) rfl ?_
 dsimp only [List.nil_append, List.cons_append, List.length_cons, List.length_nil]
 refine wA ?_
 refine JR.insert (M := [((0 : Int), _), ((1 : Int), _)]) (2 : Int) (by show ([0, 1] : List Int).Nodup; decide) rfl ?_
 dsimp only [List.nil_append, List.cons_append, List.length_cons, List.length_nil]
 refine wz6 ?_
 rcases X0u hmm with hk | hk | hk
 ·obtain rfl : kind = 0 := hk
  refine Wf (Xcp (M := [((0 : Int), .func (.func 76) ⟨[.pointer (some ⟨bh, 0, none⟩)]⟩ ⟨[]⟩), ((1 : Int), .func (.func 77) ⟨[.pointer (some ⟨bh, 0, none⟩)]⟩ ⟨[]⟩), ((2 : Int), .func (.func 78) ⟨[.pointer (some ⟨bh, 0, none⟩)]⟩ ⟨[]⟩)]) (v := .func (.func 76) ⟨[.pointer (some ⟨bh, 0, none⟩)]⟩ ⟨[]⟩) (0 : Int) (by show ([0, 1, 2] : List Int).Nodup; decide) rfl) rfl ?_
  refine wz9 ?_
  have e9 : Xci ⟨no, disk, room, l, wait, seq, true, peers, next, miss⟩ ⟨0, ids, cs⟩ = (⟨no, disk, room, l, wait, seq, true, peers, next, 0⟩, Xco l ids) := by unfold Xci; rw [hm, hmm]; rfl
  rw [e9]
  generalize hD : Xco l ids = D
  refine JR.more (Γ' := .own bh 112 [.int .i64 no, .slice ad2 disk.length kd2, .int .i64 room, .slice al2 l.length kl2, .slice aw2 wait.length kw2, .int .i64 seq, .bool true, .slice ap2 peers.length kp2, .int .i64 next, .int .i64 0, .int .i64 0, .slice none 0 0, .slice none 0 0, .bool false] :: .st (sl ad2 kd2 disk) :: .st (sl al2 kl2 l) :: .st (sl aw2 kw2 wait) :: .st (sl ap2 kp2 peers) :: .st (sl ai ki ids) :: .st (sl ac kc cs) :: [.own b4 50 [.int .i64 0, .slice none 0 0, .int .i64 0, .slice none 0 0, .slice none 0 0, .int .i64 0, .bool false, .slice none 0 0, .int .i64 0, .int .i64 0], .own b5 52 [.int .i64 0, .slice none 0 0, .slice none 0 0]]) (fun w1 ho => ho.ent) ?_
  refine Xn0 (v := fun _ => .tuple ⟨[]⟩) (B := fun q : Ma => .own bh 112 (heC ⟨no, disk, room, l, wait, seq, true, peers, next, 0⟩ ⟨ad2, kd2, al2, kl2, aw2, kw2, ap2, kp2⟩ D.1 q D.2) :: .st (sl q.i q.ik D.1.ids) :: .st (sl q.c q.ck D.1.commits) :: .st (sl ad2 kd2 disk) :: .st (sl al2 kl2 l) :: .st (sl aw2 kw2 wait) :: .st (sl ap2 kp2 peers) :: [.own b4 50 [.int .i64 0, .slice none 0 0, .int .i64 0, .slice none 0 0, .slice none 0 0, .int .i64 0, .bool false, .slice none 0 0, .int .i64 0, .int .i64 0], .own b5 52 [.int .i64 0, .slice none 0 0, .slice none 0 0]]) rfl (fun w1 hw => by have h9 := Xqu ⟨no, disk, room, l, wait, seq, true, peers, next, 0⟩ ⟨ad2, kd2, al2, kl2, aw2, kw2, ap2, kp2⟩ ⟨0, ids, cs⟩ ⟨ai, ki, ac, kc⟩ hn1 (by have := X4p hmm (.inl rfl); show ids.length ≤ 1000; omega) hw; rw [hD] at h9; exact h9) ?_
  intro q
  refine wz10 ?_
  refine JC.drawP mixed ?_
  refine Xad 0 ?_
  refine Xad 1 ?_
  refine Xad 2 ?_
  refine JP.tv 3 [.own bh 112 [.int .i64 no, .slice ad2 disk.length kd2, .int .i64 room, .slice al2 l.length kl2, .slice aw2 wait.length kw2, .int .i64 seq, .bool true, .slice ap2 peers.length kp2, .int .i64 next, .int .i64 0, .int .i64 D.1.kind, .slice q.i D.1.ids.length q.ik, .slice q.c D.1.commits.length q.ck, .bool D.2]] ?_
  refine Xad 4 ?_
  refine Xad 5 ?_
  refine Xad 6 ?_
  refine JP.tv 7 [.own bh 112 [.int .i64 no, .slice ad2 disk.length kd2, .int .i64 room, .slice al2 l.length kl2, .slice aw2 wait.length kw2, .int .i64 seq, .bool true, .slice ap2 peers.length kp2, .int .i64 next, .int .i64 0, .int .i64 D.1.kind, .slice q.i D.1.ids.length q.ik, .slice q.c D.1.commits.length q.ck, .bool D.2]] ?_
  refine Xad 8 ?_
  refine Xad 9 ?_
  refine Xad 10 ?_
  refine JP.tv 11 [.own bh 112 [.int .i64 no, .slice ad2 disk.length kd2, .int .i64 room, .slice al2 l.length kl2, .slice aw2 wait.length kw2, .int .i64 seq, .bool true, .slice ap2 peers.length kp2, .int .i64 next, .int .i64 0, .int .i64 D.1.kind, .slice q.i D.1.ids.length q.ik, .slice q.c D.1.commits.length q.ck, .bool D.2]] ?_
  refine Xar 12 rfl rfl (Wi (Wd (nO ?_)))
  refine Xar 13 rfl rfl (Wi (Wd (nO ?_)))
  refine Xad 14 ?_
  refine JP.nil (by kernel_rfl) ?_
  refine wz13 ?_
  exact Xab (Y := Na × Ma) (⟨ad2, kd2, al2, kl2, aw2, kw2, ap2, kp2⟩, q) rfl
 ·obtain rfl : kind = 1 := hk
  refine Wf (Xcp (M := [((0 : Int), .func (.func 76) ⟨[.pointer (some ⟨bh, 0, none⟩)]⟩ ⟨[]⟩), ((1 : Int), .func (.func 77) ⟨[.pointer (some ⟨bh, 0, none⟩)]⟩ ⟨[]⟩), ((2 : Int), .func (.func 78) ⟨[.pointer (some ⟨bh, 0, none⟩)]⟩ ⟨[]⟩)]) (v := .func (.func 77) ⟨[.pointer (some ⟨bh, 0, none⟩)]⟩ ⟨[]⟩) (1 : Int) (by show ([0, 1, 2] : List Int).Nodup; decide) rfl) rfl ?_
  refine wz9 ?_
  have e9 : Xci ⟨no, disk, room, l, wait, seq, true, peers, next, miss⟩ ⟨1, ids, cs⟩ = (⟨no, disk, room, l, wait, seq, true, peers, next, 0⟩, Xch (partF (Xcy l) ids)) := by unfold Xci; rw [hm, hmm]; rfl
  rw [e9]
  generalize hD : Xch (partF (Xcy l) ids) = D
  refine JR.more (Γ' := .own bh 112 [.int .i64 no, .slice ad2 disk.length kd2, .int .i64 room, .slice al2 l.length kl2, .slice aw2 wait.length kw2, .int .i64 seq, .bool true, .slice ap2 peers.length kp2, .int .i64 next, .int .i64 0, .int .i64 0, .slice none 0 0, .slice none 0 0, .bool false] :: .st (sl ad2 kd2 disk) :: .st (sl al2 kl2 l) :: .st (sl aw2 kw2 wait) :: .st (sl ap2 kp2 peers) :: .st (sl ai ki ids) :: .st (sl ac kc cs) :: [.own b4 50 [.int .i64 0, .slice none 0 0, .int .i64 0, .slice none 0 0, .slice none 0 0, .int .i64 0, .bool false, .slice none 0 0, .int .i64 0, .int .i64 0], .own b5 52 [.int .i64 0, .slice none 0 0, .slice none 0 0]]) (fun w1 ho => ho.ent) ?_
  refine Xn0 (v := fun _ => .tuple ⟨[]⟩) (B := fun q : Ma => .own bh 112 (heC ⟨no, disk, room, l, wait, seq, true, peers, next, 0⟩ ⟨ad2, kd2, al2, kl2, aw2, kw2, ap2, kp2⟩ D.1 q D.2) :: .st (sl q.i q.ik D.1.ids) :: .st (sl q.c q.ck D.1.commits) :: .st (sl ad2 kd2 disk) :: .st (sl al2 kl2 l) :: .st (sl aw2 kw2 wait) :: .st (sl ap2 kp2 peers) :: [.own b4 50 [.int .i64 0, .slice none 0 0, .int .i64 0, .slice none 0 0, .slice none 0 0, .int .i64 0, .bool false, .slice none 0 0, .int .i64 0, .int .i64 0], .own b5 52 [.int .i64 0, .slice none 0 0, .slice none 0 0]]) rfl (fun w1 hw => by have h9 := Xqt ⟨no, disk, room, l, wait, seq, true, peers, next, 0⟩ ⟨ad2, kd2, al2, kl2, aw2, kw2, ap2, kp2⟩ ⟨1, ids, cs⟩ ⟨ai, ki, ac, kc⟩ hn1 (by have := X4p hmm (.inr rfl); show ids.length ≤ 1000; omega) hw; rw [hD] at h9; exact h9) ?_
  intro q
  refine wz10 ?_
  refine JC.drawP mixed ?_
  refine Xad 0 ?_
  refine Xad 1 ?_
  refine Xad 2 ?_
  refine JP.tv 3 [.own bh 112 [.int .i64 no, .slice ad2 disk.length kd2, .int .i64 room, .slice al2 l.length kl2, .slice aw2 wait.length kw2, .int .i64 seq, .bool true, .slice ap2 peers.length kp2, .int .i64 next, .int .i64 0, .int .i64 D.1.kind, .slice q.i D.1.ids.length q.ik, .slice q.c D.1.commits.length q.ck, .bool D.2]] ?_
  refine Xad 4 ?_
  refine Xad 5 ?_
  refine Xad 6 ?_
  refine JP.tv 7 [.own bh 112 [.int .i64 no, .slice ad2 disk.length kd2, .int .i64 room, .slice al2 l.length kl2, .slice aw2 wait.length kw2, .int .i64 seq, .bool true, .slice ap2 peers.length kp2, .int .i64 next, .int .i64 0, .int .i64 D.1.kind, .slice q.i D.1.ids.length q.ik, .slice q.c D.1.commits.length q.ck, .bool D.2]] ?_
  refine Xad 8 ?_
  refine Xad 9 ?_
  refine Xad 10 ?_
  refine JP.tv 11 [.own bh 112 [.int .i64 no, .slice ad2 disk.length kd2, .int .i64 room, .slice al2 l.length kl2, .slice aw2 wait.length kw2, .int .i64 seq, .bool true, .slice ap2 peers.length kp2, .int .i64 next, .int .i64 0, .int .i64 D.1.kind, .slice q.i D.1.ids.length q.ik, .slice q.c D.1.commits.length q.ck, .bool D.2]] ?_
  refine Xar 12 rfl rfl (Wi (Wd (nO ?_)))
  refine Xar 13 rfl rfl (Wi (Wd (nO ?_)))
  refine Xad 14 ?_
  refine JP.nil (by kernel_rfl) ?_
  refine wz13 ?_
  exact Xab (Y := Na × Ma) (⟨ad2, kd2, al2, kl2, aw2, kw2, ap2, kp2⟩, q) rfl
 ·obtain rfl : kind = 2 := hk
  refine Wf (Xcp (M := [((0 : Int), .func (.func 76) ⟨[.pointer (some ⟨bh, 0, none⟩)]⟩ ⟨[]⟩), ((1 : Int), .func (.func 77) ⟨[.pointer (some ⟨bh, 0, none⟩)]⟩ ⟨[]⟩), ((2 : Int), .func (.func 78) ⟨[.pointer (some ⟨bh, 0, none⟩)]⟩ ⟨[]⟩)]) (v := .func (.func 78) ⟨[.pointer (some ⟨bh, 0, none⟩)]⟩ ⟨[]⟩) (2 : Int) (by show ([0, 1, 2] : List Int).Nodup; decide) rfl) rfl ?_
  refine wz9 ?_
  have e9 : Xci ⟨no, disk, room, l, wait, seq, true, peers, next, miss⟩ ⟨2, ids, cs⟩ = (Xbu ⟨no, disk, room, l, wait, seq, true, peers, next, 0⟩ cs, Xcn (Xhk (Xbu ⟨no, disk, room, l, wait, seq, true, peers, next, 0⟩ cs).wait (idsP (Xbu ⟨no, disk, room, l, wait, seq, true, peers, next, 0⟩ cs).l))) := by unfold Xci; rw [hm, hmm]; rfl
  rw [e9]
  generalize hn2 : Xbu ⟨no, disk, room, l, wait, seq, true, peers, next, 0⟩ cs = n2
  generalize hD : Xcn (Xhk n2.wait (idsP n2.l)) = D
  refine JR.more (Γ' := .own bh 112 [.int .i64 no, .slice ad2 disk.length kd2, .int .i64 room, .slice al2 l.length kl2, .slice aw2 wait.length kw2, .int .i64 seq, .bool true, .slice ap2 peers.length kp2, .int .i64 next, .int .i64 0, .int .i64 0, .slice none 0 0, .slice none 0 0, .bool false] :: .st (sl ad2 kd2 disk) :: .st (sl al2 kl2 l) :: .st (sl aw2 kw2 wait) :: .st (sl ap2 kp2 peers) :: .st (sl ai ki ids) :: .st (sl ac kc cs) :: [.own b4 50 [.int .i64 0, .slice none 0 0, .int .i64 0, .slice none 0 0, .slice none 0 0, .int .i64 0, .bool false, .slice none 0 0, .int .i64 0, .int .i64 0], .own b5 52 [.int .i64 0, .slice none 0 0, .slice none 0 0]]) (fun w1 ho => ho.ent) ?_
  refine Xn0 (v := fun _ => .tuple ⟨[]⟩) (B := fun q : Na × Ma => .own bh 112 (heC n2 q.1 D.1 q.2 D.2) :: .st (sl q.2.i q.2.ik D.1.ids) :: .st (sl q.2.c q.2.ck D.1.commits) :: .st (sl q.1.d q.1.dk n2.disk) :: .st (sl q.1.l q.1.lk n2.l) :: .st (sl q.1.w q.1.wk n2.wait) :: .st (sl q.1.p q.1.pk n2.peers) :: [.own b4 50 [.int .i64 0, .slice none 0 0, .int .i64 0, .slice none 0 0, .slice none 0 0, .int .i64 0, .bool false, .slice none 0 0, .int .i64 0, .int .i64 0], .own b5 52 [.int .i64 0, .slice none 0 0, .slice none 0 0]]) rfl (fun w1 hw => by have h9 := Xs4 ⟨no, disk, room, l, wait, seq, true, peers, next, 0⟩ ⟨ad2, kd2, al2, kl2, aw2, kw2, ap2, kp2⟩ ⟨2, ids, cs⟩ ⟨ai, ki, ac, kc⟩ hn1 hcl hfc hq hqc hw; dsimp only at h9; rw [hn2, hD] at h9; exact h9) ?_
  intro q
  refine wz10 ?_
  refine JC.drawP mixed ?_
  refine Xad 0 ?_
  refine Xad 1 ?_
  refine Xad 2 ?_
  refine JP.tv 3 [.own bh 112 [.int .i64 n2.no, .slice q.1.d n2.disk.length q.1.dk, .int .i64 n2.room, .slice q.1.l n2.l.length q.1.lk, .slice q.1.w n2.wait.length q.1.wk, .int .i64 n2.seq, .bool n2.up, .slice q.1.p n2.peers.length q.1.pk, .int .i64 n2.next, .int .i64 n2.miss, .int .i64 D.1.kind, .slice q.2.i D.1.ids.length q.2.ik, .slice q.2.c D.1.commits.length q.2.ck, .bool D.2]] ?_
  refine Xad 4 ?_
  refine Xad 5 ?_
  refine Xad 6 ?_
  refine JP.tv 7 [.own bh 112 [.int .i64 n2.no, .slice q.1.d n2.disk.length q.1.dk, .int .i64 n2.room, .slice q.1.l n2.l.length q.1.lk, .slice q.1.w n2.wait.length q.1.wk, .int .i64 n2.seq, .bool n2.up, .slice q.1.p n2.peers.length q.1.pk, .int .i64 n2.next, .int .i64 n2.miss, .int .i64 D.1.kind, .slice q.2.i D.1.ids.length q.2.ik, .slice q.2.c D.1.commits.length q.2.ck, .bool D.2]] ?_
  refine Xad 8 ?_
  refine Xad 9 ?_
  refine Xad 10 ?_
  refine JP.tv 11 [.own bh 112 [.int .i64 n2.no, .slice q.1.d n2.disk.length q.1.dk, .int .i64 n2.room, .slice q.1.l n2.l.length q.1.lk, .slice q.1.w n2.wait.length q.1.wk, .int .i64 n2.seq, .bool n2.up, .slice q.1.p n2.peers.length q.1.pk, .int .i64 n2.next, .int .i64 n2.miss, .int .i64 D.1.kind, .slice q.2.i D.1.ids.length q.2.ik, .slice q.2.c D.1.commits.length q.2.ck, .bool D.2]] ?_
  refine Xar 12 rfl rfl (Wi (Wd (nO ?_)))
  refine Xar 13 rfl rfl (Wi (Wd (nO ?_)))
  refine Xad 14 ?_
  refine JP.nil (by kernel_rfl) ?_
  refine wz13 ?_
  exact Xab (Y := Na × Ma) q rfl
noncomputable def tickW (n : Nd) (now : Int) (x : UInt32) : Nd × Int × Mg × Bool × UInt32 :=
 if (Xc6 n).2 = 0 ∧ n.next ≤ now ∧ n.peers ≠ [] then
  ({ n with next := now + Xin n.miss, miss := IntKind.i64.wrap (min n.miss 5 + 1) }, n.peers.getD ((Xhm x).toNat % n.peers.length) 0, (Xc6 n).1, true, Xhm x)
 else (n, 0, mg0, false, x)
theorem Xij {n : Nd} {now : Int} {x : UInt32} (h : ¬ ((Xc6 n).2 = 0 ∧ n.next ≤ now ∧ n.peers ≠ [])) : tickW n now x = (n, 0, mg0, false, x) := if_neg h
theorem Xvs (m : Int) : 1 ≤ Xin m ∧ Xin m ≤ 64 := by
 unfold Xin
 have h1 : (min (max m 0) 6).toNat ≤ 6 := by omega
 generalize (min (max m 0) 6).toNat = k at h1
 have h3 : k = 0 ∨ k = 1 ∨ k = 2 ∨ k = 3 ∨ k = 4 ∨ k = 5 ∨ k = 6 := by omega
 rcases h3 with rfl | rfl | rfl | rfl | rfl | rfl | rfl <;> decide
theorem Xn2 (n : Nd) (y : Na) (now : Int) (x : UInt32) (h1 : (sl y.d y.dk n.disk).holds F w) (h2 : (sl y.l y.lk n.l).holds F w) (h3 : (sl y.w y.wk n.wait).holds F w) (h4 : (sl y.p y.pk n.peers).holds F w)
  (hn : NdFew n) (hnow : -4611686018427387904 ≤ now ∧ now ≤ 4611686018427387904) :
  Gives prog 37 [ndV n y, .int .i64 now, w32 x] w F (fun q : Na × Ma => .tuple ⟨[ndV (tickW n now x).1 q.1, .int .i64 (tickW n now x).2.1, mgV (tickW n now x).2.2.1 q.2, .bool (tickW n now x).2.2.2.1, w32 (tickW n now x).2.2.2.2]⟩)
   (fun q => [.st (sl q.1.d q.1.dk (tickW n now x).1.disk), .st (sl q.1.l q.1.lk (tickW n now x).1.l), .st (sl q.1.w q.1.wk (tickW n now x).1.wait), .st (sl q.1.p q.1.pk (tickW n now x).1.peers), .st (sl q.2.i q.2.ik (tickW n now x).2.2.1.ids), .st (sl q.2.c q.2.ck (tickW n now x).2.2.1.commits)]) := by
 have hn' := hn
 obtain ⟨no, disk, room, l, wait, seq, up, peers, next, miss⟩ := n
 obtain ⟨ad, kd, al, kl, aw, kw, ap, kp⟩ := y
 have hpl : peers.length ≤ 1000 := hn.peers
 dsimp only [ndV, ndC] at *
 refine Xaa func37 rfl ntmps37 rfl rfl [.st (sl ad kd disk), .st (sl al kl l), .st (sl aw kw wait), .st (sl ap kp peers)] (.start4 h1 h2 h3 h4) ?_
 (repeat (refine wE ?_; intro _)); refine wA ?_
 rename_i bn b6 b8
 refine JR.call (v := fun z : Na => ndV ⟨no, disk, room, l, wait, seq, up, peers, next, miss⟩ z) (B := fun z => ndB ⟨no, disk, room, l, wait, seq, up, peers, next, miss⟩ z) rfl (fun w1 hw => Xpj w1 _ ⟨no, disk, room, l, wait, seq, up, peers, next, miss⟩ ⟨ad, kd, al, kl, aw, kw, ap, kp⟩ hw.get hw.get hw.get hw.get hn) ?_
 rintro ⟨ad2, kd2, al2, kl2, aw2, kw2, ap2, kp2⟩
 dsimp only [ndB, ndV, ndC, List.cons_append, List.nil_append]
 refine wz9 ?_
 generalize hT : Xc6 ⟨no, disk, room, l, wait, seq, up, peers, next, miss⟩ = T
 refine JR.call (v := fun z : Ma => .tuple ⟨[mgV T.1 z, .int .i64 T.2]⟩) (B := fun z => mgB T.1 z) rfl (fun w1 hw => by rw [← hT]; exact Xjg w1 _ ⟨no, disk, room, l, wait, seq, up, peers, next, miss⟩ ⟨ad2, kd2, al2, kl2, aw2, kw2, ap2, kp2⟩ hw.get hw.get hw.get hn) ?_
 intro z
 dsimp only [mgB, mgV, mgC, List.cons_append, List.nil_append]
 (repeat (refine wE ?_; intro _)); refine wA ?_
 rename_i b11
 by_cases hT2 : T.2 = 0
 case neg =>
  have hx : ¬ ((Xc6 ⟨no, disk, room, l, wait, seq, up, peers, next, miss⟩).2 = 0 ∧ next ≤ now ∧ peers ≠ []) := by rw [hT]; rintro ⟨h, _⟩; exact hT2 h
  refine JO.reslot 24 (.bool true) (by congr 1; exact decide_eq_true hT2) ?_
  rw [Xij hx]
  dsimp only [mg0, List.length_nil]
  refine wz1 ?_
  refine Wf (OpV.build [.int .i64 0, .slice none 0 0, .slice none 0 0] (by kernel_rfl)) rfl ?_
  refine wz9 ?_
  exact CT.done (Y := Na × Ma) (⟨ad2, kd2, al2, kl2, aw2, kw2, ap2, kp2⟩, ⟨none, 0, none, 0⟩) rfl (fun w ho => ((ho.add (A := sl (α := Commit) none 0 []) Xah).add (A := sl (α := ID) none 0 []) Xah).ent)
 refine JO.reslot 24 (.bool false) (by congr 1; exact decide_eq_false (fun h => h hT2)) ?_
 refine wz11 ?_
 by_cases hnx : next ≤ now
 case neg =>
  have hx : ¬ ((Xc6 ⟨no, disk, room, l, wait, seq, up, peers, next, miss⟩).2 = 0 ∧ next ≤ now ∧ peers ≠ []) := by rintro ⟨_, h, _⟩; exact hnx h
  refine JO.reslot 30 (.bool true) (by congr 1; exact decide_eq_true (by omega)) ?_
  rw [Xij hx]
  dsimp only [mg0, List.length_nil]
  refine wz1 ?_
  refine Wf (OpV.build [.int .i64 0, .slice none 0 0, .slice none 0 0] (by kernel_rfl)) rfl ?_
  refine wz9 ?_
  exact CT.done (Y := Na × Ma) (⟨ad2, kd2, al2, kl2, aw2, kw2, ap2, kp2⟩, ⟨none, 0, none, 0⟩) rfl (fun w ho => ((ho.add (A := sl (α := Commit) none 0 []) Xah).add (A := sl (α := ID) none 0 []) Xah).ent)
 refine JO.reslot 30 (.bool false) (by congr 1; exact decide_eq_false (by omega)) ?_
 refine wz11 ?_
 refine JC.test (fun hp => ?_) (fun hp => ?_)
 ·have hx : ¬ ((Xc6 ⟨no, disk, room, l, wait, seq, up, peers, next, miss⟩).2 = 0 ∧ next ≤ now ∧ peers ≠ []) := by
   rintro ⟨_, _, h⟩
   exact h (List.eq_nil_of_length_eq_zero (by omega))
  rw [Xij hx]
  dsimp only [mg0, List.length_nil]
  refine wz9 ?_
  refine Wf (OpV.build [.int .i64 0, .slice none 0 0, .slice none 0 0] (by kernel_rfl)) rfl ?_
  refine wz9 ?_
  exact CT.done (Y := Na × Ma) (⟨ad2, kd2, al2, kl2, aw2, kw2, ap2, kp2⟩, ⟨none, 0, none, 0⟩) rfl (fun w ho => ((ho.add (A := sl (α := Commit) none 0 []) Xah).add (A := sl (α := ID) none 0 []) Xah).ent)
 have hpn : peers ≠ [] := by rintro rfl; exact hp rfl
 have e1 : tickW ⟨no, disk, room, l, wait, seq, up, peers, next, miss⟩ now x = (⟨no, disk, room, l, wait, seq, up, peers, now + Xin miss, IntKind.i64.wrap (min miss 5 + 1)⟩, peers.getD ((Xhm x).toNat % peers.length) 0, T.1, true, Xhm x) := by
  unfold tickW
  rw [hT, if_pos ⟨hT2, hnx, hpn⟩]
 rw [e1]
 have hwx := Xvs miss
 refine wz14 ?_
 refine JR.callV rfl (fun w1 hw => X0o w1 _ x) ?_
 refine wz9 ?_
 refine JR.callV rfl (fun w1 hw => X0p w1 _ ap2 kp2 peers (Xhm x) hw.get hpl hpn) ?_
 refine wz4 ?_
 refine JC.drawP mixed ?_
 refine Xad 0 ?_
 refine Xad 1 ?_
 refine JP.tv 2 [.own bn 50 [.int .i64 no, .slice ad2 disk.length kd2, .int .i64 room, .slice al2 l.length kl2, .slice aw2 wait.length kw2, .int .i64 seq, .bool up, .slice ap2 peers.length kp2, .int .i64 next, .int .i64 miss]] ?_
 refine Xad 5 ?_
 refine JP.tv 6 [.own bn 50 [.int .i64 no, .slice ad2 disk.length kd2, .int .i64 room, .slice al2 l.length kl2, .slice aw2 wait.length kw2, .int .i64 seq, .bool up, .slice ap2 peers.length kp2, .int .i64 next, .int .i64 miss]] ?_
 refine JP.pure 7 rfl (by kernel_rfl) rfl (fun _ => OpV.min) rfl rfl ?_
 refine JP.pure 8 rfl (by kernel_rfl) rfl (fun _ => Xgs) rfl rfl ?_
 refine Xar 3 rfl rfl (JR.callV rfl (fun w1 hw => X0q w1 _ miss) (Wd (nO ?_)))
 refine JP.pure 4 rfl (by kernel_rfl) rfl (fun _ => Vt (by omega)) rfl rfl ?_
 refine Xad 9 ?_
 refine JP.reslot 57 (.pointer (some ⟨bn, 8, none⟩)) rfl ?_
 refine Xar 10 rfl rfl (Wi (Wd (nO ?_)))
 refine Xad 11 ?_
 refine JP.reslot 58 (.pointer (some ⟨bn, 9, none⟩)) rfl ?_
 refine Xar 12 rfl rfl (Wi (Wd (nO ?_)))
 refine JP.nil (by kernel_rfl) ?_
 refine wz14 ?_
 refine JC.drawP mixed ?_
 refine JP.tv 0 [.own bn 50 [.int .i64 no, .slice ad2 disk.length kd2, .int .i64 room, .slice al2 l.length kl2, .slice aw2 wait.length kw2, .int .i64 seq, .bool up, .slice ap2 peers.length kp2, .int .i64 (now + Xin miss), .int .i64 (IntKind.i64.wrap (min miss 5 + 1))]] ?_
 refine Xad 1 ?_
 refine JP.tv 2 [.own b11 52 [.int .i64 T.1.kind, .slice z.i T.1.ids.length z.ik, .slice z.c T.1.commits.length z.ck]] ?_
 refine Xad 3 ?_
 refine Xar 4 rfl rfl (Wi (Wd (nO ?_)))
 refine Xad 5 ?_
 refine Xar 6 rfl rfl (Wi (Wd (nO ?_)))
 refine Xad 7 ?_
 refine Xad 8 ?_
 refine JP.nil (by kernel_rfl) ?_
 refine wz13 ?_
 exact Xab (Y := Na × Ma) (⟨ad2, kd2, al2, kl2, aw2, kw2, ap2, kp2⟩, z) rfl
def Xqv (n : Nd) : Bool := fewL n.l 8 && fewL n.wait 10 && decide (n.disk.length ≤ 1200) && decide (n.peers.length ≤ 20)
def X0v (m : Mg) : Bool := fewL m.commits 10 && decide (m.ids.length ≤ 30)
structure NdSmall (n : Nd) : Prop where
 few : NdFew n
 l : n.l.length ≤ 8
 wait : n.wait.length ≤ 10
 disk : n.disk.length ≤ 1200
 peers : n.peers.length ≤ 20
 ql : ∀ x ∈ n.l, x.parents.length ≤ 1000
 qw : ∀ x ∈ n.wait, x.parents.length ≤ 1000
theorem Xh5 {L : List Commit} {m : Nat} (h : fewL L m = true) : ∀ x ∈ L, x.parents.length ≤ 1000 := by
 simp only [fewL, Bool.and_eq_true, decide_eq_true_eq, List.all_eq_true] at h
 intro x hx
 have := h.2 x hx
 simp only [fewC, Bool.and_eq_true, decide_eq_true_eq] at this
 omega
theorem Xn3 {n : Nd} (h : Xqv n = true) : NdSmall n := by
 simp only [Xqv, Bool.and_eq_true, decide_eq_true_eq] at h
 obtain ⟨⟨⟨h1, h2⟩, h3⟩, h4⟩ := h
 obtain ⟨a1, a2⟩ := Xl8 h1
 obtain ⟨b1, b2⟩ := Xl8 h2
 exact ⟨⟨a2, b2, by omega, by omega, by omega⟩, a1, b1, h3, h4, Xh5 h1, Xh5 h2⟩
theorem Xvt (n : Nd) (y : Na) (h2 : (sl y.l y.lk n.l).holds F w) (h3 : (sl y.w y.wk n.wait).holds F w) (hd : n.disk.length < 9223372036854775807) (hp : n.peers.length < 9223372036854775807) :
  GivesV prog 29 [ndV n y] w F (.bool (Xqv n)) := by
 obtain ⟨no, disk, room, l, wait, seq, up, peers, next, miss⟩ := n
 obtain ⟨ad, kd, al, kl, aw, kw, ap, kp⟩ := y
 dsimp only [ndV, ndC] at *
 refine Xaa func29 rfl ntmps29 rfl rfl [.st (sl al kl l), .st (sl aw kw wait)] (.start2 h2 h3) ?_
 (repeat (refine wE ?_; intro _)); refine wA ?_
 refine JR.callV rfl (fun w1 hw => Xt0 w1 _ al kl l 8 hw.get) ?_
 refine wz9 ?_
 refine JR.callV rfl (fun w1 hw => Xt0 w1 _ aw kw wait 10 hw.get) ?_
 cases hf1 : fewL l 8 with
 | false =>
  refine wz8 ?_
  refine Xab () ?_
  simp only [Xae]
  unfold Xqv; rw [hf1]; rfl
 | true =>
 cases hf2 : fewL wait 10 with
 | false =>
  refine wz8 ?_
  refine Xab () ?_
  simp only [Xae]
  unfold Xqv; rw [hf1, hf2]; rfl
 | true =>
 refine wX ?_
 refine JO.test 21 (fun h4 => ?_) (fun h4 => ?_)
 ·have h4' : disk.length ≤ 1200 := by omega
  refine wX ?_
  refine Xab () ?_
  simp only [Xae]
  unfold Xqv
  rw [hf1, hf2, decide_eq_true h4']
  congr 1
  exact decide_eq_decide.2 (by show _ ↔ peers.length ≤ 20; omega)
 ·have h4' : ¬ disk.length ≤ 1200 := by omega
  refine wz8 ?_
  refine Xab () ?_
  simp only [Xae]
  unfold Xqv
  rw [hf1, hf2, decide_eq_false h4']; rfl
theorem X4q (m : Mg) (z : Ma) (h2 : (sl z.c z.ck m.commits).holds F w) (hi : m.ids.length < 9223372036854775807) :
  GivesV prog 30 [mgV m z] w F (.bool (X0v m)) := by
 obtain ⟨kind, ids, cs⟩ := m
 obtain ⟨ai, ki, ac, kc⟩ := z
 dsimp only [mgV, mgC] at *
 refine Xaa func30 rfl ntmps30 rfl rfl [.st (sl ac kc cs)] (.start1 h2) ?_
 (repeat (refine wE ?_; intro _)); refine wA ?_
 refine JR.callV rfl (fun w1 hw => Xt0 w1 _ ac kc cs 10 hw.get) ?_
 cases hf1 : fewL cs 10 with
 | false =>
  refine wz8 ?_
  refine Xab () ?_
  simp only [Xae]
  unfold X0v; rw [hf1]; rfl
 | true =>
  refine wX ?_
  refine Xab () ?_
  simp only [Xae]
  unfold X0v; rw [hf1]
  congr 1
  rw [Bool.true_and]
  exact decide_eq_decide.2 (by show _ ↔ ids.length ≤ 30; omega)
theorem Xqw (m : Mg) (z z' : Ma) (h1 : (sl z.i z.ik m.ids).holds F w) (h2 : (sl z.c z.ck m.commits).holds F w) (h3 : (sl z'.i z'.ik m.ids).holds F w) (h4 : (sl z'.c z'.ck m.commits).holds F w) :
  GivesV prog 34 [mgV m z, mgV m z'] w F (.bool true) := by
 obtain ⟨kind, ids, cs⟩ := m
 obtain ⟨ai, ki, ac, kc⟩ := z
 obtain ⟨ai2, ki2, ac2, kc2⟩ := z'
 dsimp only [mgV, mgC] at *
 refine Xaa func34 rfl ntmps34 rfl rfl [.st (sl ai ki ids), .st (sl ac kc cs), .st (sl ai2 ki2 ids), .st (sl ac2 kc2 cs)] (.start4 h1 h2 h3 h4) ?_
 (repeat (refine wE ?_; intro _)); refine wA ?_
 refine JR.callV rfl (fun w1 hw => Xng w1 _ ai ai2 ki ki2 ids ids hw.get hw.get) ?_
 refine JO.reslot 11 (.bool true) (by simp) ?_
 refine wz9 ?_
 refine JR.callV rfl (fun w1 hw => Xl5 w1 _ ac ac2 kc kc2 cs cs hw.get hw.get) ?_
 refine JO.reslot 16 (.bool true) (by simp) ?_
 refine wX ?_
 refine Xab () ?_
 simp only [Xae]
 simp
theorem Xs5 (n : Nd) (y y' : Na) (h1 : (sl y.d y.dk n.disk).holds F w) (h2 : (sl y.l y.lk n.l).holds F w) (h3 : (sl y.w y.wk n.wait).holds F w) (h4 : (sl y.p y.pk n.peers).holds F w)
  (k1 : (sl y'.d y'.dk n.disk).holds F w) (k2 : (sl y'.l y'.lk n.l).holds F w) (k3 : (sl y'.w y'.wk n.wait).holds F w) (k4 : (sl y'.p y'.pk n.peers).holds F w) :
  GivesV prog 33 [ndV n y, ndV n y'] w F (.bool true) := by
 have hpl : n.peers.length < 9223372036854775807 := by have := h4.2.2.1; simp only [lim] at this; omega
 have hst := (Hold.start4 h1 h2 h3 h4)
 have hst := hst.add (Asn.mono _ _ _ _ (fun k hk => ⟨.inl hk, by simp [free, Fact.owns]⟩) k1)
 have hst := hst.add (Asn.mono _ _ _ _ (fun k hk => ⟨.inl hk, by simp [free, Fact.owns]⟩) k2)
 have hst := hst.add (Asn.mono _ _ _ _ (fun k hk => ⟨.inl hk, by simp [free, Fact.owns]⟩) k3)
 have hst := hst.add (Asn.mono _ _ _ _ (fun k hk => ⟨.inl hk, by simp [free, Fact.owns]⟩) k4)
 obtain ⟨no, disk, room, l, wait, seq, up, peers, next, miss⟩ := n
 obtain ⟨ad, kd, al, kl, aw, kw, ap, kp⟩ := y
 obtain ⟨ad2, kd2, al2, kl2, aw2, kw2, ap2, kp2⟩ := y'
 dsimp only [ndV, ndC] at *
 refine Xaa func33 rfl ntmps33 rfl rfl _ hst ?_
 (repeat (refine wE ?_; intro _)); refine wA ?_
 rename_i b2 b3
 refine JR.callV rfl (fun w1 hw => Xl5 w1 _ al al2 kl kl2 l l hw.get hw.get) ?_
 refine JO.reslot 12 (.bool true) (by simp) ?_
 refine wz9 ?_
 refine JR.callV rfl (fun w1 hw => Xl5 w1 _ aw aw2 kw kw2 wait wait hw.get hw.get) ?_
 refine JO.reslot 17 (.bool true) (by simp) ?_
 refine wX ?_
 refine JO.reslot 33 (.bool false) (by simp) ?_
 refine wz6 ?_
 refine Wf (Xcq (L := disk)) rfl ?_
 refine wz6 ?_
 refine Wf (Xcq (L := disk)) rfl ?_
 refine wX ?_
 refine JC.reslot 41 (.bool false) (by simp) ?_
 refine wz7 ?_
 refine Xap (fun (k : Nat) => [(2, .pointer (some ⟨b2, 0, none⟩)), (3, .pointer (some ⟨b3, 0, none⟩)), (7, .int .i64 (k : Int))])
  (fun _ => [.own b3 50 [.int .i64 no, .slice ad2 disk.length kd2, .int .i64 room, .slice al2 l.length kl2, .slice aw2 wait.length kw2, .int .i64 seq, .bool up, .slice ap2 peers.length kp2, .int .i64 next, .int .i64 miss], .own b2 50 [.int .i64 no, .slice ad disk.length kd, .int .i64 room, .slice al l.length kl, .slice aw wait.length kw, .int .i64 seq, .bool up, .slice ap peers.length kp, .int .i64 next, .int .i64 miss], .st (sl ap2 kp2 peers), .st (sl ap kp peers)])
  (fun k => k ≤ peers.length) (fun k => peers.length - k) 0 (Nat.zero_le _) iI ?_
 intro k hk
 refine wz11 ?_
 refine JC.test (fun hlt => ?_) (fun hge => ?_)
 ·have hlt' : k < peers.length := by omega
  refine wz14 ?_
  refine Xoi (L := peers) (.slice ap peers.length kp) k hlt' ?_
  intro b5 o5
  refine Xoi (L := peers) (.slice ap2 peers.length kp2) k hlt' ?_
  intro b6 o6
  refine Xa6 mixed (by kernel_rfl) ?_
  refine wY ?_
  refine wz13 ?_
  refine JC.reslot 59 (.bool false) (by simp) ?_
  refine wz2 ?_
  exact ⟨k + 1, by omega, by omega, iI⟩
 ·refine wX ?_
  refine JO.reslot 65 (.bool true) (by simp) ?_
  refine wz6 ?_
  refine JO.reslot 72 (.bool true) (by simp) ?_
  refine wz6 ?_
  refine JO.reslot 79 (.bool true) (by simp) ?_
  refine wX ?_
  refine JO.reslot 86 (.bool true) (by simp) ?_
  refine wz6 ?_
  refine JO.reslot 93 (.bool true) (by simp) ?_
  refine wX ?_
  refine Xab () ?_
  simp only [Xae]
  simp
theorem Xs6 : readL [] = [] := rfl
theorem X0w (L : List Commit) : ∀ (ps : List ID) (g : Int), g ≤ ps.foldl (fun g p => max g (Xd4 L p)) g ∧ ∀ p ∈ ps, Xd4 L p ≤ ps.foldl (fun g p => max g (Xd4 L p)) g
 | [], g => ⟨Int.le_refl _, by simp⟩
 | q :: ps, g => by
  obtain ⟨h1, h2⟩ := X0w L ps (max g (Xd4 L q))
  refine ⟨by simp only [List.foldl_cons]; omega, fun p hp => ?_⟩
  simp only [List.foldl_cons]
  rcases List.mem_cons.1 hp with rfl | hp
  ·omega
  ·exact h2 p hp
theorem X0x {L : List Commit} {p : ID} {ps : List ID} (h : p ∈ ps) : Xd4 L p ≤ Xeu L ps := (X0w L ps 0).2 p h
theorem Closed.take {s : List Commit} (h : Closed s) (hs : s.Pairwise leS) (k : Nat) : Closed (s.take k) := by
 refine h.sub (fun c hc => List.mem_of_mem_take hc) (Xy3 h.nodup (List.take_sublist k s)) fun c hc p hp => ?_
 obtain ⟨i, hi, rfl⟩ := List.getElem_of_mem hc
 rw [List.length_take] at hi
 rw [List.getElem_take] at hp
 have hm : s[i] ∈ s := List.getElem_mem _
 have hf := h.fine s[i] hm
 obtain ⟨d, hd, rfl⟩ := Xbl.1 (hf.here p hp)
 obtain ⟨j, hj, rfl⟩ := List.getElem_of_mem hd
 have hg : Xd4 s (idC s[j]) ≤ Xeu s s[i].parents := X0x hp
 rw [Xeq h.nodup hd] at hg
 have hg2 := hf.gen
 have hji : j < i := by
  rcases Nat.lt_trichotomy j i with h1 | h1 | h1
  ·exact h1
  ·subst h1; omega
  ·have := List.pairwise_iff_getElem.1 hs i j (by omega) hj h1
   rcases this with h2 | ⟨h2, _⟩ <;> omega
 exact Xbl.2 ⟨s[j], List.mem_of_getElem? (i := j) (by rw [List.getElem?_take_of_lt (by omega), List.getElem?_eq_getElem hj]), rfl⟩
theorem Xvu : Xcc [] = [] ∧ Xb5 [] = 0 := by
 have h : Xcc [] = [] := by unfold Xcc; rw [Xs6]; rfl
 exact ⟨h, by unfold Xb5; rw [h, Xs6]; rfl⟩
theorem Xki {no room : Int} {peers : List Int} {next miss : Int} (h : Xfy no room = true) : Xeb ⟨no, [], room, [], [], 0, true, peers, next, miss⟩ = true := by
 have hr := Xke h
 rw [Xqp (n := ⟨no, [], room, [], [], 0, true, peers, next, miss⟩) h (by show ¬ room < ((0 : Nat) : Int); omega) rfl]
 show (decide (Xcc [] = []) && decide (Xb5 [] = 0) && decide ((0 : Int) = Xje [] no) && true && true) = true
 rw [Xvu.1, Xvu.2]
 rfl
def n0 : Nd := ⟨0, [], 1000, [], [], 0, true, [], 0, 0⟩
theorem X27 : NdFew n0 := ⟨by simp [n0], by simp [n0], by simp [n0], by simp [n0], by simp [n0]⟩
theorem X5l : NdFew ⟨0, [], 1000, [], [], 0, true, [1], 0, 0⟩ := ⟨by simp, by simp, by simp, by simp, by simp⟩
theorem X5m : newN 0 1000 = (n0, true) := by unfold newN; rw [if_pos (by decide)]; rfl
theorem X4r (a : ID) : Xci n0 ⟨0, [a], []⟩ = (n0, ⟨1, [a], []⟩, true) := by
 have h1 : Xeb n0 = true := Xki (by decide)
 have h2 : Xhl ⟨0, [a], []⟩ = true := rfl
 have h3 : Xco [] [a] = (⟨1, [a], []⟩, true) := by
  have : idsP [] = [] := rfl
  unfold Xco
  rw [this, X1x a [] (by simp), if_neg (by simp), Xcn, if_neg (by simp)]
  rfl
 unfold Xci
 rw [h1, h2]
 show (if true = true then _ else _) = _
 rw [if_pos rfl, if_pos rfl]
 show (_, Xco [] [a]) = _
 rw [h3]; rfl
theorem X4s : Xc6 n0 = (⟨0, [], []⟩, 0) := by
 have h1 : Xeb n0 = true := Xki (by decide)
 have h2 : frontF n0.l = [] := (Xsn Xo2).2 rfl
 unfold Xc6
 rw [h1, if_pos rfl, h2]; rfl
theorem X4t (x : UInt32) : tickW ⟨0, [], 1000, [], [], 0, true, [1], 0, 0⟩ 0 x = (⟨0, [], 1000, [], [], 0, true, [1], 1, 1⟩, 1, ⟨0, [], []⟩, true, Xhm x) := by
 have h1 : Xeb ⟨0, [], 1000, [], [], 0, true, [1], 0, 0⟩ = true := Xki (by decide)
 have h2 : frontF [] = [] := (Xsn Xo2).2 rfl
 have h3 : Xc6 ⟨0, [], 1000, [], [], 0, true, [1], 0, 0⟩ = (⟨0, [], []⟩, 0) := by
  unfold Xc6
  rw [h1, if_pos rfl]
  show (if true = true then (Mg.mk 0 (frontF []) [], (0 : Int)) else _) = _
  rw [h2]; rfl
 unfold tickW
 rw [h3, if_pos ⟨rfl, by decide, by simp⟩]
 have h4 : (Xhm x).toNat % ([1] : List Int).length = 0 := Nat.mod_one _
 rw [h4]
 rfl
theorem X0y {F : Nat → Prop} {w : World} {b : Nat} {x : Int} (h : (ro b 0 [.int .i64 x]).holds F w) : (sl (some ⟨b, 0, none⟩) 1 [x]).holds F w := by
 refine ⟨by simp, by simp [maxLen], by simp [lim], fun _ => ⟨b, 0, rfl, h.1, h.2.1, fun i hi => ⟨(), ?_, by simp [Cell.facts]⟩⟩⟩
 have hi0 : i = 0 := by simpa using hi
 subst hi0
 exact fun j v hj => by simpa using h.2.2 j v hj
def id1 : ID := ⟨1 :: List.replicate 31 0, by simp⟩
theorem Xlu : GivesV prog 28 [] w F (.bool true) := by
 refine Xaa func28 rfl ntmps28 rfl rfl [] (.start w F) ?_
 refine wz10 ?_
 refine JR.call (v := fun _ : Unit => .tuple ⟨[ndV (newN 0 1000).1 na0, .bool (newN 0 1000).2]⟩) (B := fun _ => []) rfl (fun w1 hw => Xw8 w1 _ 0 1000) ?_
 intro _
 rw [X5m]
 dsimp only [n0, na0, ndV, ndC, List.length_nil, List.nil_append]
 (repeat (refine wE ?_; intro _)); refine wA ?_
 rename_i b1
 refine Wf (OpV.build (idc id1) (by kernel_rfl)) rfl ?_
 (repeat (refine wE ?_; intro _)); refine wA ?_
 rename_i b3 bl
 refine JR.pubOwn bl ?_
 refine Wf (OpV.build [.int .i64 0, .slice (some ⟨bl, 0, none⟩) 1 1, .slice none 0 0] (by kernel_rfl)) rfl ?_
 refine wz13 ?_
 refine JR.call (v := fun q : Na × Ma => .tuple ⟨[ndV (Xci n0 ⟨0, [id1], []⟩).1 q.1, mgV (Xci n0 ⟨0, [id1], []⟩).2.1 q.2, .bool (Xci n0 ⟨0, [id1], []⟩).2.2]⟩) (B := fun q => [.st (sl q.1.d q.1.dk (Xci n0 ⟨0, [id1], []⟩).1.disk), .st (sl q.1.l q.1.lk (Xci n0 ⟨0, [id1], []⟩).1.l), .st (sl q.1.w q.1.wk (Xci n0 ⟨0, [id1], []⟩).1.wait), .st (sl q.1.p q.1.pk (Xci n0 ⟨0, [id1], []⟩).1.peers), .st (sl q.2.i q.2.ik (Xci n0 ⟨0, [id1], []⟩).2.1.ids), .st (sl q.2.c q.2.ck (Xci n0 ⟨0, [id1], []⟩).2.1.commits)]) rfl (fun w1 hw => Xn1 w1 _ n0 na0 ⟨0, [id1], []⟩ ⟨some ⟨bl, 0, none⟩, 1, none, 0⟩ Xah Xah Xah Xah (X1y (hw.get (A := ro bl 0 (idc id1)))) Xah X27 (by decide) (by simp) (by simp [n0]) (by simp)) ?_
 rintro ⟨⟨a4, k4, a5, k5, a6, k6, a7, k7⟩, ⟨a8, k8, a9, k9⟩⟩
 rw [X4r]
 dsimp only [n0, ndV, ndC, mgV, mgC, List.length_nil, List.cons_append, List.nil_append]
 (repeat (refine wE ?_; intro _)); refine wA ?_
 rename_i b4 b5
 refine JR.call (v := fun z : Ma => .tuple ⟨[mgV (Xc6 n0).1 z, .int .i64 (Xc6 n0).2]⟩) (B := fun z => mgB (Xc6 n0).1 z) rfl (fun w1 hw => Xjg w1 _ n0 na0 Xah Xah Xah X27) ?_
 rintro ⟨p1, q1, p2, q2⟩
 rw [X4s]
 dsimp only [mgB, mgV, mgC, List.length_nil, List.cons_append, List.nil_append]
 (repeat (refine wE ?_; intro _)); refine wA ?_
 rename_i b7 bi
 refine JR.pubOwn bi ?_
 refine JR.call (v := fun q : Na × Ma => .tuple ⟨[ndV (tickW ⟨0, [], 1000, [], [], 0, true, [1], 0, 0⟩ 0 1).1 q.1, .int .i64 (tickW ⟨0, [], 1000, [], [], 0, true, [1], 0, 0⟩ 0 1).2.1, mgV (tickW ⟨0, [], 1000, [], [], 0, true, [1], 0, 0⟩ 0 1).2.2.1 q.2, .bool (tickW ⟨0, [], 1000, [], [], 0, true, [1], 0, 0⟩ 0 1).2.2.2.1, w32 (tickW ⟨0, [], 1000, [], [], 0, true, [1], 0, 0⟩ 0 1).2.2.2.2]⟩) (B := fun q => [.st (sl q.1.d q.1.dk (tickW ⟨0, [], 1000, [], [], 0, true, [1], 0, 0⟩ 0 1).1.disk), .st (sl q.1.l q.1.lk (tickW ⟨0, [], 1000, [], [], 0, true, [1], 0, 0⟩ 0 1).1.l), .st (sl q.1.w q.1.wk (tickW ⟨0, [], 1000, [], [], 0, true, [1], 0, 0⟩ 0 1).1.wait), .st (sl q.1.p q.1.pk (tickW ⟨0, [], 1000, [], [], 0, true, [1], 0, 0⟩ 0 1).1.peers), .st (sl q.2.i q.2.ik (tickW ⟨0, [], 1000, [], [], 0, true, [1], 0, 0⟩ 0 1).2.2.1.ids), .st (sl q.2.c q.2.ck (tickW ⟨0, [], 1000, [], [], 0, true, [1], 0, 0⟩ 0 1).2.2.1.commits)]) rfl (fun w1 hw => Xn2 w1 _ ⟨0, [], 1000, [], [], 0, true, [1], 0, 0⟩ ⟨none, 0, none, 0, none, 0, some ⟨bi, 0, none⟩, 1⟩ 0 1 Xah Xah Xah (X0y hw.get) X5l (by decide)) ?_
 rintro ⟨⟨c4, r4, c5, r5, c6, r6, c7, r7⟩, ⟨c8, r8, c9, r9⟩⟩
 rw [X4t]
 dsimp only [ndV, ndC, mgV, mgC, List.length_nil, List.cons_append, List.nil_append]
 (repeat (refine wE ?_; intro _)); refine wA ?_
 refine Xbq (L := [id1]) (.slice a8 [id1].length k8) 0 (by decide) ?_
 intro b9 o9
 refine Xa6 mixed (by kernel_rfl) ?_
 refine wY ?_
 refine JQ.reslot 51 (.bool true) (by simp) ?_
 skip
 refine JQ.reslot 58 (.bool true) (by simp) ?_
 skip
 refine JQ.call rfl rfl (fun w1 hw => Xig w1 _ n0 ⟨a4, k4, a5, k5, a6, k6, a7, k7⟩ (hw.get (A := sl a4 k4 ([] : List UInt8))) (hw.get (A := sl a5 k5 ([] : List Commit))) (hw.get (A := sl a6 k6 ([] : List Commit))) (by simp [n0])) ?_
 refine JQ.reslot 60 (.bool true) (by rw [show Xeb n0 = true from Xki (by decide)]) ?_
 refine wY ?_
 refine wz13 ?_
 exact Xab () (by simp [Xae])
noncomputable abbrev hearV (n : Nd) (m : Mg) (q : Na × Ma) : Value := .tuple ⟨[ndV (Xci n m).1 q.1, mgV (Xci n m).2.1 q.2, .bool (Xci n m).2.2]⟩
noncomputable abbrev hearB (n : Nd) (m : Mg) (q : Na × Ma) : List Fact := [.st (sl q.1.d q.1.dk (Xci n m).1.disk), .st (sl q.1.l q.1.lk (Xci n m).1.l), .st (sl q.1.w q.1.wk (Xci n m).1.wait), .st (sl q.1.p q.1.pk (Xci n m).1.peers), .st (sl q.2.i q.2.ik (Xci n m).2.1.ids), .st (sl q.2.c q.2.ck (Xci n m).2.1.commits)]
theorem X0z (L : List Commit) (A : List ID) : haveF L A true = partF (Xcy L) A := by
 unfold haveF
 by_cases hc : Closed L
 ·rw [Xs2 hc]
  refine List.filter_congr fun c _ => ?_
  cases decide (idC c ∈ A) <;> rfl
 ·rw [(Xfc L).not hc, partF]; split <;> rfl
theorem Xxc (L : List Commit) (A : List ID) : haveF L A false = partF (Xcy L) (Xbg (idsP L) A false) := by
 unfold haveF
 by_cases hc : Closed L
 ·rw [Xs2 hc]
  refine List.filter_congr fun c hm => ?_
  have h1 : idC c ∈ idsP L := by rw [X0n hc]; exact Xbl.2 ⟨c, (Xif hc).mem_iff.1 hm, rfl⟩
  have h2 : idC c ∈ Xbg (idsP L) A false ↔ idC c ∉ A := by rw [Xsj]; exact ⟨fun h => h.2, fun h => ⟨h1, h⟩⟩
  by_cases h3 : idC c ∈ A
  ·rw [decide_eq_true h3, decide_eq_false (fun h => (h2.1 h) h3)]; rfl
  ·rw [decide_eq_false h3, decide_eq_true (h2.2 h3)]; rfl
 ·rw [(Xfc L).not hc, partF]; split <;> rfl
theorem Xxd (n : Nd) (y : Na) (m : Mg) (z : Ma) (h1 : (sl y.d y.dk n.disk).holds F w) (h2 : (sl y.l y.lk n.l).holds F w) (h3 : (sl y.w y.wk n.wait).holds F w) (h4 : (sl y.p y.pk n.peers).holds F w) (h5 : (sl z.i z.ik m.ids).holds F w) (h6 : (sl z.c z.ck m.commits).holds F w)
  (hn : NdFew n) (hd4 : n.disk.length ≤ 4900) (hql : ∀ x ∈ n.l, x.parents.length ≤ 1000) (hq : ∀ x ∈ n.wait, x.parents.length ≤ 1000) (hcl : m.commits.length ≤ 90) (hfc : ∀ c ∈ m.commits, fine c) (hqc : ∀ x ∈ m.commits, x.parents.length ≤ 1000) (hi : m.ids.length ≤ 34359738360) :
  Gives prog 32 [ndV n y, mgV m z] w F (fun q => hearV n m q) (fun q => hearB n m q) := by
 have hst := (Hold.start4 h1 h2 h3 h4).add (A := sl z.c z.ck m.commits) (Asn.mono _ _ _ _ (fun k hk => ⟨.inl hk, by simp [free, Fact.owns]⟩) h6)
 have hst := hst.add (A := sl z.i z.ik m.ids) (Asn.mono _ _ _ _ (fun k hk => ⟨.inl hk, by simp [free, Fact.owns]⟩) h5)
 obtain ⟨no, disk, room, l, wait, seq, up, peers, next, miss⟩ := n
 obtain ⟨ad, kd, al, kl, aw, kw, ap, kp⟩ := y
 obtain ⟨kind, ids, cs⟩ := m
 obtain ⟨ai, ki, ac, kc⟩ := z
 have hln : l.length + wait.length ≤ 800 := hn.len
 dsimp only [ndV, ndC, mgV, mgC] at *
 refine Xaa func32 rfl ntmps32 rfl rfl _ hst ?_
 dsimp only [hearV, hearB]
 (repeat (refine wE ?_; intro _)); refine wA ?_
 rename_i bn bm b4 b5
 refine JR.callV rfl (fun w1 hw => Xnx w1 _ ⟨no, disk, room, l, wait, seq, up, peers, next, miss⟩ ⟨ad, kd, al, kl, aw, kw, ap, kp⟩ hw.get hw.get hw.get hn.fw hd4) ?_
 refine wz9 ?_
 refine JR.callV rfl (fun w1 hw => X0r w1 _ ⟨kind, ids, cs⟩ ⟨ai, ki, ac, kc⟩ hw.get hw.get hfc) ?_
 cases hm : Xeb ⟨no, disk, room, l, wait, seq, up, peers, next, miss⟩ with
 | false =>
  have hx := hm
  rw [Xii (by rw [hx]; simp)]
  dsimp only [mg0, List.length_nil]
  refine wz1 ?_
  refine Wf (OpV.build [.int .i64 0, .slice none 0 0, .slice none 0 0] (by kernel_rfl)) rfl ?_
  refine wz9 ?_
  exact CT.done (Y := Na × Ma) (⟨ad, kd, al, kl, aw, kw, ap, kp⟩, ⟨none, 0, none, 0⟩) rfl (fun w ho => ((ho.add (A := sl (α := Commit) none 0 []) Xah).add (A := sl (α := ID) none 0 []) Xah).ent)
 | true =>
 cases up with
 | false =>
  have hx := hm
  rw [Xii (by rw [hx]; simp)]
  dsimp only [mg0, List.length_nil]
  refine wz1 ?_
  refine Wf (OpV.build [.int .i64 0, .slice none 0 0, .slice none 0 0] (by kernel_rfl)) rfl ?_
  refine wz9 ?_
  exact CT.done (Y := Na × Ma) (⟨ad, kd, al, kl, aw, kw, ap, kp⟩, ⟨none, 0, none, 0⟩) rfl (fun w ho => ((ho.add (A := sl (α := Commit) none 0 []) Xah).add (A := sl (α := ID) none 0 []) Xah).ent)
 | true =>
 cases hmm : Xhl ⟨kind, ids, cs⟩ with
 | false =>
  have hx := hmm
  rw [Xii (by rw [hx]; simp)]
  dsimp only [mg0, List.length_nil]
  refine wz1 ?_
  refine Wf (OpV.build [.int .i64 0, .slice none 0 0, .slice none 0 0] (by kernel_rfl)) rfl ?_
  refine wz9 ?_
  exact CT.done (Y := Na × Ma) (⟨ad, kd, al, kl, aw, kw, ap, kp⟩, ⟨none, 0, none, 0⟩) rfl (fun w ho => ((ho.add (A := sl (α := Commit) none 0 []) Xah).add (A := sl (α := ID) none 0 []) Xah).ent)
 | true =>
 have hn1 : NdFew ⟨no, disk, room, l, wait, seq, true, peers, next, 0⟩ := ⟨hn.fl, hn.fw, hn.disk, hn.len, hn.peers⟩
 refine wX ?_
 rcases X0u hmm with hk | hk | hk
 ·obtain rfl : kind = 0 := hk
  have e9 : Xci ⟨no, disk, room, l, wait, seq, true, peers, next, miss⟩ ⟨0, ids, cs⟩ = (⟨no, disk, room, l, wait, seq, true, peers, next, 0⟩, Xco l ids) := by unfold Xci; rw [hm, hmm]; rfl
  rw [e9]
  dsimp only
  refine wz8 ?_
  generalize hW : Xbg ids (idsP l) false = W
  refine Xgg (fun y : Option Addr × Nat => [(2, .pointer (some ⟨bn, 0, none⟩)), (4, .pointer (some ⟨b4, 0, none⟩)), (5, .pointer (some ⟨b5, 0, none⟩)), (3, .pointer (some ⟨bm, 0, none⟩)), (9, .slice y.1 W.length y.2)])
   (fun y => [.st (sl y.1 y.2 W), .own bn 50 [.int .i64 no, .slice ad disk.length kd, .int .i64 room, .slice al l.length kl, .slice aw wait.length kw, .int .i64 seq, .bool true, .slice ap peers.length kp, .int .i64 next, .int .i64 0], .own bm 52 [.int .i64 0, .slice ai ids.length ki, .slice ac cs.length kc], .st (sl ad kd disk), .st (sl al kl l), .st (sl aw kw wait), .st (sl ap kp peers), .st (sl ai ki ids), .own b4 50 [.int .i64 0, .slice none 0 0, .int .i64 0, .slice none 0 0, .slice none 0 0, .int .i64 0, .bool false, .slice none 0 0, .int .i64 0, .int .i64 0], .own b5 52 [.int .i64 0, .slice none 0 0, .slice none 0 0]]) ?_ ?_
  ·refine JC.drawP mixed ?_
   refine Xad 0 ?_
   refine JP.tv 1 [.own bm 52 [.int .i64 0, .slice ai ids.length ki, .slice ac cs.length kc]] ?_
   refine Xad 2 ?_
   refine JP.tv 3 [.own bn 50 [.int .i64 no, .slice ad disk.length kd, .int .i64 room, .slice al l.length kl, .slice aw wait.length kw, .int .i64 seq, .bool true, .slice ap peers.length kp, .int .i64 next, .int .i64 0]] ?_
   refine Xar 4 rfl rfl (JR.callSl rfl (fun w1 hw => Xe4 w1 _ al kl l hw.get (by omega) hn.fl) (fun ai2 ki2 => Wd (nO ?_)))
   refine Xar 5 rfl rfl (JR.callSl (L := W) rfl (fun w1 hw => by rw [← hW]; exact Xi9 w1 _ ai ai2 ki ki2 ids (idsP l) hw.get hw.get hi) (fun a3 k3 => Wd (nO ?_)))
   refine Xad 6 ?_
   exact JP.nil (by kernel_rfl) ⟨rfl, (a3, k3), iI⟩
  rintro ⟨a3, k3⟩
  dsimp only
  have hWl : W.length ≤ ids.length := by rw [← hW]; exact Xqs _ _ _
  have h16 := X4p hmm (.inl rfl)
  refine wz5 ?_
  by_cases hW0 : W = []
  ·have e8 : Xco l ids = Xch (haveF l (ancF l ids) false) := by unfold Xco; rw [if_pos (by rw [hW]; exact hW0), Xxc]
   rw [e8]
   refine JC.reslot 48 (.bool false) (by rw [hW0]; rfl) ?_
   refine wz7 ?_
   generalize hD : Xch (haveF l (ancF l ids) false) = D
   refine Xgg (fun y : Ma × Nat => [(2, .pointer (some ⟨bn, 0, none⟩)), (4, .pointer (some ⟨b4, 0, none⟩)), (5, .pointer (some ⟨b5, 0, none⟩)), (12, .pointer (some ⟨y.2, 0, none⟩)), (13, .bool D.2)])
    (fun y => [.own y.2 52 [.int .i64 D.1.kind, .slice y.1.i D.1.ids.length y.1.ik, .slice y.1.c D.1.commits.length y.1.ck], .st (sl y.1.i y.1.ik D.1.ids), .st (sl y.1.c y.1.ck D.1.commits), .own bn 50 [.int .i64 no, .slice ad disk.length kd, .int .i64 room, .slice al l.length kl, .slice aw wait.length kw, .int .i64 seq, .bool true, .slice ap peers.length kp, .int .i64 next, .int .i64 0], .st (sl ad kd disk), .st (sl al kl l), .st (sl aw kw wait), .st (sl ap kp peers), .own b4 50 [.int .i64 0, .slice none 0 0, .int .i64 0, .slice none 0 0, .slice none 0 0, .int .i64 0, .bool false, .slice none 0 0, .int .i64 0, .int .i64 0], .own b5 52 [.int .i64 0, .slice none 0 0, .slice none 0 0]]) ?_ ?_
   ·refine JC.drawP mixed ?_
    refine Xad 0 ?_
    refine JP.tv 1 [.own bn 50 [.int .i64 no, .slice ad disk.length kd, .int .i64 room, .slice al l.length kl, .slice aw wait.length kw, .int .i64 seq, .bool true, .slice ap peers.length kp, .int .i64 next, .int .i64 0]] ?_
    refine Xad 2 ?_
    refine JP.tv 3 [.own bn 50 [.int .i64 no, .slice ad disk.length kd, .int .i64 room, .slice al l.length kl, .slice aw wait.length kw, .int .i64 seq, .bool true, .slice ap peers.length kp, .int .i64 next, .int .i64 0]] ?_
    refine Xad 4 ?_
    refine JP.tv 5 [.own bm 52 [.int .i64 0, .slice ai ids.length ki, .slice ac cs.length kc]] ?_
    refine JP.both 6 11 (by kernel_rfl) rfl rfl rfl rfl (JR.callSl rfl (fun w1 hw => Xvl w1 _ al ai kl ki l ids (ancF l ids) hw.get hw.get (by omega) hn.fl hql (Xt7 l ids)) (fun a4 k4 => Wd (nO ?_))) (Wg rfl (fun bo => Wd (nO ?_)))
    ·refine JP.both 7 11 (by kernel_rfl) rfl rfl rfl rfl (JR.call (v := fun z : Ma => .tuple ⟨[mgV D.1 z, .bool D.2]⟩) (B := fun z => mgB D.1 z) rfl (fun w1 hw => by rw [← hD]; exact Xih w1 _ l (ancF l ids) false al a4 kl k4 hw.get hw.get (by omega) hn.fl hql) (fun q => Wd (nO ?_))) (Wg rfl (fun bo => Wd (nO ?_)))
     ·dsimp only [mgB, mgV, mgC, List.cons_append, List.nil_append]
      refine Xad 8 ?_
      refine Xad 9 ?_
      refine Xad 10 ?_
      refine Xar 11 rfl rfl (Wg rfl (fun bo => Wd (nO ?_)))
      refine Xar 12 rfl rfl (Wi (Wd (nO ?_)))
      refine Xad 13 ?_
      exact JP.nil (by kernel_rfl) ⟨rfl, (q, bo), iI⟩
     ·refine Xar 7 rfl rfl (JR.call (v := fun z : Ma => .tuple ⟨[mgV D.1 z, .bool D.2]⟩) (B := fun z => mgB D.1 z) rfl (fun w1 hw => by rw [← hD]; exact Xih w1 _ l (ancF l ids) false al a4 kl k4 hw.get hw.get (by omega) hn.fl hql) (fun q => Wd (nO ?_)))
      dsimp only [mgB, mgV, mgC, List.cons_append, List.nil_append]
      refine Xad 8 ?_
      refine Xad 9 ?_
      refine Xad 10 ?_
      refine Xar 12 rfl rfl (Wi (Wd (nO ?_)))
      refine Xad 13 ?_
      exact JP.nil (by kernel_rfl) ⟨rfl, (q, bo), iI⟩
    ·refine Xar 6 rfl rfl (JR.callSl rfl (fun w1 hw => Xvl w1 _ al ai kl ki l ids (ancF l ids) hw.get hw.get (by omega) hn.fl hql (Xt7 l ids)) (fun a4 k4 => Wd (nO ?_)))
     refine Xar 7 rfl rfl (JR.call (v := fun z : Ma => .tuple ⟨[mgV D.1 z, .bool D.2]⟩) (B := fun z => mgB D.1 z) rfl (fun w1 hw => by rw [← hD]; exact Xih w1 _ l (ancF l ids) false al a4 kl k4 hw.get hw.get (by omega) hn.fl hql) (fun q => Wd (nO ?_)))
     dsimp only [mgB, mgV, mgC, List.cons_append, List.nil_append]
     refine Xad 8 ?_
     refine Xad 9 ?_
     refine Xad 10 ?_
     refine Xar 12 rfl rfl (Wi (Wd (nO ?_)))
     refine Xad 13 ?_
     exact JP.nil (by kernel_rfl) ⟨rfl, (q, bo), iI⟩
   rintro ⟨q, bo⟩
   dsimp only
   refine wz14 ?_
   refine JC.drawP mixed ?_
   refine JP.tv 0 [.own bn 50 [.int .i64 no, .slice ad disk.length kd, .int .i64 room, .slice al l.length kl, .slice aw wait.length kw, .int .i64 seq, .bool true, .slice ap peers.length kp, .int .i64 next, .int .i64 0]] ?_
   refine JP.tv 1 [.own bo 52 [.int .i64 D.1.kind, .slice q.i D.1.ids.length q.ik, .slice q.c D.1.commits.length q.ck]] ?_
   refine Xad 2 ?_
   refine Xar 3 rfl rfl (Wi (Wd (nO ?_)))
   refine Xar 4 rfl rfl (Wi (Wd (nO ?_)))
   refine Xad 5 ?_
   refine JP.nil (by kernel_rfl) ?_
   refine wz5 ?_
   exact Xab (Y := Na × Ma) (⟨ad, kd, al, kl, aw, kw, ap, kp⟩, q) rfl
  ·have e8 : Xco l ids = Xcn W := by unfold Xco; rw [if_neg (by rw [hW]; exact hW0), hW]
   have hWp := List.length_pos_iff.2 hW0
   rw [e8]
   refine JC.reslot 48 (.bool true) (by congr 1; exact decide_eq_true (by omega)) ?_
   refine wz8 ?_
   generalize hD : Xcn W = D
   refine JR.call (v := fun z : Ma => .tuple ⟨[mgV D.1 z, .bool D.2]⟩) (B := fun z => mgB D.1 z) rfl (fun w1 hw => by rw [← hD]; exact Xgr w1 _ W a3 k3 hw.get) ?_
   intro q
   dsimp only [mgB, mgV, mgC, List.cons_append, List.nil_append]
   (repeat (refine wF ?_; intro _)); refine wX ?_
   rename_i bo
   refine JC.drawP mixed ?_
   refine JP.tv 0 [.own bn 50 [.int .i64 no, .slice ad disk.length kd, .int .i64 room, .slice al l.length kl, .slice aw wait.length kw, .int .i64 seq, .bool true, .slice ap peers.length kp, .int .i64 next, .int .i64 0]] ?_
   refine JP.tv 1 [.own bo 52 [.int .i64 D.1.kind, .slice q.i D.1.ids.length q.ik, .slice q.c D.1.commits.length q.ck]] ?_
   refine Xad 2 ?_
   refine Xar 3 rfl rfl (Wi (Wd (nO ?_)))
   refine Xar 4 rfl rfl (Wi (Wd (nO ?_)))
   refine Xad 5 ?_
   refine JP.nil (by kernel_rfl) ?_
   refine wz5 ?_
   exact Xab (Y := Na × Ma) (⟨ad, kd, al, kl, aw, kw, ap, kp⟩, q) rfl
 ·obtain rfl : kind = 1 := hk
  have e9 : Xci ⟨no, disk, room, l, wait, seq, true, peers, next, miss⟩ ⟨1, ids, cs⟩ = (⟨no, disk, room, l, wait, seq, true, peers, next, 0⟩, Xch (haveF l ids true)) := by unfold Xci; rw [hm, hmm, X0z]; rfl
  rw [e9]
  dsimp only
  generalize hD : Xch (haveF l ids true) = D
  refine wX ?_
  refine JR.call (v := fun z : Ma => .tuple ⟨[mgV D.1 z, .bool D.2]⟩) (B := fun z => mgB D.1 z) rfl (fun w1 hw => by rw [← hD]; exact Xih w1 _ l ids true al ai kl ki hw.get hw.get (by omega) hn.fl hql) ?_
  intro q
  dsimp only [mgB, mgV, mgC, List.cons_append, List.nil_append]
  (repeat (refine wF ?_; intro _)); refine wX ?_
  rename_i bo
  refine JC.drawP mixed ?_
  refine JP.tv 0 [.own bn 50 [.int .i64 no, .slice ad disk.length kd, .int .i64 room, .slice al l.length kl, .slice aw wait.length kw, .int .i64 seq, .bool true, .slice ap peers.length kp, .int .i64 next, .int .i64 0]] ?_
  refine JP.tv 1 [.own bo 52 [.int .i64 D.1.kind, .slice q.i D.1.ids.length q.ik, .slice q.c D.1.commits.length q.ck]] ?_
  refine Xad 2 ?_
  refine Xar 3 rfl rfl (Wi (Wd (nO ?_)))
  refine Xar 4 rfl rfl (Wi (Wd (nO ?_)))
  refine Xad 5 ?_
  refine JP.nil (by kernel_rfl) ?_
  refine wz5 ?_
  exact Xab (Y := Na × Ma) (⟨ad, kd, al, kl, aw, kw, ap, kp⟩, q) rfl
 ·obtain rfl : kind = 2 := hk
  have hn2 := Xs3 hn1 hfc
  have hpw := Xhd (Xpm (P := fun x => x.parents.length ≤ 1000) (n := ⟨no, disk, room, l, wait, seq, true, peers, next, 0⟩) (l := cs) hq hqc)
  have e9 : Xci ⟨no, disk, room, l, wait, seq, true, peers, next, miss⟩ ⟨2, ids, cs⟩ = (Xbu ⟨no, disk, room, l, wait, seq, true, peers, next, 0⟩ cs, Xcn (Xhk (Xbu ⟨no, disk, room, l, wait, seq, true, peers, next, 0⟩ cs).wait (idsP (Xbu ⟨no, disk, room, l, wait, seq, true, peers, next, 0⟩ cs).l))) := by unfold Xci; rw [hm, hmm]; rfl
  rw [e9]
  dsimp only
  refine wX ?_
  refine JR.call (v := fun z : Na => ndV (Xbu ⟨no, disk, room, l, wait, seq, true, peers, next, 0⟩ cs) z) (B := fun z => ndB (Xbu ⟨no, disk, room, l, wait, seq, true, peers, next, 0⟩ cs) z) rfl (fun w1 hw => Xxa w1 _ ⟨no, disk, room, l, wait, seq, true, peers, next, 0⟩ ⟨ad, kd, al, kl, aw, kw, ap, kp⟩ cs ac kc hw.get hw.get hw.get hw.get hw.get hn1 hd4 hql hq hcl hfc hqc) ?_
  intro z2
  generalize Xbu ⟨no, disk, room, l, wait, seq, true, peers, next, 0⟩ cs = n2 at hn2 hpw
  obtain ⟨hfl2, hfw2, hdk2, hln2⟩ := hn2
  dsimp only [ndB, ndV, ndC, List.cons_append, List.nil_append]
  refine wz9 ?_
  generalize hM : Xhk n2.wait (idsP n2.l) = M
  generalize hD : Xcn M = D
  obtain ⟨no2, disk2, room2, l2, wait2, seq2, up2, peers2, next2, miss2⟩ := n2
  obtain ⟨ad2, kd2, al2, kl2, aw2, kw2, ap2, kp2⟩ := z2
  dsimp only at *
  have hil := Xuk l2
  refine Xgg (fun y : Ma × Nat => [(2, .pointer (some ⟨bn, 0, none⟩)), (4, .pointer (some ⟨b4, 0, none⟩)), (5, .pointer (some ⟨b5, 0, none⟩)), (16, .pointer (some ⟨y.2, 0, none⟩)), (17, .bool D.2)])
   (fun y => [.own y.2 52 [.int .i64 D.1.kind, .slice y.1.i D.1.ids.length y.1.ik, .slice y.1.c D.1.commits.length y.1.ck], .st (sl y.1.i y.1.ik D.1.ids), .st (sl y.1.c y.1.ck D.1.commits), .own bn 50 [.int .i64 no2, .slice ad2 disk2.length kd2, .int .i64 room2, .slice al2 l2.length kl2, .slice aw2 wait2.length kw2, .int .i64 seq2, .bool up2, .slice ap2 peers2.length kp2, .int .i64 next2, .int .i64 miss2], .st (sl ad2 kd2 disk2), .st (sl al2 kl2 l2), .st (sl aw2 kw2 wait2), .st (sl ap2 kp2 peers2), .own b4 50 [.int .i64 0, .slice none 0 0, .int .i64 0, .slice none 0 0, .slice none 0 0, .int .i64 0, .bool false, .slice none 0 0, .int .i64 0, .int .i64 0], .own b5 52 [.int .i64 0, .slice none 0 0, .slice none 0 0]]) ?_ ?_
  ·refine JC.drawP mixed ?_
   refine Xad 0 ?_
   refine JP.tv 1 [.own bn 50 [.int .i64 no2, .slice ad2 disk2.length kd2, .int .i64 room2, .slice al2 l2.length kl2, .slice aw2 wait2.length kw2, .int .i64 seq2, .bool up2, .slice ap2 peers2.length kp2, .int .i64 next2, .int .i64 miss2]] ?_
   refine Xad 2 ?_
   refine JP.tv 3 [.own bn 50 [.int .i64 no2, .slice ad2 disk2.length kd2, .int .i64 room2, .slice al2 l2.length kl2, .slice aw2 wait2.length kw2, .int .i64 seq2, .bool up2, .slice ap2 peers2.length kp2, .int .i64 next2, .int .i64 miss2]] ?_
   refine JP.both 4 10 (by kernel_rfl) rfl rfl rfl rfl (JR.callSl rfl (fun w1 hw => Xe4 w1 _ al2 kl2 l2 hw.get (by omega) hfl2) (fun a4 k4 => Wd (nO ?_))) (Wg rfl (fun bo => Wd (nO ?_)))
   ·refine JP.both 5 10 (by kernel_rfl) rfl rfl rfl rfl (JR.callSl (L := M) rfl (fun w1 hw => by rw [← hM]; exact Xnv w1 _ aw2 a4 kw2 k4 wait2 (idsP l2) hw.get hw.get (by omega) (by omega) hfw2) (fun a5 k5 => Wd (nO ?_))) (Wg rfl (fun bo => Wd (nO ?_)))
    ·refine JP.both 6 10 (by kernel_rfl) rfl rfl rfl rfl (JR.call (v := fun z : Ma => .tuple ⟨[mgV D.1 z, .bool D.2]⟩) (B := fun z => mgB D.1 z) rfl (fun w1 hw => by rw [← hD]; exact Xgr w1 _ M a5 k5 hw.get) (fun q => Wd (nO ?_))) (Wg rfl (fun bo => Wd (nO ?_)))
     ·dsimp only [mgB, mgV, mgC, List.cons_append, List.nil_append]
      refine Xad 7 ?_
      refine Xad 8 ?_
      refine Xad 9 ?_
      refine Xar 10 rfl rfl (Wg rfl (fun bo => Wd (nO ?_)))
      refine Xar 11 rfl rfl (Wi (Wd (nO ?_)))
      refine Xad 12 ?_
      exact JP.nil (by kernel_rfl) ⟨rfl, (q, bo), iI⟩
     ·refine Xar 6 rfl rfl (JR.call (v := fun z : Ma => .tuple ⟨[mgV D.1 z, .bool D.2]⟩) (B := fun z => mgB D.1 z) rfl (fun w1 hw => by rw [← hD]; exact Xgr w1 _ M a5 k5 hw.get) (fun q => Wd (nO ?_)))
      dsimp only [mgB, mgV, mgC, List.cons_append, List.nil_append]
      refine Xad 7 ?_
      refine Xad 8 ?_
      refine Xad 9 ?_
      refine Xar 11 rfl rfl (Wi (Wd (nO ?_)))
      refine Xad 12 ?_
      exact JP.nil (by kernel_rfl) ⟨rfl, (q, bo), iI⟩
    ·refine Xar 5 rfl rfl (JR.callSl (L := M) rfl (fun w1 hw => by rw [← hM]; exact Xnv w1 _ aw2 a4 kw2 k4 wait2 (idsP l2) hw.get hw.get (by omega) (by omega) hfw2) (fun a5 k5 => Wd (nO ?_)))
     refine Xar 6 rfl rfl (JR.call (v := fun z : Ma => .tuple ⟨[mgV D.1 z, .bool D.2]⟩) (B := fun z => mgB D.1 z) rfl (fun w1 hw => by rw [← hD]; exact Xgr w1 _ M a5 k5 hw.get) (fun q => Wd (nO ?_)))
     dsimp only [mgB, mgV, mgC, List.cons_append, List.nil_append]
     refine Xad 7 ?_
     refine Xad 8 ?_
     refine Xad 9 ?_
     refine Xar 11 rfl rfl (Wi (Wd (nO ?_)))
     refine Xad 12 ?_
     exact JP.nil (by kernel_rfl) ⟨rfl, (q, bo), iI⟩
   ·refine Xar 4 rfl rfl (JR.callSl rfl (fun w1 hw => Xe4 w1 _ al2 kl2 l2 hw.get (by omega) hfl2) (fun a4 k4 => Wd (nO ?_)))
    refine Xar 5 rfl rfl (JR.callSl (L := M) rfl (fun w1 hw => by rw [← hM]; exact Xnv w1 _ aw2 a4 kw2 k4 wait2 (idsP l2) hw.get hw.get (by omega) (by omega) hfw2) (fun a5 k5 => Wd (nO ?_)))
    refine Xar 6 rfl rfl (JR.call (v := fun z : Ma => .tuple ⟨[mgV D.1 z, .bool D.2]⟩) (B := fun z => mgB D.1 z) rfl (fun w1 hw => by rw [← hD]; exact Xgr w1 _ M a5 k5 hw.get) (fun q => Wd (nO ?_)))
    dsimp only [mgB, mgV, mgC, List.cons_append, List.nil_append]
    refine Xad 7 ?_
    refine Xad 8 ?_
    refine Xad 9 ?_
    refine Xar 11 rfl rfl (Wi (Wd (nO ?_)))
    refine Xad 12 ?_
    exact JP.nil (by kernel_rfl) ⟨rfl, (q, bo), iI⟩
  rintro ⟨q, bo⟩
  dsimp only
  refine wz14 ?_
  refine JC.drawP mixed ?_
  refine JP.tv 0 [.own bn 50 [.int .i64 no2, .slice ad2 disk2.length kd2, .int .i64 room2, .slice al2 l2.length kl2, .slice aw2 wait2.length kw2, .int .i64 seq2, .bool up2, .slice ap2 peers2.length kp2, .int .i64 next2, .int .i64 miss2]] ?_
  refine JP.tv 1 [.own bo 52 [.int .i64 D.1.kind, .slice q.i D.1.ids.length q.ik, .slice q.c D.1.commits.length q.ck]] ?_
  refine Xad 2 ?_
  refine Xar 3 rfl rfl (Wi (Wd (nO ?_)))
  refine Xar 4 rfl rfl (Wi (Wd (nO ?_)))
  refine Xad 5 ?_
  refine JP.nil (by kernel_rfl) ?_
  refine wz13 ?_
  exact Xab (Y := Na × Ma) (⟨ad2, kd2, al2, kl2, aw2, kw2, ap2, kp2⟩, q) rfl
instance : W32 (8192 : Int) 8192 := ⟨rfl⟩
instance : W32 (131072 : Int) 131072 := ⟨rfl⟩
instance : W32 (32 : Int) 32 := ⟨rfl⟩
theorem Xqx {c x : UInt32} (k : Nat) (h : c.toNat = 2 ^ k) : c * x = Xcl x k := by
 apply UInt32.toNat_inj.1
 rw [UInt32.toNat_mul, h, Xcl, UInt32.toNat_ofNat', Nat.mul_comm]
theorem X00 {c x : UInt32} (k : Nat) (h : c.toNat = 2 ^ k) : x / c = Xdw x k := by
 apply UInt32.toNat_inj.1
 rw [UInt32.toNat_div, h, Xdw, UInt32.toNat_ofNat', Nat.mod_eq_of_lt (Nat.lt_of_le_of_lt (Nat.div_le_self _ _) x.toNat_lt)]
theorem Xxe (x : UInt32) : GivesV prog 92 [w32 x] w F (w32 (Xhm x)) := by
 refine Xaa func92 rfl ntmps92 rfl rfl [] (.start w F) ?_
 refine wz4 ?_
 refine JC.test (fun h => ?_) (fun h => ?_)
 ·have hx : x = 0 := by apply UInt32.toNat_inj.1; simpa using h
  have e : Xhm x = ((1 : UInt32) ^^^ Xcl 1 13 ^^^ Xdw (1 ^^^ Xcl 1 13) 17) ^^^ Xcl ((1 : UInt32) ^^^ Xcl 1 13 ^^^ Xdw (1 ^^^ Xcl 1 13) 17) 5 := by
   unfold Xhm; rw [if_pos hx]
  rw [e]
  refine wz10 ?_
  refine JR.reslot 7 (w32 1) rfl ?_
  refine JR.reslot 8 (w32 1) rfl ?_
  generalize (1 : UInt32) = x
  skip
  refine Wf Xbh rfl ?_
  refine JO.reslot 9 (w32 (Xcl x 13)) (by rw [Xqx 13 (by decide)]) ?_
  refine wz13 ?_
  refine Wf Xao rfl ?_
  refine wz10 ?_
  generalize x ^^^ Xcl x 13 = y
  refine Wf (Xcv (by decide)) rfl ?_
  refine JO.reslot 13 (w32 (Xdw y 17)) (by rw [X00 17 (by decide)]) ?_
  refine wz13 ?_
  refine Wf Xao rfl ?_
  refine wz10 ?_
  generalize y ^^^ Xdw y 17 = z
  refine Wf Xbh rfl ?_
  refine JO.reslot 17 (w32 (Xcl z 5)) (by rw [Xqx 5 (by decide)]) ?_
  refine wz13 ?_
  refine Wf Xao rfl ?_
  refine wz10 ?_
  exact Xab () rfl
 ·have hx : x ≠ 0 := by rintro rfl; exact h rfl
  have e : Xhm x = (x ^^^ Xcl x 13 ^^^ Xdw (x ^^^ Xcl x 13) 17) ^^^ Xcl (x ^^^ Xcl x 13 ^^^ Xdw (x ^^^ Xcl x 13) 17) 5 := by
   unfold Xhm; rw [if_neg hx]
  rw [e]
  refine wz14 ?_
  refine Wf Xbh rfl ?_
  refine JO.reslot 9 (w32 (Xcl x 13)) (by rw [Xqx 13 (by decide)]) ?_
  refine wz13 ?_
  refine Wf Xao rfl ?_
  refine wz10 ?_
  generalize x ^^^ Xcl x 13 = y
  refine Wf (Xcv (by decide)) rfl ?_
  refine JO.reslot 13 (w32 (Xdw y 17)) (by rw [X00 17 (by decide)]) ?_
  refine wz13 ?_
  refine Wf Xao rfl ?_
  refine wz10 ?_
  generalize y ^^^ Xdw y 17 = z
  refine Wf Xbh rfl ?_
  refine JO.reslot 17 (w32 (Xcl z 5)) (by rw [Xqx 5 (by decide)]) ?_
  refine wz13 ?_
  refine Wf Xao rfl ?_
  refine wz10 ?_
  exact Xab () rfl
theorem Xxf (a : Option Addr) (c : Nat) (L : List Int) (x : UInt32) (h : (sl a c L).holds F w) (hl : L.length ≤ 1000) (hn : L ≠ []) :
  GivesV prog 93 [.slice a L.length c, w32 x] w F (.tuple ⟨[.int .i64 (L.getD (x.toNat % L.length) 0), .bool true]⟩) := by
 have h0 := List.length_pos_iff.2 hn
 have hlt : x.toNat % L.length < L.length := Nat.mod_lt _ h0
 have hx := x.toNat_lt
 refine Xaa func93 rfl ntmps93 rfl rfl [.st (sl a c L)] (.start1 h) ?_
 refine wz4 ?_
 refine JC.test (fun h1 => ?_) (fun h1 => ?_)
 ·exfalso; omega
 refine wz14 ?_
 refine Wf Xaq rfl ?_
 refine JO.reslot 11 (.int .u64 ((x.toNat : Nat) : Int)) (by rw [Xbn, Nat.mod_eq_of_lt (by omega)]) ?_
 refine wz4 ?_
 refine Wf Xaq rfl ?_
 refine JO.reslot 14 (.int .u64 (L.length : Int)) (by rw [Xbn, Nat.mod_eq_of_lt (by omega)]) ?_
 refine wz13 ?_
 refine Wf (OpV.rem (by omega)) rfl ?_
 refine JO.reslot 15 (.int .u64 ((x.toNat % L.length : Nat) : Int)) (by congr 1) ?_
 refine wz13 ?_
 refine Wf Xaq rfl ?_
 refine JO.reslot 16 (.int .i64 ((x.toNat % L.length : Nat) : Int)) (by rw [Xb2 (by omega)]) ?_
 refine wz13 ?_
 refine Xi3 (k := x.toNat % L.length) rfl hlt ?_
 intro b o
 refine wz9 ?_
 refine Xab () ?_
 simp [Xae, List.getD, hlt]
theorem pow6 {i : Nat} (h : i ≤ 6) : (2 ^ i : Nat) ≤ 64 := by
 have h3 : i = 0 ∨ i = 1 ∨ i = 2 ∨ i = 3 ∨ i = 4 ∨ i = 5 ∨ i = 6 := by omega
 rcases h3 with rfl | rfl | rfl | rfl | rfl | rfl | rfl <;> decide
theorem Xxg (m : Int) : GivesV prog 94 [.int .i64 m] w F (.int .i64 (Xin m)) := by
 refine Xaa func94 rfl ntmps94 rfl rfl [] (.start w F) ?_
 refine wz4 ?_
 refine Xap (fun (i : Nat) => [(0, .int .i64 m), (3, .int .i64 ((2 ^ i : Nat) : Int)), (4, .int .i64 (i : Int))]) (fun _ => []) (fun i => i ≤ 6 ∧ (i : Int) ≤ max m 0) (fun i => 6 - i) 0 ⟨by omega, by omega⟩ iI ?_
 rintro i ⟨hi, him⟩
 have hp := pow6 hi
 refine wz11 ?_
 by_cases h1 : (i : Int) < m
 ·refine JO.reslot 8 (.bool true) (by congr 1; exact decide_eq_true h1) ?_
  refine wA ?_
  refine JC.test (fun h2 => ?_) (fun h2 => ?_)
  ·refine wz14 ?_
   generalize hP : 2 ^ i = N at hp
   refine Wf (OpV.mul (by omega)) rfl ?_
   subst hP
   refine JO.reslot 15 (.int .i64 ((2 ^ (i + 1) : Nat) : Int)) (by rw [Nat.pow_succ]; congr 1; rw [Int.natCast_mul]; exact Int.mul_comm _ _) ?_
   refine wz2 ?_
   exact ⟨i + 1, ⟨by omega, by omega⟩, by omega, iI⟩
  ·have e : Xin m = ((2 ^ i : Nat) : Int) := by
    unfold Xin
    rw [show (min (max m 0) 6).toNat = i by omega]
   rw [e]
   refine wz3 ?_
   exact Xab () rfl
 ·refine JO.reslot 8 (.bool false) (by congr 1; exact decide_eq_false h1) ?_
  have e : Xin m = ((2 ^ i : Nat) : Int) := by
   unfold Xin
   rw [show (min (max m 0) 6).toNat = i by omega]
  rw [e]
  refine wX ?_
  exact Xab () rfl
theorem Xxh (n : Nd) (y : Na) (now : Int) (x : UInt32) (h1 : (sl y.d y.dk n.disk).holds F w) (h2 : (sl y.l y.lk n.l).holds F w) (h3 : (sl y.w y.wk n.wait).holds F w) (h4 : (sl y.p y.pk n.peers).holds F w)
  (hn : NdFew n) (hd4 : n.disk.length ≤ 4900) (hql : ∀ x ∈ n.l, x.parents.length ≤ 1000) (hnow : -4611686018427387904 ≤ now ∧ now ≤ 4611686018427387904) :
  Gives prog 38 [ndV n y, .int .i64 now, w32 x] w F (fun q : Na × Ma => .tuple ⟨[ndV (tickW n now x).1 q.1, .int .i64 (tickW n now x).2.1, mgV (tickW n now x).2.2.1 q.2, .bool (tickW n now x).2.2.2.1, w32 (tickW n now x).2.2.2.2]⟩)
   (fun q => [.st (sl q.1.d q.1.dk (tickW n now x).1.disk), .st (sl q.1.l q.1.lk (tickW n now x).1.l), .st (sl q.1.w q.1.wk (tickW n now x).1.wait), .st (sl q.1.p q.1.pk (tickW n now x).1.peers), .st (sl q.2.i q.2.ik (tickW n now x).2.2.1.ids), .st (sl q.2.c q.2.ck (tickW n now x).2.2.1.commits)]) := by
 obtain ⟨no, disk, room, l, wait, seq, up, peers, next, miss⟩ := n
 obtain ⟨ad, kd, al, kl, aw, kw, ap, kp⟩ := y
 have hpl : peers.length ≤ 1000 := hn.peers
 dsimp only [ndV, ndC] at *
 refine Xaa func38 rfl ntmps38 rfl rfl [.st (sl ad kd disk), .st (sl al kl l), .st (sl aw kw wait), .st (sl ap kp peers)] (.start4 h1 h2 h3 h4) ?_
 (repeat (refine wE ?_; intro _)); refine wA ?_
 rename_i bn b6 b8
 generalize hT : Xc6 ⟨no, disk, room, l, wait, seq, up, peers, next, miss⟩ = T
 refine JR.call (v := fun z : Ma => .tuple ⟨[mgV T.1 z, .int .i64 T.2]⟩) (B := fun z => mgB T.1 z) rfl (fun w1 hw => by rw [← hT]; exact Xpk w1 _ ⟨no, disk, room, l, wait, seq, up, peers, next, miss⟩ ⟨ad, kd, al, kl, aw, kw, ap, kp⟩ hw.get hw.get hw.get hn hd4 hql) ?_
 intro z
 dsimp only [mgB, mgV, mgC, List.cons_append, List.nil_append]
 (repeat (refine wE ?_; intro _)); refine wA ?_
 rename_i b11
 by_cases hT2 : T.2 = 0
 case neg =>
  have hx : ¬ ((Xc6 ⟨no, disk, room, l, wait, seq, up, peers, next, miss⟩).2 = 0 ∧ next ≤ now ∧ peers ≠ []) := by rw [hT]; rintro ⟨h, _⟩; exact hT2 h
  refine JO.reslot 23 (.bool true) (by congr 1; exact decide_eq_true hT2) ?_
  rw [Xij hx]
  dsimp only [mg0, List.length_nil]
  refine wz1 ?_
  refine Wf (OpV.build [.int .i64 0, .slice none 0 0, .slice none 0 0] (by kernel_rfl)) rfl ?_
  refine wz9 ?_
  exact CT.done (Y := Na × Ma) (⟨ad, kd, al, kl, aw, kw, ap, kp⟩, ⟨none, 0, none, 0⟩) rfl (fun w ho => ((ho.add (A := sl (α := Commit) none 0 []) Xah).add (A := sl (α := ID) none 0 []) Xah).ent)
 refine JO.reslot 23 (.bool false) (by congr 1; exact decide_eq_false (fun h => h hT2)) ?_
 refine wz11 ?_
 by_cases hnx : next ≤ now
 case neg =>
  have hx : ¬ ((Xc6 ⟨no, disk, room, l, wait, seq, up, peers, next, miss⟩).2 = 0 ∧ next ≤ now ∧ peers ≠ []) := by rintro ⟨_, h, _⟩; exact hnx h
  refine JO.reslot 29 (.bool true) (by congr 1; exact decide_eq_true (by omega)) ?_
  rw [Xij hx]
  dsimp only [mg0, List.length_nil]
  refine wz1 ?_
  refine Wf (OpV.build [.int .i64 0, .slice none 0 0, .slice none 0 0] (by kernel_rfl)) rfl ?_
  refine wz9 ?_
  exact CT.done (Y := Na × Ma) (⟨ad, kd, al, kl, aw, kw, ap, kp⟩, ⟨none, 0, none, 0⟩) rfl (fun w ho => ((ho.add (A := sl (α := Commit) none 0 []) Xah).add (A := sl (α := ID) none 0 []) Xah).ent)
 refine JO.reslot 29 (.bool false) (by congr 1; exact decide_eq_false (by omega)) ?_
 refine wz11 ?_
 refine JC.test (fun hp => ?_) (fun hp => ?_)
 ·have hx : ¬ ((Xc6 ⟨no, disk, room, l, wait, seq, up, peers, next, miss⟩).2 = 0 ∧ next ≤ now ∧ peers ≠ []) := by
   rintro ⟨_, _, h⟩
   exact h (List.eq_nil_of_length_eq_zero (by omega))
  rw [Xij hx]
  dsimp only [mg0, List.length_nil]
  refine wz9 ?_
  refine Wf (OpV.build [.int .i64 0, .slice none 0 0, .slice none 0 0] (by kernel_rfl)) rfl ?_
  refine wz9 ?_
  exact CT.done (Y := Na × Ma) (⟨ad, kd, al, kl, aw, kw, ap, kp⟩, ⟨none, 0, none, 0⟩) rfl (fun w ho => ((ho.add (A := sl (α := Commit) none 0 []) Xah).add (A := sl (α := ID) none 0 []) Xah).ent)
 have hpn : peers ≠ [] := by rintro rfl; exact hp rfl
 have e1 : tickW ⟨no, disk, room, l, wait, seq, up, peers, next, miss⟩ now x = (⟨no, disk, room, l, wait, seq, up, peers, now + Xin miss, IntKind.i64.wrap (min miss 5 + 1)⟩, peers.getD ((Xhm x).toNat % peers.length) 0, T.1, true, Xhm x) := by
  unfold tickW
  rw [hT, if_pos ⟨hT2, hnx, hpn⟩]
 rw [e1]
 have hwx := Xvs miss
 refine wz14 ?_
 refine JR.callV rfl (fun w1 hw => Xxe w1 _ x) ?_
 refine wz9 ?_
 refine JR.callV rfl (fun w1 hw => Xxf w1 _ ap kp peers (Xhm x) hw.get hpl hpn) ?_
 refine wX ?_
 refine JR.callV rfl (fun w1 hw => Xxg w1 _ miss) ?_
 refine We rfl ?_
 refine Wf (Vt (by omega)) rfl ?_
 refine wz9 ?_
 refine Wf OpV.min rfl ?_
 refine We rfl ?_
 refine Wf Xgs rfl ?_
 refine wz9 ?_
 refine JC.drawP mixed ?_
 refine JP.tv 0 [.own bn 50 [.int .i64 no, .slice ad disk.length kd, .int .i64 room, .slice al l.length kl, .slice aw wait.length kw, .int .i64 seq, .bool up, .slice ap peers.length kp, .int .i64 (now + Xin miss), .int .i64 (IntKind.i64.wrap (min miss 5 + 1))]] ?_
 refine Xad 1 ?_
 refine JP.tv 2 [.own b11 52 [.int .i64 T.1.kind, .slice z.i T.1.ids.length z.ik, .slice z.c T.1.commits.length z.ck]] ?_
 refine Xad 3 ?_
 refine Xar 4 rfl rfl (Wi (Wd (nO ?_)))
 refine Xad 5 ?_
 refine Xar 6 rfl rfl (Wi (Wd (nO ?_)))
 refine Xad 7 ?_
 refine Xad 8 ?_
 refine JP.nil (by kernel_rfl) ?_
 refine wz13 ?_
 exact Xab (Y := Na × Ma) (⟨ad, kd, al, kl, aw, kw, ap, kp⟩, z) rfl
theorem X4u {L : List Commit} {m : Nat} (h : fewL L m = true) : L.length ≤ m ∧ (∀ x ∈ L, fine x) ∧ ∀ x ∈ L, x.parents.length ≤ 1000 := ⟨(Xl8 h).1, (Xl8 h).2, Xh5 h⟩
theorem law_hears (y : Na) (z : Ma) (n : Nd) (m : Mg) (h1 : (sl y.d y.dk n.disk).holds F w) (h2 : (sl y.l y.lk n.l).holds F w) (h3 : (sl y.w y.wk n.wait).holds F w) (h4 : (sl y.p y.pk n.peers).holds F w) (h5 : (sl z.i z.ik m.ids).holds F w) (h6 : (sl z.c z.ck m.commits).holds F w) :
  GivesV prog 5 [ndV n y, mgV m z] w F (.bool true) := by
 have hdl : n.disk.length < 9223372036854775807 := by have := h1.2.2.1; simp only [lim] at this; omega
 have hpl : n.peers.length < 9223372036854775807 := by have := h4.2.2.1; simp only [lim] at this; omega
 have hil : m.ids.length < 9223372036854775807 := by have := h5.2.2.1; simp only [lim] at this; omega
 have hst := (Hold.start4 h1 h2 h3 h4).add (A := sl z.c z.ck m.commits) (Asn.mono _ _ _ _ (fun k hk => ⟨.inl hk, by simp [free, Fact.owns]⟩) h6)
 have hst := hst.add (A := sl z.i z.ik m.ids) (Asn.mono _ _ _ _ (fun k hk => ⟨.inl hk, by simp [free, Fact.owns]⟩) h5)
 obtain ⟨no, disk, room, l, wait, seq, up, peers, next, miss⟩ := n
 obtain ⟨ad, kd, al, kl, aw, kw, ap, kp⟩ := y
 obtain ⟨kind, ids, cs⟩ := m
 obtain ⟨ai, ki, ac, kc⟩ := z
 dsimp only [ndV, ndC, mgV, mgC] at *
 refine Xaa func5 rfl ntmps5 rfl rfl _ hst ?_
 (repeat (refine wE ?_; intro _)); refine wA ?_
 refine JR.callV rfl (fun w1 hw => Xlu w1 _) ?_
 refine wz9 ?_
 refine JR.callV rfl (fun w1 hw => Xvt w1 _ ⟨no, disk, room, l, wait, seq, up, peers, next, miss⟩ ⟨ad, kd, al, kl, aw, kw, ap, kp⟩ hw.get hw.get hdl hpl) ?_
 refine wz9 ?_
 refine JR.callV rfl (fun w1 hw => X4q w1 _ ⟨kind, ids, cs⟩ ⟨ai, ki, ac, kc⟩ hw.get hil) ?_
 cases hfew : Xqv ⟨no, disk, room, l, wait, seq, up, peers, next, miss⟩ with
 | false =>
  refine wz8 ?_
  exact Xab () rfl
 | true =>
 cases hfm : X0v ⟨kind, ids, cs⟩ with
 | false =>
  refine wz8 ?_
  exact Xab () rfl
 | true =>
 have hs := Xn3 hfew
 have hd4 : disk.length ≤ 4900 := by have := hs.disk; dsimp only at this; omega
 simp only [X0v, Bool.and_eq_true, decide_eq_true_eq] at hfm
 obtain ⟨hc1, hc2, hc3⟩ := X4u hfm.1
 have hi30 := hfm.2
 obtain ⟨H, hH⟩ : ∃ H, Xci ⟨no, disk, room, l, wait, seq, up, peers, next, miss⟩ ⟨kind, ids, cs⟩ = H := ⟨_, rfl⟩
 have c1 := fun w1 F1 a1 a2 a3 a4 a5 a6 => Xn1 w1 F1 ⟨no, disk, room, l, wait, seq, up, peers, next, miss⟩ ⟨ad, kd, al, kl, aw, kw, ap, kp⟩ ⟨kind, ids, cs⟩ ⟨ai, ki, ac, kc⟩ a1 a2 a3 a4 a5 a6 hs.few (by show cs.length ≤ 90; omega) hc2 hs.qw hc3
 have c2 := fun w1 F1 a1 a2 a3 a4 a5 a6 => Xxd w1 F1 ⟨no, disk, room, l, wait, seq, up, peers, next, miss⟩ ⟨ad, kd, al, kl, aw, kw, ap, kp⟩ ⟨kind, ids, cs⟩ ⟨ai, ki, ac, kc⟩ a1 a2 a3 a4 a5 a6 hs.few hd4 hs.ql hs.qw (by show cs.length ≤ 90; omega) hc2 hc3 (by show ids.length ≤ _; omega)
 dsimp only [hearV, hearB] at c2
 rw [hH] at c1 c2
 obtain ⟨⟨no2, disk2, room2, l2, wait2, seq2, up2, peers2, next2, miss2⟩, ⟨kind2, ids2, cs2⟩, t2⟩ := H
 dsimp only at c1 c2
 refine wX ?_
 refine JR.call (v := fun q : Na × Ma => .tuple ⟨[ndV ⟨no2, disk2, room2, l2, wait2, seq2, up2, peers2, next2, miss2⟩ q.1, mgV ⟨kind2, ids2, cs2⟩ q.2, .bool t2]⟩) (B := fun q => [.st (sl q.1.d q.1.dk disk2), .st (sl q.1.l q.1.lk l2), .st (sl q.1.w q.1.wk wait2), .st (sl q.1.p q.1.pk peers2), .st (sl q.2.i q.2.ik ids2), .st (sl q.2.c q.2.ck cs2)]) rfl (fun w1 hw => c1 w1 _ hw.get hw.get hw.get hw.get hw.get hw.get) ?_
 rintro ⟨⟨c4, r4, c5, r5, c6, r6, c7, r7⟩, ⟨c8, r8, c9, r9⟩⟩
 dsimp only [ndV, ndC, mgV, mgC, List.cons_append, List.nil_append]
 (repeat (refine wF ?_; intro _)); refine wX ?_
 refine JR.call (v := fun q : Na × Ma => .tuple ⟨[ndV ⟨no2, disk2, room2, l2, wait2, seq2, up2, peers2, next2, miss2⟩ q.1, mgV ⟨kind2, ids2, cs2⟩ q.2, .bool t2]⟩) (B := fun q => [.st (sl q.1.d q.1.dk disk2), .st (sl q.1.l q.1.lk l2), .st (sl q.1.w q.1.wk wait2), .st (sl q.1.p q.1.pk peers2), .st (sl q.2.i q.2.ik ids2), .st (sl q.2.c q.2.ck cs2)]) rfl (fun w1 hw => c2 w1 _ hw.get hw.get hw.get hw.get hw.get hw.get) ?_
 rintro ⟨⟨d4, s4, d5, s5, d6, s6, d7, s7⟩, ⟨d8, s8, d9, s9⟩⟩
 dsimp only [ndV, ndC, mgV, mgC, List.cons_append, List.nil_append]
 (repeat (refine wF ?_; intro _)); refine wX ?_
 refine JR.callV rfl (fun w1 hw => Xs5 w1 _ ⟨no2, disk2, room2, l2, wait2, seq2, up2, peers2, next2, miss2⟩ ⟨c4, r4, c5, r5, c6, r6, c7, r7⟩ ⟨d4, s4, d5, s5, d6, s6, d7, s7⟩ hw.get hw.get hw.get hw.get hw.get hw.get hw.get hw.get) ?_
 refine wz9 ?_
 refine JR.callV rfl (fun w1 hw => Xqw w1 _ ⟨kind2, ids2, cs2⟩ ⟨c8, r8, c9, r9⟩ ⟨d8, s8, d9, s9⟩ hw.get hw.get hw.get hw.get) ?_
 obtain ⟨T, hT⟩ : ∃ T, Xc6 ⟨no, disk, room, l, wait, seq, up, peers, next, miss⟩ = T := ⟨_, rfl⟩
 have c3 := fun w1 F1 a1 a2 a3 => Xjg w1 F1 ⟨no, disk, room, l, wait, seq, up, peers, next, miss⟩ ⟨ad, kd, al, kl, aw, kw, ap, kp⟩ a1 a2 a3 hs.few
 have c4' := fun w1 F1 a1 a2 a3 => Xpk w1 F1 ⟨no, disk, room, l, wait, seq, up, peers, next, miss⟩ ⟨ad, kd, al, kl, aw, kw, ap, kp⟩ a1 a2 a3 hs.few hd4 hs.ql
 rw [hT] at c3 c4'
 obtain ⟨⟨kind3, ids3, cs3⟩, e3⟩ := T
 dsimp only at c3 c4'
 refine wz9 ?_
 refine JR.call (v := fun z : Ma => .tuple ⟨[mgV ⟨kind3, ids3, cs3⟩ z, .int .i64 e3]⟩) (B := fun z => mgB ⟨kind3, ids3, cs3⟩ z) rfl (fun w1 hw => c3 w1 _ hw.get hw.get hw.get) ?_
 rintro ⟨p1, q1, p2, q2⟩
 dsimp only [mgB, mgV, mgC, List.cons_append, List.nil_append]
 (repeat (refine wF ?_; intro _)); refine wX ?_
 refine JR.call (v := fun z : Ma => .tuple ⟨[mgV ⟨kind3, ids3, cs3⟩ z, .int .i64 e3]⟩) (B := fun z => mgB ⟨kind3, ids3, cs3⟩ z) rfl (fun w1 hw => c4' w1 _ hw.get hw.get hw.get) ?_
 rintro ⟨p3, q3, p4, q4⟩
 dsimp only [mgB, mgV, mgC, List.cons_append, List.nil_append]
 (repeat (refine wF ?_; intro _)); refine wX ?_
 refine JR.callV rfl (fun w1 hw => Xqw w1 _ ⟨kind3, ids3, cs3⟩ ⟨p1, q1, p2, q2⟩ ⟨p3, q3, p4, q4⟩ hw.get hw.get hw.get hw.get) ?_
 refine wX ?_
 refine JO.reslot 79 (.bool true) (by simp) ?_
 refine wX ?_
 refine Xab () ?_
 simp [Xae]
theorem law_ticks (y : Na) (n : Nd) (now : Int) (x : UInt32) (h1 : (sl y.d y.dk n.disk).holds F w) (h2 : (sl y.l y.lk n.l).holds F w) (h3 : (sl y.w y.wk n.wait).holds F w) (h4 : (sl y.p y.pk n.peers).holds F w) :
  GivesV prog 6 [ndV n y, .int .i64 now, w32 x] w F (.bool true) := by
 have hdl : n.disk.length < 9223372036854775807 := by have := h1.2.2.1; simp only [lim] at this; omega
 have hpl : n.peers.length < 9223372036854775807 := by have := h4.2.2.1; simp only [lim] at this; omega
 obtain ⟨no, disk, room, l, wait, seq, up, peers, next, miss⟩ := n
 obtain ⟨ad, kd, al, kl, aw, kw, ap, kp⟩ := y
 dsimp only [ndV, ndC] at *
 refine Xaa func6 rfl ntmps6 rfl rfl [.st (sl ad kd disk), .st (sl al kl l), .st (sl aw kw wait), .st (sl ap kp peers)] (.start4 h1 h2 h3 h4) ?_
 (repeat (refine wE ?_; intro _)); refine wA ?_
 refine JR.callV rfl (fun w1 hw => Xlu w1 _) ?_
 refine wz9 ?_
 refine JR.callV rfl (fun w1 hw => Xvt w1 _ ⟨no, disk, room, l, wait, seq, up, peers, next, miss⟩ ⟨ad, kd, al, kl, aw, kw, ap, kp⟩ hw.get hw.get hdl hpl) ?_
 cases hfew : Xqv ⟨no, disk, room, l, wait, seq, up, peers, next, miss⟩ with
 | false =>
  refine wz8 ?_
  exact Xab () rfl
 | true =>
 have hs := Xn3 hfew
 have hd4 : disk.length ≤ 4900 := by have := hs.disk; dsimp only at this; omega
 refine wX ?_
 by_cases g1 : now < 0
 ·refine JO.reslot 34 (.bool true) (by congr 1; exact decide_eq_true g1) ?_
  refine wz8 ?_
  exact Xab () rfl
 refine JO.reslot 34 (.bool false) (by congr 1; exact decide_eq_false g1) ?_
 refine wz5 ?_
 by_cases g2 : 1099511627776 < now
 ·refine JO.reslot 38 (.bool true) (by congr 1; exact decide_eq_true g2) ?_
  refine wz8 ?_
  exact Xab () rfl
 refine JO.reslot 38 (.bool false) (by congr 1; exact decide_eq_false g2) ?_
 refine wX ?_
 refine JC.test (fun g3 => ?_) (fun g3 => ?_)
 ·refine wz9 ?_
  exact Xab () rfl
 obtain ⟨H, hH⟩ : ∃ H, tickW ⟨no, disk, room, l, wait, seq, up, peers, next, miss⟩ now x = H := ⟨_, rfl⟩
 have c1 := fun w1 F1 a1 a2 a3 a4 => Xn2 w1 F1 ⟨no, disk, room, l, wait, seq, up, peers, next, miss⟩ ⟨ad, kd, al, kl, aw, kw, ap, kp⟩ now x a1 a2 a3 a4 hs.few ⟨by omega, by omega⟩
 have c2 := fun w1 F1 a1 a2 a3 a4 => Xxh w1 F1 ⟨no, disk, room, l, wait, seq, up, peers, next, miss⟩ ⟨ad, kd, al, kl, aw, kw, ap, kp⟩ now x a1 a2 a3 a4 hs.few hd4 hs.ql ⟨by omega, by omega⟩
 rw [hH] at c1 c2
 obtain ⟨⟨no2, disk2, room2, l2, wait2, seq2, up2, peers2, next2, miss2⟩, p2, ⟨kind2, ids2, cs2⟩, t2, x2⟩ := H
 dsimp only at c1 c2
 refine wz1 ?_
 refine JR.call (v := fun q : Na × Ma => .tuple ⟨[ndV ⟨no2, disk2, room2, l2, wait2, seq2, up2, peers2, next2, miss2⟩ q.1, .int .i64 p2, mgV ⟨kind2, ids2, cs2⟩ q.2, .bool t2, w32 x2]⟩) (B := fun q => [.st (sl q.1.d q.1.dk disk2), .st (sl q.1.l q.1.lk l2), .st (sl q.1.w q.1.wk wait2), .st (sl q.1.p q.1.pk peers2), .st (sl q.2.i q.2.ik ids2), .st (sl q.2.c q.2.ck cs2)]) rfl (fun w1 hw => c1 w1 _ hw.get hw.get hw.get hw.get) ?_
 rintro ⟨⟨c4, r4, c5, r5, c6, r6, c7, r7⟩, ⟨c8, r8, c9, r9⟩⟩
 dsimp only [ndV, ndC, mgV, mgC, List.cons_append, List.nil_append]
 (repeat (refine wF ?_; intro _)); refine wX ?_
 refine JR.call (v := fun q : Na × Ma => .tuple ⟨[ndV ⟨no2, disk2, room2, l2, wait2, seq2, up2, peers2, next2, miss2⟩ q.1, .int .i64 p2, mgV ⟨kind2, ids2, cs2⟩ q.2, .bool t2, w32 x2]⟩) (B := fun q => [.st (sl q.1.d q.1.dk disk2), .st (sl q.1.l q.1.lk l2), .st (sl q.1.w q.1.wk wait2), .st (sl q.1.p q.1.pk peers2), .st (sl q.2.i q.2.ik ids2), .st (sl q.2.c q.2.ck cs2)]) rfl (fun w1 hw => c2 w1 _ hw.get hw.get hw.get hw.get) ?_
 rintro ⟨⟨d4, s4, d5, s5, d6, s6, d7, s7⟩, ⟨d8, s8, d9, s9⟩⟩
 dsimp only [ndV, ndC, mgV, mgC, List.cons_append, List.nil_append]
 (repeat (refine wF ?_; intro _)); refine wX ?_
 refine JR.callV rfl (fun w1 hw => Xs5 w1 _ ⟨no2, disk2, room2, l2, wait2, seq2, up2, peers2, next2, miss2⟩ ⟨c4, r4, c5, r5, c6, r6, c7, r7⟩ ⟨d4, s4, d5, s5, d6, s6, d7, s7⟩ hw.get hw.get hw.get hw.get hw.get hw.get hw.get hw.get) ?_
 refine wz9 ?_
 refine JR.callV rfl (fun w1 hw => Xqw w1 _ ⟨kind2, ids2, cs2⟩ ⟨c8, r8, c9, r9⟩ ⟨d8, s8, d9, s9⟩ hw.get hw.get hw.get hw.get) ?_
 refine wX ?_
 refine JO.reslot 79 (.bool true) (by simp) ?_
 refine wX ?_
 refine JO.reslot 84 (.bool true) (by simp) ?_
 refine wX ?_
 refine Xab () ?_
 simp [Xae]
end
end
structure OpenT (P : Program) (α : Type) [Cell α] (t : TypeId) : Prop where
 ok : ∀ {H : Type} {enc : TypeId × Value → H} {w : World} {sp : Nat → Bool} {held : Bool} {fuel : Nat} {cs : List Value} {x : DataW H × List MemPlace},
  DataW.trod enc P w 0 sp held fuel t cs = some x → (∀ n ∈ x.1.weights P t, n ≤ reachBytes) → ∃ (u : α) (y : Cell.Ix α), cs = Cell.cells u y ∧ ∀ A ∈ Cell.facts u y, A.holds (fun _ => True) w
theorem Xi1 {H : Type} {P : Program} {e : TypeId} {d : DataW H} {n : Nat} (hn : n ∈ d.weights P e) : ∀ {ds : List (DataW H)}, d ∈ ds → n ∈ DataW.weightsAll P e ds
 | [], h => by cases h
 | d' :: ds, h => by
  simp only [DataW.weightsAll, List.mem_append]
  rcases List.mem_cons.1 h with rfl | h
  ·exact .inl hn
  ·exact .inr (Xi1 hn h)
theorem Xqy (a : Addr) : (a.add 0).add 0 = a := by simp [Addr.add]
theorem X01 {w : World} {a : Addr} {n : Nat} {ci : List Value} (h : w.cells? 0 a n = some ci) (j : Nat) (v : Value) (hv : ci[j]? = some v) : w.cell? (a.add j) = some v := by
 unfold World.cells? at h
 rw [if_pos (Nat.zero_le _)] at h
 have hl := mapM_some_length h
 have hj : j < n := by
  have := (List.getElem?_eq_some_iff.1 hv).1
  rw [hl, List.length_range] at this
  exact this
 have := mapM_some_get h j j (by simp [hj])
 rw [this, hv]
theorem OpenT.slice {P : Program} {α : Type} [Cell α] {t e : TypeId} (hO : OpenT P α e) (ht : P.underlying t = some (.slice e)) (hc : P.cellsOf e = Cell.sz α) (hb : 1 ≤ P.bytesOf e)
  {H : Type} {enc : TypeId × Value → H} {w : World} {sp : Nat → Bool} {held : Bool} {fuel : Nat} {cs : List Value} {x : DataW H × List MemPlace}
  (h : DataW.trod enc P w 0 sp held fuel t cs = some x) (hw : ∀ n ∈ x.1.weights P t, n ≤ reachBytes) :
  ∃ (a : Option Addr) (c : Nat) (L : List α), cs = [.slice a L.length c] ∧ (sl a c L).holds (fun _ => True) w := by
 rcases DataW.trod_slice ht h with ⟨rfl, rfl⟩ | ⟨a, len, cap, elems, rest, n, _, rfl, rfl, _, hlc, hcm, hlen, helems, _, _⟩
 ·exact ⟨none, 0, [], rfl, Xah⟩
 ·simp only [DataW.weights, ht] at hw
  have hw1 : len ≤ reachBytes := by
   have := hw _ (List.mem_cons_self ..)
   simp only [List.length_map] at this
   have h2 : (elems.length + rest.length) * 1 ≤ (elems.length + rest.length) * P.bytesOf e := Nat.mul_le_mul_left _ hb
   omega
  have key : ∀ i (hi : i < len), ∃ (u : α), ∃ (y : Cell.Ix α), (∀ j v, (Cell.cells u y)[j]? = some v → w.cell? ((a.add (i * Cell.sz α)).add j) = some v) ∧ ∀ A ∈ Cell.facts u y, A.holds (fun _ => True) w := by
   intro i hi
   have h1 := helems i hi
   have hi' : i < elems.length := by omega
   rw [List.getElem?_eq_getElem hi', hc] at h1
   obtain ⟨ci, hci, hd⟩ := Option.bind_eq_some_iff.1 h1
   obtain ⟨u, y, rfl, hf⟩ := hO.ok hd (fun n hn => hw n (List.mem_cons_of_mem _ (List.mem_append_left _ (Xi1 hn (List.mem_map_of_mem (List.getElem_mem hi'))))))
   exact ⟨u, y, fun j v hv => X01 hci j v hv, hf⟩
  obtain ⟨f, hf⟩ := Classical.axiomOfChoice (fun i : Fin len => key i.1 i.2)
  refine ⟨some a, cap, List.ofFn f, by simp, ?_⟩
  have hR : reachBytes = 140737488351232 := rfl
  refine ⟨by simpa using hlc, hcm, by simp only [List.length_ofFn, lim]; omega, fun hne => ?_⟩
  have h0 : 0 < len := by
   have := List.length_pos_iff.2 hne
   simpa using this
  obtain ⟨y0, hy0, _⟩ := hf ⟨0, h0⟩
  have hpos : 0 < (Cell.cells (f ⟨0, h0⟩) y0).length := by rw [Cell.len]; exact Cell.pos
  have hc0 := hy0 0 _ (List.getElem?_eq_getElem hpos)
  simp only [Nat.zero_mul, Xqy] at hc0
  obtain ⟨b, off, spot⟩ := a
  have hspot : spot = none := by
   cases spot with
   | none => rfl
   | some s =>
    unfold World.cell? at hc0
    split at hc0
    ·simp at hc0
    ·cases hc0
  subst hspot
  refine ⟨b, off, rfl, trivial, ?_, fun i hi => ?_⟩
  ·rcases Nat.lt_or_ge b w.heap.size with h | h
   ·exact h
   ·unfold World.cell? at hc0
    simp [Array.getElem?_eq_none h] at hc0
  ·have hi' : i < len := by simpa using hi
   obtain ⟨y, hy, hfa⟩ := hf ⟨i, hi'⟩
   refine ⟨y, fun j v hv => ?_, fun A hA => ?_⟩
   ·simp only [List.getElem_ofFn] at hv
    have := hy j v hv
    rw [Addr.add_mid, Addr.add_mid] at this
    exact this
   ·simp only [List.getElem_ofFn] at hA
    exact hfa A hA
theorem open_byte : OpenT prog UInt8 5 := ⟨fun h _ => by
 obtain ⟨n, rfl, _, hw⟩ := DataW.trod_int underlying5 h
 have hb : 0 ≤ n ∧ n ≤ 255 := by simpa [Lit.wf, IntKind.min, IntKind.max, IntKind.signed, IntKind.bits] using hw
 refine ⟨UInt8.ofNat n.toNat, (), ?_, by simp [Cell.facts]⟩
 show _ = [Xaj _]
 simp only [Xaj, List.cons.injEq, and_true, Value.int.injEq, true_and]
 rw [UInt8.toNat_ofNat']
 omega⟩
def Xqz : Value → UInt8
 | .int _ n => UInt8.ofNat n.toNat
 | _ => 0
set_option maxRecDepth 100000 in
theorem open_id : OpenT prog ID 81 := ⟨fun {H enc w sp held fuel cs x} h _ => by
 have hcell : prog.cellsOf 5 = 1 := by kernel_rfl
 have hcell2 : prog.cellsOf 81 = 32 := by kernel_rfl
 obtain ⟨xs, m, rfl, rfl, hl, hlx, hx⟩ := DataW.trod_array underlying81 h
 rw [hcell2] at hl
 have key : ∀ i (hi : i < cs.length), cs[i] = Xaj (Xqz cs[i]) := by
  intro i hi
  have h1 := hx i (by omega)
  rw [hcell, Nat.mul_one, List.getElem?_eq_getElem (by omega)] at h1
  have h2 : (cs.drop i).take 1 = [cs[i]] := by
   rw [List.drop_eq_getElem_cons hi]; rfl
  rw [h2] at h1
  obtain ⟨n, hn, _, hw⟩ := DataW.trod_int underlying5 h1
  injection hn with hn
  have hb : 0 ≤ n ∧ n ≤ 255 := by simpa [Lit.wf, IntKind.min, IntKind.max, IntKind.signed, IntKind.bits] using hw
  rw [hn]
  simp only [Xqz, Xaj, Value.int.injEq, true_and]
  rw [UInt8.toNat_ofNat']
  omega
 refine ⟨⟨cs.map Xqz, by rw [List.length_map]; exact hl⟩, (), ?_, by simp [Cell.facts]⟩
 show cs = (cs.map Xqz).map Xaj
 apply List.ext_getElem
 ·simp
 ·intro i h1 h2
  simp only [List.getElem_map]
  exact key i h1⟩
set_option maxRecDepth 100000 in
theorem open_commit : OpenT prog Commit 29 := ⟨fun {H enc w sp held fuel cs x} h hw => by
 have c24 : prog.cellsOf 24 = 2 := by kernel_rfl
 have c27 : prog.cellsOf 27 = 4 := by kernel_rfl
 have c29 : prog.cellsOf 29 = 8 := by kernel_rfl
 have c25 : prog.cellsOf 25 = 1 := by kernel_rfl
 have c3 : prog.cellsOf 3 = 1 := by kernel_rfl
 have c9 : prog.cellsOf 9 = 1 := by kernel_rfl
 obtain ⟨xs, m, rfl, rfl, hl, hlx, hx⟩ := DataW.trod_struct underlying29 h
 rw [c29] at hl
 match cs, hl with
 | [v0, v1, v2, v3, v4, v5, v6, v7], _ =>
 match xs, hlx with
 | [x0, x1, x2, x3], _ =>
 have h0 := hx 0 _ rfl
 have h1 := hx 1 _ rfl
 have h2 := hx 2 _ rfl
 have h3 := hx 3 _ rfl
 simp only [List.getElem_toArray, List.getElem_cons_zero, List.getElem_cons_succ, c24, c3, c25, c27, List.drop_zero, List.drop_succ_cons, List.take_succ_cons, List.take_zero, List.getElem?_cons_zero, List.getElem?_cons_succ] at h0 h1 h2 h3
 obtain ⟨ys, m', rfl, rfl, _, hly, hy⟩ := DataW.trod_struct underlying24 h0
 match ys, hly with
 | [y0, y1], _ =>
 have e0 := hy 0 _ rfl
 have e1 := hy 1 _ rfl
 simp only [List.getElem_toArray, List.getElem_cons_zero, List.getElem_cons_succ, c3, List.drop_zero, List.drop_succ_cons, List.take_succ_cons, List.take_zero, List.getElem?_cons_zero, List.getElem?_cons_succ] at e0 e1
 obtain ⟨n0, q0, _, _⟩ := DataW.trod_int underlying3 e0
 obtain ⟨n1, q1, _, _⟩ := DataW.trod_int underlying3 e1
 obtain ⟨n2, q2, _, _⟩ := DataW.trod_int underlying3 h1
 obtain ⟨zs, m2, hm2, rfl, _, hlz, hz⟩ := DataW.trod_struct underlying27 h3
 match zs, hlz with
 | [z0, z1, z2, z3], _ =>
 have g0 := hz 0 _ rfl
 have g1 := hz 1 _ rfl
 have g2 := hz 2 _ rfl
 have g3 := hz 3 _ rfl
 simp only [List.getElem_toArray, List.getElem_cons_zero, List.getElem_cons_succ, c3, c9, List.drop_zero, List.drop_succ_cons, List.take_succ_cons, List.take_zero, List.getElem?_cons_zero, List.getElem?_cons_succ] at g0 g1 g2 g3
 obtain ⟨k0, r0, _, _⟩ := DataW.trod_int underlying3 g0
 obtain ⟨s1, r1, r1x, _⟩ := DataW.trod_string underlying9 g1
 obtain ⟨s2, r2, r2x, _⟩ := DataW.trod_string underlying9 g2
 obtain ⟨k3, r3, _, _⟩ := DataW.trod_int underlying3 g3
 simp only [DataW.weights, underlying29, List.map_cons, List.map_nil, DataW.weightsEach, List.append_nil, List.mem_append, List.map_toArray] at hw
 obtain ⟨pa, pc, L, q3, hsl⟩ := open_id.slice underlying25 (by kernel_rfl) (by rw [show prog.bytesOf 81 = 32 by kernel_rfl]; decide) h2 (fun n hn => hw n (by simp [hn]))
 injection q0 with q0
 injection q1 with q1
 injection q2 with q2
 injection q3 with q3
 injection r0 with r0
 injection r1 with r1
 injection r2 with r2
 injection r3 with r3
 subst q0 q1 q2 q3 r0 r1 r2 r3
 exact ⟨⟨⟨n0, n1⟩, n2, L, ⟨k0, s1, s2, k3⟩⟩, (pa, pc), rfl, fun A hA => by simp only [Cell.facts, List.mem_singleton] at hA; subst hA; exact hsl⟩⟩
end Ab
end Go.Proofs.YtdgeffphifgflaaGreat
namespace Go.Proofs.YtdgeffphifgflaaGreat
open Go Go.ChangeShapes Go.WideShapes Go.ChangeAt Go.RowKit
set_option linter.unusedVariables false
theorem X5n : ownKnob Tryz.prog.godebug = none := by kernel_rfl
theorem laid : laidOutB Tryz.prog = true := by kernel_rfl
section
variable {H : Type} {enc : TypeId × Value → H} {W : World} {r : Reach} {base : Nat} {v : Value} {d : DataW H} {p : List MemPlace}
end
section
variable {H : Type} {enc : TypeId × Value → H} {P : Program} {w : World} {base : Nat} {spare : Nat → Bool} {held : Bool}
end
end Go.Proofs.YtdgeffphifgflaaGreat
namespace Go.Proofs.YtdgeffphifgflaaGreat
namespace Ab
open Go Go.RowKit
set_option linter.unusedVariables false
set_option linter.unusedSimpArgs false
instance : Cell Nd where
  Ix := Na
  sz := 10
  cells n y := ndC n y
  facts n y := [sl y.d y.dk n.disk, sl y.l y.lk n.l, sl y.w y.wk n.wait, sl y.p y.pk n.peers]
  len _ _ := rfl
  one n y := by
    intro v hv
    simp only [List.mem_cons, List.not_mem_nil, or_false] at hv
    rcases hv with rfl | rfl | rfl | rfl | rfl | rfl | rfl | rfl | rfl | rfl <;> rfl
  pos := by decide
instance : Cell Mg where
  Ix := Ma
  sz := 3
  cells n y := mgC n y
  facts n y := [sl y.i y.ik n.ids, sl y.c y.ck n.commits]
  len _ _ := rfl
  one n y := by
    intro v hv
    simp only [List.mem_cons, List.not_mem_nil, or_false] at hv
    rcases hv with rfl | rfl | rfl <;> rfl
  pos := by decide
theorem open_int : OpenT Tryz.prog Int 3 := ⟨fun h _ => by
  obtain ⟨n, rfl, _, _⟩ := DataW.trod_int Tryz.underlying3 h
  exact ⟨n, (), rfl, by simp [Cell.facts]⟩⟩
set_option maxRecDepth 100000 in
theorem open_node : OpenT Tryz.prog Nd 50 := ⟨fun {H enc w sp held fuel cs x} h hw => by
  have cT : Tryz.prog.cellsOf 50 = 10 := by kernel_rfl
  have c_bool : Tryz.prog.cellsOf 4 = 1 := by kernel_rfl
  have c_bytes : Tryz.prog.cellsOf 22 = 1 := by kernel_rfl
  have c_commits : Tryz.prog.cellsOf 35 = 1 := by kernel_rfl
  have c_int : Tryz.prog.cellsOf 3 = 1 := by kernel_rfl
  have c_ints : Tryz.prog.cellsOf 45 = 1 := by kernel_rfl
  obtain ⟨xs, m, rfl, rfl, hl, hlx, hx⟩ := DataW.trod_struct Tryz.underlying50 h
  rw [cT] at hl
  match cs, hl with
  | [v0, v1, v2, v3, v4, v5, v6, v7, v8, v9], _ =>
  match xs, hlx with
  | [x0, x1, x2, x3, x4, x5, x6, x7, x8, x9], _ =>
  have h0 := hx 0 _ rfl
  have h1 := hx 1 _ rfl
  have h2 := hx 2 _ rfl
  have h3 := hx 3 _ rfl
  have h4 := hx 4 _ rfl
  have h5 := hx 5 _ rfl
  have h6 := hx 6 _ rfl
  have h7 := hx 7 _ rfl
  have h8 := hx 8 _ rfl
  have h9 := hx 9 _ rfl
  simp only [List.getElem_toArray, List.getElem_cons_zero, List.getElem_cons_succ, c_bool, c_bytes, c_commits, c_int, c_ints, List.drop_zero, List.drop_succ_cons, List.take_succ_cons, List.take_zero, List.getElem?_cons_zero, List.getElem?_cons_succ] at h0 h1 h2 h3 h4 h5 h6 h7 h8 h9
  simp only [DataW.weights, Tryz.underlying50, List.map_cons, List.map_nil, DataW.weightsEach, List.append_nil, List.mem_append, List.map_toArray] at hw
  obtain ⟨n0, q0, _, _⟩ := DataW.trod_int Tryz.underlying3 h0
  obtain ⟨a1, k1, L1, q1, s1⟩ := open_byte.slice Tryz.underlying22 (by kernel_rfl) (by decide +kernel) h1 (fun n hn => hw n (by simp [hn]))
  obtain ⟨n2, q2, _, _⟩ := DataW.trod_int Tryz.underlying3 h2
  obtain ⟨a3, k3, L3, q3, s3⟩ := open_commit.slice Tryz.underlying35 (by kernel_rfl) (by rw [show Tryz.prog.bytesOf 29 = 96 by kernel_rfl]; decide) h3 (fun n hn => hw n (by simp [hn]))
  obtain ⟨a4, k4, L4, q4, s4⟩ := open_commit.slice Tryz.underlying35 (by kernel_rfl) (by rw [show Tryz.prog.bytesOf 29 = 96 by kernel_rfl]; decide) h4 (fun n hn => hw n (by simp [hn]))
  obtain ⟨n5, q5, _, _⟩ := DataW.trod_int Tryz.underlying3 h5
  obtain ⟨n6, q6, _, _⟩ := DataW.trod_bool Tryz.underlying4 h6
  obtain ⟨a7, k7, L7, q7, s7⟩ := open_int.slice Tryz.underlying45 (by kernel_rfl) (by decide +kernel) h7 (fun n hn => hw n (by simp [hn]))
  obtain ⟨n8, q8, _, _⟩ := DataW.trod_int Tryz.underlying3 h8
  obtain ⟨n9, q9, _, _⟩ := DataW.trod_int Tryz.underlying3 h9
  injection q0 with q0
  injection q1 with q1
  injection q2 with q2
  injection q3 with q3
  injection q4 with q4
  injection q5 with q5
  injection q6 with q6
  injection q7 with q7
  injection q8 with q8
  injection q9 with q9
  subst q0 q1 q2 q3 q4 q5 q6 q7 q8 q9
  refine ⟨⟨n0, L1, n2, L3, L4, n5, n6, L7, n8, n9⟩, ⟨a1, k1, a3, k3, a4, k4, a7, k7⟩, rfl, fun A hA => ?_⟩
  simp only [Cell.facts, List.mem_cons, List.not_mem_nil, or_false] at hA
  rcases hA with rfl | rfl | rfl | rfl
  · exact s1
  · exact s3
  · exact s4
  · exact s7⟩
set_option maxRecDepth 100000 in
theorem open_msg : OpenT Tryz.prog Mg 52 := ⟨fun {H enc w sp held fuel cs x} h hw => by
  have cT : Tryz.prog.cellsOf 52 = 3 := by kernel_rfl
  have c_commits : Tryz.prog.cellsOf 35 = 1 := by kernel_rfl
  have c_ids : Tryz.prog.cellsOf 25 = 1 := by kernel_rfl
  have c_int : Tryz.prog.cellsOf 3 = 1 := by kernel_rfl
  obtain ⟨xs, m, rfl, rfl, hl, hlx, hx⟩ := DataW.trod_struct Tryz.underlying52 h
  rw [cT] at hl
  match cs, hl with
  | [v0, v1, v2], _ =>
  match xs, hlx with
  | [x0, x1, x2], _ =>
  have h0 := hx 0 _ rfl
  have h1 := hx 1 _ rfl
  have h2 := hx 2 _ rfl
  simp only [List.getElem_toArray, List.getElem_cons_zero, List.getElem_cons_succ, c_commits, c_ids, c_int, List.drop_zero, List.drop_succ_cons, List.take_succ_cons, List.take_zero, List.getElem?_cons_zero, List.getElem?_cons_succ] at h0 h1 h2
  simp only [DataW.weights, Tryz.underlying52, List.map_cons, List.map_nil, DataW.weightsEach, List.append_nil, List.mem_append, List.map_toArray] at hw
  obtain ⟨n0, q0, _, _⟩ := DataW.trod_int Tryz.underlying3 h0
  obtain ⟨a1, k1, L1, q1, s1⟩ := open_id.slice Tryz.underlying25 (by kernel_rfl) (by rw [show Tryz.prog.bytesOf 81 = 32 by kernel_rfl]; decide) h1 (fun n hn => hw n (by simp [hn]))
  obtain ⟨a2, k2, L2, q2, s2⟩ := open_commit.slice Tryz.underlying35 (by kernel_rfl) (by rw [show Tryz.prog.bytesOf 29 = 96 by kernel_rfl]; decide) h2 (fun n hn => hw n (by simp [hn]))
  injection q0 with q0
  injection q1 with q1
  injection q2 with q2
  subst q0 q1 q2
  refine ⟨⟨n0, L1, L2⟩, ⟨a1, k1, a2, k2⟩, rfl, fun A hA => ?_⟩
  simp only [Cell.facts, List.mem_cons, List.not_mem_nil, or_false] at hA
  rcases hA with rfl | rfl
  · exact s1
  · exact s2⟩
end Ab
open Go.ChangeShapes Go.WideShapes Go.ChangeAt
section
variable {H : Type} {enc : TypeId × Value → H} {W : World} {r : Reach} {base : Nat} {v : Value} {d : DataW H} {p : List MemPlace}
set_option maxRecDepth 100000 in
theorem Xvv (hv : Value.okWide Tryz.prog W r base 50 v) (h : DataW.Trod enc Tryz.prog W 0 (fun _ => true) true 50 v d p) (hw : ∀ n ∈ d.weights Tryz.prog 50, n ≤ reachBytes) :
    ∃ (y : Ab.Na) (n : Ab.Nd), v = Ab.ndV n y ∧ (Ab.sl y.d y.dk n.disk).holds (fun _ => True) W ∧ (Ab.sl y.l y.lk n.l).holds (fun _ => True) W ∧ (Ab.sl y.w y.wk n.wait).holds (fun _ => True) W ∧ (Ab.sl y.p y.pk n.peers).holds (fun _ => True) W := by
  unfold Value.okWide at hv
  rw [Tryz.underlying50] at hv
  obtain ⟨cs, rfl, _, _⟩ := hv
  obtain ⟨fuel, hf⟩ := h
  obtain ⟨u, y, hcs, hfa⟩ := Ab.open_node.ok hf hw
  have hcs' : cs.toList = Ab.ndC u y := hcs
  refine ⟨y, u, ?_, hfa _ (by simp [Ab.Cell.facts]), hfa _ (by simp [Ab.Cell.facts]), hfa _ (by simp [Ab.Cell.facts]), hfa _ (by simp [Ab.Cell.facts])⟩
  show Value.agg cs = .agg ⟨Ab.ndC u y⟩
  rw [← hcs']
set_option maxRecDepth 100000 in
theorem X4v (hv : Value.okWide Tryz.prog W r base 52 v) (h : DataW.Trod enc Tryz.prog W 0 (fun _ => true) true 52 v d p) (hw : ∀ n ∈ d.weights Tryz.prog 52, n ≤ reachBytes) :
    ∃ (y : Ab.Ma) (n : Ab.Mg), v = Ab.mgV n y ∧ (Ab.sl y.i y.ik n.ids).holds (fun _ => True) W ∧ (Ab.sl y.c y.ck n.commits).holds (fun _ => True) W := by
  unfold Value.okWide at hv
  rw [Tryz.underlying52] at hv
  obtain ⟨cs, rfl, _, _⟩ := hv
  obtain ⟨fuel, hf⟩ := h
  obtain ⟨u, y, hcs, hfa⟩ := Ab.open_msg.ok hf hw
  have hcs' : cs.toList = Ab.mgC u y := hcs
  refine ⟨y, u, ?_, hfa _ (by simp [Ab.Cell.facts]), hfa _ (by simp [Ab.Cell.facts])⟩
  show Value.agg cs = .agg ⟨Ab.mgC u y⟩
  rw [← hcs']
set_option maxRecDepth 100000 in
theorem X2v (hv : Value.okWide Tryz.prog W r base 62 v) : ∃ x : UInt32, v = .int .u32 (x.toNat : Int) := by
  simp only [Value.okWide, Tryz.underlying62, Cell.okWide] at hv
  cases v <;> simp_all [Cell.ok, IntKind.has, IntKind.min, IntKind.max, IntKind.signed, IntKind.bits]
  rename_i k n
  obtain ⟨rfl, h1, h2⟩ := hv
  exact ⟨UInt32.ofNat n.toNat, by rw [UInt32.toNat_ofNat']; omega⟩
end
end Go.Proofs.YtdgeffphifgflaaGreat
