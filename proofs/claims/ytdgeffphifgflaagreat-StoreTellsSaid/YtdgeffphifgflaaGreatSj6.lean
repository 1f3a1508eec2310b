/- Lemmas for the walks, part 6 of 6: R10, Lent, R15, LsF, Entry, Shut. -/
import Derived.Test.YtdgeffphifgflaaGreatSj5
import Derived.Test.YtdgeffphifgflaaGreatSj4
import Derived.Test.YtdgeffphifgflaaGreatSj1
import Derived.Test.YtdgeffphifgflaaGreatSj2
import Derived.SizedLaws
import Derived.ChangeArms
import Derived.KernelRfl
import Derived.OpenShut
import Derived.Test.YtdgeffphifgflaaGreatRows
import Derived.ProofKit
import Derived.Carry
namespace Go.Proofs.YtdgeffphifgflaaGreat
namespace Ab
open Go Go.RowKit
set_option linter.unusedVariables false
set_option linter.unusedSimpArgs false
set_option synthInstance.maxSize 4000
set_option synthInstance.maxHeartbeats 400000
attribute [local irreducible] JC JO JR JQ andThen inBlock OpV Gives retTo JM JS
set_option maxHeartbeats 8000000 in
theorem getcom_ref (w : World) (F : Nat → Prop) (a : Option Addr) (c : Nat) (b : List UInt8) (h : (sl a c b).holds F w) (hl : b.length ≤ 34359738368) :
    Gives Tryz.prog 63 [.slice a b.length c] w F (fun y : GetY b => .tuple ⟨[commitV (getT b).1 y.pa y.pc, .slice y.ra (getT b).2.1.length y.rc, .int .i64 (getT b).2.2]⟩)
      (fun y => [.st (sl y.pa y.pc (getT b).1.parents), .st (sl y.ra y.rc (getT b).2.1)]) := by
  obtain ⟨B1, hB1⟩ : ∃ B, B = b.drop (getN b).2 := ⟨_, rfl⟩
  obtain ⟨B2, hB2⟩ : ∃ B, B = B1.drop (getN B1).2 := ⟨_, rfl⟩
  obtain ⟨B3, hB3⟩ : ∃ B, B = B2.drop (getN B2).2 := ⟨_, rfl⟩
  obtain ⟨B4, hB4⟩ : ∃ B, B = B3.drop (getN B3).2 := ⟨_, rfl⟩
  have hbad := getC_bad hB1 hB2 hB3
  have hgood := getC_good hB1 hB2 hB3 hB4
  have l1 : B1.length ≤ b.length := by rw [hB1, List.length_drop]; omega
  have l2 : B2.length ≤ b.length := by rw [hB2, List.length_drop]; omega
  have l3 : B3.length ≤ b.length := by rw [hB3, List.length_drop]; omega
  have l4 : B4.length ≤ b.length := by rw [hB4, List.length_drop]; omega
  have n0 := getN_lt b
  have n1 := getN_lt B1
  have n2 := getN_lt B2
  have n3 := getN_lt B3
  refine gives_of Tryz.func63 rfl Tryz.ntmps63 rfl rfl [.st (sl a c b)] (.start1 h) ?_
  repeat (first|refine Wa ?_|refine Wb ?_|refine Wc ?_|refine Wd ?_|refine We rfl ?_|refine Wf (by first|exact Va|exact Vb) rfl ?_|(refine Wg rfl ?_; intro _))
  rename_i b2
  refine Wf (OpV.build [.slice a b.length c, .bool false] (by kernel_rfl)) rfl ?_
  repeat (first|refine Wa ?_|refine Wb ?_|refine Wc ?_|refine Wd ?_|refine We rfl ?_|refine Wf (by exact Vb) rfl ?_|(refine Wh rfl ?_; intro _))
  rename_i br
  refine Wf (OpV.build [.int .i64 0, .int .i64 0, .int .i64 0, .slice none 0 0, .int .i64 0, .string .empty, .string .empty, .int .i64 0] (by kernel_rfl)) rfl ?_
  repeat (first|refine Wa ?_|refine Wb ?_|refine Wc ?_|refine Wd ?_|refine We rfl ?_|refine Wf (by exact Va) rfl ?_|(refine Wg rfl ?_; intro _)|refine Wi ?_)
  rename_i b6
  refine JR.more (Γ' := .own br 152 [.slice a b.length c, .bool false] :: .st (sl a c b) :: [.own b6 29 [.int .i64 0, .int .i64 0, .int .i64 0, .slice none 0 0, .int .i64 0, .string .empty, .string .empty, .int .i64 0], .own b2 29 [.int .i64 0, .int .i64 0, .int .i64 0, .slice none 0 0, .int .i64 0, .string .empty, .string .empty, .int .i64 0]]) (fun w ho => ho.ent) ?_
  refine JR.callW (v := fun y : Option Addr × Nat => .int .u64 ((getN b).1 : Int)) (B := fun y => .own br 152 [.slice y.1 (b.drop (getN b).2).length y.2, .bool (false || decide ((getN b).2 = 0))] :: .st (sl y.1 y.2 (b.drop (getN b).2)) :: [.own b6 29 [.int .i64 0, .int .i64 0, .int .i64 0, .slice none 0 0, .int .i64 0, .string .empty, .string .empty, .int .i64 0], .own b2 29 [.int .i64 0, .int .i64 0, .int .i64 0, .slice none 0 0, .int .i64 0, .string .empty, .string .empty, .int .i64 0]]) rfl (fun w1 hw => num_rd hl hw) ?_
  rintro ⟨a1, c1⟩
  dsimp only
  rw [← hB1]
  obtain ⟨d1, hd1⟩ : ∃ d, d = (false || decide ((getN b).2 = 0)) := ⟨_, rfl⟩
  rw [← hd1]
  generalize (getN b).1 = m0 at n0 hgood ⊢
  repeat (refine We rfl ?_)
  refine JR.callV rfl (fun w1 hw => unfold_ref w1 _ m0 n0) ?_
  generalize unfoldN m0 = z0 at hgood ⊢
  repeat (first|refine We rfl ?_|refine Wf (by exact Vd) rfl ?_)
  refine JR.reslot 22 (.pointer (some ⟨b6, 0, none⟩)) rfl ?_
  refine Wi ?_
  repeat (first|refine Wa ?_|refine Wb ?_|refine Wc ?_|refine Wd ?_|refine We rfl ?_|refine Wf (by exact Va) rfl ?_)
  refine JR.more (Γ' := .own br 152 [.slice a1 B1.length c1, .bool d1] :: .st (sl a1 c1 B1) :: [.own b6 29 [.int .i64 z0, .int .i64 0, .int .i64 0, .slice none 0 0, .int .i64 0, .string .empty, .string .empty, .int .i64 0], .own b2 29 [.int .i64 0, .int .i64 0, .int .i64 0, .slice none 0 0, .int .i64 0, .string .empty, .string .empty, .int .i64 0]]) (fun w ho => ho.ent) ?_
  refine JR.callW (v := fun y : Option Addr × Nat => .int .u64 ((getN B1).1 : Int)) (B := fun y => .own br 152 [.slice y.1 (B1.drop (getN B1).2).length y.2, .bool (d1 || decide ((getN B1).2 = 0))] :: .st (sl y.1 y.2 (B1.drop (getN B1).2)) :: [.own b6 29 [.int .i64 z0, .int .i64 0, .int .i64 0, .slice none 0 0, .int .i64 0, .string .empty, .string .empty, .int .i64 0], .own b2 29 [.int .i64 0, .int .i64 0, .int .i64 0, .slice none 0 0, .int .i64 0, .string .empty, .string .empty, .int .i64 0]]) rfl (fun w1 hw => num_rd (by omega) hw) ?_
  rintro ⟨a2, c2⟩
  dsimp only
  rw [← hB2]
  obtain ⟨d2, hd2⟩ : ∃ d, d = (d1 || decide ((getN B1).2 = 0)) := ⟨_, rfl⟩
  rw [← hd2]
  generalize (getN B1).1 = m1 at n1 hgood ⊢
  repeat (refine We rfl ?_)
  refine Wf OpV.conv rfl ?_
  generalize IntKind.i64.wrap (m1 : Int) = z1 at hgood ⊢
  repeat (first|refine Wa ?_|refine Wb ?_|refine Wc ?_|refine Wd ?_|refine We rfl ?_|refine Wf (by first|exact Va|exact Vd) rfl ?_|refine Wi ?_)
  refine JR.more (Γ' := .own br 152 [.slice a2 B2.length c2, .bool d2] :: .st (sl a2 c2 B2) :: [.own b6 29 [.int .i64 z0, .int .i64 z1, .int .i64 0, .slice none 0 0, .int .i64 0, .string .empty, .string .empty, .int .i64 0], .own b2 29 [.int .i64 0, .int .i64 0, .int .i64 0, .slice none 0 0, .int .i64 0, .string .empty, .string .empty, .int .i64 0]]) (fun w ho => ho.ent) ?_
  refine JR.callW (v := fun y : Option Addr × Nat => .int .u64 ((getN B2).1 : Int)) (B := fun y => .own br 152 [.slice y.1 (B2.drop (getN B2).2).length y.2, .bool (d2 || decide ((getN B2).2 = 0))] :: .st (sl y.1 y.2 (B2.drop (getN B2).2)) :: [.own b6 29 [.int .i64 z0, .int .i64 z1, .int .i64 0, .slice none 0 0, .int .i64 0, .string .empty, .string .empty, .int .i64 0], .own b2 29 [.int .i64 0, .int .i64 0, .int .i64 0, .slice none 0 0, .int .i64 0, .string .empty, .string .empty, .int .i64 0]]) rfl (fun w1 hw => num_rd (by omega) hw) ?_
  rintro ⟨a3, c3⟩
  dsimp only
  rw [← hB3]
  obtain ⟨d3, hd3⟩ : ∃ d, d = (d2 || decide ((getN B2).2 = 0)) := ⟨_, rfl⟩
  rw [← hd3]
  generalize (getN B2).1 = m2 at n2 hgood ⊢
  repeat (refine We rfl ?_)
  refine Wf OpV.conv rfl ?_
  generalize IntKind.i64.wrap (m2 : Int) = z2 at hgood ⊢
  repeat (first|refine Wa ?_|refine Wb ?_|refine Wc ?_|refine Wd ?_|refine We rfl ?_|refine Wf (by first|exact Va|exact Vd) rfl ?_|refine Wi ?_)
  refine JR.more (Γ' := .own br 152 [.slice a3 B3.length c3, .bool d3] :: .st (sl a3 c3 B3) :: [.own b6 29 [.int .i64 z0, .int .i64 z1, .int .i64 z2, .slice none 0 0, .int .i64 0, .string .empty, .string .empty, .int .i64 0], .own b2 29 [.int .i64 0, .int .i64 0, .int .i64 0, .slice none 0 0, .int .i64 0, .string .empty, .string .empty, .int .i64 0]]) (fun w ho => ho.ent) ?_
  refine JR.callW (v := fun y : Option Addr × Nat => .int .u64 ((getN B3).1 : Int)) (B := fun y => .own br 152 [.slice y.1 (B3.drop (getN B3).2).length y.2, .bool (d3 || decide ((getN B3).2 = 0))] :: .st (sl y.1 y.2 (B3.drop (getN B3).2)) :: [.own b6 29 [.int .i64 z0, .int .i64 z1, .int .i64 z2, .slice none 0 0, .int .i64 0, .string .empty, .string .empty, .int .i64 0], .own b2 29 [.int .i64 0, .int .i64 0, .int .i64 0, .slice none 0 0, .int .i64 0, .string .empty, .string .empty, .int .i64 0]]) rfl (fun w1 hw => num_rd (by omega) hw) ?_
  rintro ⟨a4, c4⟩
  dsimp only
  rw [← hB4]
  obtain ⟨d4, hd4⟩ : ∃ d, d = (d3 || decide ((getN B3).2 = 0)) := ⟨_, rfl⟩
  rw [← hd4]
  generalize (getN B3).1 = m3 at n3 hgood ⊢
  repeat (first|refine Wa ?_|refine Wb ?_|refine Wc ?_|refine Wd ?_|refine We rfl ?_|refine Wf (by exact Vb) rfl ?_|refine Wn ?_)
  have hd : d4 = false → (getN b).2 ≠ 0 ∧ (getN B1).2 ≠ 0 ∧ (getN B2).2 ≠ 0 ∧ (getN B3).2 ≠ 0 := by
    intro h
    rw [hd4, hd3, hd2, hd1] at h
    simp only [Bool.or_eq_false_iff, decide_eq_false_iff_not, Bool.false_or] at h
    exact ⟨h.1.1.1, h.1.1.2, h.1.2, h.2⟩
  have hdt : d4 = true → getC b = none := by
    intro h
    apply hbad
    rw [hd4, hd3, hd2, hd1] at h
    simp only [Bool.or_eq_true, decide_eq_true_eq, Bool.false_or] at h
    omega
  replace hgood : d4 = false → getC b = (getIds m3 B4).bind fun q => opR z0 z1 z2 q.1 q.2 := fun h => hgood (hd h).1 (hd h).2.1 (hd h).2.2.1 (hd h).2.2.2
  clear hd hbad hd4 hd3 hd2 hd1 hB1 hB2 hB3 hB4
  generalize a4 = r1
  refine JC.more (Γ' := .res (buf (α := ID) none 0 81 []) :: .own br 152 [.slice r1 B4.length c4, .bool d4] :: .st (sl r1 c4 B4) :: [.own b6 29 [.int .i64 z0, .int .i64 z1, .int .i64 z2, .slice none 0 0, .int .i64 0, .string .empty, .string .empty, .int .i64 0], .own b2 29 [.int .i64 0, .int .i64 0, .int .i64 0, .slice none 0 0, .int .i64 0, .string .empty, .string .empty, .int .i64 0]]) (fun w ho => (ho.ent : Hold _ _ (.own br 152 [.slice r1 B4.length c4, .bool d4] :: .st (sl r1 c4 B4) :: [.own b6 29 [.int .i64 z0, .int .i64 z1, .int .i64 z2, .slice none 0 0, .int .i64 0, .string .empty, .string .empty, .int .i64 0], .own b2 29 [.int .i64 0, .int .i64 0, .int .i64 0, .slice none 0 0, .int .i64 0, .string .empty, .string .empty, .int .i64 0]]) w).bufNil) ?_
  refine JC.loop5 (fun (i : Nat) (ps : List ID) (p : Option Addr × Nat) (B : List UInt8) (r : (Option Addr × Nat) × Bool) => [(2, .pointer (some ⟨b2, 0, none⟩)), (5, .pointer (some ⟨br, 0, none⟩)), (6, .pointer (some ⟨b6, 0, none⟩)), (7, .int .u64 (m3 : Int)), (8, .int .u64 (i : Int))])
    (fun i ps p B r => .own br 152 [.slice r.1.1 B.length r.1.2, .bool r.2] :: .st (sl r.1.1 r.1.2 B) :: .res (buf p.1 p.2 81 ps) :: [.own b6 29 [.int .i64 z0, .int .i64 z1, .int .i64 z2, .slice p.1 ps.length p.2, .int .i64 0, .string .empty, .string .empty, .int .i64 0], .own b2 29 [.int .i64 0, .int .i64 0, .int .i64 0, .slice none 0 0, .int .i64 0, .string .empty, .string .empty, .int .i64 0]])
    (fun i ps p B r => i ≤ m3 ∧ B.length ≤ b.length ∧ (r.2 = true → getC b = none) ∧ (r.2 = false → ps.length = i ∧ 32 * ps.length + B.length ≤ b.length ∧ getC b = (getIds (m3 - i) B).bind fun q => opR z0 z1 z2 (ps ++ q.1) q.2)) (fun i _ _ _ _ => m3 - i) 0 [] (none, 0) B4 ((r1, c4), d4)
    ⟨Nat.zero_le _, l4, hdt, fun h => ⟨rfl, by simpa using l4, hgood h⟩⟩ inferInstance ?_
  clear hgood hdt
  have hop0 : op0.key.size < 4611686018427387904 ∧ op0.elem.size < 4611686018427387904 := by constructor <;> decide
  rintro i ps ⟨pa, pc⟩ B ⟨⟨ra, rc⟩, bad⟩ ⟨hi, hB, hbad, hgood⟩
  dsimp only at hbad hgood ⊢
  repeat (first|refine Wb ?_|refine Wc ?_|refine We rfl ?_|refine Wf (by first|exact Va|exact Vg) rfl ?_)
  by_cases hlt : i < m3
  · refine JO.reslot 37 (.bool true) (congrArg Value.bool (decide_eq_true (by omega))) ?_
    repeat (first|refine We rfl ?_|refine Wf (by exact Va) rfl ?_)
    refine Wf OpV.nilCheck rfl ?_
    repeat (first|refine Wa ?_|refine Wd ?_|refine We rfl ?_|refine Wf (by first|exact Vc|exact Vd|exact Vh|exact Vi) rfl ?_)
    cases bad with
    | true =>
      repeat (first|refine Wa ?_|refine Wb ?_|refine Wc ?_|refine We rfl ?_|refine Wf (by exact Va) rfl ?_|refine Wk ?_|refine Wm ?_|refine Wo ?_|refine Wp ?_)
      refine JR.more (fun w ho => (ho.ent : Hold _ _ (.res (buf pa pc 81 ps) :: .own br 152 [.slice ra B.length rc, .bool true] :: .st (sl ra rc B) :: [.own b6 29 [.int .i64 z0, .int .i64 z1, .int .i64 z2, .slice pa ps.length pc, .int .i64 0, .string .empty, .string .empty, .int .i64 0], .own b2 29 [.int .i64 0, .int .i64 0, .int .i64 0, .slice none 0 0, .int .i64 0, .string .empty, .string .empty, .int .i64 0]]) w).pub) ?_
      rw [getT_none (hbad rfl)]
      refine Wf OpV.nilCheck rfl ?_
      repeat (first|refine Wa ?_|refine Wb ?_|refine Wc ?_|refine Wd ?_|refine We rfl ?_|refine Wf (by first|exact Va|exact Vc|exact Vd|exact Vh|exact Vj) rfl ?_|refine Wk ?_|refine Wl ?_|refine Wv rfl rfl ?_)
      refine JR.callV rfl (fun w1 hw => maycom_ref w1 _ ⟨⟨z0, z1⟩, z2, ps, op0⟩ pa pc (hw.get (A := sl pa pc ps)) hop0) ?_
      generalize may ⟨⟨z0, z1⟩, z2, ps, op0⟩ = my
      repeat (first|refine Wa ?_|refine Wb ?_|refine Wc ?_|refine Wd ?_|refine We rfl ?_|refine Wf (by first|exact Va|exact Vb) rfl ?_)
      refine Wf OpV.nilCheck rfl ?_
      repeat (first|refine Wa ?_|refine Wb ?_|refine Wc ?_|refine Wd ?_|refine We rfl ?_|refine Wf (by first|exact Va|exact Vc|exact Vd|exact Vi) rfl ?_|refine Wj ?_|refine Wv rfl rfl ?_)
      skip
      refine Wf (OpV.build [.int .i64 0, .int .i64 0, .int .i64 0, .slice none 0 0, .int .i64 0, .string .empty, .string .empty, .int .i64 0] (by kernel_rfl)) rfl ?_
      repeat (first|refine Wa ?_|refine Wd ?_|refine We rfl ?_|refine Wf (by exact Vb) rfl ?_|refine Wi ?_|refine Ws ?_|refine Wt ?_)
      exact CT.done (⟨none, 0, none, 0⟩ : GetY b) rfl (fun w ho => ((ho.ent : Hold _ _ [] w).add sl_nil).add sl_nil)
    | false =>
      obtain ⟨hlen, hsum, hg⟩ := hgood rfl
      clear hgood hbad
      repeat (first|refine Wa ?_|refine Wb ?_|refine Wc ?_|refine We rfl ?_|refine Wf (by exact Va) rfl ?_|refine Wj ?_|refine Wl ?_|refine Wn ?_)
      refine JR.more (Γ' := .own br 152 [.slice ra B.length rc, .bool false] :: .st (sl ra rc B) :: .res (buf pa pc 81 ps) :: [.own b6 29 [.int .i64 z0, .int .i64 z1, .int .i64 z2, .slice pa ps.length pc, .int .i64 0, .string .empty, .string .empty, .int .i64 0], .own b2 29 [.int .i64 0, .int .i64 0, .int .i64 0, .slice none 0 0, .int .i64 0, .string .empty, .string .empty, .int .i64 0]]) (fun w ho => ho.ent) ?_
      refine JR.callW (v := fun y : Option Addr × Nat => .agg ⟨idc (idR B)⟩) (B := fun y => .own br 152 [.slice y.1 (idS B).length y.2, .bool (false || decide (B.length < 32))] :: .st (sl y.1 y.2 (idS B)) :: .res (buf pa pc 81 ps) :: [.own b6 29 [.int .i64 z0, .int .i64 z1, .int .i64 z2, .slice pa ps.length pc, .int .i64 0, .string .empty, .string .empty, .int .i64 0], .own b2 29 [.int .i64 0, .int .i64 0, .int .i64 0, .slice none 0 0, .int .i64 0, .string .empty, .string .empty, .int .i64 0]]) rfl (fun w1 hw => id_rd (by omega) hw) ?_
      rintro ⟨r2, k2⟩
      dsimp only
      repeat (first|refine Wa ?_|refine Wc ?_|refine Wd ?_|refine We rfl ?_|refine Wf (by first|exact Vc|exact Vd) rfl ?_|(refine Wg rfl ?_; intro _)|refine Wi ?_|(refine Ww rfl ⟨rfl, by decide, by decide, by decide⟩ ?_; intro _))
      refine JR.append1 (L := ps) (u := idR B) rfl (by exact ⟨rfl, rfl, by decide⟩) (by omega) ?_
      intro pa2 pc2
      repeat (first|refine Wa ?_|refine Wc ?_|refine Wd ?_|refine We rfl ?_|refine Wf (by first|exact Va|exact Vd) rfl ?_|refine Wi ?_|refine Wr ?_)
      refine Wf OpV.addw rfl ?_
      refine JO.reslot 45 (.int .u64 ((i + 1 : Nat) : Int)) (by rw [show (i : Int) + 1 = ((i + 1 : Nat) : Int) from rfl, wrap64, Nat.mod_eq_of_lt (by omega)]) ?_
      repeat (first|refine Wa ?_|refine Wd ?_|refine We rfl ?_|refine Wf (by exact Vb) rfl ?_)
      refine ⟨i + 1, ps ++ [idR B], (pa2, pc2), idS B, ((r2, k2), (false || decide (B.length < 32))), ⟨by omega, ?_, fun h => ?_, fun h => ?_⟩, by omega, inferInstance⟩
      · unfold idS; split
        · rw [List.length_drop]; omega
        · exact hB
      · have h32 : ¬ 32 ≤ B.length := by simp only [Bool.false_or, decide_eq_true_eq] at h; omega
        rw [hg, show m3 - i = (m3 - (i + 1)) + 1 by omega, show getIds (m3 - (i + 1) + 1) B = none from dif_neg h32]
        rfl
      · have h32 : 32 ≤ B.length := by simp only [Bool.false_or, decide_eq_false_iff_not] at h; omega
        have e1 : idR B = takeID B h32 := dif_pos h32
        have e2 : idS B = B.drop 32 := if_pos h32
        refine ⟨by simp [hlen], ?_, ?_⟩
        · rw [e2, List.length_append, List.length_drop]
          simp only [List.length_cons, List.length_nil]
          omega
        · rw [hg, show m3 - i = (m3 - (i + 1)) + 1 by omega, show getIds (m3 - (i + 1) + 1) B = (getIds (m3 - (i + 1)) (B.drop 32)).map (fun q => (takeID B h32 :: q.1, q.2)) from dif_pos h32, e1, e2]
          cases getIds (m3 - (i + 1)) (B.drop 32) with
          | none => rfl
          | some q => simp
  · refine JO.reslot 37 (.bool false) (congrArg Value.bool (decide_eq_false (by omega))) ?_
    cases bad with
    | true =>
      repeat (first|refine Wa ?_|refine Wb ?_|refine Wc ?_|refine Wd ?_|refine We rfl ?_|refine Wf (by first|exact Va|exact Vj) rfl ?_|refine Wk ?_|refine Wm ?_|refine Wo ?_|refine Wp ?_|refine Wv rfl rfl ?_)
      refine JR.more (fun w ho => (ho.ent : Hold _ _ (.res (buf pa pc 81 ps) :: .own br 152 [.slice ra B.length rc, .bool true] :: .st (sl ra rc B) :: [.own b6 29 [.int .i64 z0, .int .i64 z1, .int .i64 z2, .slice pa ps.length pc, .int .i64 0, .string .empty, .string .empty, .int .i64 0], .own b2 29 [.int .i64 0, .int .i64 0, .int .i64 0, .slice none 0 0, .int .i64 0, .string .empty, .string .empty, .int .i64 0]]) w).pub) ?_
      rw [getT_none (hbad rfl)]
      refine Wf OpV.nilCheck rfl ?_
      repeat (first|refine Wa ?_|refine Wb ?_|refine Wc ?_|refine Wd ?_|refine We rfl ?_|refine Wf (by first|exact Va|exact Vc|exact Vd|exact Vh|exact Vj) rfl ?_|refine Wk ?_|refine Wl ?_|refine Wv rfl rfl ?_)
      refine JR.callV rfl (fun w1 hw => maycom_ref w1 _ ⟨⟨z0, z1⟩, z2, ps, op0⟩ pa pc (hw.get (A := sl pa pc ps)) hop0) ?_
      generalize may ⟨⟨z0, z1⟩, z2, ps, op0⟩ = my
      repeat (first|refine Wa ?_|refine Wb ?_|refine Wc ?_|refine Wd ?_|refine We rfl ?_|refine Wf (by first|exact Va|exact Vb) rfl ?_)
      refine Wf OpV.nilCheck rfl ?_
      repeat (first|refine Wa ?_|refine Wb ?_|refine Wc ?_|refine Wd ?_|refine We rfl ?_|refine Wf (by first|exact Va|exact Vc|exact Vd|exact Vi) rfl ?_|refine Wj ?_|refine Wv rfl rfl ?_)
      skip
      refine Wf (OpV.build [.int .i64 0, .int .i64 0, .int .i64 0, .slice none 0 0, .int .i64 0, .string .empty, .string .empty, .int .i64 0] (by kernel_rfl)) rfl ?_
      repeat (first|refine Wa ?_|refine Wd ?_|refine We rfl ?_|refine Wf (by exact Vb) rfl ?_|refine Wi ?_|refine Ws ?_|refine Wt ?_)
      exact CT.done (⟨none, 0, none, 0⟩ : GetY b) rfl (fun w ho => ((ho.ent : Hold _ _ [] w).add sl_nil).add sl_nil)
    | false =>
      obtain ⟨hlen, hsum, hg⟩ := hgood rfl
      clear hgood hbad
      obtain rfl : i = m3 := by omega
      rw [Nat.sub_self] at hg
      have hg2 : getC b = opR z0 z1 z2 ps B := by rw [hg]; simp [getIds]
      clear hg
      repeat (first|refine Wa ?_|refine Wb ?_|refine Wc ?_|refine Wd ?_|refine We rfl ?_|refine Wf (by first|exact Va|exact Vj) rfl ?_|refine Wk ?_|refine Wm ?_|refine Wo ?_|refine Wp ?_|refine Wv rfl rfl ?_)
      refine JR.more (fun w ho => (ho.ent : Hold _ _ (.res (buf pa pc 81 ps) :: .own br 152 [.slice ra B.length rc, .bool false] :: .st (sl ra rc B) :: [.own b6 29 [.int .i64 z0, .int .i64 z1, .int .i64 z2, .slice pa ps.length pc, .int .i64 0, .string .empty, .string .empty, .int .i64 0], .own b2 29 [.int .i64 0, .int .i64 0, .int .i64 0, .slice none 0 0, .int .i64 0, .string .empty, .string .empty, .int .i64 0]]) w).pub) ?_
      refine Wf OpV.nilCheck rfl ?_
      repeat (first|refine Wa ?_|refine Wd ?_|refine We rfl ?_|refine Wf (by first|exact Va|exact Vc|exact Vd|exact Vh|exact Vi|exact Vm) rfl ?_)
      refine JC.test (fun h5 => ?_) (fun h5 => ?_)
      · have e5 : getC b = if (getOp B).2.2 = 0 then finC ⟨⟨z0, z1⟩, z2, ps, (getOp B).1⟩ (getOp B).2.1 else none := by rw [hg2]; exact if_neg h5
        have htx := getOp_texts B
        have hol := getOp_len B
        repeat (first|refine Wb ?_|refine Wc ?_|refine We rfl ?_|refine Wf (by exact Va) rfl ?_)
        refine Wf OpV.nilCheck rfl ?_
        repeat (first|refine We rfl ?_|refine Wf (by first|exact Vc|exact Vd) rfl ?_)
        refine JR.call1 (B := fun y : Option Addr × Nat => .st (sl y.1 y.2 (getOp B).2.1)) rfl (fun w1 hw => getop_ref w1 _ ra rc B hw.get (by omega)) ?_
        rintro ⟨ro, co⟩
        dsimp only
        obtain ⟨o, R, k, hk⟩ : ∃ o R k, getOp B = (o, R, k) := ⟨_, _, _, rfl⟩
        rw [hk] at e5 htx hol ⊢
        dsimp only at e5 htx hol ⊢
        repeat (first|refine Wa ?_|refine Wb ?_|refine Wc ?_|refine Wd ?_|refine We rfl ?_|refine Wf (by first|exact Va|exact Vb|exact Vm|exact Vq) rfl ?_|(refine Wg rfl ?_; intro _)|refine Wi ?_)
        refine JC.test (fun hk0 => ?_) (fun hk0 => ?_)
        · rw [if_neg hk0] at e5
          rw [getT_none e5]
          repeat (first|refine Wb ?_|refine Wc ?_|refine We rfl ?_)
          refine Wf (OpV.build [.int .i64 0, .int .i64 0, .int .i64 0, .slice none 0 0, .int .i64 0, .string .empty, .string .empty, .int .i64 0] (by kernel_rfl)) rfl ?_
          repeat (first|refine Wa ?_|refine Wd ?_|refine We rfl ?_|refine Wf (by exact Vb) rfl ?_|refine Wi ?_|refine Ws ?_|refine Wt ?_)
          exact CT.done (⟨none, 0, none, 0⟩ : GetY b) rfl (fun w ho => ((ho.ent : Hold _ _ [] w).add sl_nil).add sl_nil)
        · rw [if_pos (by omega)] at e5
          repeat (first|refine Wa ?_|refine Wb ?_|refine Wc ?_|refine Wd ?_|refine We rfl ?_|refine Wf (by first|exact Va|exact Vc|exact Vd) rfl ?_|refine Wi ?_|refine Wl ?_)
          refine Wf OpV.nilCheck rfl ?_
          repeat (first|refine We rfl ?_|refine Wf (by exact Vd) rfl ?_)
          refine JR.reslot 82 (.pointer (some ⟨br, 0, none⟩)) rfl ?_
          refine Wi ?_
          repeat (first|refine Wa ?_|refine Wb ?_|refine Wc ?_|refine Wd ?_|refine We rfl ?_|refine Wf (by exact Vc) rfl ?_)
          refine JR.callV rfl (fun w1 hw => maycom_ref w1 _ ⟨⟨z0, z1⟩, z2, ps, o⟩ pa pc (hw.get (A := sl pa pc ps)) htx) ?_
          cases hmay : may ⟨⟨z0, z1⟩, z2, ps, o⟩ with
          | false =>
            have hg : getC b = none := by rw [e5]; unfold finC; rw [hmay]; rfl
            rw [getT_none hg]
            repeat (first|refine Wa ?_|refine Wb ?_|refine Wc ?_|refine Wd ?_|refine We rfl ?_|refine Wf (by first|exact Va|exact Vb) rfl ?_)
            refine Wf OpV.nilCheck rfl ?_
            repeat (first|refine Wa ?_|refine Wb ?_|refine Wc ?_|refine Wd ?_|refine We rfl ?_|refine Wf (by first|exact Va|exact Vc|exact Vd|exact Vh|exact Vj) rfl ?_|refine Wj ?_)
            skip
            refine Wf (OpV.build [.int .i64 0, .int .i64 0, .int .i64 0, .slice none 0 0, .int .i64 0, .string .empty, .string .empty, .int .i64 0] (by kernel_rfl)) rfl ?_
            repeat (first|refine Wa ?_|refine Wd ?_|refine We rfl ?_|refine Wf (by exact Vb) rfl ?_|refine Wi ?_|refine Ws ?_|refine Wt ?_)
            exact CT.done (⟨none, 0, none, 0⟩ : GetY b) rfl (fun w ho => ((ho.ent : Hold _ _ [] w).add sl_nil).add sl_nil)
          | true =>
            have hg : getC b = some (⟨⟨z0, z1⟩, z2, ps, o⟩, R) := by rw [e5]; unfold finC; rw [hmay]; rfl
            rw [getT_some hg]
            repeat (first|refine Wa ?_|refine Wb ?_|refine Wc ?_|refine Wd ?_|refine We rfl ?_|refine Wf (by first|exact Va|exact Vb) rfl ?_)
            refine Wf OpV.nilCheck rfl ?_
            repeat (first|refine Wa ?_|refine Wb ?_|refine Wd ?_|refine We rfl ?_|refine Wf (by first|exact Va|exact Vc|exact Vd|exact Vh|exact Vj) rfl ?_|refine Wk ?_|refine Wl ?_)
            refine JC.drawP mixed ?_
            refine JP.take 0 [.own b6 29 [.int .i64 z0, .int .i64 z1, .int .i64 z2, .slice pa ps.length pc, .int .i64 o.kind, .string o.key, .string o.elem, .int .i64 o.n]] rfl (by kernel_rfl) rfl Vc rfl rfl ?_
            refine JP.pure 1 rfl (by kernel_rfl) rfl (fun _ => Va) rfl rfl ?_
            refine JP.pure 2 rfl (by kernel_rfl) rfl (fun _ => OpV.nilCheck) rfl rfl ?_
            refine JP.pure 3 rfl (by kernel_rfl) rfl (fun _ => Vd) rfl rfl ?_
            refine JP.take 4 [.own br 152 [.slice ro R.length co, .bool false]] rfl (by kernel_rfl) rfl Vc rfl rfl ?_
            refine JP.op 5 (by kernel_rfl) rfl rfl (JR.appendNil (L' := R) rfl (by exact ⟨rfl, rfl, by decide⟩) (by omega) fun a5 c5 => Wd ⟨rfl, (by repeat (first|exact Obs.nil|refine Obs.keep ?_|refine Obs.skip (by kernel_rfl) ?_)), ?_⟩)
            refine JP.more (fun w1 ho => ho.pub) ?_
            refine JP.op 6 (by kernel_rfl) rfl rfl (Wi (Wd ⟨rfl, (by repeat (first|exact Obs.nil|refine Obs.keep ?_|refine Obs.skip (by kernel_rfl) ?_)), ?_⟩))
            refine JP.pure 7 rfl (by kernel_rfl) rfl (fun _ => Vb) rfl rfl ?_
            refine JP.pure 8 rfl (by kernel_rfl) rfl (fun _ => Vb) rfl rfl ?_
            refine JP.nil (by kernel_rfl) ?_
            repeat (first|refine Wa ?_|refine Ws ?_)
            exact CT.done (⟨pa, pc, a5, c5⟩ : GetY b) rfl (fun w ho => ho.ent)
      · have e5 : getC b = finC ⟨⟨z0, z1⟩, z2, ps, op0⟩ B := by rw [hg2]; exact if_pos (by omega)
        repeat (first|refine Wa ?_|refine Wb ?_|refine Wc ?_|refine We rfl ?_|refine Wf (by exact Vc) rfl ?_|refine Wl ?_)
        refine JR.callV rfl (fun w1 hw => maycom_ref w1 _ ⟨⟨z0, z1⟩, z2, ps, op0⟩ pa pc (hw.get (A := sl pa pc ps)) hop0) ?_
        cases hmay : may ⟨⟨z0, z1⟩, z2, ps, op0⟩ with
        | false =>
          have hg : getC b = none := by rw [e5]; unfold finC; rw [hmay]; rfl
          rw [getT_none hg]
          repeat (first|refine Wa ?_|refine Wb ?_|refine Wc ?_|refine Wd ?_|refine We rfl ?_|refine Wf (by first|exact Va|exact Vb) rfl ?_)
          refine Wf OpV.nilCheck rfl ?_
          repeat (first|refine Wa ?_|refine Wb ?_|refine Wc ?_|refine Wd ?_|refine We rfl ?_|refine Wf (by first|exact Va|exact Vc|exact Vd|exact Vh|exact Vj) rfl ?_|refine Wj ?_)
          skip
          refine Wf (OpV.build [.int .i64 0, .int .i64 0, .int .i64 0, .slice none 0 0, .int .i64 0, .string .empty, .string .empty, .int .i64 0] (by kernel_rfl)) rfl ?_
          repeat (first|refine Wa ?_|refine Wd ?_|refine We rfl ?_|refine Wf (by exact Vb) rfl ?_|refine Wi ?_|refine Ws ?_|refine Wt ?_)
          exact CT.done (⟨none, 0, none, 0⟩ : GetY b) rfl (fun w ho => ((ho.ent : Hold _ _ [] w).add sl_nil).add sl_nil)
        | true =>
          have hg : getC b = some (⟨⟨z0, z1⟩, z2, ps, op0⟩, B) := by rw [e5]; unfold finC; rw [hmay]; rfl
          rw [getT_some hg]
          repeat (first|refine Wa ?_|refine Wb ?_|refine Wc ?_|refine Wd ?_|refine We rfl ?_|refine Wf (by first|exact Va|exact Vb) rfl ?_)
          refine Wf OpV.nilCheck rfl ?_
          repeat (first|refine Wa ?_|refine Wb ?_|refine Wd ?_|refine We rfl ?_|refine Wf (by first|exact Va|exact Vc|exact Vd|exact Vh|exact Vj) rfl ?_|refine Wk ?_|refine Wl ?_)
          refine JC.drawP mixed ?_
          refine JP.take 0 [.own b6 29 [.int .i64 z0, .int .i64 z1, .int .i64 z2, .slice pa ps.length pc, .int .i64 0, .string .empty, .string .empty, .int .i64 0]] rfl (by kernel_rfl) rfl Vc rfl rfl ?_
          refine JP.pure 1 rfl (by kernel_rfl) rfl (fun _ => Va) rfl rfl ?_
          refine JP.pure 2 rfl (by kernel_rfl) rfl (fun _ => OpV.nilCheck) rfl rfl ?_
          refine JP.pure 3 rfl (by kernel_rfl) rfl (fun _ => Vd) rfl rfl ?_
          refine JP.take 4 [.own br 152 [.slice ra B.length rc, .bool false]] rfl (by kernel_rfl) rfl Vc rfl rfl ?_
          refine JP.op 5 (by kernel_rfl) rfl rfl (JR.appendNil (L' := B) rfl (by exact ⟨rfl, rfl, by decide⟩) (by omega) fun a5 c5 => Wd ⟨rfl, (by repeat (first|exact Obs.nil|refine Obs.keep ?_|refine Obs.skip (by kernel_rfl) ?_)), ?_⟩)
          refine JP.more (fun w1 ho => ho.pub) ?_
          refine JP.op 6 (by kernel_rfl) rfl rfl (Wi (Wd ⟨rfl, (by repeat (first|exact Obs.nil|refine Obs.keep ?_|refine Obs.skip (by kernel_rfl) ?_)), ?_⟩))
          refine JP.pure 7 rfl (by kernel_rfl) rfl (fun _ => Vb) rfl rfl ?_
          refine JP.pure 8 rfl (by kernel_rfl) rfl (fun _ => Vb) rfl rfl ?_
          refine JP.nil (by kernel_rfl) ?_
          repeat (first|refine Wa ?_|refine Ws ?_)
          exact CT.done (⟨pa, pc, a5, c5⟩ : GetY b) rfl (fun w ho => ho.ent)
end Ab
end Go.Proofs.YtdgeffphifgflaaGreat
namespace Go.Proofs.YtdgeffphifgflaaGreat
namespace Ab
open Go Go.RowKit
set_option linter.unusedVariables false
section
variable [Dr]
theorem GivesBuf.plain {P : Program} {f : FuncId} {args : List Value} {w : World} {F G : Nat → Prop} {α : Type} [Cell α] {el : TypeId} {L : List α} (hn : ∀ (u : α) y, Cell.facts u y = []) (h : GivesBuf P f args w F el L) : GivesBuf P f args w G el L :=
  Calls.mono h fun x w' ⟨y, hx, hb, hf⟩ => ⟨y, hx, hb, ⟨fun g hg => by
    rw [List.mem_singleton] at hg
    subst hg
    obtain ⟨h0, r, h1, h2, h3⟩ := hf.sat (.res (buf y.1 y.2 el L)) (by simp)
    exact ⟨h0, r, h1, h2, fun p hp A hA => by rw [hn] at hA; cases hA⟩, hf.dis, hf.new⟩⟩
class Lend (f : Fact) (A : outParam Asn) : Prop where
  ok : ∀ (w0 : World) (F : Nat → Prop) (Γ : List Fact) (w : World), Hold w0 F Γ w → f ∈ Γ → A.holds (fun _ => True) w
instance {A : Asn} : Lend (.st A) A := ⟨fun w0 F Γ w h hf => A.mono _ _ _ (fun _ _ => trivial) (h.sat (.st A) hf)⟩
instance {b : Nat} {t : TypeId} {vs : List Value} : Lend (.own b t vs) (ro b 0 vs) := ⟨fun w0 F Γ w h hf =>
  ⟨trivial, Fact.owned_lt (f := .own b t vs) (h.sat (.own b t vs) hf) rfl, own_range (h.sat (.own b t vs) hf)⟩⟩
instance {α : Type} [Cell α] {a : Option Addr} {c : Nat} {el : TypeId} {L : List α} : Lend (.res (buf a c el L)) (sl a c L) := ⟨fun w0 F Γ w h hf => by
  obtain ⟨s, t, rfl⟩ := List.append_of_mem hf
  exact Hold.bufSl (h.perm List.perm_middle)⟩
class Lends (Γ : List Fact) (Δ : outParam (List Fact)) : Prop where
  ok : ∀ (w0 : World) (F : Nat → Prop) (Γ' : List Fact) (w : World), Hold w0 F Γ' w → (∀ f ∈ Γ, f ∈ Γ') → Hold w (fun _ => True) Δ w
instance (priority := 10) Lends.none {Γ : List Fact} : Lends Γ [] := ⟨fun w0 F Γ' w h _ => .start w _⟩
instance {f : Fact} {A : Asn} {Γ Δ : List Fact} [h1 : Lend f A] [h2 : Lends Γ Δ] : Lends (f :: Γ) (.st A :: Δ) := ⟨fun w0 F Γ' w h hs => by
  have ho := h2.ok w0 F Γ' w h (fun f hf => hs f (List.mem_cons_of_mem _ hf))
  have hA := h1.ok w0 F Γ' w h (hs f (List.mem_cons_self ..))
  refine ho.add ((A.mono _ _ _ (fun k hk => ?_) (A.within _ _ hA)))
  refine ⟨.inl trivial, fun g hg hk2 => ?_⟩
  have h3 := ho.new g hg k hk2
  have h4 := hk.2
  omega⟩
end
section
variable {P : Program} {n : Nn} {w0 : World} {F : Nat → Prop} {Q : Cont} {e : E} {Γ : List Fact} [Dr]
end
end Ab
end Go.Proofs.YtdgeffphifgflaaGreat
namespace Go.Proofs.YtdgeffphifgflaaGreat
namespace Ab
open Go Go.RowKit
set_option linter.unusedVariables false
set_option linter.unusedSimpArgs false
set_option synthInstance.maxSize 4000
set_option synthInstance.maxHeartbeats 400000
attribute [local irreducible] JC JO JR JQ andThen inBlock OpV Gives retTo JM JS
theorem com0_fine : fine com0 := ⟨by unfold texts; exact (by decide : op0.key.size < 4611686018427387904 ∧ op0.elem.size < 4611686018427387904), by simp [com0]⟩
theorem getT_fine (b : List UInt8) : fine (getT b).1 ∧ (getT b).1.parents.length ≤ 8 := by
  unfold getT
  split
  · rename_i q h
    obtain ⟨hm, ht⟩ := getC_may (b := b) (c := q.1) (r := q.2) h
    have hp := may_parents hm
    exact ⟨⟨ht, by show q.1.parents.length ≤ _; omega⟩, hp⟩
  · exact ⟨com0_fine, by simp [com0]⟩
theorem getT_yes {b : List UInt8} {c : Commit} (h : getT b = (c, [], 0)) : getC b = some (c, []) := by
  unfold getT at h
  split at h
  · rename_i q hq
    rw [hq]
    injection h with h1 h2
    injection h2 with h2 h3
    rw [← h1, ← h2]
  · injection h with h1 h2
    injection h2 with h2 h3
    cases h3
theorem closeF_end {xs : List Commit} {i : Nat} (h : closeF [] xs = closeF (xs.take i) (xs.drop i)) (hi : xs.length ≤ i) : closeF [] xs = xs.take i := by
  rw [h, List.drop_eq_nil_of_le hi]; rfl
set_option maxHeartbeats 8000000 in
theorem load_ref (w : World) (F : Nat → Prop) (a : Option Addr) (c : Nat) (b : List UInt8) (h : (sl a c b).holds F w) (hb : b.length ≤ 4900) :
    GivesSlT Tryz.prog 18 [.slice a b.length c] w F (loadL b) [.int .i64 (loadEnd b : Int)] := by
  obtain ⟨rs, hrs⟩ : ∃ rs, rs = readL b := ⟨_, rfl⟩
  obtain ⟨xs, hxs⟩ : ∃ xs, xs = decL rs := ⟨_, rfl⟩
  have hrl : 5 * rs.length ≤ b.length := by
    have h1 := length_framesL rs
    have h2 := (readF_pre b.length b).length_le
    rw [← readL, ← hrs] at h2
    omega
  have hsm : ∀ x ∈ rs, x.length ≤ 4000 := by rw [hrs]; exact readL_small _ _
  have hfx : ∀ x ∈ xs, fine x := by rw [hxs]; exact fun x hx => dec_fine hx
  have hfp : ∀ x ∈ xs, fine x ∧ x.parents.length ≤ 1000 := fun x hx => ⟨hfx x hx, by
    obtain ⟨k, hk, rfl⟩ := List.getElem_of_mem hx
    have := may_parents (getC_may (decL_at rs k (by rw [← hxs]; exact hk) (by have := decL_le rs; rw [← hxs] at this; omega))).1
    simp only [← hxs] at this
    omega⟩
  have hdl : xs.length ≤ rs.length := by rw [hxs]; exact decL_le rs
  have hat := decL_at rs
  have hde := decL_end rs
  rw [← hxs] at hat hde
  refine gives_of Tryz.func18 rfl Tryz.ntmps18 rfl rfl [.st (sl a c b)] (.start1 h) ?_
  repeat (first|refine Wa ?_|refine Wb ?_|refine Wc ?_|refine Wd ?_|refine We rfl ?_|refine Wf (by first|exact Va|exact Vb) rfl ?_)
  refine JR.callSlT rfl (fun w1 hw => read_ref w1 _ a c b (hw.get (A := sl a c b)) (by omega)) ?_
  intro a1 c1
  rw [← hrs]
  repeat (first|refine Wa ?_|refine Wb ?_|refine Wc ?_|refine Wd ?_|refine We rfl ?_|refine Wf (by first|exact Va|exact Vb|exact Vq) rfl ?_|refine Wn ?_)
  refine JC.more (Γ' := [.st (sl none 0 (xs.take 0)), .st (sl a1 c1 rs)]) (fun w ho => (ho.ent : Hold _ _ [.st (sl a1 c1 rs)] w).add sl_nil) ?_
  refine JC.loop2 (fun (i : Nat) (p : Option Addr × Nat) => [(4, .slice a1 rs.length c1), (6, .slice p.1 (xs.take i).length p.2), (7, .int .i64 ((framesL (rs.take i)).length : Int)), (8, .int .i64 (i : Int))])
    (fun i p => [.st (sl p.1 p.2 (xs.take i)), .st (sl a1 c1 rs)]) (fun i p => i ≤ xs.length ∧ closeF [] xs = closeF (xs.take i) (xs.drop i)) (fun i p => rs.length - i) 0 (none, 0) ⟨Nat.zero_le _, rfl⟩ (show Ent _ _ [(4, .slice a1 rs.length c1), (6, .slice none 0 0), (7, .int .i64 0), (8, .int .i64 0)] [.st (sl none 0 (xs.take 0)), .st (sl a1 c1 rs)] from inferInstance) ?_
  rintro i ⟨p, q⟩ ⟨hi, hcl⟩
  dsimp only
  have hlen : (xs.take i).length = i := by rw [List.length_take]; omega
  repeat (first|refine Wa ?_|refine Wb ?_|refine Wc ?_|refine Wd ?_|refine We rfl ?_|refine Wf (by first|exact Va|exact Vf|exact Vg) rfl ?_)
  refine JC.test (fun hlt => ?_) (fun hge => ?_)
  case refine_2 =>
    have hend := closeF_end hcl (by omega)
    have hlb : loadL b = xs.take i := by unfold loadL; rw [← hrs, ← hxs]; exact hend
    have hle : loadEnd b = (framesL (rs.take i)).length := by unfold loadEnd; rw [hlb, ← hrs, hlen]
    rw [hlb, hle]
    repeat (first|refine Wa ?_|refine Wb ?_|refine Wc ?_|refine Wd ?_|refine We rfl ?_|refine Wf (by first|exact Va|exact Vb) rfl ?_|refine Wm ?_|refine Wo ?_|refine Wp ?_|refine Ws ?_)
    exact CT.done (p, q) rfl (fun w ho => ho.ent)
  have hi' : i < rs.length := by omega
  obtain ⟨r, hr⟩ : ∃ r, r = rs[i] := ⟨_, rfl⟩
  have hsi : r.length ≤ 4000 := by rw [hr]; exact hsm _ (List.getElem_mem hi')
  have hgf := getT_fine r
  have hgy := fun c => getT_yes (b := r) (c := c)
  have hga : ∀ h : i < xs.length, getC r = some (xs[i], []) := fun h => by rw [hr]; exact hat i h hi'
  have hgn : i = xs.length → ¬ ∃ c, getC r = some (c, []) := fun h => by
    have := hde (by omega)
    subst h
    rw [hr]; exact this
  have hgT : ∀ c, getC r = some (c, []) → getT r = (c, [], 0) := fun c h => getT_some h
  have hft : frameT r = (frameL r, 0) := if_neg (by omega)
  have hfn : (framesL (rs.take (i + 1))).length = (framesL (rs.take i)).length + (frameL r).length := by rw [hr]; exact framesL_next hi'
  repeat (first|refine Wa ?_|refine Wb ?_|refine Wc ?_|refine We rfl ?_|refine Wf (by exact Va) rfl ?_|refine Wl ?_|refine Wn ?_)
  refine JR.indexBytes (k := i) rfl hi' ?_
  intro b5 o5 a5 c5
  rw [← hr]
  repeat (first|refine We rfl ?_|refine Wf (by exact Vc) rfl ?_)
  refine JR.call2 (v := fun y : GetY r => .tuple ⟨[commitV (getT r).1 y.pa y.pc, .slice y.ra (getT r).2.1.length y.rc, .int .i64 (getT r).2.2]⟩) (B := fun y => .st (sl y.pa y.pc (getT r).1.parents)) (C := fun y => .st (sl y.ra y.rc (getT r).2.1)) rfl (fun w1 hw => getcom_ref w1 _ a5 c5 r (hw.get (A := sl a5 c5 r)) (by omega)) ?_
  rintro ⟨pa, pc, ra, rc⟩
  dsimp only
  obtain ⟨cm, R, ec, hg⟩ : ∃ cm R ec, getT r = (cm, R, ec) := ⟨_, _, _, rfl⟩
  rw [hg] at hgf hgy hgT ⊢
  dsimp only at hgf ⊢
  repeat (first|refine Wa ?_|refine Wb ?_|refine Wd ?_|refine We rfl ?_|refine Wf (by first|exact Va|exact Vb|exact Vq) rfl ?_|(refine Wg rfl ?_; intro _)|refine Wi ?_)
  rename_i b9
  refine JC.cut (fun y : Option Addr × Nat => [(4, .slice a1 rs.length c1), (6, .slice p (xs.take i).length q), (7, .int .i64 ((framesL (rs.take i)).length : Int)), (8, .int .i64 (i : Int)), (10, .slice ra R.length rc), (11, .int .i64 ec), (12, .slice y.1 (xs.take i ++ [cm]).length y.2)])
    (fun y => [.st (sl y.1 y.2 (xs.take i ++ [cm])), .st (sl p q (xs.take i)), .st (sl a1 c1 rs)]) ?_ ?_
  · refine JC.drawP mixed ?_
    refine JP.pure 0 rfl (by kernel_rfl) rfl (fun _ => Va) rfl rfl ?_
    refine JP.take 2 [.own b9 29 [.int .i64 cm.ev.node, .int .i64 cm.ev.seq, .int .i64 cm.gen, .slice pa cm.parents.length pc, .int .i64 cm.op.kind, .string cm.op.key, .string cm.op.elem, .int .i64 cm.op.n]] rfl (by kernel_rfl) rfl Vc rfl rfl ?_
    refine JP.both 1 3 (by kernel_rfl) rfl rfl rfl rfl (JR.appendNil (L' := xs.take i) rfl (by exact ⟨rfl, rfl, by decide⟩) (by omega) fun a6 c6 => Wd ⟨rfl, (by repeat (first|exact Obs.nil|refine Obs.keep ?_|refine Obs.skip (by kernel_rfl) ?_)), ?_⟩) (Ww rfl ⟨rfl, by decide, by decide, by decide⟩ (fun bl => Wd ⟨rfl, (by repeat (first|exact Obs.nil|refine Obs.keep ?_|refine Obs.skip (by kernel_rfl) ?_)), ?_⟩))
    · refine JP.op 3 (by kernel_rfl) rfl rfl (Ww rfl ⟨rfl, by decide, by decide, by decide⟩ (fun bl => Wd ⟨rfl, (by repeat (first|exact Obs.nil|refine Obs.keep ?_|refine Obs.skip (by kernel_rfl) ?_)), ?_⟩))
      refine JP.op 4 (by kernel_rfl) rfl rfl (JR.append1 (L := xs.take i) (u := cm) rfl (by exact ⟨rfl, rfl, by decide⟩) (by omega) (fun a7 c7 => Wd ⟨rfl, (by repeat (first|exact Obs.nil|refine Obs.keep ?_|refine Obs.skip (by kernel_rfl) ?_)), ?_⟩))
      refine JP.more (fun w1 ho => ho.pub) ?_
      refine JP.pure 5 rfl (by kernel_rfl) rfl (fun _ => Vb) rfl rfl ?_
      exact JP.nil (by kernel_rfl) ⟨rfl, (a7, c7), inferInstance⟩
    · refine JP.op 1 (by kernel_rfl) rfl rfl (JR.appendNil (L' := xs.take i) rfl (by exact ⟨rfl, rfl, by decide⟩) (by omega) fun a6 c6 => Wd ⟨rfl, (by repeat (first|exact Obs.nil|refine Obs.keep ?_|refine Obs.skip (by kernel_rfl) ?_)), ?_⟩)
      refine JP.op 4 (by kernel_rfl) rfl rfl (JR.append1 (L := xs.take i) (u := cm) rfl (by exact ⟨rfl, rfl, by decide⟩) (by omega) (fun a7 c7 => Wd ⟨rfl, (by repeat (first|exact Obs.nil|refine Obs.keep ?_|refine Obs.skip (by kernel_rfl) ?_)), ?_⟩))
      refine JP.more (fun w1 ho => ho.pub) ?_
      refine JP.pure 5 rfl (by kernel_rfl) rfl (fun _ => Vb) rfl rfl ?_
      exact JP.nil (by kernel_rfl) ⟨rfl, (a7, c7), inferInstance⟩
  rintro ⟨a7, c7⟩
  dsimp only
  obtain ⟨N, hN⟩ : ∃ N, N = xs.take i ++ [cm] := ⟨_, rfl⟩
  rw [← hN]
  have hfN : ∀ x ∈ N, fine x ∧ x.parents.length ≤ 1000 := by
    intro x hx
    rw [hN] at hx
    rcases List.mem_append.1 hx with hx | hx
    · exact hfp x (List.mem_of_mem_take hx)
    · rw [List.mem_singleton.1 hx]; exact ⟨hgf.1, by omega⟩
  have hlN : N.length = i + 1 := by rw [hN, List.length_append, hlen]; rfl
  obtain ⟨bc, hbc⟩ : ∃ b : Bool, b = true ↔ Closed N := ⟨closedB N, closedB_iff⟩
  repeat (first|refine Wb ?_|refine Wc ?_|refine We rfl ?_|refine Wf (by exact Va) rfl ?_)
  refine JR.callV rfl (fun w1 hw => closed_refV w1 _ a7 c7 N bc (hw.get (A := sl a7 c7 N)) (by omega) (fun x hx => (hfN x hx).1) (fun x hx => (hfN x hx).2) hbc) ?_
  repeat (first|refine Wa ?_|refine Wb ?_|refine Wc ?_|refine Wd ?_|refine We rfl ?_|refine Wf (by first|exact Va|exact Vb|exact Vm) rfl ?_)
  refine JO.test 45 (fun h1 => ?_) (fun h1 => ?_)
  · have hend := closeF_end hcl (Nat.le_of_not_lt fun hl => by
      have := hgT _ (hga hl)
      simp only [Prod.mk.injEq] at this
      exact h1 this.2.2)
    have hlb : loadL b = xs.take i := by unfold loadL; rw [← hrs, ← hxs]; exact hend
    have hle : loadEnd b = (framesL (rs.take i)).length := by unfold loadEnd; rw [hlb, ← hrs, hlen]
    rw [hlb, hle]
    repeat (first|refine Wa ?_|refine Wb ?_|refine Wc ?_|refine Wd ?_|refine We rfl ?_|refine Wf (by first|exact Va|exact Vb|exact Vi) rfl ?_|refine Wj ?_|refine Wm ?_|refine Wo ?_|refine Wp ?_|refine Wq rfl ?_|refine Ws ?_|refine Wv rfl rfl ?_)
    exact CT.done (p, q) rfl (fun w ho => ho.ent)
  repeat (first|refine We rfl ?_|refine Wf (by first|exact Va|exact Vf|exact Vj|exact Vo) rfl ?_)
  refine JO.test 50 (fun h2 => ?_) (fun h2 => ?_)
  · have hend := closeF_end hcl (Nat.le_of_not_lt fun hl => by
      have := hgT _ (hga hl)
      simp only [Prod.mk.injEq] at this
      rw [this.2.1] at h2
      simp at h2)
    have hlb : loadL b = xs.take i := by unfold loadL; rw [← hrs, ← hxs]; exact hend
    have hle : loadEnd b = (framesL (rs.take i)).length := by unfold loadEnd; rw [hlb, ← hrs, hlen]
    rw [hlb, hle]
    repeat (first|refine Wa ?_|refine Wb ?_|refine Wc ?_|refine Wd ?_|refine We rfl ?_|refine Wf (by first|exact Va|exact Vb|exact Vi) rfl ?_|refine Wj ?_|refine Wm ?_|refine Wo ?_|refine Wp ?_|refine Wq rfl ?_|refine Ws ?_|refine Wv rfl rfl ?_)
    exact CT.done (p, q) rfl (fun w ho => ho.ent)
  have hec : ec = 0 := by omega
  have hR : R = [] := List.eq_nil_of_length_eq_zero (by omega)
  have hgc := hgy cm (by rw [hec, hR])
  have hix : i < xs.length := by
    rcases Nat.lt_or_ge i xs.length with hl | hl
    · exact hl
    · exact (hgn (by omega) ⟨cm, hgc⟩).elim
  have hcm : xs[i] = cm := by
    have := hga hix
    rw [hgc] at this
    injection this with this
    injection this with this _
    exact this.symm
  have hN2 : N = xs.take (i + 1) := by rw [hN, ← hcm]; exact (List.take_succ_eq_append_getElem hix).symm
  cases bc with
  | false =>
    have hend := closeF_stop hix hcl (fun hc => by rw [← hN2] at hc; exact Bool.noConfusion (hbc.2 hc))
    have hlb : loadL b = xs.take i := by unfold loadL; rw [← hrs, ← hxs]; exact hend
    have hle : loadEnd b = (framesL (rs.take i)).length := by unfold loadEnd; rw [hlb, ← hrs, hlen]
    rw [hlb, hle]
    repeat (first|refine Wa ?_|refine Wb ?_|refine Wc ?_|refine Wd ?_|refine We rfl ?_|refine Wf (by first|exact Va|exact Vb|exact Vh|exact Vj) rfl ?_|refine Wj ?_|refine Wm ?_|refine Wo ?_|refine Wp ?_|refine Wq rfl ?_|refine Ws ?_)
    exact CT.done (p, q) rfl (fun w ho => ho.ent)
  | true =>
    have hst := closeF_step hix hcl (by rw [← hN2]; exact hbc.1 rfl)
    rw [hN2] at hlN ⊢
    repeat (first|refine Wa ?_|refine Wb ?_|refine Wc ?_|refine Wd ?_|refine We rfl ?_|refine Wf (by first|exact Va|exact Vb|exact Vh|exact Vj) rfl ?_|refine Wk ?_|refine Wl ?_)
    refine JR.indexBytes (k := i) rfl hi' ?_
    intro b6 o6 a8 c8
    rw [← hr]
    repeat (first|refine We rfl ?_|refine Wf (by exact Vc) rfl ?_)
    refine JR.callSlT rfl (fun w1 hw => frame_ref w1 _ a8 c8 r (hw.get (A := sl a8 c8 r))) ?_
    intro a9 c9
    rw [hft]
    dsimp only
    have hpre := framesL_take_le rs (i + 1)
    have hrb := (readF_pre b.length b).length_le
    rw [← readL, ← hrs] at hrb
    repeat (first|refine Wa ?_|refine Wc ?_|refine Wd ?_|refine We rfl ?_|refine Wf (by first|exact Va|exact Vb|exact Vf|exact Vk (by omega)|exact Vq|exact Vs (by omega)) rfl ?_|refine Wr ?_)
    refine ⟨i + 1, (a7, c7), ⟨by omega, hst⟩, by omega, ?_⟩
    show Ent _ _ [(4, .slice a1 rs.length c1), (6, .slice a7 (xs.take (i + 1)).length c7), (7, .int .i64 ((framesL (rs.take (i + 1))).length : Int)), (8, .int .i64 ((i + 1 : Nat) : Int))] [.st (sl a7 c7 (xs.take (i + 1))), .st (sl a1 c1 rs)]
    rw [hfn]
    exact inferInstance
set_option maxHeartbeats 1000000 in
theorem open_ref (w : World) (F : Nat → Prop) (a : Option Addr) (c : Nat) (b : List UInt8) (h : (sl a c b).holds F w) (hb : b.length ≤ 4900) :
    GivesSl Tryz.prog 21 [.slice a b.length c] w F (b.take (loadEnd b)) := by
  have hle := loadEnd_le b
  refine gives_of Tryz.func21 rfl Tryz.ntmps21 rfl rfl [.st (sl a c b)] (.start1 h) ?_
  repeat (first|refine Wa ?_|refine Wb ?_|refine Wc ?_|refine Wd ?_|refine We rfl ?_|refine Wf (by first|exact Va|exact Vb) rfl ?_)
  refine JR.callSlT rfl (fun w1 hw => load_ref w1 _ a c b hw.get hb) ?_
  intro a3 c3
  repeat (first|refine Wa ?_|refine Wb ?_|refine Wc ?_|refine Wd ?_|refine We rfl ?_|refine Wf (by first|exact Va|exact Vb|exact Vq) rfl ?_)
  refine JR.sliceTo (L := b) (k := loadEnd b) rfl rfl hle ?_
  intro a4 c4
  repeat (refine We rfl ?_)
  refine JR.appendNil (L' := b.take (loadEnd b)) rfl (by exact ⟨rfl, rfl, by decide⟩) (by rw [List.length_take]; omega) ?_
  intro a5 c5
  repeat (first|refine Wa ?_|refine Wd ?_|refine We rfl ?_|refine Wf (by exact Vb) rfl ?_|refine Ws ?_)
  exact CT.done (a5, c5) rfl (fun w ho => (ho.ent : Hold _ _ [.res (buf a5 c5 5 (b.take (loadEnd b)))] w).pub)
end Ab
end Go.Proofs.YtdgeffphifgflaaGreat
namespace Go.Proofs.YtdgeffphifgflaaGreat
namespace Ab
open Go Go.RowKit
set_option linter.unusedVariables false
set_option linter.unusedSimpArgs false
set_option synthInstance.maxSize 4000
set_option synthInstance.maxHeartbeats 400000
attribute [local irreducible] JC JO JR JQ andThen inBlock OpV Gives retTo JM JS
attribute [local irreducible] hashC
set_option maxHeartbeats 8000000 in
theorem law_storetells (w : World) (F : Nat → Prop) (a a2 : Option Addr) (k k2 : Nat) (b : List UInt8) (room : Int) (c : Commit) (node : Int) (h : (sl a k b).holds F w) (h2 : (sl a2 k2 c.parents).holds F w) :
    GivesV Tryz.prog 3 [.slice a b.length k, .int .i64 room, commitV c a2 k2, .int .i64 node] w F (.bool true) := by
  refine gives_of Tryz.func3 rfl Tryz.ntmps3 rfl rfl [.st (sl a k b), .st (sl a2 k2 c.parents)] (.start2 h h2) ?_
  repeat (first|refine Wa ?_|refine Wb ?_|refine Wc ?_|refine Wd ?_|refine We rfl ?_|refine Wf (by exact Vb) rfl ?_|(refine Wh rfl ?_; intro _))
  refine JR.callV rfl (fun w1 hw => awake_store w1 _) ?_
  repeat (first|refine Wa ?_|refine Wb ?_|refine Wc ?_|refine Wd ?_|refine We rfl ?_|refine Wf (by first|exact Vb|exact Vc) rfl ?_)
  refine JR.callV rfl (fun w1 hw => few_one w1 _ c a2 k2) ?_
  cases hfew : fewC c with
  | false =>
    repeat (first|refine Wa ?_|refine Wb ?_|refine Wc ?_|refine Wd ?_|refine We rfl ?_|refine Wf (by first|exact Va|exact Vb|exact Vh|exact Vi|exact Vj) rfl ?_|refine Wj ?_|refine Ws ?_|refine Wt ?_|refine Wv rfl rfl ?_)
    exact CT.done () rfl (fun w ho => ho.ent)
  | true =>
  have hf := fine_few hfew
  repeat (first|refine Wa ?_|refine Wb ?_|refine Wc ?_|refine Wd ?_|refine We rfl ?_|refine Wf (by first|exact Va|exact Vb|exact Vf|exact Vh|exact Vj|exact Vo) rfl ?_)
  refine JC.test (fun h15 => ?_) (fun h15 => ?_)
  · repeat (first|refine Wa ?_|refine Wb ?_|refine Wc ?_|refine Wd ?_|refine We rfl ?_|refine Wf (by first|exact Va|exact Vb) rfl ?_|refine Ws ?_|refine Wt ?_)
    exact CT.done () rfl (fun w ho => ho.ent)
  have hb : b.length ≤ 1500 := by omega
  have hle := loadEnd_le b
  repeat (first|refine Wa ?_|refine Wb ?_|refine Wc ?_|refine We rfl ?_|refine Wf (by first|exact Va|exact Vc) rfl ?_|refine Wl ?_)
  refine JR.call1 (B := fun y : Option Addr × Nat => .res (buf y.1 y.2 5 (storeT b room c).1)) rfl (fun w1 hw => put_store w1 _ a a2 k k2 b room c (hw.get (A := sl a k b)) (hw.get (A := sl a2 k2 c.parents)) hf.1 (by omega)) ?_
  rintro ⟨a3, c3⟩
  dsimp only
  refine JO.more (fun w ho => ho.pub) ?_
  repeat (first|refine Wa ?_|refine Wb ?_|refine Wc ?_|refine Wd ?_|refine We rfl ?_|refine Wf (by first|exact Va|exact Vb|exact Vc|exact Vq) rfl ?_)
  refine JR.callSlT rfl (fun w1 hw => put_ref15 w1 _ a a2 k k2 b room c (hw.get (A := sl a k b)) (hw.get (A := sl a2 k2 c.parents)) hf.1 (by omega)) ?_
  intro a4 c4
  generalize (storeT b room c).1 = D
  generalize (storeT b room c).2 = er
  repeat (first|refine Wa ?_|refine Wb ?_|refine Wc ?_|refine Wd ?_|refine We rfl ?_|refine Wf (by first|exact Va|exact Vb|exact Vq) rfl ?_)
  refine JR.callSlT rfl (fun w1 hw => load_store w1 _ a k b (hw.get (A := sl a k b)) (by omega)) ?_
  intro a5 c5
  repeat (first|refine Wa ?_|refine Wb ?_|refine Wc ?_|refine Wd ?_|refine We rfl ?_|refine Wf (by first|exact Va|exact Vb|exact Vq) rfl ?_)
  refine JR.callSlT rfl (fun w1 hw => load_ref w1 _ a k b (hw.get (A := sl a k b)) (by omega)) ?_
  intro a6 c6
  repeat (first|refine Wa ?_|refine Wb ?_|refine Wc ?_|refine Wd ?_|refine We rfl ?_|refine Wf (by first|exact Va|exact Vb|exact Vq) rfl ?_)
  refine JR.callV rfl (fun w1 hw => list_ref w1 _ a5 a6 c5 c6 (loadL b) (loadL b) (hw.get (A := sl a5 c5 (loadL b))) (hw.get (A := sl a6 c6 (loadL b)))) ?_
  repeat (first|refine Wa ?_|refine Wb ?_|refine Wd ?_|refine We rfl ?_|refine Wf (by exact Vb) rfl ?_)
  refine JC.reslot 19 (.bool true) (by simp) ?_
  refine JC.drawP mixed ?_
  refine JP.pure 0 rfl (by kernel_rfl) rfl (fun _ => Va) rfl rfl ?_
  refine JP.take 1 [.st (sl a3 c3 D)] rfl (by kernel_rfl) rfl (OpV.bytesStr (L := D)) rfl rfl ?_
  refine JP.pure 2 rfl (by kernel_rfl) rfl (fun _ => Va) rfl rfl ?_
  refine JP.take 3 [.st (sl a4 c4 D)] rfl (by kernel_rfl) rfl (OpV.bytesStr (L := D)) rfl rfl ?_
  refine JP.pure 4 rfl (by kernel_rfl) rfl (fun _ => VB) rfl rfl ?_
  refine JP.reslot 66 (.bool true) (by simp) ?_
  refine JP.pure 5 rfl (by kernel_rfl) rfl (fun _ => Va) rfl rfl ?_
  refine JP.pure 6 rfl (by kernel_rfl) rfl (fun _ => Va) rfl rfl ?_
  refine JP.pure 7 rfl (by kernel_rfl) rfl (fun _ => Va) rfl rfl ?_
  refine JP.pure 8 rfl (by kernel_rfl) rfl (fun _ => Vl) rfl rfl ?_
  refine JP.reslot 70 (.bool true) (by simp) ?_
  refine JP.pure 9 rfl (by kernel_rfl) rfl (fun _ => (by first | exact Vi | exact Vj)) rfl rfl ?_
  refine JP.pure 10 rfl (by kernel_rfl) rfl (fun _ => Va) rfl rfl ?_
  refine JP.pure 11 rfl (by kernel_rfl) rfl (fun _ => Va) rfl rfl ?_
  refine JP.pure 12 rfl (by kernel_rfl) rfl (fun _ => (by first | exact Vi | exact Vj)) rfl rfl ?_
  refine JP.pure 13 rfl (by kernel_rfl) rfl (fun _ => Va) rfl rfl ?_
  refine JP.pure 14 rfl (by kernel_rfl) rfl (fun _ => Va) rfl rfl ?_
  refine JP.pure 15 rfl (by kernel_rfl) rfl (fun _ => Va) rfl rfl ?_
  refine JP.pure 16 rfl (by kernel_rfl) rfl (fun _ => Vl) rfl rfl ?_
  refine JP.reslot 78 (.bool true) (by simp) ?_
  refine JP.pure 17 rfl (by kernel_rfl) rfl (fun _ => (by first | exact Vi | exact Vj)) rfl rfl ?_
  refine JP.pure 18 rfl (by kernel_rfl) rfl (fun _ => Va) rfl rfl ?_
  refine JP.pure 19 rfl (by kernel_rfl) rfl (fun _ => Va) rfl rfl ?_
  refine JP.pure 22 rfl (by kernel_rfl) rfl (fun _ => Va) rfl rfl ?_
  refine JP.op 20 (by kernel_rfl) rfl rfl (JR.callBuf rfl (fun w1 hw => open_store w1 _ a k b (hw.get (A := sl a k b)) (by omega)) fun a9 c9 => Wd ⟨rfl, (by repeat (first|exact Obs.nil|refine Obs.keep ?_|refine Obs.skip (by kernel_rfl) ?_)), ?_⟩)
  refine JP.more (fun w1 ho => ho.pub) ?_
  refine JP.take 21 [.st (sl a9 c9 (b.take (loadEnd b)))] rfl (by kernel_rfl) rfl (OpV.bytesStr (L := b.take (loadEnd b))) rfl rfl ?_
  refine JP.op 23 (by kernel_rfl) rfl rfl (JR.callSl rfl (fun w1 hw => open_ref w1 _ a k b (hw.get (A := sl a k b)) (by omega)) fun a10 c10 => Wd ⟨rfl, (by repeat (first|exact Obs.nil|refine Obs.keep ?_|refine Obs.skip (by kernel_rfl) ?_)), ?_⟩)
  refine JP.take 24 [.st (sl a10 c10 (b.take (loadEnd b)))] rfl (by kernel_rfl) rfl (OpV.bytesStr (L := b.take (loadEnd b))) rfl rfl ?_
  refine JP.pure 25 rfl (by kernel_rfl) rfl (fun _ => VB) rfl rfl ?_
  refine JP.reslot 87 (.bool true) (by simp) ?_
  refine JP.pure 26 rfl (by kernel_rfl) rfl (fun _ => (by first | exact Vi | exact Vj)) rfl rfl ?_
  refine JP.pure 27 rfl (by kernel_rfl) rfl (fun _ => Va) rfl rfl ?_
  refine JP.pure 28 rfl (by kernel_rfl) rfl (fun _ => Va) rfl rfl ?_
  refine JP.pure 29 rfl (by kernel_rfl) rfl (fun _ => Va) rfl rfl ?_
  refine JP.pure 31 rfl (by kernel_rfl) rfl (fun _ => Va) rfl rfl ?_
  refine JP.pure 32 rfl (by kernel_rfl) rfl (fun _ => Va) rfl rfl ?_
  refine JP.takeCall 30 [.st (sl a5 c5 (loadL b))] rfl (by kernel_rfl) rfl (fun w1 hw => last_store w1 _ a5 c5 (loadL b) node hw.get) rfl rfl ?_
  refine JP.takeCall 33 [.st (sl a5 c5 (loadL b))] rfl (by kernel_rfl) rfl (fun w1 hw => last_ref w1 _ a5 c5 (loadL b) node hw.get) rfl rfl ?_
  refine JP.pure 34 rfl (by kernel_rfl) rfl (fun _ => Vl) rfl rfl ?_
  refine JP.reslot 96 (.bool true) (by simp) ?_
  refine JP.pure 35 rfl (by kernel_rfl) rfl (fun _ => (by first | exact Vi | exact Vj)) rfl rfl ?_
  refine JP.pure 36 rfl (by kernel_rfl) rfl (fun _ => Vb) rfl rfl ?_
  refine JP.nil (by kernel_rfl) ?_
  repeat (first|refine Wa ?_|refine Ws ?_)
  exact CT.done () rfl (fun w ho => ho.ent)
end Ab
end Go.Proofs.YtdgeffphifgflaaGreat
namespace Go.Proofs.YtdgeffphifgflaaGreat
namespace Ab
open Go Go.RowKit
set_option linter.unusedVariables false
set_option linter.unusedSimpArgs false
structure OpenT (P : Program) (α : Type) [Cell α] (t : TypeId) : Prop where
  ok : ∀ {H : Type} {enc : TypeId × Value → H} {w : World} {sp : Nat → Bool} {held : Bool} {fuel : Nat} {cs : List Value} {x : DataW H × List MemPlace},
    DataW.trod enc P w 0 sp held fuel t cs = some x → (∀ n ∈ x.1.weights P t, n ≤ reachBytes) → ∃ (u : α) (y : Cell.Ix α), cs = Cell.cells u y ∧ ∀ A ∈ Cell.facts u y, A.holds (fun _ => True) w
theorem weightsAll_mem {H : Type} {P : Program} {e : TypeId} {d : DataW H} {n : Nat} (hn : n ∈ d.weights P e) : ∀ {ds : List (DataW H)}, d ∈ ds → n ∈ DataW.weightsAll P e ds
  | [], h => by cases h
  | d' :: ds, h => by
    simp only [DataW.weightsAll, List.mem_append]
    rcases List.mem_cons.1 h with rfl | h
    · exact .inl hn
    · exact .inr (weightsAll_mem hn h)
theorem add_zero_addr (a : Addr) : (a.add 0).add 0 = a := by simp [Addr.add]
theorem cells_get {w : World} {a : Addr} {n : Nat} {ci : List Value} (h : w.cells? 0 a n = some ci) (j : Nat) (v : Value) (hv : ci[j]? = some v) : w.cell? (a.add j) = some v := by
  unfold World.cells? at h
  rw [if_pos (Nat.zero_le _)] at h
  have hl := mapM_some_length h
  have hj : j < n := by
    have := (List.getElem?_eq_some_iff.1 hv).1
    rw [hl, List.length_range] at this
    exact this
  have := mapM_some_get h j j (by simp [hj])
  rw [this, hv]
theorem OpenT.slice {P : Program} {α : Type} [Cell α] {t e : TypeId} (hO : OpenT P α e) (ht : P.underlying t = some (.slice e)) (hc : P.cellsOf e = Cell.sz α) (hb : 1 ≤ P.bytesOf e)
    {H : Type} {enc : TypeId × Value → H} {w : World} {sp : Nat → Bool} {held : Bool} {fuel : Nat} {cs : List Value} {x : DataW H × List MemPlace}
    (h : DataW.trod enc P w 0 sp held fuel t cs = some x) (hw : ∀ n ∈ x.1.weights P t, n ≤ reachBytes) :
    ∃ (a : Option Addr) (c : Nat) (L : List α), cs = [.slice a L.length c] ∧ (sl a c L).holds (fun _ => True) w := by
  rcases DataW.trod_slice ht h with ⟨rfl, rfl⟩ | ⟨a, len, cap, elems, rest, n, _, rfl, rfl, _, hlc, hcm, hlen, helems, _, _⟩
  · exact ⟨none, 0, [], rfl, sl_nil⟩
  · simp only [DataW.weights, ht] at hw
    have hw1 : len ≤ reachBytes := by
      have := hw _ (List.mem_cons_self ..)
      simp only [List.length_map] at this
      have h2 : (elems.length + rest.length) * 1 ≤ (elems.length + rest.length) * P.bytesOf e := Nat.mul_le_mul_left _ hb
      omega
    have key : ∀ i (hi : i < len), ∃ (u : α), ∃ (y : Cell.Ix α), (∀ j v, (Cell.cells u y)[j]? = some v → w.cell? ((a.add (i * Cell.sz α)).add j) = some v) ∧ ∀ A ∈ Cell.facts u y, A.holds (fun _ => True) w := by
      intro i hi
      have h1 := helems i hi
      have hi' : i < elems.length := by omega
      rw [List.getElem?_eq_getElem hi', hc] at h1
      obtain ⟨ci, hci, hd⟩ := Option.bind_eq_some_iff.1 h1
      obtain ⟨u, y, rfl, hf⟩ := hO.ok hd (fun n hn => hw n (List.mem_cons_of_mem _ (List.mem_append_left _ (weightsAll_mem hn (List.mem_map_of_mem (List.getElem_mem hi'))))))
      exact ⟨u, y, fun j v hv => cells_get hci j v hv, hf⟩
    obtain ⟨f, hf⟩ := Classical.axiomOfChoice (fun i : Fin len => key i.1 i.2)
    refine ⟨some a, cap, List.ofFn f, by simp, ?_⟩
    have hR : reachBytes = 140737488351232 := rfl
    refine ⟨by simpa using hlc, hcm, by simp only [List.length_ofFn, lim]; omega, fun hne => ?_⟩
    have h0 : 0 < len := by
      have := List.length_pos_iff.2 hne
      simpa using this
    obtain ⟨y0, hy0, _⟩ := hf ⟨0, h0⟩
    have hpos : 0 < (Cell.cells (f ⟨0, h0⟩) y0).length := by rw [Cell.len]; exact Cell.pos
    have hc0 := hy0 0 _ (List.getElem?_eq_getElem hpos)
    simp only [Nat.zero_mul, add_zero_addr] at hc0
    obtain ⟨b, off, spot⟩ := a
    have hspot : spot = none := by
      cases spot with
      | none => rfl
      | some s =>
        unfold World.cell? at hc0
        split at hc0
        · simp at hc0
        · cases hc0
    subst hspot
    refine ⟨b, off, rfl, trivial, ?_, fun i hi => ?_⟩
    · rcases Nat.lt_or_ge b w.heap.size with h | h
      · exact h
      · unfold World.cell? at hc0
        simp [Array.getElem?_eq_none h] at hc0
    · have hi' : i < len := by simpa using hi
      obtain ⟨y, hy, hfa⟩ := hf ⟨i, hi'⟩
      refine ⟨y, fun j v hv => ?_, fun A hA => ?_⟩
      · simp only [List.getElem_ofFn] at hv
        have := hy j v hv
        rw [Addr.add_mid, Addr.add_mid] at this
        exact this
      · simp only [List.getElem_ofFn] at hA
        exact hfa A hA
theorem open_byte : OpenT Tryz.prog UInt8 5 := ⟨fun h _ => by
  obtain ⟨n, rfl, _, hw⟩ := DataW.trod_int Tryz.underlying5 h
  have hb : 0 ≤ n ∧ n ≤ 255 := by simpa [Lit.wf, IntKind.min, IntKind.max, IntKind.signed, IntKind.bits] using hw
  refine ⟨UInt8.ofNat n.toNat, (), ?_, by simp [Cell.facts]⟩
  show _ = [byteV _]
  simp only [byteV, List.cons.injEq, and_true, Value.int.injEq, true_and]
  rw [UInt8.toNat_ofNat']
  omega⟩
def byteOfV : Value → UInt8
  | .int _ n => UInt8.ofNat n.toNat
  | _ => 0
set_option maxRecDepth 100000 in
theorem open_id : OpenT Tryz.prog ID 81 := ⟨fun {H enc w sp held fuel cs x} h _ => by
  have hcell : Tryz.prog.cellsOf 5 = 1 := by kernel_rfl
  have hcell2 : Tryz.prog.cellsOf 81 = 32 := by kernel_rfl
  obtain ⟨xs, m, rfl, rfl, hl, hlx, hx⟩ := DataW.trod_array Tryz.underlying81 h
  rw [hcell2] at hl
  have key : ∀ i (hi : i < cs.length), cs[i] = byteV (byteOfV cs[i]) := by
    intro i hi
    have h1 := hx i (by omega)
    rw [hcell, Nat.mul_one, List.getElem?_eq_getElem (by omega)] at h1
    have h2 : (cs.drop i).take 1 = [cs[i]] := by
      rw [List.drop_eq_getElem_cons hi]; rfl
    rw [h2] at h1
    obtain ⟨n, hn, _, hw⟩ := DataW.trod_int Tryz.underlying5 h1
    injection hn with hn
    have hb : 0 ≤ n ∧ n ≤ 255 := by simpa [Lit.wf, IntKind.min, IntKind.max, IntKind.signed, IntKind.bits] using hw
    rw [hn]
    simp only [byteOfV, byteV, Value.int.injEq, true_and]
    rw [UInt8.toNat_ofNat']
    omega
  refine ⟨⟨cs.map byteOfV, by rw [List.length_map]; exact hl⟩, (), ?_, by simp [Cell.facts]⟩
  show cs = (cs.map byteOfV).map byteV
  apply List.ext_getElem
  · simp
  · intro i h1 h2
    simp only [List.getElem_map]
    exact key i h1⟩
set_option maxRecDepth 100000 in
theorem open_commit : OpenT Tryz.prog Commit 29 := ⟨fun {H enc w sp held fuel cs x} h hw => by
  have c24 : Tryz.prog.cellsOf 24 = 2 := by kernel_rfl
  have c27 : Tryz.prog.cellsOf 27 = 4 := by kernel_rfl
  have c29 : Tryz.prog.cellsOf 29 = 8 := by kernel_rfl
  have c25 : Tryz.prog.cellsOf 25 = 1 := by kernel_rfl
  have c3 : Tryz.prog.cellsOf 3 = 1 := by kernel_rfl
  have c9 : Tryz.prog.cellsOf 9 = 1 := by kernel_rfl
  obtain ⟨xs, m, rfl, rfl, hl, hlx, hx⟩ := DataW.trod_struct Tryz.underlying29 h
  rw [c29] at hl
  match cs, hl with
  | [v0, v1, v2, v3, v4, v5, v6, v7], _ =>
  match xs, hlx with
  | [x0, x1, x2, x3], _ =>
  have h0 := hx 0 _ rfl
  have h1 := hx 1 _ rfl
  have h2 := hx 2 _ rfl
  have h3 := hx 3 _ rfl
  simp only [List.getElem_toArray, List.getElem_cons_zero, List.getElem_cons_succ, c24, c3, c25, c27, List.drop_zero, List.drop_succ_cons, List.take_succ_cons, List.take_zero, List.getElem?_cons_zero, List.getElem?_cons_succ] at h0 h1 h2 h3
  obtain ⟨ys, m', rfl, rfl, _, hly, hy⟩ := DataW.trod_struct Tryz.underlying24 h0
  match ys, hly with
  | [y0, y1], _ =>
  have e0 := hy 0 _ rfl
  have e1 := hy 1 _ rfl
  simp only [List.getElem_toArray, List.getElem_cons_zero, List.getElem_cons_succ, c3, List.drop_zero, List.drop_succ_cons, List.take_succ_cons, List.take_zero, List.getElem?_cons_zero, List.getElem?_cons_succ] at e0 e1
  obtain ⟨n0, q0, _, _⟩ := DataW.trod_int Tryz.underlying3 e0
  obtain ⟨n1, q1, _, _⟩ := DataW.trod_int Tryz.underlying3 e1
  obtain ⟨n2, q2, _, _⟩ := DataW.trod_int Tryz.underlying3 h1
  obtain ⟨zs, m2, hm2, rfl, _, hlz, hz⟩ := DataW.trod_struct Tryz.underlying27 h3
  match zs, hlz with
  | [z0, z1, z2, z3], _ =>
  have g0 := hz 0 _ rfl
  have g1 := hz 1 _ rfl
  have g2 := hz 2 _ rfl
  have g3 := hz 3 _ rfl
  simp only [List.getElem_toArray, List.getElem_cons_zero, List.getElem_cons_succ, c3, c9, List.drop_zero, List.drop_succ_cons, List.take_succ_cons, List.take_zero, List.getElem?_cons_zero, List.getElem?_cons_succ] at g0 g1 g2 g3
  obtain ⟨k0, r0, _, _⟩ := DataW.trod_int Tryz.underlying3 g0
  obtain ⟨s1, r1, r1x, _⟩ := DataW.trod_string Tryz.underlying9 g1
  obtain ⟨s2, r2, r2x, _⟩ := DataW.trod_string Tryz.underlying9 g2
  obtain ⟨k3, r3, _, _⟩ := DataW.trod_int Tryz.underlying3 g3
  simp only [DataW.weights, Tryz.underlying29, List.map_cons, List.map_nil, DataW.weightsEach, List.append_nil, List.mem_append, List.map_toArray] at hw
  obtain ⟨pa, pc, L, q3, hsl⟩ := open_id.slice Tryz.underlying25 (by kernel_rfl) (by rw [show Tryz.prog.bytesOf 81 = 32 by kernel_rfl]; decide) h2 (fun n hn => hw n (by simp [hn]))
  injection q0 with q0
  injection q1 with q1
  injection q2 with q2
  injection q3 with q3
  injection r0 with r0
  injection r1 with r1
  injection r2 with r2
  injection r3 with r3
  subst q0 q1 q2 q3 r0 r1 r2 r3
  exact ⟨⟨⟨n0, n1⟩, n2, L, ⟨k0, s1, s2, k3⟩⟩, (pa, pc), rfl, fun A hA => by simp only [Cell.facts, List.mem_singleton] at hA; subst hA; exact hsl⟩⟩
end Ab
end Go.Proofs.YtdgeffphifgflaaGreat
namespace Go.Proofs.YtdgeffphifgflaaGreat
open Go Go.ChangeShapes Go.WideShapes Go.ChangeAt Go.RowKit
set_option linter.unusedVariables false
theorem knobs : ownKnob Tryz.prog.godebug = none := by kernel_rfl
theorem laid : laidOutB Tryz.prog = true := by kernel_rfl
theorem arg_sl {P : Program} {H : Type} {enc : TypeId × Value → H} {W : World} {α : Type} [Ab.Cell α] {t e : TypeId} (hO : Ab.OpenT P α e) (ht : P.underlying t = some (.slice e)) (hc : P.cellsOf e = Ab.Cell.sz α) (hb : 1 ≤ P.bytesOf e)
    {r : Reach} {base : Nat} {v : Value} {d : DataW H} {p : List MemPlace} (hv : Value.okWide P W r base t v) (h : DataW.Trod enc P W 0 (fun _ => true) true t v d p) (hw : ∀ n ∈ d.weights P t, n ≤ reachBytes) :
    ∃ (a : Option Addr) (c : Nat) (L : List α), v = .slice a L.length c ∧ (Ab.sl a c L).holds (fun _ => True) W := by
  obtain ⟨a, len, cap, rfl⟩ := okWide_slice ht hv
  obtain ⟨fuel, hf⟩ := h
  obtain ⟨a', c', L, hcs, hsl⟩ := hO.slice ht hc hb hf hw
  simp [Value.cells] at hcs
  obtain ⟨rfl, rfl, rfl⟩ := hcs
  exact ⟨_, _, L, rfl, hsl⟩
section
variable {H : Type} {enc : TypeId × Value → H} {W : World} {r : Reach} {base : Nat} {v : Value} {d : DataW H} {p : List MemPlace}
set_option maxRecDepth 100000 in
theorem arg_bytes (hv : Value.okWide Tryz.prog W r base 22 v) (h : DataW.Trod enc Tryz.prog W 0 (fun _ => true) true 22 v d p) (hw : ∀ n ∈ d.weights Tryz.prog 22, n ≤ reachBytes) :
    ∃ (a : Option Addr) (c : Nat) (L : List UInt8), v = .slice a L.length c ∧ (Ab.sl a c L).holds (fun _ => True) W :=
  arg_sl Ab.open_byte Tryz.underlying22 (by kernel_rfl) (by decide +kernel) hv h hw
set_option maxRecDepth 100000 in
theorem arg_commit (hv : Value.okWide Tryz.prog W r base 29 v) (h : DataW.Trod enc Tryz.prog W 0 (fun _ => true) true 29 v d p) (hw : ∀ n ∈ d.weights Tryz.prog 29, n ≤ reachBytes) :
    ∃ (c : Ab.Commit) (a : Option Addr) (k : Nat), v = Ab.commitV c a k ∧ (Ab.sl a k c.parents).holds (fun _ => True) W := by
  unfold Value.okWide at hv
  rw [Tryz.underlying29] at hv
  obtain ⟨cs, rfl, _, _⟩ := hv
  obtain ⟨fuel, hf⟩ := h
  obtain ⟨u, y, hcs, hfa⟩ := Ab.open_commit.ok hf hw
  have hcs' : cs.toList = Ab.Cell.cells u y := hcs
  refine ⟨u, y.1, y.2, ?_, hfa _ (by simp [Ab.Cell.facts])⟩
  show Value.agg cs = .agg ⟨Ab.Cell.cells u y⟩
  rw [← hcs']
end
section
variable {H : Type} {enc : TypeId × Value → H} {P : Program} {w : World} {base : Nat} {spare : Nat → Bool} {held : Bool}
end
end Go.Proofs.YtdgeffphifgflaaGreat
