/- Lemmas for the walks, part 3 of 5: WalkO, WalkP, WalkQ, WalkR, Lays2, WalkS, WalkT, WalkU, WalkV, Dag, WalkW, WalkX, DagC, More10, More11, RefOps, More12, More13, WalkB2, DagA, Draw2, DagB, DagE, Cmp, Sort2, Lays3, DagD, DagF, DagG, DagH. -/
import Derived.Test.YtglclakhjmogiaaGreatFr2
import Derived.Shelf.Bytes.SlJoin
import Derived.Test.YtglclakhjmogiaaGreatChecked
import Derived.KernelRfl
import Derived.Test.YtglclakhjmogiaaGreatFr1
import Derived.Shelf.SlSortCmp.NoneTotal
/- Contracts: sha.Block. -/
namespace Go.Proofs.YtglclakhjmogiaaGreat
namespace Ab
open Go Go.RowKit
set_option linter.unusedVariables false
set_option linter.unusedSimpArgs false
set_option synthInstance.maxSize 4000
set_option synthInstance.maxHeartbeats 400000
attribute [local irreducible] JC JO JR JQ andThen inBlock OpV Gives retTo JM JS

attribute [local irreducible] spreadK
def one32 (W s : List UInt32) (k : Nat) : UInt32 :=
  (((s.getD 7 0 + great32 (s.getD 4 0) 6 11 25) + pick32 (s.getD 4 0) (s.getD 5 0) (s.getD 6 0)) + shaK.getD k 0) + W.getD k 0
def two32 (s : List UInt32) : UInt32 := great32 (s.getD 0 0) 2 13 22 + most32 (s.getD 0 0) (s.getD 1 0) (s.getD 2 0)
/-- One round. -/
def turnS (W s : List UInt32) (k : Nat) : List UInt32 :=
  [one32 W s k + two32 s, s.getD 0 0, s.getD 1 0, s.getD 2 0, s.getD 3 0 + one32 W s k, s.getD 4 0, s.getD 5 0, s.getD 6 0]
def turnK (W h : List UInt32) : Nat → List UInt32
  | 0 => h
  | k + 1 => turnS W (turnK W h k) k
theorem turnK_length (W : List UInt32) {h : List UInt32} (hh : h.length = 8) (k : Nat) : (turnK W h k).length = 8 := by
  cases k with
  | zero => exact hh
  | succ k => rfl
def turnV (W : List UInt32) (h : Vec UInt32 8) (k : Nat) : Vec UInt32 8 := ⟨turnK W h.1 k, turnK_length W h.2 k⟩
theorem turnV_zero (W : List UInt32) (h : Vec UInt32 8) : turnV W h 0 = h := rfl
theorem turnV_succ (W : List UInt32) (h : Vec UInt32 8) (k : Nat) : (turnV W h (k + 1)).1 = turnS W (turnV W h k).1 k := rfl
/-- The first k of h with s's added. -/
def plusK (h s : List UInt32) (k : Nat) : List UInt32 := (List.range 8).map (fun i => if i < k then h.getD i 0 + s.getD i 0 else h.getD i 0)
def plusV (h s : List UInt32) (k : Nat) : Vec UInt32 8 := ⟨plusK h s k, by simp [plusK]⟩
theorem plusV_set (h s : List UInt32) (k : Nat) (hk : k < 8) : (plusV h s k).1.set k (h.getD k 0 + s.getD k 0) = (plusV h s (k + 1)).1 := by
  match k, hk with
  | 0, _ => rfl
  | 1, _ => rfl
  | 2, _ => rfl
  | 3, _ => rfl
  | 4, _ => rfl
  | 5, _ => rfl
  | 6, _ => rfl
  | 7, _ => rfl
theorem plusV_at (h s : List UInt32) (k : Nat) (hk : k < 8) : (plusV h s k).1.getD k 0 = h.getD k 0 := by
  match k, hk with
  | 0, _ => rfl
  | 1, _ => rfl
  | 2, _ => rfl
  | 3, _ => rfl
  | 4, _ => rfl
  | 5, _ => rfl
  | 6, _ => rfl
  | 7, _ => rfl
theorem vec8 (v : Vec UInt32 8) : ∃ a b c d e f g h, v.1 = [a, b, c, d, e, f, g, h] := by
  obtain ⟨l, hl⟩ := v
  match l, hl with
  | [a, b, c, d, e, f, g, h], _ => exact ⟨a, b, c, d, e, f, g, h, rfl⟩
theorem plusV_zero (v : Vec UInt32 8) (s : List UInt32) : (plusV v.1 s 0).1 = v.1 := by
  obtain ⟨a, b, c, d, e, f, g, h, hv⟩ := vec8 v
  rw [hv]; rfl
def blockL (h : Vec UInt32 8) (L : List UInt8) : Vec UInt32 8 := plusV h.1 (turnV (spreadV L 64).1 h 64).1 8
def shaKV : Vec UInt32 64 := ⟨shaK, rfl⟩
theorem constants_shaV (w : World) (F : Nat → Prop) : GivesV Tryz.prog 156 [] w F (.agg ⟨shaKV.1.map w32⟩) := constants_sha w F
theorem shaKV_eq : shaKV.1 = shaK := rfl
attribute [local irreducible] shaKV spreadV turnV plusV

set_option maxHeartbeats 2000000 in
theorem block_sha (w : World) (F : Nat → Prop) (a : Option Addr) (c : Nat) (L : List UInt8) (h : Vec UInt32 8) (hs : (sl a c L).holds F w) (hL : L.length = 64) :
    GivesV Tryz.prog 121 [.agg ⟨h.1.map w32⟩, .slice a L.length c] w F (.tuple ⟨[.agg ⟨(blockL h L).1.map w32⟩, .bool true]⟩) := by
  refine gives_of Tryz.func121 rfl Tryz.ntmps121 rfl rfl [.st (sl a c L)] (.start1 hs) ?_
  repeat (first|refine Wa ?_|refine Wb ?_|refine Wc ?_|refine Wd ?_|refine We rfl ?_|refine Wf (by first|exact Va|exact Vb|exact Vf|exact Vm) rfl ?_|(refine Wg rfl ?_; intro _)|(refine Wh rfl ?_; intro _))
  rename_i bh br
  refine JC.test (fun h0 => ?_) (fun h0 => ?_)
  · simp [hL] at h0
  repeat (first|refine Wa ?_|refine Wb ?_|refine Wl ?_)
  refine JC.cut (fun q : Nat × Nat × Nat => [(2, .pointer (some ⟨bh, 0, none⟩)), (4, .pointer (some ⟨br, 0, none⟩)), (6, .pointer (some ⟨q.1, 0, none⟩)), (7, .pointer (some ⟨q.2.1, 0, none⟩)), (8, .pointer (some ⟨q.2.2, 0, none⟩))])
    (fun q => [.own bh 137 (h.1.map w32), .own br 137 [.int .u32 0, .int .u32 0, .int .u32 0, .int .u32 0, .int .u32 0, .int .u32 0, .int .u32 0, .int .u32 0], .own q.1 167 (shaKV.1.map w32), .own q.2.1 167 ((spreadV L 64).1.map w32), .own q.2.2 137 (h.1.map w32)]) ?_ ?_
  · refine JC.draw 7 mixed ?_
    refine JM.takeCall 0 rfl (by kernel_rfl) rfl (fun w1 hw => constants_shaV w1 _) rfl rfl ?_
    refine JM.take 1 rfl (by kernel_rfl) rfl Va rfl rfl ?_
    refine JM.takeCall 2 rfl (by kernel_rfl) rfl (fun w1 hw => spread_sha w1 _ a c L hw.get hL) rfl rfl ?_
    refine JM.allocsBut (i0 := 3) (i1 := 4) (i2 := 5) (i3 := 6) rfl Vc rfl rfl rfl (by kernel_rfl) rfl rfl rfl ?_ ?_
    · intro q1 q2 q3
      refine JM.last 7 (by kernel_rfl) rfl rfl rfl (Wi (Wd ⟨rfl, ?_⟩))
      refine JM.last 8 (by kernel_rfl) rfl rfl rfl (Wi (Wd ⟨rfl, ?_⟩))
      refine JM.last 9 (by kernel_rfl) rfl rfl rfl (Wi (Wd ⟨rfl, ?_⟩))
      refine JM.nil (by kernel_rfl) ?_
      exact ⟨rfl, (q1, q2, q3), inferInstance⟩
    · intro q1 q2 q3
      refine JM.mix 3 7 (by kernel_rfl) rfl rfl rfl rfl rfl rfl rfl (JS.val Vc rfl ?_) (Wi (Wd ⟨rfl, ?_⟩))
      · refine JM.last 7 (by kernel_rfl) rfl rfl rfl (Wi (Wd ⟨rfl, ?_⟩))
        refine JM.last 8 (by kernel_rfl) rfl rfl rfl (Wi (Wd ⟨rfl, ?_⟩))
        refine JM.last 9 (by kernel_rfl) rfl rfl rfl (Wi (Wd ⟨rfl, ?_⟩))
        refine JM.nil (by kernel_rfl) ?_
        exact ⟨rfl, (q1, q2, q3), inferInstance⟩
      · refine JM.mix 3 8 (by kernel_rfl) rfl rfl rfl rfl rfl rfl rfl (JS.val Vc rfl ?_) (Wi (Wd ⟨rfl, ?_⟩))
        · refine JM.last 8 (by kernel_rfl) rfl rfl rfl (Wi (Wd ⟨rfl, ?_⟩))
          refine JM.last 9 (by kernel_rfl) rfl rfl rfl (Wi (Wd ⟨rfl, ?_⟩))
          refine JM.nil (by kernel_rfl) ?_
          exact ⟨rfl, (q1, q2, q3), inferInstance⟩
        · refine JM.one 3 (by kernel_rfl) rfl rfl rfl rfl (JS.val Vc rfl ?_)
          refine JM.last 9 (by kernel_rfl) rfl rfl rfl (Wi (Wd ⟨rfl, ?_⟩))
          refine JM.nil (by kernel_rfl) ?_
          exact ⟨rfl, (q1, q2, q3), inferInstance⟩
  rintro ⟨q1, q2, q3⟩
  repeat (first|refine Wa ?_|refine Wb ?_|refine Wc ?_|refine Wd ?_|refine We rfl ?_|refine Wf (by exact Va) rfl ?_|refine Wn ?_)
  refine JC.loop1 (fun k : Nat => [(2, .pointer (some ⟨bh, 0, none⟩)), (4, .pointer (some ⟨br, 0, none⟩)), (6, .pointer (some ⟨q1, 0, none⟩)), (7, .pointer (some ⟨q2, 0, none⟩)), (8, .pointer (some ⟨q3, 0, none⟩)), (21, .int .i64 (k : Int))])
    (fun k => [.own bh 137 (h.1.map w32), .own br 137 [.int .u32 0, .int .u32 0, .int .u32 0, .int .u32 0, .int .u32 0, .int .u32 0, .int .u32 0, .int .u32 0], .own q1 167 (shaKV.1.map w32), .own q2 167 ((spreadV L 64).1.map w32), .own q3 137 ((turnV (spreadV L 64).1 h k).1.map w32)])
    (fun k => k ≤ 64) (fun k => 64 - k) 0 (Nat.zero_le _) (by rw [turnV_zero]; infer_instance) ?_
  intro k hk
  repeat (first|refine Wa ?_|refine Wb ?_|refine Wc ?_|refine Wd ?_|refine We rfl ?_|refine Wf (by exact Vg) rfl ?_)
  refine JC.test (fun hlt => ?_) (fun hge => ?_)
  · have hlt' : k < 64 := by omega
    have hkk : k < shaKV.1.length := by rw [shaKV.2]; exact hlt'
    have hkw : k < (spreadV L 64).1.length := by rw [(spreadV L 64).2]; exact hlt'
    obtain ⟨x0, x1, x2, x3, x4, x5, x6, x7, hx⟩ := vec8 (turnV (spreadV L 64).1 h k)
    have hnext := turnV_succ (spreadV L 64).1 h k
    rw [hx] at hnext ⊢
    repeat (first|refine Wa ?_|refine Wb ?_|refine Wc ?_|refine Wd ?_|refine We rfl ?_|refine Wf (by first|exact Va|exact Vb) rfl ?_|refine Wl ?_|refine Wn ?_)
    refine JC.quiet mixed (by kernel_rfl) ?_
    refine Wy rfl (OpV.indexArr (k := 7) (by decide)) rfl ?_
    refine Wy rfl (OpV.getW 7 (by simp) rfl rfl) rfl ?_
    refine Wy rfl (OpV.indexArr (k := 4) (by decide)) rfl ?_
    refine Wy rfl (OpV.getW 4 (by simp) rfl rfl) rfl ?_
    refine JQ.call rfl rfl (fun w1 hw => great_sha w1 _ _ 6 11 25 (by decide) (by decide) (by decide)) ?_
    refine Wy rfl OpV.add32 rfl ?_
    refine Wy rfl (OpV.indexArr (k := 4) (by decide)) rfl ?_
    refine Wy rfl (OpV.getW 4 (by simp) rfl rfl) rfl ?_
    refine Wy rfl (OpV.indexArr (k := 5) (by decide)) rfl ?_
    refine Wy rfl (OpV.getW 5 (by simp) rfl rfl) rfl ?_
    refine Wy rfl (OpV.indexArr (k := 6) (by decide)) rfl ?_
    refine Wy rfl (OpV.getW 6 (by simp) rfl rfl) rfl ?_
    refine JQ.call rfl rfl (fun w1 hw => pick_rot w1 _ _ _ _) ?_
    refine Wy rfl OpV.add32 rfl ?_
    refine Wy rfl Va rfl ?_
    refine Wy rfl (OpV.indexArr hlt') rfl ?_
    refine Wy rfl (OpV.getW k hkk (by omega) rfl) rfl ?_
    refine Wy rfl OpV.add32 rfl ?_
    refine Wy rfl Va rfl ?_
    refine Wy rfl (OpV.indexArr hlt') rfl ?_
    refine Wy rfl (OpV.getW k hkw (by omega) rfl) rfl ?_
    refine Wy rfl OpV.add32 rfl ?_
    refine JQ.reslot 45 (w32 (one32 (spreadV L 64).1 [x0, x1, x2, x3, x4, x5, x6, x7] k)) (by simp only [getD_at, shaKV_eq]; rfl) ?_
    refine Wy rfl Vb rfl ?_
    refine WB ?_
    repeat (first|refine Wa ?_|refine Wb ?_)
    refine JC.quiet mixed (by kernel_rfl) ?_
    refine Wy rfl (OpV.indexArr (k := 0) (by decide)) rfl ?_
    refine Wy rfl (OpV.getW 0 (by simp) rfl rfl) rfl ?_
    refine JQ.call rfl rfl (fun w1 hw => great_sha w1 _ _ 2 13 22 (by decide) (by decide) (by decide)) ?_
    refine Wy rfl (OpV.indexArr (k := 0) (by decide)) rfl ?_
    refine Wy rfl (OpV.getW 0 (by simp) rfl rfl) rfl ?_
    refine Wy rfl (OpV.indexArr (k := 1) (by decide)) rfl ?_
    refine Wy rfl (OpV.getW 1 (by simp) rfl rfl) rfl ?_
    refine Wy rfl (OpV.indexArr (k := 2) (by decide)) rfl ?_
    refine Wy rfl (OpV.getW 2 (by simp) rfl rfl) rfl ?_
    refine JQ.call rfl rfl (fun w1 hw => most_rot w1 _ _ _ _) ?_
    refine Wy rfl OpV.add32 rfl ?_
    refine JQ.reslot 56 (w32 (two32 [x0, x1, x2, x3, x4, x5, x6, x7])) rfl ?_
    refine Wy rfl Vb rfl ?_
    refine WB ?_
    repeat (first|refine Wa ?_|refine Wb ?_)
    refine JC.draw 2 mixed ?_
    refine JM.take 0 rfl (by kernel_rfl) rfl (OpV.sliceArrFrom (l := 1) (by decide) rfl) rfl rfl ?_
    refine JM.take 1 rfl (by kernel_rfl) rfl (OpV.sliceArrTo (k := 7) (by decide)) rfl rfl ?_
    refine JM.last 2 (by kernel_rfl) rfl rfl rfl (JR.copyOwn (cs := [x0, x1, x2, x3, x4, x5, x6].map w32) rfl rfl (by decide) rfl (by simp) inferInstance ?_)
    refine JO.reown q3 ([x0, x0, x1, x2, x3, x4, x5, x6].map w32) rfl (Wd ⟨rfl, ?_⟩)
    refine JM.nil (by kernel_rfl) ?_
    repeat (first|refine Wa ?_|refine Wb ?_|refine Wc ?_|refine We rfl ?_)
    refine Wf (OpV.indexArr (k := 4) (by decide)) rfl ?_
    refine We rfl ?_
    refine Wf (OpV.getW 4 (by simp) rfl rfl) rfl ?_
    refine We rfl ?_
    refine Wf Va rfl ?_
    refine We rfl ?_
    refine Wf OpV.add32 rfl ?_
    refine We rfl ?_
    refine Wf (OpV.indexArr (k := 4) (by decide)) rfl ?_
    refine We rfl ?_
    refine JR.setW 4 (x3 + one32 (spreadV L 64).1 [x0, x1, x2, x3, x4, x5, x6, x7] k) (by simp) rfl rfl ?_
    repeat (first|refine Wa ?_|refine Wc ?_|refine Wd ?_|refine We rfl ?_|refine Wf (by exact Va) rfl ?_)
    refine Wf OpV.add32 rfl ?_
    refine We rfl ?_
    refine Wf (OpV.indexArr (k := 0) (by decide)) rfl ?_
    refine We rfl ?_
    refine JR.setW 0 (one32 (spreadV L 64).1 [x0, x1, x2, x3, x4, x5, x6, x7] k + two32 [x0, x1, x2, x3, x4, x5, x6, x7]) (by simp) rfl rfl ?_
    refine JO.reown q3 ((turnV (spreadV L 64).1 h (k + 1)).1.map w32) (by rw [hnext]; rfl) ?_
    repeat (first|refine Wa ?_|refine Wc ?_|refine Wd ?_|refine We rfl ?_|refine Wf (by first|exact Va|exact Vk (by omega)) rfl ?_|refine Wr ?_)
    exact ⟨k + 1, by omega, by omega, inferInstance⟩
  · obtain rfl : k = 64 := by omega
    obtain ⟨S, hS⟩ : ∃ S, S = turnV (spreadV L 64).1 h 64 := ⟨_, rfl⟩
    have hb : (blockL h L).1 = (plusV h.1 S.1 8).1 := by rw [hS]; rfl
    rw [← hS, hb]
    repeat (first|refine Wa ?_|refine Wb ?_|refine Wc ?_|refine Wd ?_|refine We rfl ?_|refine Wf (by exact Va) rfl ?_|refine Wm ?_|refine Wn ?_|refine Wo ?_|refine Wp ?_)
    refine JC.loop1 (fun k : Nat => [(2, .pointer (some ⟨bh, 0, none⟩)), (4, .pointer (some ⟨br, 0, none⟩)), (8, .pointer (some ⟨q3, 0, none⟩)), (70, .int .i64 (k : Int))])
      (fun k => [.own bh 137 ((plusV h.1 S.1 k).1.map w32), .own br 137 [.int .u32 0, .int .u32 0, .int .u32 0, .int .u32 0, .int .u32 0, .int .u32 0, .int .u32 0, .int .u32 0], .own q3 137 (S.1.map w32)])
      (fun k => k ≤ 8) (fun k => 8 - k) 0 (Nat.zero_le _) (by rw [plusV_zero]; infer_instance) ?_
    intro k hk
    repeat (first|refine Wa ?_|refine Wb ?_|refine Wc ?_|refine Wd ?_|refine We rfl ?_|refine Wf (by exact Vg) rfl ?_)
    refine JC.test (fun hlt => ?_) (fun hge => ?_)
    · have hlt' : k < 8 := by omega
      have hk1 : k < (plusV h.1 S.1 k).1.length := by rw [(plusV h.1 S.1 k).2]; exact hlt'
      have hk2 : k < S.1.length := by rw [S.2]; exact hlt'
      repeat (first|refine Wa ?_|refine Wb ?_|refine Wc ?_|refine Wd ?_|refine We rfl ?_|refine Wf (by first|exact Va|exact Vb) rfl ?_|refine Wl ?_|refine Wn ?_)
      refine JC.draw 8 mixed ?_
      refine JM.take 0 rfl (by kernel_rfl) rfl Va rfl rfl ?_
      refine JM.take 1 rfl (by kernel_rfl) rfl (OpV.indexArr hlt') rfl rfl ?_
      refine JM.take 2 rfl (by kernel_rfl) rfl (OpV.getW k hk1 (by omega) rfl) rfl rfl ?_
      refine JM.take 3 rfl (by kernel_rfl) rfl Va rfl rfl ?_
      refine JM.take 4 rfl (by kernel_rfl) rfl (OpV.indexArr hlt') rfl rfl ?_
      refine JM.take 5 rfl (by kernel_rfl) rfl (OpV.getW k hk2 (by omega) rfl) rfl rfl ?_
      refine JM.take 6 rfl (by kernel_rfl) rfl OpV.add32 rfl rfl ?_
      refine JM.take 7 rfl (by kernel_rfl) rfl (OpV.indexArr hlt') rfl rfl ?_
      refine JM.reslot 79 (w32 (h.1.getD k 0 + S.1.getD k 0)) (by simp only [getD_at]; rw [plusV_at _ _ _ hlt']) ?_
      refine JM.last 8 (by kernel_rfl) rfl rfl rfl (JR.setW k (h.1.getD k 0 + S.1.getD k 0) hk1 (by omega) rfl (JO.reown bh ((plusV h.1 S.1 (k + 1)).1.map w32) (by rw [plusV_set _ _ _ hlt']) (Wd ⟨rfl, ?_⟩)))
      refine JM.nil (by kernel_rfl) ?_
      repeat (first|refine Wa ?_|refine Wc ?_|refine Wd ?_|refine We rfl ?_|refine Wf (by first|exact Va|exact Vk (by omega)) rfl ?_|refine Wr ?_)
      exact ⟨k + 1, by omega, by omega, inferInstance⟩
    · obtain rfl : k = 8 := by omega
      repeat (first|refine Wa ?_|refine Wb ?_|refine Wc ?_|refine Wd ?_|refine We rfl ?_|refine Wf (by first|exact Vb|exact Vc) rfl ?_|refine Wi ?_|refine Wm ?_|refine Wo ?_|refine Wp ?_|refine Ws ?_)
      exact CT.done () rfl (fun w ho => ho.ent)
end Ab
end Go.Proofs.YtglclakhjmogiaaGreat

/- Contracts: sha.Pad. -/
namespace Go.Proofs.YtglclakhjmogiaaGreat
namespace Ab
open Go Go.RowKit
set_option linter.unusedVariables false
set_option linter.unusedSimpArgs false
set_option synthInstance.maxSize 4000
set_option synthInstance.maxHeartbeats 400000
attribute [local irreducible] JC JO JR JQ andThen inBlock OpV Gives retTo JM JS

/-- How many bytes of nothing. -/
def padZ (n : Nat) : Nat := (119 - n % 64) % 64
def padL (L : List UInt8) : List UInt8 := (L ++ [128]) ++ List.replicate (padZ L.length) 0 ++ longL (UInt64.ofNat (L.length * 8))

instance {x : UInt64} : Len ((longL x).map byteV) 8 := ⟨by simp [longL]⟩
instance {x : UInt32} : Len ((fourL x).map byteV) 4 := ⟨by simp [fourL]⟩
instance {Γ : List Fact} : Typed Γ [.int .u8 128] (128 : UInt8) := ⟨(), rfl, by simp [Cell.facts]⟩
instance {Γ : List Fact} : Typed Γ [.int .u8 0] (0 : UInt8) := ⟨(), rfl, by simp [Cell.facts]⟩
set_option maxHeartbeats 1000000 in
theorem pad_sha (w : World) (F : Nat → Prop) (a : Option Addr) (c : Nat) (L : List UInt8) (h : (sl a c L).holds F w) (hL : L.length ≤ 1048576) :
    GivesBuf Tryz.prog 120 [.slice a L.length c] w F 5 (padL L) := by
  refine gives_of Tryz.func120 rfl Tryz.ntmps120 rfl rfl [.st (sl a c L)] (.start1 h) ?_
  repeat (first|refine Wa ?_|refine Wb ?_|refine Wc ?_|refine Wd ?_|refine We rfl ?_|refine Wf (by first|exact Va|exact Vb|exact Vf|exact Vt (by omega)) rfl ?_)
  have hn128 : NatI ((L.length : Int) + 128) (L.length + 128) := ⟨by omega⟩
  refine JR.makeBytes (l := L.length) (c := L.length + 128) rfl ⟨by omega, by omega⟩ ?_
  intro b
  repeat (first|refine Wa ?_|refine Wb ?_|refine Wc ?_|refine Wd ?_|refine We rfl ?_|refine Wf (by first|exact Va|exact Vb) rfl ?_)
  refine JR.copyBuf (M := L) rfl (by simp) ?_
  intro a1 c1 e1
  injection e1 with e1 e2 e3
  subst e1 e3
  refine JO.reslot 3 (.slice (some ⟨b, 0, none⟩) L.length (L.length + 128)) (by simp) ?_
  repeat (first|refine Wa ?_|refine Wb ?_|refine Wc ?_|refine Wd ?_|refine We rfl ?_|refine Wf (by exact Va) rfl ?_|(refine Ww rfl ⟨rfl, by decide, by decide, by decide⟩ ?_; intro _))
  refine JR.append1 rfl (by exact ⟨rfl, rfl, by decide⟩) (by omega) ?_
  intro a2 c2
  repeat (first|refine Wa ?_|refine Wb ?_|refine Wd ?_|refine We rfl ?_|refine Wf (by exact Vb) rfl ?_|refine Wn ?_)
  have hz : padZ L.length < 64 := Nat.mod_lt _ (by decide)
  refine JC.loop3 (fun (k : Nat) p q => [(0, .slice a L.length c), (3, .slice p ((L ++ [128]) ++ List.replicate k (0 : UInt8)).length q)]) (fun k p q => [.res (buf p q 5 ((L ++ [128]) ++ List.replicate k (0 : UInt8)))])
    (fun k _ _ => k ≤ padZ L.length) (fun k _ _ => padZ L.length - k) 0 a2 c2 (Nat.zero_le _) (by rw [List.replicate_zero, List.append_nil]; infer_instance) ?_
  intro k p q hk
  repeat (first|refine Wb ?_|refine Wc ?_|refine We rfl ?_|refine Wf (by first|exact Va|exact Vf) rfl ?_)
  have hlen : ((L ++ [128]) ++ List.replicate k (0 : UInt8)).length = L.length + 1 + k := by simp; omega
  refine Wf (OpV.rem (by decide)) rfl ?_
  refine JO.reslot 19 (.int .i64 (((L.length + 1 + k) % 64 : Nat) : Int)) (by rw [hlen, Int.tmod_eq_emod_of_nonneg (by omega)]; congr 1) ?_
  repeat (first|refine Wa ?_|refine Wd ?_|refine We rfl ?_|refine Wf (by exact Vm) rfl ?_)
  refine JC.test (fun h1 => ?_) (fun h1 => ?_)
  · have h2 : k < padZ L.length := by simp only [padZ] at hk ⊢; omega
    repeat (first|refine Wa ?_|refine Wc ?_|refine We rfl ?_|refine Wf (by exact Va) rfl ?_|refine Wl ?_|refine Wn ?_|(refine Ww rfl ⟨rfl, by decide, by decide, by decide⟩ ?_; intro _))
    refine JR.append1 rfl (by exact ⟨rfl, rfl, by decide⟩) (by rw [hlen]; omega) ?_
    intro a3 c3
    repeat (first|refine Wa ?_|refine Wd ?_|refine We rfl ?_|refine Wf (by exact Vb) rfl ?_|refine Wr ?_)
    have hs : (L ++ [128]) ++ List.replicate (k + 1) (0 : UInt8) = (L ++ [128]) ++ List.replicate k (0 : UInt8) ++ [0] := by rw [List.replicate_succ', ← List.append_assoc]
    exact ⟨k + 1, a3, c3, by omega, by omega, by rw [hs]; infer_instance⟩
  · have h2 : k = padZ L.length := by simp only [padZ] at hk ⊢; omega
    subst h2
    repeat (first|refine Wa ?_|refine Wb ?_|refine Wc ?_|refine We rfl ?_|refine Wf (by first|exact Va|exact Vf) rfl ?_|refine Wm ?_|refine Wo ?_|refine Wp ?_)
    refine Wf OpV.conv rfl ?_
    refine JO.reslot 26 (.int .u64 (L.length : Int)) (congrArg (Value.int .u64) (by rw [wrap64]; omega)) ?_
    repeat (refine We rfl ?_)
    refine Wf (OpV.shl (by decide)) rfl ?_
    refine JO.reslot 27 (w64 (UInt64.ofNat (L.length * 8))) (congrArg (Value.int .u64) (by
      show IntKind.u64.wrap ((L.length : Int) * 2 ^ 3) = _
      rw [show ((L.length : Int) * 2 ^ 3) = ((L.length * 8 : Nat) : Int) by omega, wrap64, UInt64.toNat_ofNat'])) ?_
    repeat (refine We rfl ?_)
    refine JR.callV rfl (fun w1 hw => long_rot w1 _ _) ?_
    repeat (first|refine Wa ?_|refine Wb ?_|refine Wc ?_|refine Wd ?_|refine We rfl ?_|refine Wf (by exact Va) rfl ?_|(refine Wg rfl ?_; intro _)|refine Wi ?_)
    refine Wf (OpV.sliceArr (by decide)) rfl ?_
    refine We rfl ?_
    refine JR.appendBytes (M := longL (UInt64.ofNat (L.length * 8))) rfl rfl rfl (by simp [longL]) (by exact ⟨rfl, rfl, by decide⟩) (by rw [hlen]; omega) ?_
    intro a3 c3
    repeat (first|refine Wa ?_|refine Wd ?_|refine We rfl ?_|refine Wf (by exact Vb) rfl ?_|refine Ws ?_)
    exact CT.done (a3, c3) rfl (fun w ho => (ho.ent : Hold _ _ [.res (buf a3 c3 5 ((L ++ [128]) ++ List.replicate (padZ L.length) (0 : UInt8) ++ longL (UInt64.ofNat (L.length * 8))))] w))
end Ab
end Go.Proofs.YtglclakhjmogiaaGreat

/- Contracts: sha.Sum. -/
namespace Go.Proofs.YtglclakhjmogiaaGreat
namespace Ab
open Go Go.RowKit
set_option linter.unusedVariables false
set_option linter.unusedSimpArgs false
set_option synthInstance.maxSize 4000
set_option synthInstance.maxHeartbeats 400000
attribute [local irreducible] JC JO JR JQ andThen inBlock OpV Gives retTo JM JS

attribute [local irreducible] spreadK shaKV spreadV turnV plusV blockL
theorem padL_length (L : List UInt8) : (padL L).length = 64 * ((L.length + 72) / 64) := by
  simp only [padL, List.length_append, List.length_replicate, longL, List.length_map, List.length_range, List.length_singleton, padZ]
  omega
/-- One block after another. -/
def blocksV : Nat → Vec UInt32 8 → List UInt8 → Vec UInt32 8
  | 0, h, _ => h
  | n + 1, h, p => blocksV n (blockL h (p.take 64)) (p.drop 64)
def shaSV : Vec UInt32 8 := ⟨shaS, rfl⟩
theorem start_shaV (w : World) (F : Nat → Prop) : GivesV Tryz.prog 119 [] w F (.agg ⟨shaSV.1.map w32⟩) := start_sha w F
def sumV (L : List UInt8) : Vec UInt32 8 := blocksV ((padL L).length / 64) shaSV (padL L)
/-- The words' bytes, as far as they are written. -/
def outK (h : List UInt32) (k : Nat) : List UInt8 := (h.take k).flatMap fourL ++ List.replicate (32 - 4 * k) 0
theorem flat4 (h : List UInt32) : (h.flatMap fourL).length = 4 * h.length := by
  induction h with
  | nil => rfl
  | cons x h ih => simp only [List.flatMap_cons, List.length_append, ih, List.length_cons]; simp [fourL]; omega
theorem outK_length (h : Vec UInt32 8) (k : Nat) (hk : k ≤ 8) : (outK h.1 k).length = 32 := by
  have := h.2
  simp only [outK, List.length_append, flat4, List.length_take, List.length_replicate]
  omega
theorem outK_zero (h : List UInt32) : outK h 0 = List.replicate 32 0 := by simp [outK]
theorem outK_next (h : Vec UInt32 8) (k : Nat) (hk : k < 8) : (outK h.1 k).take (4 * k) ++ fourL (h.1.getD k 0) ++ (outK h.1 k).drop (4 * k + 4) = outK h.1 (k + 1) := by
  have h8 := h.2
  have h4 : ((h.1.take k).flatMap fourL).length = 4 * k := by rw [flat4, List.length_take]; omega
  rw [outK, outK, List.take_left' h4, List.drop_append, h4, List.drop_eq_nil_of_le (by omega), List.nil_append, List.drop_replicate, List.take_succ_eq_append_getElem (by omega), List.flatMap_append]
  have hg : h.1[k]'(by omega) = h.1.getD k 0 := by simp [List.getD_eq_getElem?_getD, h8, hk]
  simp only [List.flatMap_cons, List.flatMap_nil, List.append_nil, hg]
  congr 2
  omega
def sumL (L : List UInt8) : List UInt8 := (sumV L).1.flatMap fourL
def idOfS (S : Vec UInt32 8) : ID := ⟨S.1.flatMap fourL, by rw [flat4, S.2]⟩
def sumI (L : List UInt8) : ID := idOfS (sumV L)
theorem part_word {S : List UInt32} {k : Nat} (h : k < S.length) (w : World) : (part 136 ⟨S.map w32⟩ (k * 1)).run Tryz.prog w = .ok (w32 (S.getD k 0)) w := by
  have hagg : (isAgg 136).run Tryz.prog w = .ok false w := by
    unfold isAgg
    rw [Sem.run_bind, run_und (P := Tryz.prog) (t := 136) w]
    rfl
  have hv : (⟨S.map w32⟩ : Array Value)[k * 1]? = some (w32 (S.getD k 0)) := by
    rw [Nat.mul_one]
    simp [List.getD_eq_getElem?_getD, h]
  unfold part
  rw [Sem.run_bind, hagg]
  simp only [Result.andThen_ok, Bool.false_eq_true, if_false, hv]
  rfl
set_option maxHeartbeats 1000000 in
theorem sum_sha (w : World) (F : Nat → Prop) (a : Option Addr) (c : Nat) (L : List UInt8) (h : (sl a c L).holds F w) (hL : L.length ≤ 1048576) :
    GivesV Tryz.prog 79 [.slice a L.length c] w F (.agg ⟨idc (sumI L)⟩) := by
  have hpl := padL_length L
  refine gives_of Tryz.func79 rfl Tryz.ntmps79 rfl rfl [.st (sl a c L)] (.start1 h) ?_
  repeat (first|refine Wa ?_|refine Wb ?_|refine Wc ?_|refine Wd ?_|refine We rfl ?_|(refine Wg rfl ?_; intro _))
  refine JR.callV rfl (fun w1 hw => start_shaV w1 _) ?_
  repeat (first|refine Wa ?_|refine Wb ?_|refine Wc ?_|refine Wd ?_|refine We rfl ?_|refine Wf (by exact Va) rfl ?_|(refine Wg rfl ?_; intro _)|refine Wi ?_)
  refine JR.callBuf rfl (fun w1 hw => pad_sha w1 _ a c L hw.get hL) ?_
  intro a1 c1
  refine JO.more (fun w1 ho => ho.pub) ?_
  repeat (first|refine Wa ?_|refine Wd ?_|refine We rfl ?_|refine Wf (by exact Vb) rfl ?_|refine Wn ?_)
  rename_i bi bh
  refine JC.reown bi ((List.replicate 32 (0 : UInt8)).map byteV) (by rw [List.map_replicate]; rfl) ?_
  refine JC.loop4 (fun (k : Nat) (H : Vec UInt32 8) p q => [(2, .pointer (some ⟨bi, 0, none⟩)), (3, .pointer (some ⟨bh, 0, none⟩)), (4, .slice p ((padL L).drop (64 * k)).length q)])
    (fun k H p q => [.own bi 47 ((List.replicate 32 (0 : UInt8)).map byteV), .own bh 137 (H.1.map w32), .st (sl p q ((padL L).drop (64 * k)))])
    (fun k H p q => 64 * k ≤ (padL L).length ∧ blocksV ((padL L).length / 64 - k) H ((padL L).drop (64 * k)) = sumV L) (fun k _ _ _ => (padL L).length - 64 * k) 0 shaSV a1 c1 ⟨Nat.zero_le _, rfl⟩ (by rw [show 64 * 0 = 0 from rfl, List.drop_zero]; infer_instance) ?_
  intro k H p q ⟨hk, hinv⟩
  repeat (first|refine Wa ?_|refine Wb ?_|refine Wc ?_|refine Wd ?_|refine We rfl ?_|refine Wf (by first|exact Va|exact Vf|exact Vo) rfl ?_)
  refine JC.test (fun h1 => ?_) (fun h1 => ?_)
  · have hk2 : 64 * k + 64 ≤ (padL L).length := by rw [List.length_drop] at h1; omega
    repeat (first|refine Wa ?_|refine Wb ?_|refine Wl ?_|refine Wn ?_)
    obtain ⟨pl, hpl2⟩ : ∃ pl, pl = (padL L).drop (64 * k) := ⟨_, rfl⟩
    have hp64 : (pl.take 64).length = 64 := by rw [hpl2, List.length_take, List.length_drop]; omega
    have hpl64 : 64 ≤ pl.length := by rw [hpl2, List.length_drop]; omega
    rw [← hpl2] at hinv ⊢
    refine JC.draw 7 mixed ?_
    refine JM.take 0 rfl (by kernel_rfl) rfl Vc rfl rfl ?_
    refine JM.take 1 rfl (by kernel_rfl) rfl Va rfl rfl ?_
    refine JM.take 2 rfl (by kernel_rfl) rfl (OpV.sliceToV (k := 64) (fun w1 ho => by have := (Hold.get (A := sl p q pl) ho).1; omega)) rfl rfl ?_
    refine JM.reslot 19 (.slice p (pl.take 64).length q) (by rw [hp64]) ?_
    refine JM.takeCall 3 rfl (by kernel_rfl) rfl (fun w1 hw => block_sha w1 _ p q (pl.take 64) H (sl_take (hw.get (A := sl p q pl)) hpl64 ⟨Nat.le_trans hpl64 (hw.get (A := sl p q pl)).1, Nat.le_refl _⟩) hp64) rfl rfl ?_
    refine JM.take 4 rfl (by kernel_rfl) rfl Va rfl rfl ?_
    refine JM.take 5 rfl (by kernel_rfl) rfl Vq rfl rfl ?_
    refine JM.mix 6 7 (by kernel_rfl) rfl rfl rfl rfl rfl rfl rfl (JS.val Vq rfl ?_) (Wi (Wd ⟨rfl, ?_⟩))
    · refine JM.last 7 (by kernel_rfl) rfl rfl rfl (Wi (Wd ⟨rfl, ?_⟩))
      refine JM.nil (by kernel_rfl) ?_
      repeat (first|refine Wa ?_|refine Wc ?_|refine We rfl ?_|refine Wf (by exact Va) rfl ?_|refine Wr ?_)
      refine JR.sliceFrom (L := pl) (k := 64) rfl rfl (by omega) ?_
      intro p2 q2
      repeat (first|refine Wa ?_|refine Wd ?_|refine We rfl ?_|refine Wf (by exact Vb) rfl ?_)
      have hd : pl.drop 64 = (padL L).drop (64 * (k + 1)) := by rw [hpl2, List.drop_drop]; congr 1
      have hn : (padL L).length / 64 - k = ((padL L).length / 64 - (k + 1)) + 1 := by omega
      refine ⟨k + 1, blockL H (pl.take 64), p2, q2, ⟨by omega, ?_⟩, by omega, by rw [← hd]; infer_instance⟩
      rw [← hd, ← hinv, hn]
      rfl
    · refine JM.one 6 (by kernel_rfl) rfl rfl rfl rfl (JS.val Vq rfl ?_)
      refine JM.nil (by kernel_rfl) ?_
      repeat (first|refine Wa ?_|refine Wc ?_|refine We rfl ?_|refine Wf (by exact Va) rfl ?_|refine Wr ?_)
      refine JR.sliceFrom (L := pl) (k := 64) rfl rfl (by omega) ?_
      intro p2 q2
      repeat (first|refine Wa ?_|refine Wd ?_|refine We rfl ?_|refine Wf (by exact Vb) rfl ?_)
      have hd : pl.drop 64 = (padL L).drop (64 * (k + 1)) := by rw [hpl2, List.drop_drop]; congr 1
      have hn : (padL L).length / 64 - k = ((padL L).length / 64 - (k + 1)) + 1 := by omega
      refine ⟨k + 1, blockL H (pl.take 64), p2, q2, ⟨by omega, ?_⟩, by omega, by rw [← hd]; infer_instance⟩
      rw [← hd, ← hinv, hn]
      rfl
  · have hk2 : 64 * k = (padL L).length := by rw [List.length_drop] at h1; omega
    have hk3 : (padL L).length / 64 - k = 0 := by omega
    rw [hk3] at hinv
    have hinv : H = sumV L := hinv
    subst hinv
    repeat (first|refine Wa ?_|refine Wb ?_|refine Wc ?_|refine Wd ?_|refine We rfl ?_|refine Wf (by first|exact Va|exact Vc) rfl ?_|refine Wm ?_|refine Wn ?_|refine Wo ?_|refine Wp ?_)
    obtain ⟨S, hS⟩ : ∃ S, S = sumV L := ⟨_, rfl⟩
    have hsum : sumI L = idOfS S := by subst hS; rfl
    rw [← hS, hsum]
    clear hS hinv hsum
    refine JC.loop1 (fun k : Nat => [(2, .pointer (some ⟨bi, 0, none⟩)), (23, .agg ⟨S.1.map w32⟩), (24, .int .i64 (k : Int))]) (fun k => [.own bi 47 ((outK S.1 k).map byteV)])
      (fun k => k ≤ 8) (fun k => 8 - k) 0 (Nat.zero_le _) (by rw [outK_zero]; infer_instance) ?_
    intro k hk
    repeat (first|refine Wa ?_|refine Wb ?_|refine Wc ?_|refine Wd ?_|refine We rfl ?_|refine Wf (by exact Vg) rfl ?_)
    refine JC.test (fun hlt => ?_) (fun hge => ?_)
    · have hlt' : k < 8 := by omega
      have hkS : k < S.1.length := by rw [S.2]; exact hlt'
      repeat (first|refine Wa ?_|refine Wb ?_|refine Wc ?_|refine We rfl ?_|refine Wf (by exact Va) rfl ?_|refine Wl ?_|refine Wn ?_)
      refine Wf (OpV.indexAgg (r := []) (v := w32 (S.1.getD k 0)) hlt' (fun w1 => part_word hkS w1)) rfl ?_
      repeat (first|refine Wa ?_|refine Wb ?_|refine Wc ?_|refine Wd ?_|refine We rfl ?_|refine Wf (by first|exact Va|exact Vb) rfl ?_)
      refine JR.callV rfl (fun w1 hw => four_rot w1 _ _) ?_
      repeat (first|refine Wa ?_|refine Wd ?_|refine We rfl ?_|(refine Wg rfl ?_; intro _)|refine Wi ?_)
      refine JC.draw 4 mixed ?_
      refine JM.take 0 rfl (by kernel_rfl) rfl Va rfl rfl ?_
      refine JM.take 1 rfl (by kernel_rfl) rfl (OpV.shl (by decide)) rfl rfl ?_
      refine JM.reslot 31 (.int .i64 ((4 * k : Nat) : Int)) (congrArg (Value.int .i64) (by show IntKind.i64.wrap ((k : Int) * 2 ^ 2) = _; rw [IntKind.wrap_i64]; omega)) ?_
      refine JM.take 2 rfl (by kernel_rfl) rfl (OpV.sliceArrFrom (l := 4 * k) (by omega) rfl) rfl rfl ?_
      refine JM.take 3 rfl (by kernel_rfl) rfl (OpV.sliceArr (by decide)) rfl rfl ?_
      have hmin : Nat.min 4 (32 - 4 * k) = 4 := Nat.min_eq_left (by omega)
      have h4 : (fourL (S.1.getD k 0)).length = 4 := by simp [fourL]
      have hout : (outK S.1 k).length = 32 := outK_length S k (by omega)
      refine JM.last 4 (by kernel_rfl) rfl rfl rfl (JR.copyOwn (cs := (fourL (S.1.getD k 0)).map byteV) rfl (by rw [hmin]; exact List.take_of_length_le (by rw [show (0 : Nat) - 0 = 0 from rfl, List.drop_zero, List.length_map, h4]; exact Nat.le_refl _)) (Nat.le_refl _) (by rw [hmin, List.length_map, h4]) (by simp only [List.length_map, h4, hout]; omega) inferInstance ?_)
      refine JO.reown bi ((outK S.1 (k + 1)).map byteV) (by rw [← outK_next S k hlt']; simp only [List.length_map, h4, List.map_append, List.map_take, List.map_drop, Nat.zero_add]) (Wd ⟨rfl, ?_⟩)
      refine JM.nil (by kernel_rfl) ?_
      repeat (first|refine Wa ?_|refine Wc ?_|refine Wd ?_|refine We rfl ?_|refine Wf (by first|exact Va|exact Vk (by omega)) rfl ?_|refine Wr ?_)
      exact ⟨k + 1, by omega, by omega, inferInstance⟩
    · obtain rfl : k = 8 := by omega
      have h8 : outK S.1 8 = S.1.flatMap fourL := by
        rw [outK, List.take_of_length_le (by rw [S.2]; exact Nat.le_refl _)]
        simp
      repeat (first | refine Wa ?_ | refine Wo ?_ | refine Wp ?_ | refine Wq rfl ?_ | refine Wr ?_ | refine Wm ?_)
      refine JC.reown bi (idc (idOfS S)) (by rw [h8]; rfl) ?_
      repeat (first|refine Wa ?_|refine Wb ?_|refine Wc ?_|refine Wd ?_|refine We rfl ?_|refine Wf (by exact Vc) rfl ?_|refine Wi ?_|refine Ws ?_)
      exact CT.done () rfl (fun w ho => ho.ent)
end Ab
end Go.Proofs.YtglclakhjmogiaaGreat

/- Contracts: enc.Num, enc.Text as the layer tells them. -/
namespace Go.Proofs.YtglclakhjmogiaaGreat
namespace Ab
open Go Go.RowKit
set_option linter.unusedVariables false
set_option linter.unusedSimpArgs false
set_option synthInstance.maxSize 4000
set_option synthInstance.maxHeartbeats 400000
attribute [local irreducible] JC JO JR JQ andThen inBlock OpV Gives retTo JM JS

theorem num_enc (n : Nat) (hn : n < 18446744073709551616) (w : World) (F : Nat → Prop) : GivesBuf Tryz.prog 75 [.int .u64 (n : Int)] w F 5 (numL n) := by
  unfold GivesBuf Gives
  refine Calls.mono (callsIn_wide.1 (num_in n hn w)) ?_
  rintro e w' ⟨v, rfl, hrow, hB⟩
  have hlen := numL_length n
  rcases hrow.2 with ⟨_, h0⟩ | ⟨g, cap, cur, rfl, hg, hgb, h1, h2, h3, h4⟩
  · exfalso
    have : numL n ≠ [] := by unfold numL; simp only [numF]; split <;> simp
    exact this (List.eq_nil_of_length_eq_zero h0)
  · refine ⟨(some ⟨g, 0, none⟩, cap), rfl, Bel.of hB (fun h => False.elim h), ⟨fun f hf => ?_, by simp, fun f hf k hk => ?_⟩⟩
    · simp only [List.mem_singleton] at hf; subst hf
      refine ⟨by simp only [lim]; omega, bytesIx (numL n), map_bytes _, ⟨by rw [flat_bytes]; simp [Cell.sz], .inr ⟨g, cap, cur, rfl, Nat.zero_le _, hgb, h1, h2, h3, ?_⟩⟩, fun p hp A hA => by simp [Cell.facts] at hA⟩
      rw [flat_bytes]; exact h4
    · simp only [List.mem_singleton] at hf; subst hf
      obtain ⟨a', ha', rfl⟩ := hk
      injection ha' with ha'
      subst ha'
      exact hg

/-- A text with its length ahead. -/
def textL (s : ByteArray) : List UInt8 := numL s.size ++ bytesOf s
theorem text_enc (s : ByteArray) (hs : s.size ≤ 1048576) (w : World) (F : Nat → Prop) : GivesBuf Tryz.prog 117 [.string s] w F 5 (textL s) := by
  have hnl := numL_length s.size
  refine gives_of Tryz.func117 rfl Tryz.ntmps117 rfl rfl [] (.start w F) ?_
  repeat (first|refine Wa ?_|refine Wb ?_|refine Wc ?_|refine Wd ?_|refine We rfl ?_|refine Wf (by first|exact Va|exact Vb|exact Vw) rfl ?_)
  refine Wf (OpV.convIn (by rw [wrap64]; omega)) rfl ?_
  repeat (refine We rfl ?_)
  refine JR.callBuf rfl (fun w1 hw => num_enc s.size (by omega) w1 _) ?_
  intro a1 c1
  repeat (first|refine We rfl ?_|refine Wf (by exact Va) rfl ?_)
  refine JR.appendStr rfl (by exact ⟨rfl, rfl, by decide⟩) (by omega) ?_
  intro a2 c2
  repeat (first|refine Wa ?_|refine Wd ?_|refine We rfl ?_|refine Wf (by exact Vb) rfl ?_|refine Ws ?_)
  exact CT.done (a2, c2) rfl (fun w ho => (ho.ent : Hold _ _ [.res (buf a2 c2 5 (numL s.size ++ bytesOf s))] w))

theorem foldN_lt {n : Int} (h : -1099511627776 ≤ n ∧ n ≤ 1099511627776) : foldN n < 18446744073709551616 := by
  unfold foldN; split <;> omega
theorem kinds2 (w : World) (F : Nat → Prop) (o : Op_) (h : -1099511627776 ≤ o.n ∧ o.n ≤ 1099511627776) : GivesBuf Tryz.prog 147 [opV o] w F 5 (numL (foldN o.n)) := by
  refine gives_of Tryz.func147 rfl Tryz.ntmps147 rfl rfl [] (.start w F) ?_
  repeat (first|refine Wa ?_|refine Wb ?_|refine Wc ?_|refine Wd ?_|refine We rfl ?_|refine Wf (by first|exact Vb|exact Vc|exact Vd) rfl ?_|(refine Wh rfl ?_; intro _))
  refine JR.callV rfl (fun w1 hw => fold_enc w1 _ o.n h) ?_
  repeat (refine We rfl ?_)
  refine JR.callBuf rfl (fun w1 hw => num_enc _ (foldN_lt h) w1 _) ?_
  intro a1 c1
  repeat (first|refine Wa ?_|refine Wd ?_|refine We rfl ?_|refine Wf (by exact Vb) rfl ?_|refine Ws ?_)
  exact CT.done (a1, c1) rfl (fun w ho => ho.ent)
theorem kinds5 (w : World) (F : Nat → Prop) (o : Op_) (h : o.elem.size ≤ 1048576) : GivesBuf Tryz.prog 152 [opV o] w F 5 (textL o.elem) := by
  refine gives_of Tryz.func152 rfl Tryz.ntmps152 rfl rfl [] (.start w F) ?_
  repeat (first|refine Wa ?_|refine Wb ?_|refine Wc ?_|refine Wd ?_|refine We rfl ?_|refine Wf (by first|exact Vb|exact Vc|exact Vd) rfl ?_|(refine Wh rfl ?_; intro _))
  refine JR.callBuf rfl (fun w1 hw => text_enc _ h w1 _) ?_
  intro a1 c1
  repeat (first|refine Wa ?_|refine Wd ?_|refine We rfl ?_|refine Wf (by exact Vb) rfl ?_|refine Ws ?_)
  exact CT.done (a1, c1) rfl (fun w ho => ho.ent)
end Ab
end Go.Proofs.YtglclakhjmogiaaGreat

/- The library's contract of bytes.Join laid at this seat's function: written by genlay.py. -/
namespace Go.Proofs.YtglclakhjmogiaaGreat
namespace Ab
open Go
def joinB_ren : Go.Shelf.Ren := ⟨fun | 14 => 116 | 15 => 145 | n => n, fun | 22 => 50 | 26 => 100 | n => n, fun | n => n⟩
open Go.Shelf Go.Proofs in
theorem joinB : SlLaysJ.n14 Tryz.prog joinB_ren where
  mixed := by kernel_rfl
  f14 := Tryz.func116.trans (congrArg some (by kernel_rfl))
  f15 := Tryz.func145.trans (congrArg some (by kernel_rfl))
  t0 := Tryz.underlying0
  a0 := Tryz.isAgg0
  z0 := Tryz.sizeOf0
  v0 := Tryz.zeroValue0
  t3 := Tryz.underlying3
  a3 := Tryz.isAgg3
  z3 := Tryz.sizeOf3
  v3 := Tryz.zeroValue3
  t4 := Tryz.underlying4
  a4 := Tryz.isAgg4
  z4 := Tryz.sizeOf4
  v4 := Tryz.zeroValue4
  t9 := Tryz.underlying9
  a9 := Tryz.isAgg9
  z9 := Tryz.sizeOf9
  v9 := Tryz.zeroValue9
  t20 := Tryz.underlying20
  a20 := Tryz.isAgg20
  z20 := Tryz.sizeOf20
  v20 := Tryz.zeroValue20
  t22 := Tryz.underlying50
  a22 := Tryz.isAgg50
  z22 := Tryz.sizeOf50
  v22 := Tryz.zeroValue50
  t26 := Tryz.underlying100
  a26 := Tryz.isAgg100
  z26 := Tryz.sizeOf100
  v26 := Tryz.zeroValue100
  t5 := Tryz.underlying5
  z5 := Tryz.sizeOf5
  i5 := by kernel_rfl
end Ab
end Go.Proofs.YtglclakhjmogiaaGreat

/- Contracts: bytes.Join, slices.Grow from nothing, slices.Concat of byte slices. -/
namespace Go.Proofs.YtglclakhjmogiaaGreat
namespace Ab
open Go Go.RowKit
set_option linter.unusedVariables false
set_option linter.unusedSimpArgs false
set_option synthInstance.maxSize 4000
set_option synthInstance.maxHeartbeats 400000
attribute [local irreducible] JC JO JR JQ andThen inBlock OpV Gives retTo JM JS

open Go.Proofs in
instance : Cell (List UInt8) where
  Ix := Option Addr × Nat
  sz := 1
  cells l y := [.slice y.1 l.length y.2]
  facts l y := [sl y.1 y.2 l]
  len _ _ := rfl
  one l y := by simp [Value.oneCell']
  pos := by decide
section
variable {P : Program} {n : Nat} {w0 : World} {F : Nat → Prop} {ops : Array Oper} {i d : Nat} {t : TypeId} {pos : String} {aft : Array Edge} {g : Option (Nat × Bool)} {os : List Oper} {Q : Cont} {e : E} {Γ : List Fact}
theorem JR.indexBytes {x ix : Operand} {v : Value} {L : List (List UInt8)} {kk : IntKind} {j : Int} {k : Nat} {ty el : TypeId} {sz by_ eb : Nat} {z ez : Value} {ed : TypeDesc}
    [hx : Ev e x v] [hL : HasSl Γ v (List UInt8) inferInstance L] [hi : Ev e ix (.int kk j)] [hk : NatI j k] [hT : Ty P ty (.slice el) sz by_ z] [hE : Ty P el ed 1 eb ez] (hd : Nat.blt d n = true) (h : k < L.length)
    (K : ∀ b o p q, JO P n w0 F ops (i + 1) os Q ((d, .pointer (some ⟨b, o, none⟩)) :: e) (.st (ro b o [.slice p (L[k]'h).length q]) :: .st (sl p q (L[k]'h)) :: Γ)) :
    JR P n w0 F ops i ⟨some d, .indexAddr ty x ix, t, pos, aft, g⟩ os Q e Γ := JR.index hd rfl h fun b o (y : Option Addr × Nat) => K b o y.1 y.2
end

theorem holdsBytes_of_sl {F : Nat → Prop} {w : World} {a : Option Addr} {c : Nat} {l : List UInt8} (h : (sl a c l).holds F w) : Lib.HoldsBytes w (.slice a l.length c) l := by
  refine ⟨a, c, rfl, fun h0 => ?_, fun ad hd i x hx => ?_⟩
  · rw [← Classical.not_not (a := l = [])]
    intro hne
    obtain ⟨b, off, h1, _⟩ := h.2.2.2 hne
    rw [h0] at h1; cases h1
  · obtain ⟨hi, hxi⟩ := List.getElem?_eq_some_iff.1 hx
    have hne : l ≠ [] := by intro h0; subst h0; simp at hi
    obtain ⟨b, off, h1, _⟩ := h.2.2.2 hne
    rw [hd] at h1
    injection h1 with h1
    subst h1 hd
    rw [Addr.add_mid]
    have := sl_byte h i hi
    rw [hxi] at this
    exact this

theorem fresh_sl {n : Nat} {F : Nat → Prop} {w : World} {v : Value} {l : List UInt8} (h : Lib.FreshBytes n w v l) (hl : l.length ≤ 1048576) : ∃ a c, v = .slice a l.length c ∧ Fresh n F [.st (sl a c l)] w := by
  obtain ⟨g, cap, zs, rfl, hB, h1, h2, hz, hb, hzs, hc, _⟩ := h
  refine ⟨some ⟨g, 0, none⟩, cap, rfl, ⟨fun f hf => ?_, by simp, fun f hf k hk => ?_⟩⟩
  · simp only [List.mem_singleton] at hf; subst hf
    refine ⟨h1, h2, by simp only [lim]; omega, fun hne => ⟨g, 0, rfl, ⟨.inr hB, ?_⟩, ?_, fun i hi => ⟨(), ?_, by simp [Cell.facts]⟩⟩⟩
    · intro f hf
      simp only [List.mem_singleton] at hf; subst hf
      exact fun h => h
    · have h0 := hc 0 (by have := List.length_pos_iff.2 hne; omega)
      rcases Nat.lt_or_ge g w.heap.size with h | h
      · exact h
      · unfold World.cell? at h0; simp [Array.getElem?_eq_none h] at h0
    · intro j v hj
      simp only [Cell.cells, List.getElem?_singleton] at hj
      split at hj
      · rename_i h0; subst h0
        injection hj with hj
        subst hj
        have h3 := hc i (by omega)
        simp only [Cell.sz, Nat.mul_one, Nat.zero_add, Nat.add_zero]
        rw [h3]
        have hi2 : i < zs.length := by omega
        have h4 : l[i] = UInt8.ofNat (zs[i]).toNat := by
          have : l[i]? = some (UInt8.ofNat (zs[i]).toNat) := by
            rw [← hzs, Lib.bytesOf, List.getElem?_map, List.getElem?_take, if_pos hi]
            simp [hi2]
          rw [List.getElem?_eq_getElem hi] at this
          injection this
        have h5 := hb zs[i] (List.getElem_mem hi2)
        rw [h4]
        simp only [byteV, List.getD_eq_getElem?_getD, List.getElem?_eq_getElem hi2, Option.getD_some]
        congr 2
        rw [UInt8.toNat_ofNat']
        omega
      · cases hj
  · simp only [List.mem_singleton] at hf; subst hf
    exact hk.elim

theorem join_bytes (w : World) (F : Nat → Prop) (a : Option Addr) (c : Nat) (ls : List (List UInt8)) (h2 : 2 ≤ ls.length) (h : (sl a c ls).holds F w) (hl : ls.flatten.length ≤ 1048576) (hl2 : ls.length ≤ 1048576) :
    GivesSl Tryz.prog 116 [.slice a ls.length c, .slice none 0 0] w F ls.flatten := by
  have hne : ls ≠ [] := by intro h0; subst h0; simp at h2
  obtain ⟨b, off, rfl, hF, hlt, hrow⟩ := h.2.2.2 hne
  obtain ⟨r, hr1, hr2, hr3⟩ := row_list ls off hrow
  have hflat : ∀ r : List (List UInt8 × Cell.Ix (List UInt8)), flat r = r.map (fun p => Value.slice (p.2 : Option Addr × Nat).1 p.1.length (p.2 : Option Addr × Nat).2) := by
    intro r
    induction r with
    | nil => rfl
    | cons p r ih => obtain ⟨x, y⟩ := p; simp only [flat, List.map_cons, ih]; rfl
  have hsum : Lib.lens ls = ls.flatten.length := by simp [Lib.lens, List.length_flatten]
  have hP : Lib.PartsAt w ⟨b, off, none⟩ (flat r) ls := by
    refine ⟨by rw [hflat, List.length_map, ← hr1, List.length_map], fun i v hv => by rw [Addr.add_mid]; exact hr2 i v hv, fun i v l hv hll => ?_⟩
    rw [hflat, List.getElem?_map] at hv
    rw [← hr1, List.getElem?_map] at hll
    cases hri : r[i]? with
    | none => rw [hri] at hv; cases hv
    | some p =>
      rw [hri] at hv hll
      injection hv with hv
      injection hll with hll
      subst hv hll
      exact holdsBytes_of_sl (hr3 p (List.mem_of_getElem? hri) _ (by simp [Cell.facts]))
  have hj := Go.Proofs.Any.bytes_Join_many joinB b off ls.length c (flat r) ls (.slice none 0 0) [] w rfl h2 hP h.1 ⟨none, 0, rfl, fun _ => rfl, nofun⟩ (by omega) (by rw [hsum, List.length_nil, Nat.zero_mul]; omega)
  unfold GivesSl Gives
  refine Calls.mono hj ?_
  rintro e w' ⟨v, rfl, hfr, hB⟩
  have hjoin : Lib.join ls [] = ls.flatten := by
    cases ls with
    | nil => rfl
    | cons x r => rw [Lib.join_cons]; simp [Lib.joinTail]
  rw [hjoin] at hfr
  obtain ⟨a', c', rfl, hf⟩ := fresh_sl (F := F) hfr hl
  exact ⟨(a', c'), rfl, Bel.of hB (fun h => False.elim h), hf⟩

theorem grow_bytes (w : World) (F : Nat → Prop) (k : Nat) (hk : k ≤ 1048576) : GivesBuf Tryz.prog 114 [.slice none 0 0, .int .i64 (k : Int)] w F 5 ([] : List UInt8) := by
  refine gives_of Tryz.func114 rfl Tryz.ntmps114 rfl rfl [] (.start w F) ?_
  repeat (first|refine Wa ?_|refine Wb ?_|refine Wc ?_|refine Wd ?_|refine We rfl ?_|refine Wf (by first|exact Va|exact Vb|exact Vg) rfl ?_|refine Wk ?_|refine Wl ?_)
  refine Wf OpV.cap rfl ?_
  repeat (first|refine Wa ?_|refine Wb ?_|refine Wc ?_|refine Wd ?_|refine We rfl ?_|refine Wf (by first|exact Va|exact Vb|exact Vf|exact Vo|exact Vu (by omega)) rfl ?_)
  refine JC.reslot 1 (.int .i64 (k : Int)) (by first | rfl | (congr 1 <;> omega)) ?_
  refine JC.test (fun hlt => ?_) (fun hge => ?_)
  · repeat (first|refine Wc ?_|refine We rfl ?_|refine Wf (by exact Va) rfl ?_)
    refine Wf OpV.cap rfl ?_
    refine We rfl ?_
    refine Wf (OpV.sliceToV (k := 0) (fun _ _ => Nat.zero_le _)) rfl ?_
    repeat (first|refine We rfl ?_|refine Wf (by exact Va) rfl ?_)
    refine JR.appendZeros (α := UInt8) (k := k) rfl (by exact ⟨rfl, rfl, by decide⟩) ⟨by omega, by omega⟩ ?_
    intro b c hc
    repeat (first|refine We rfl ?_|refine Wf (by first|exact Va|exact Vf) rfl ?_)
    refine Wf (OpV.sliceToV (k := 0) (fun _ _ => Nat.zero_le _)) rfl ?_
    repeat (first|refine Wa ?_|refine Wb ?_|refine Wc ?_|refine Wd ?_|refine We rfl ?_|refine Wf (by first|exact Va|exact Vb) rfl ?_|refine Ws ?_)
    exact CT.done (some ⟨b, 0, none⟩, c) rfl (fun w ho => ho.ent)
  · refine JC.buf_nil (α := UInt8) 5 ?_
    repeat (first|refine Wa ?_|refine Wb ?_|refine Wc ?_|refine Wd ?_|refine We rfl ?_|refine Wf (by first|exact Va|exact Vb) rfl ?_|refine Wl ?_|refine Ws ?_)
    exact CT.done (none, 0) rfl (fun w ho => ho.ent)

set_option maxHeartbeats 1000000 in
theorem concat_bytes (w : World) (F : Nat → Prop) (a : Option Addr) (c : Nat) (ls : List (List UInt8)) (h : (sl a c ls).holds F w) (hl : ls.flatten.length ≤ 1048576) (hl2 : ls.length ≤ 1048576) :
    GivesBuf Tryz.prog 74 [.slice a ls.length c] w F 5 ls.flatten := by
  have hle : ∀ k, (ls.take k).flatten.length ≤ 1048576 := fun k => by
    have h1 := congrArg (fun l => l.flatten.length) (List.take_append_drop k ls)
    simp only [List.flatten_append, List.length_append] at h1
    omega
  have hnext : ∀ k (hk : k < ls.length), (ls.take (k + 1)).flatten = (ls.take k).flatten ++ ls[k] := fun k hk => by
    rw [List.take_succ_eq_append_getElem hk, List.flatten_append]; simp
  refine gives_of Tryz.func74 rfl Tryz.ntmps74 rfl rfl [.st (sl a c ls)] (.start1 h) ?_
  repeat (first|refine Wa ?_|refine Wb ?_|refine Wc ?_|refine Wd ?_|refine We rfl ?_|refine Wf (by first|exact Va|exact Vb|exact Vf) rfl ?_|refine Wn ?_)
  refine JC.reslot 3 (.int .i64 (((ls.take 0).flatten.length : Nat) : Int)) rfl ?_
  refine JC.loop1 (fun k : Nat => [(0, .slice a ls.length c), (3, .int .i64 ((ls.take k).flatten.length : Int)), (9, .slice a ls.length c), (10, .int .i64 (ls.length : Int)), (11, .int .i64 (k : Int))]) (fun k => [.st (sl a c ls)])
    (fun k => k ≤ ls.length) (fun k => ls.length - k) 0 (Nat.zero_le _) inferInstance ?_
  intro k hk
  repeat (first|refine Wa ?_|refine Wb ?_|refine Wc ?_|refine Wd ?_|refine We rfl ?_|refine Wf (by exact Vg) rfl ?_)
  refine JC.test (fun hlt => ?_) (fun hge => ?_)
  · have hlt' : k < ls.length := by omega
    have h1 := hle (k + 1)
    have h2 := hnext k hlt'
    have h3 : (ls.take (k + 1)).flatten.length = (ls.take k).flatten.length + (ls[k]).length := by rw [h2, List.length_append]
    repeat (first|refine Wa ?_|refine Wb ?_|refine Wc ?_|refine We rfl ?_|refine Wl ?_|refine Wn ?_)
    refine JR.indexBytes rfl hlt' ?_
    intro b o p q
    repeat (first|refine Wa ?_|refine Wb ?_|refine Wc ?_|refine Wd ?_|refine We rfl ?_|refine Wf (by first|exact Va|exact Vb|exact Vc|exact Vf|exact Vg|exact Vk (by omega)|exact Vs (by omega)) rfl ?_|refine Wk ?_|refine Wl ?_|refine Wr ?_)
    exact ⟨k + 1, by omega, by omega, by rw [h3]; infer_instance⟩
  · obtain rfl : k = ls.length := by omega
    rw [List.take_length]
    repeat (first|refine Wa ?_|refine Wb ?_|refine Wc ?_|refine We rfl ?_|refine Wf (by exact Va) rfl ?_|refine Wm ?_|refine Wo ?_|refine Wp ?_)
    refine JR.callBuf rfl (fun w1 hw => grow_bytes w1 _ _ hl) ?_
    intro a1 c1
    repeat (first|refine Wa ?_|refine Wb ?_|refine Wc ?_|refine Wd ?_|refine We rfl ?_|refine Wf (by first|exact Va|exact Vb|exact Vf) rfl ?_|refine Wn ?_)
    refine JC.loop3 (fun (k : Nat) p q => [(6, .slice p (ls.take k).flatten.length q), (25, .slice a ls.length c), (26, .int .i64 (ls.length : Int)), (27, .int .i64 (k : Int))]) (fun k p q => [.st (sl a c ls), .res (buf p q 5 (ls.take k).flatten)])
      (fun k _ _ => k ≤ ls.length) (fun k _ _ => ls.length - k) 0 a1 c1 (Nat.zero_le _) (by rw [List.take_zero, List.flatten_nil]; infer_instance) ?_
    intro k p q hk
    repeat (first|refine Wa ?_|refine Wb ?_|refine Wc ?_|refine Wd ?_|refine We rfl ?_|refine Wf (by exact Vg) rfl ?_)
    refine JC.test (fun hlt => ?_) (fun hge => ?_)
    · have hlt' : k < ls.length := by omega
      have h1 := hle (k + 1)
      have h2 := hnext k hlt'
      have h3 : (ls.take (k + 1)).flatten.length = (ls.take k).flatten.length + (ls[k]).length := by rw [h2, List.length_append]
      repeat (first|refine Wa ?_|refine Wb ?_|refine Wc ?_|refine We rfl ?_|refine Wl ?_|refine Wn ?_)
      refine JR.indexBytes rfl hlt' ?_
      intro b o p2 q2
      repeat (first|refine Wa ?_|refine Wc ?_|refine Wd ?_|refine We rfl ?_|refine Wf (by first|exact Va|exact Vb|exact Vc) rfl ?_)
      refine JR.appendSl rfl (by exact ⟨rfl, rfl, by decide⟩) (by omega) ?_
      intro p3 q3
      repeat (first|refine Wa ?_|refine Wc ?_|refine Wd ?_|refine We rfl ?_|refine Wf (by first|exact Va|exact Vb|exact Vk (by omega)) rfl ?_|refine Wr ?_)
      exact ⟨k + 1, p3, q3, by omega, by omega, by rw [h2]; infer_instance⟩
    · obtain rfl : k = ls.length := by omega
      rw [List.take_length]
      repeat (first|refine Wa ?_|refine Wb ?_|refine Wc ?_|refine Wd ?_|refine We rfl ?_|refine Wf (by first|exact Va|exact Vb) rfl ?_|refine Wm ?_|refine Wo ?_|refine Wp ?_|refine Ws ?_)
      exact CT.done (p, q) rfl (fun w ho => ho.ent)
end Ab
end Go.Proofs.YtglclakhjmogiaaGreat

/- Contracts: ops.Put (the orders of its region written by a program). -/
namespace Go.Proofs.YtglclakhjmogiaaGreat
namespace Ab
open Go Go.RowKit
set_option linter.unusedVariables false
set_option linter.unusedSimpArgs false
set_option synthInstance.maxSize 4000
set_option synthInstance.maxHeartbeats 400000
attribute [local irreducible] JC JO JR JQ andThen inBlock OpV Gives retTo JM JS

/-- An operation in bytes. -/
def opPut (o : Op_) : List UInt8 := (numL o.kind.toNat ++ textL o.key) ++ (if o.kind = 0 then numL (foldN o.n) else textL o.elem)
def putOp (o : Op_) : List UInt8 × Int := if opMay o then (opPut o, 0) else ([], 1)
theorem field_kind (f1 f2 f3 : FuncId) (w : World) : (Instr.field 133 (.agg ⟨[fnV f1, fnV f2, fnV f3]⟩) 1).run Tryz.prog w = .ok (fnV f2) w := by
  have h1 := run_und (P := Tryz.prog) (t := 133) w
  unfold Instr.field
  rw [Sem.run_bind, h1]
  simp [asAgg, part, isAgg, Sem.run_bind]

/-- Three slices, each read, in a literal's block: read as a list of lists. -/
theorem Hold.pubLists {w0 w : World} {F : Nat → Prop} {Γ : List Fact} {b : Nat} {t : TypeId} (ys : List (List UInt8 × (Option Addr × Nat))) (h : Hold w0 F (.own b t (ys.map (fun p => .slice p.2.1 p.1.length p.2.2)) :: Γ) w)
    (hy : ∀ p ∈ ys, .st (sl p.2.1 p.2.2 p.1) ∈ Γ) (hl : ys.length ≤ 1048576) : Hold w0 F (.st (sl (some ⟨b, 0, none⟩) ys.length (ys.map (·.1))) :: Γ) w := by
  have hw : w.heap[b]? = some (.cells (ys.map (fun p => Value.slice p.2.1 p.1.length p.2.2)).toArray t (0, 0)) := h.sat (.own b t _) (by simp)
  refine h.publish fun hk => ?_
  have hb := hk b (.inr rfl)
  refine ⟨by simp, by simp only [maxLen]; omega, by simp only [List.length_map, lim]; omega, fun hne => ⟨b, 0, rfl, hb, (Array.getElem?_eq_some_iff.1 hw).1, fun i hi => ?_⟩⟩
  have hi' : i < ys.length := by simpa using hi
  refine ⟨(ys[i]).2, ?_, fun A hA => ?_⟩
  · intro j v hv
    simp only [Cell.cells, List.getElem?_singleton] at hv
    split at hv
    · rename_i h0; subst h0
      injection hv with hv
      subst hv
      rw [cell_of_row w b _ _ _ _ hw]
      simp [Cell.sz, hi']
    · cases hv
  · simp only [Cell.facts, List.mem_singleton] at hA
    subst hA
    have := h.tail.sat (.st (sl (ys[i]).2.1 (ys[i]).2.2 (ys[i]).1)) (hy _ (List.getElem_mem hi'))
    simp only [List.getElem_map]
    exact this
theorem pub3 {w0 w : World} {F : Nat → Prop} {b : Nat} {t u : TypeId} {N T C : List UInt8} {aN aT aC : Option Addr} {cN cT cC : Nat}
    (h : Hold w0 F [.own b t [.slice aN N.length cN, .slice aT T.length cT, .slice aC C.length cC], .res (buf aN cN u N), .res (buf aT cT u T), .res (buf aC cC u C)] w) : Hold w0 F [.st (sl (some ⟨b, 0, none⟩) 3 [N, T, C])] w := by
  have h1 : Hold w0 F [.res (buf aN cN u N), .own b t [.slice aN N.length cN, .slice aT T.length cT, .slice aC C.length cC], .res (buf aT cT u T), .res (buf aC cC u C)] w := h.ent
  have h1 := h1.pub
  have h2 : Hold w0 F [.res (buf aT cT u T), .st (sl aN cN N), .own b t [.slice aN N.length cN, .slice aT T.length cT, .slice aC C.length cC], .res (buf aC cC u C)] w := h1.ent
  have h2 := h2.pub
  have h3 : Hold w0 F [.res (buf aC cC u C), .st (sl aT cT T), .st (sl aN cN N), .own b t [.slice aN N.length cN, .slice aT T.length cT, .slice aC C.length cC]] w := h2.ent
  have h3 := h3.pub
  have h4 : Hold w0 F [.own b t [.slice aN N.length cN, .slice aT T.length cT, .slice aC C.length cC], .st (sl aC cC C), .st (sl aT cT T), .st (sl aN cN N)] w := h3.ent
  have h5 := Hold.pubLists [(N, aN, cN), (T, aT, cT), (C, aC, cC)] h4 (by simp) (by simp)
  have h5 : Hold w0 F [.st (sl (some ⟨b, 0, none⟩) 3 [N, T, C]), .st (sl aC cC C), .st (sl aT cT T), .st (sl aN cN N)] w := h5
  exact (h5.ent : Hold w0 F [.st (sl (some ⟨b, 0, none⟩) 3 [N, T, C])] w)
theorem join_to (w : World) (F : Nat → Prop) (a : Option Addr) (c : Nat) (ls : List (List UInt8)) (L : List UInt8) (h2 : 2 ≤ ls.length) (h : (sl a c ls).holds F w) (hL : ls.flatten = L) (hl : L.length ≤ 1048576) (hl2 : ls.length ≤ 1048576) :
    GivesSl Tryz.prog 116 [.slice a ls.length c, .slice none 0 0] w F L := by
  subst hL; exact join_bytes w F a c ls h2 h hl hl2

theorem textL_length (s : ByteArray) : (textL s).length ≤ 10 + s.size := by
  have := numL_length s.size
  rw [textL, List.length_append, bytesOf_length]; omega
theorem put_facts (o : Op_) (h : opMay o = true) : (o.kind = (o.kind.toNat : Int) ∧ o.kind.toNat < 4) ∧ o.key.size ≤ 1048576 ∧ ∃ (f1 f2 f3 : FuncId) (_ : Body Tryz.prog f2) (C : List UInt8), (gotten kindsM o.kind).getD noneV = .agg ⟨[fnV f1, fnV f2, fnV f3]⟩ ∧
    (∀ w F, GivesBuf Tryz.prog f2 [opV o] w F 5 C) ∧ [numL o.kind.toNat, textL o.key, C].flatten = opPut o ∧ (opPut o).length ≤ 100 := by
  have hnl := fun n => numL_length n
  unfold opMay at h
  by_cases h0 : o.kind = 0
  · rw [if_pos h0] at h
    simp only [keyOk, Bool.and_eq_true, decide_eq_true_eq] at h
    obtain ⟨⟨⟨_, _⟩, hk⟩, ⟨⟨_, hn1⟩, hn2⟩, _⟩ := h
    refine ⟨by rw [h0]; exact ⟨rfl, by decide⟩, by omega, _, _, _, inferInstance, numL (foldN o.n), by rw [h0]; rfl, fun w F => kinds2 w F o (by omega), ?_, ?_⟩
    · rw [opPut, if_pos h0]; simp
    · have h1 := hnl o.kind.toNat; have h2 := textL_length o.key; have h3 := hnl (foldN o.n)
      rw [opPut, if_pos h0, List.length_append, List.length_append]; omega
  · rw [if_neg h0] at h
    by_cases h1 : o.kind = 1 ∨ o.kind = 2 ∨ o.kind = 3
    · rw [if_pos h1] at h
      simp only [keyOk, Bool.and_eq_true, decide_eq_true_eq] at h
      obtain ⟨⟨⟨_, _⟩, hk⟩, _, ⟨_, _⟩, hk2⟩ := h
      refine ⟨by omega, by omega, 151, 152, 153, inferInstance, textL o.elem, ?_, fun w F => kinds5 w F o (by omega), ?_, ?_⟩
      · rcases h1 with h1 | h1 | h1 <;> rw [h1] <;> rfl
      · rw [opPut, if_neg h0]; simp
      · have h1 := hnl o.kind.toNat; have h2 := textL_length o.key; have h3 := textL_length o.elem
        rw [opPut, if_neg h0, List.length_append, List.length_append]; omega
    · rw [if_neg h1] at h; cases h

set_option maxHeartbeats 2000000 in
theorem put_ops (w : World) (F : Nat → Prop) (o : Op_) (hk : o.key.size < 4611686018427387904) (he : o.elem.size < 4611686018427387904) : GivesSlT Tryz.prog 77 [opV o] w F (putOp o).1 [.int .i64 (putOp o).2] := by
  refine gives_of Tryz.func77 rfl Tryz.ntmps77 rfl rfl [] (.start w F) ?_
  repeat (first|refine Wa ?_|refine Wb ?_|refine Wc ?_|refine Wd ?_|refine We rfl ?_|refine Wf (by first|exact Vb|exact Vc) rfl ?_|(refine Wh rfl ?_; intro _))
  rename_i bo
  refine JR.callV rfl (fun w1 hw => may_ops w1 _ o hk he) ?_
  repeat (first|refine Wa ?_|refine Wd ?_|refine We rfl ?_|refine Wf (by exact Vh) rfl ?_)
  refine JC.test (fun h1 => ?_) (fun h1 => ?_)
  · have h2 : putOp o = ([], 1) := by simp [putOp, h1]
    rw [h2]
    repeat (first|refine Wa ?_|refine Wb ?_|refine Wc ?_|refine Wd ?_|refine We rfl ?_|refine Wf (by exact Vb) rfl ?_|refine Ws ?_|refine Wt ?_)
    exact CT.done (none, 0) rfl (fun w ho => (ho.ent : Hold _ _ [] w).add sl_nil)
  have h1 : opMay o = true := by simpa using h1
  have h2 : putOp o = (opPut o, 0) := by simp [putOp, h1]
  obtain ⟨⟨hkk, hkn⟩, hks, f1, f2, f3, hbody, C, hlook, hput, hopp, hlen⟩ := put_facts o h1
  have hconv : IntKind.u64.wrap o.kind = o.kind := by rw [hkk, wrap64]; omega
  rw [h2]
  repeat (first|refine Wa ?_|refine Wb ?_|refine Wl ?_)
  refine JC.draw 18 mixed ?_
  refine JM.take 0 rfl (by kernel_rfl) rfl Vd rfl rfl ?_
  refine JM.take 1 rfl (by kernel_rfl) rfl Vc rfl rfl ?_
  refine JM.take 2 rfl (by kernel_rfl) rfl (OpV.convIn hconv) rfl rfl ?_
  refine JM.reslot 9 (.int .u64 ((o.kind.toNat : Nat) : Int)) (congrArg (Value.int .u64) hkk) ?_
  refine JM.take 4 rfl (by kernel_rfl) rfl Vd rfl rfl ?_
  refine JM.take 5 rfl (by kernel_rfl) rfl Vc rfl rfl ?_
  refine JM.take 8 rfl (by kernel_rfl) rfl Vd rfl rfl ?_
  refine JM.take 9 rfl (by kernel_rfl) rfl Vc rfl rfl ?_
  refine JM.take 12 rfl (by kernel_rfl) rfl Vc rfl rfl ?_
  refine JM.one 3 (by kernel_rfl) rfl rfl rfl rfl (JS.callBuf rfl (fun w1 hw => num_enc _ (by omega) w1 _) fun aN cN => ?_)
  refine JM.one 6 (by kernel_rfl) rfl rfl rfl rfl (JS.callBuf rfl (fun w1 hw => text_enc _ hks w1 _) fun aT cT => ?_)
  refine JM.one 7 (by kernel_rfl) rfl rfl rfl rfl (JS.call1 rfl (fun w1 hw => kinds_ops w1 _) fun mk => ?_)
  refine JM.take 10 rfl (by kernel_rfl) rfl (OpV.lookupNo o.kind kindsM_nodup hlook) rfl rfl ?_
  refine JM.take 11 rfl (by kernel_rfl) rfl (OpV.fieldV (field_kind f1 f2 f3)) rfl rfl ?_
  refine JM.one 13 (by kernel_rfl) rfl rfl rfl rfl (JS.callBuf rfl (fun w1 hw => hput w1 _) fun aC cC => ?_)
  refine JM.one 14 (by kernel_rfl) rfl rfl rfl rfl (JS.lit rfl ⟨rfl, by decide, by decide, by decide⟩ fun lb => ?_)
  refine JM.more (Γ' := [.st (sl (some ⟨lb, 0, none⟩) 3 [numL o.kind.toNat, textL o.key, C])]) (fun w1 ho => pub3 (b := lb) (t := 50) (u := 5) (N := numL o.kind.toNat) (T := textL o.key) (C := C) (aN := aN) (aT := aT) (aC := aC) (cN := cN) (cT := cT) (cC := cC) ho.ent) ?_
  refine JM.one 15 (by kernel_rfl) rfl rfl rfl rfl (JS.callSl rfl (fun w1 hw => join_to w1 _ (some ⟨lb, 0, none⟩) 3 [numL o.kind.toNat, textL o.key, C] (opPut o) (by simp) hw.get hopp (by omega) (by simp)) fun aJ cJ => ?_)
  refine JM.one 16 (by kernel_rfl) rfl rfl rfl rfl (JS.val Vb rfl ?_)
  refine JM.one 17 (by kernel_rfl) rfl rfl rfl rfl (JS.val Vb rfl ?_)
  refine JM.nil (by kernel_rfl) ?_
  repeat (first|refine Wa ?_|refine Ws ?_)
  exact CT.done (aJ, cJ) rfl (fun w ho => ho.ent)
end Ab
end Go.Proofs.YtglclakhjmogiaaGreat

/- Contracts: commit.Put, commit.Hash. -/
namespace Go.Proofs.YtglclakhjmogiaaGreat
namespace Ab
open Go Go.RowKit
set_option linter.unusedVariables false
set_option linter.unusedSimpArgs false
set_option synthInstance.maxSize 4000
set_option synthInstance.maxHeartbeats 400000
attribute [local irreducible] JC JO JR JQ andThen inBlock OpV Gives retTo JM JS

attribute [local irreducible] sumI numL textL opPut
/-- A commit in bytes. -/
def headL (c : Commit) : List UInt8 := ((numL (foldN c.ev.node) ++ numL c.ev.seq.toNat) ++ numL c.gen.toNat) ++ numL c.parents.length
def idsL (L : List ID) : List UInt8 := (L.map (·.1)).flatten
def commitPut (c : Commit) : List UInt8 := if c.ev.node = -1 then headL c ++ idsL c.parents else headL c ++ idsL c.parents ++ opPut c.op
def putCommit (c : Commit) : List UInt8 × Int := if may c then (commitPut c, 0) else ([], 1)
theorem idsL_length (L : List ID) : (idsL L).length = 32 * L.length := by
  induction L with
  | nil => rfl
  | cons x L ih => simp only [idsL, List.map_cons, List.flatten_cons, List.length_append, List.length_cons] at ih ⊢; rw [ih, x.2]; omega
theorem idsL_next (L : List ID) (k : Nat) (hk : k < L.length) : idsL (L.take (k + 1)) = idsL (L.take k) ++ (L[k]).1 := by
  rw [idsL, idsL, List.take_succ_eq_append_getElem hk, List.map_append, List.flatten_append]; simp
theorem headL_length (c : Commit) : (headL c).length ≤ 40 := by
  have h1 := numL_length (foldN c.ev.node); have h2 := numL_length c.ev.seq.toNat; have h3 := numL_length c.gen.toNat; have h4 := numL_length c.parents.length
  simp only [headL, List.length_append]; omega
/-- What is known of a commit that may be. -/
structure MayC (c : Commit) : Prop where
  node : -1 ≤ c.ev.node ∧ c.ev.node ≤ 7
  seq : 0 ≤ c.ev.seq ∧ c.ev.seq ≤ 1048576
  gen : 1 ≤ c.gen ∧ c.gen ≤ 1048576
  par : c.parents.length ≤ 8
  op : c.ev.node ≠ -1 → opMay c.op = true
theorem may_spec {c : Commit} (h : may c = true) : MayC c := by
  unfold may at h
  split at h
  · cases h
  · rename_i h1
    simp only [inB, Bool.or_eq_true, Bool.not_eq_true', not_or, Bool.not_eq_false, decide_eq_true_eq, Bool.and_eq_true, Nat.not_lt] at h1
    obtain ⟨⟨⟨hg, hp⟩, _⟩, _⟩ := h1
    split at h
    · rename_i h2
      simp only [Bool.and_eq_true, decide_eq_true_eq] at h
      exact ⟨by omega, by omega, hg, hp, fun hn => (hn h2).elim⟩
    · rename_i h2
      simp only [inB, Bool.and_eq_true, decide_eq_true_eq] at h
      exact ⟨by omega, by omega, hg, hp, fun _ => h.2⟩

theorem pub4 {w0 w : World} {F : Nat → Prop} {b : Nat} {t u : TypeId} {A B C D : List UInt8} {aA aB aC aD : Option Addr} {cA cB cC cD : Nat} {Γ : List Fact}
    (h : Hold w0 F (.res (buf aA cA u A) :: .res (buf aB cB u B) :: .res (buf aC cC u C) :: .res (buf aD cD u D) :: .own b t [.slice aA A.length cA, .slice aB B.length cB, .slice aC C.length cC, .slice aD D.length cD] :: Γ) w) :
    Hold w0 F (.st (sl (some ⟨b, 0, none⟩) 4 [A, B, C, D]) :: Γ) w := by
  have rot : ∀ {X : Fact} {Γ' : List Fact}, Hold w0 F (X :: Γ') w → Hold w0 F (Γ' ++ [X]) w := fun h => h.perm (by
    exact (List.perm_append_comm (l₁ := [_])))
  have h1 := h.pub
  have h2 : Hold w0 F (.res (buf aB cB u B) :: .st (sl aA cA A) :: .res (buf aC cC u C) :: .res (buf aD cD u D) :: .own b t [.slice aA A.length cA, .slice aB B.length cB, .slice aC C.length cC, .slice aD D.length cD] :: Γ) w := h1.perm (List.Perm.swap _ _ _)
  have h2 := h2.pub
  have h3 : Hold w0 F (.res (buf aC cC u C) :: .st (sl aB cB B) :: .st (sl aA cA A) :: .res (buf aD cD u D) :: .own b t [.slice aA A.length cA, .slice aB B.length cB, .slice aC C.length cC, .slice aD D.length cD] :: Γ) w :=
    h2.perm (((List.Perm.swap _ _ _).cons _).trans (List.Perm.swap _ _ _))
  have h3 := h3.pub
  have h4 : Hold w0 F (.res (buf aD cD u D) :: .st (sl aC cC C) :: .st (sl aB cB B) :: .st (sl aA cA A) :: .own b t [.slice aA A.length cA, .slice aB B.length cB, .slice aC C.length cC, .slice aD D.length cD] :: Γ) w :=
    h3.perm (((((List.Perm.swap _ _ _).cons _).trans (List.Perm.swap _ _ _)).cons _).trans (List.Perm.swap _ _ _))
  have h4 := h4.pub
  have h5 : Hold w0 F (.own b t [.slice aA A.length cA, .slice aB B.length cB, .slice aC C.length cC, .slice aD D.length cD] :: .st (sl aD cD D) :: .st (sl aC cC C) :: .st (sl aB cB B) :: .st (sl aA cA A) :: Γ) w :=
    h4.perm ((((((((List.Perm.swap _ _ _).cons _).trans (List.Perm.swap _ _ _)).cons _).trans (List.Perm.swap _ _ _)).cons _).trans (List.Perm.swap _ _ _)))
  have h6 := Hold.pubLists [(A, aA, cA), (B, aB, cB), (C, aC, cC), (D, aD, cD)] h5 (by simp) (by simp)
  have h6 : Hold w0 F (.st (sl (some ⟨b, 0, none⟩) 4 [A, B, C, D]) :: .st (sl aD cD D) :: .st (sl aC cC C) :: .st (sl aB cB B) :: .st (sl aA cA A) :: Γ) w := h6
  have h7 : Hold w0 F ((.st (sl (some ⟨b, 0, none⟩) 4 [A, B, C, D]) :: Γ) ++ [.st (sl aD cD D), .st (sl aC cC C), .st (sl aB cB B), .st (sl aA cA A)]) w :=
    h6.perm ((List.perm_append_comm (l₁ := [Fact.st (sl aD cD D), .st (sl aC cC C), .st (sl aB cB B), .st (sl aA cA A)]) (l₂ := Γ)).cons _)
  exact h7.left

theorem concat_to (w : World) (F : Nat → Prop) (a : Option Addr) (c : Nat) (ls : List (List UInt8)) (L : List UInt8) (h : (sl a c ls).holds F w) (hL : ls.flatten = L) (hl : L.length ≤ 1048576) (hl2 : ls.length ≤ 1048576) :
    GivesBuf Tryz.prog 74 [.slice a ls.length c] w F 5 L := by
  subst hL; exact concat_bytes w F a c ls h hl hl2

theorem put_ops_ok (w : World) (F : Nat → Prop) (o : Op_) (hk : o.key.size < 4611686018427387904) (he : o.elem.size < 4611686018427387904) (h : opMay o = true) : GivesSlT Tryz.prog 77 [opV o] w F (opPut o) [.int .i64 0] := by
  have h1 := put_ops w F o hk he
  have h2 : putOp o = (opPut o, 0) := by simp [putOp, h]
  rw [h2] at h1
  exact h1
set_option maxHeartbeats 2000000 in
theorem put_commit (w : World) (F : Nat → Prop) (c : Commit) (a : Option Addr) (k : Nat) (h : (sl a k c.parents).holds F w) (ht : texts c) :
    GivesSlT Tryz.prog 36 [commitV c a k] w F (putCommit c).1 [.int .i64 (putCommit c).2] := by
  refine gives_of Tryz.func36 rfl Tryz.ntmps36 rfl rfl [.st (sl a k c.parents)] (.start1 h) ?_
  repeat (first|refine Wa ?_|refine Wb ?_|refine Wc ?_|refine Wd ?_|refine We rfl ?_|refine Wf (by first|exact Vb|exact Vc) rfl ?_|(refine Wh rfl ?_; intro _))
  rename_i bc
  refine JR.callV rfl (fun w1 hw => may_commit w1 _ c a k hw.get ht) ?_
  repeat (first|refine Wa ?_|refine Wd ?_|refine We rfl ?_|refine Wf (by exact Vh) rfl ?_)
  refine JC.test (fun h1 => ?_) (fun h1 => ?_)
  · have h2 : putCommit c = ([], 1) := by simp [putCommit, h1]
    rw [h2]
    repeat (first|refine Wa ?_|refine Wb ?_|refine Wc ?_|refine Wd ?_|refine We rfl ?_|refine Wf (by exact Vb) rfl ?_|refine Ws ?_|refine Wt ?_)
    exact CT.done (none, 0) rfl (fun w ho => (ho.ent : Hold _ _ [] w).add sl_nil)
  have h1 : may c = true := by simpa using h1
  have h2 : putCommit c = (commitPut c, 0) := by simp [putCommit, h1]
  have hm := may_spec h1
  have hh := headL_length c
  rw [h2]
  have hn1 := hm.node
  have hn2 := hm.seq
  have hn3 := hm.gen
  have hn4 := hm.par
  have hs1 : IntKind.u64.wrap c.ev.seq = c.ev.seq := by rw [show c.ev.seq = ((c.ev.seq.toNat : Nat) : Int) by omega, wrap64]; omega
  have hs2 : IntKind.u64.wrap c.gen = c.gen := by rw [show c.gen = ((c.gen.toNat : Nat) : Int) by omega, wrap64]; omega
  repeat (first|refine Wa ?_|refine Wb ?_|refine Wl ?_)
  refine JC.draw 22 mixed ?_
  refine JM.take 0 rfl (by kernel_rfl) rfl Vd rfl rfl ?_
  refine JM.take 1 rfl (by kernel_rfl) rfl Vd rfl rfl ?_
  refine JM.take 2 rfl (by kernel_rfl) rfl Vc rfl rfl ?_
  refine JM.takeCall 3 rfl (by kernel_rfl) rfl (fun w1 hw => fold_enc w1 _ c.ev.node (by omega)) rfl rfl ?_
  refine JM.take 5 rfl (by kernel_rfl) rfl Vd rfl rfl ?_
  refine JM.take 6 rfl (by kernel_rfl) rfl Vd rfl rfl ?_
  refine JM.take 7 rfl (by kernel_rfl) rfl Vc rfl rfl ?_
  refine JM.take 8 rfl (by kernel_rfl) rfl (OpV.convIn hs1) rfl rfl ?_
  refine JM.reslot 20 (.int .u64 ((c.ev.seq.toNat : Nat) : Int)) (congrArg (Value.int .u64) (by omega)) ?_
  refine JM.take 10 rfl (by kernel_rfl) rfl Vd rfl rfl ?_
  refine JM.take 11 rfl (by kernel_rfl) rfl Vc rfl rfl ?_
  refine JM.take 12 rfl (by kernel_rfl) rfl (OpV.convIn hs2) rfl rfl ?_
  refine JM.reslot 24 (.int .u64 ((c.gen.toNat : Nat) : Int)) (congrArg (Value.int .u64) (by omega)) ?_
  refine JM.take 14 rfl (by kernel_rfl) rfl Vd rfl rfl ?_
  refine JM.take 15 rfl (by kernel_rfl) rfl Vc rfl rfl ?_
  refine JM.take 16 rfl (by kernel_rfl) rfl Vf rfl rfl ?_
  refine JM.take 17 rfl (by kernel_rfl) rfl (OpV.convIn (by rw [wrap64]; omega)) rfl rfl ?_
  refine JM.one 4 (by kernel_rfl) rfl rfl rfl rfl (JS.callBuf rfl (fun w1 hw => num_enc _ (foldN_lt (by omega)) w1 _) fun a1 c1 => ?_)
  refine JM.one 9 (by kernel_rfl) rfl rfl rfl rfl (JS.callBuf rfl (fun w1 hw => num_enc _ (by omega) w1 _) fun a2 c2 => ?_)
  refine JM.one 13 (by kernel_rfl) rfl rfl rfl rfl (JS.callBuf rfl (fun w1 hw => num_enc _ (by omega) w1 _) fun a3 c3 => ?_)
  refine JM.one 18 (by kernel_rfl) rfl rfl rfl rfl (JS.callBuf rfl (fun w1 hw => num_enc _ (by omega) w1 _) fun a4 c4 => ?_)
  refine JM.one 19 (by kernel_rfl) rfl rfl rfl rfl (JS.lit rfl ⟨rfl, by decide, by decide, by decide⟩ fun lb => ?_)
  refine JM.more (Γ' := [.st (sl (some ⟨lb, 0, none⟩) 4 [numL (foldN c.ev.node), numL c.ev.seq.toNat, numL c.gen.toNat, numL c.parents.length]), .own bc 34 [.int .i64 c.ev.node, .int .i64 c.ev.seq, .int .i64 c.gen, .slice a c.parents.length k, .int .i64 c.op.kind, .string c.op.key, .string c.op.elem, .int .i64 c.op.n], .st (sl a k c.parents)])
    (fun w1 ho => pub4 (b := lb) (t := 50) (u := 5) (aA := a1) (aB := a2) (aC := a3) (aD := a4) (cA := c1) (cB := c2) (cC := c3) (cD := c4) ho.ent) ?_
  refine JM.one 20 (by kernel_rfl) rfl rfl rfl rfl (JS.callBuf rfl (fun w1 hw => concat_to w1 _ (some ⟨lb, 0, none⟩) 4 [numL (foldN c.ev.node), numL c.ev.seq.toNat, numL c.gen.toNat, numL c.parents.length] (headL c) hw.get (by simp [headL]) (by omega) (by simp)) fun p0 q0 => ?_)
  refine JM.one 21 (by kernel_rfl) rfl rfl rfl rfl (JS.val Vb rfl ?_)
  refine JM.nil (by kernel_rfl) ?_
  repeat (first|refine Wa ?_|refine Wb ?_|refine Wc ?_|refine Wd ?_|refine We rfl ?_|refine Wf (by first|exact Va|exact Vc|exact Vd|exact Vf) rfl ?_|refine Wn ?_)
  refine JC.loop3 (fun (i : Nat) p q => [(1, .pointer (some ⟨bc, 0, none⟩)), (4, .slice p (headL c ++ idsL (c.parents.take i)).length q), (34, .slice a c.parents.length k), (35, .int .i64 (c.parents.length : Int)), (36, .int .i64 (i : Int))])
    (fun i p q => [.own bc 34 [.int .i64 c.ev.node, .int .i64 c.ev.seq, .int .i64 c.gen, .slice a c.parents.length k, .int .i64 c.op.kind, .string c.op.key, .string c.op.elem, .int .i64 c.op.n], .st (sl a k c.parents), .res (buf p q 5 (headL c ++ idsL (c.parents.take i)))])
    (fun i _ _ => i ≤ c.parents.length) (fun i _ _ => c.parents.length - i) 0 p0 q0 (Nat.zero_le _) (by rw [List.take_zero, show idsL [] = [] from rfl, List.append_nil]; infer_instance) ?_
  intro i p q hi
  repeat (first|refine Wa ?_|refine Wb ?_|refine Wc ?_|refine Wd ?_|refine We rfl ?_|refine Wf (by exact Vg) rfl ?_)
  refine JC.test (fun hlt => ?_) (fun hge => ?_)
  · have hlt' : i < c.parents.length := by omega
    have hil := idsL_length (c.parents.take i)
    rw [List.length_take] at hil
    repeat (first|refine Wa ?_|refine Wb ?_|refine Wc ?_|refine We rfl ?_|refine Wl ?_|refine Wn ?_)
    refine JR.indexID rfl hlt' ?_
    intro b o
    repeat (first|refine Wa ?_|refine Wc ?_|refine Wd ?_|refine We rfl ?_|refine Wf (by first|exact Va|exact Vc) rfl ?_|(refine Wg rfl ?_; intro _)|refine Wi ?_)
    refine Wf (OpV.sliceArr (by decide)) rfl ?_
    refine We rfl ?_
    refine JR.appendBytes (M := (c.parents[i]).1) rfl rfl rfl (c.parents[i]).2 (by exact ⟨rfl, rfl, by decide⟩) (by rw [List.length_append]; omega) ?_
    intro p3 q3
    repeat (first|refine Wa ?_|refine Wc ?_|refine Wd ?_|refine We rfl ?_|refine Wf (by first|exact Va|exact Vb|exact Vk (by omega)) rfl ?_|refine Wr ?_)
    have hnx : headL c ++ idsL (c.parents.take (i + 1)) = headL c ++ idsL (c.parents.take i) ++ (c.parents[i]).1 := by rw [idsL_next _ _ hlt', List.append_assoc]
    exact ⟨i + 1, p3, q3, by omega, by omega, by rw [hnx]; infer_instance⟩
  · obtain rfl : i = c.parents.length := by omega
    have hil := idsL_length c.parents
    rw [List.take_length]
    repeat (first|refine Wa ?_|refine Wb ?_|refine Wc ?_|refine Wd ?_|refine We rfl ?_|refine Wf (by first|exact Vc|exact Vd|exact Vl) rfl ?_|refine Wm ?_|refine Wo ?_|refine Wp ?_)
    refine JC.test (fun hnode => ?_) (fun hnode => ?_)
    · have hb : commitPut c = headL c ++ idsL c.parents := by rw [commitPut, if_pos hnode]
      rw [hb]
      repeat (first|refine Wa ?_|refine Wb ?_|refine Wc ?_|refine Wd ?_|refine We rfl ?_|refine Wf (by first|exact Va|exact Vb) rfl ?_|refine Ws ?_|refine Wt ?_)
      exact CT.done (p, q) rfl (fun w ho => Hold.left (Γ := [.st (sl p q (headL c ++ idsL c.parents))]) (Hold.pub (ho.ent : Hold _ _ [.res (buf p q 5 (headL c ++ idsL c.parents))] w)))
    · have hb : commitPut c = headL c ++ idsL c.parents ++ opPut c.op := by rw [commitPut, if_neg hnode]
      have hop := hm.op hnode
      have hput : putOp c.op = (opPut c.op, 0) := by simp [putOp, hop]
      have hopl := (put_facts c.op hop).2.2
      obtain ⟨_, _, _, _, _, _, _, _, hopl⟩ := hopl
      rw [hb]
      repeat (first|refine Wa ?_|refine Wb ?_|refine Wc ?_|refine We rfl ?_|refine Wf (by first|exact Vc|exact Vd) rfl ?_|refine Wl ?_)
      refine JR.callSlT (L := opPut c.op) (us' := [.int .i64 0]) rfl (fun w1 hw => put_ops_ok w1 _ c.op ht.1 ht.2 hop) ?_
      intro p4 q4
      repeat (first|refine Wa ?_|refine Wb ?_|refine Wc ?_|refine Wd ?_|refine We rfl ?_|refine Wf (by first|exact Va|exact Vb|exact Vq) rfl ?_)
      refine JR.appendSl rfl (by exact ⟨rfl, rfl, by decide⟩) (by rw [List.length_append]; omega) ?_
      intro p5 q5
      repeat (first|refine Wa ?_|refine Wd ?_|refine We rfl ?_|refine Wf (by first|exact Va|exact Vb) rfl ?_|refine Ws ?_)
      exact CT.done (p5, q5) rfl (fun w ho => Hold.left (Γ := [.st (sl p5 q5 (headL c ++ idsL c.parents ++ opPut c.op))]) (Hold.pub (ho.ent : Hold _ _ [.res (buf p5 q5 5 (headL c ++ idsL c.parents ++ opPut c.op))] w)))

theorem commitPut_length {c : Commit} (h : may c = true) : (commitPut c).length ≤ 400 := by
  have hm := may_spec h
  have h1 := headL_length c
  have h2 := idsL_length c.parents
  have h3 := hm.par
  unfold commitPut
  split
  · rw [List.length_append]; omega
  · rename_i hn
    obtain ⟨_, _, _, _, _, _, _, _, h4⟩ := (put_facts c.op (hm.op hn)).2.2
    rw [List.length_append, List.length_append]; omega
def zeroID : ID := ⟨List.replicate 32 0, rfl⟩
/-- A commit's id, and the error. -/
def hashC (c : Commit) : ID × Int := if may c then (sumI (commitPut c), 0) else (zeroID, 1)

set_option maxHeartbeats 1000000 in
theorem hash_commit (w : World) (F : Nat → Prop) (c : Commit) (a : Option Addr) (k : Nat) (h : (sl a k c.parents).holds F w) (ht : texts c) :
    GivesV Tryz.prog 38 [commitV c a k] w F (.tuple ⟨[.agg ⟨idc (hashC c).1⟩, .int .i64 (hashC c).2]⟩) := by
  refine gives_of Tryz.func38 rfl Tryz.ntmps38 rfl rfl [.st (sl a k c.parents)] (.start1 h) ?_
  repeat (first|refine Wa ?_|refine Wb ?_|refine Wc ?_|refine Wd ?_|refine We rfl ?_|refine Wf (by first|exact Vb|exact Vc) rfl ?_|(refine Wg rfl ?_; intro _)|(refine Wh rfl ?_; intro _))
  rename_i bc bi
  refine JR.callSlT (L := (putCommit c).1) (us' := [.int .i64 (putCommit c).2]) rfl (fun w1 hw => put_commit w1 _ c a k hw.get ht) ?_
  intro p q
  repeat (first|refine Wa ?_|refine Wb ?_|refine Wc ?_|refine Wd ?_|refine We rfl ?_|refine Wf (by first|exact Va|exact Vb|exact Vm|exact Vq) rfl ?_)
  refine JC.test (fun h1 => ?_) (fun h1 => ?_)
  · have hm : may c = false := by
      rw [← Bool.not_eq_true]
      intro hm
      simp [putCommit, hm] at h1
    have h2 : hashC c = (zeroID, 1) := by simp [hashC, hm]
    have h3 : (putCommit c).2 = 1 := by simp [putCommit, hm]
    rw [h2, h3]
    repeat (first|refine Wb ?_|refine Wc ?_|refine We rfl ?_)
    refine Wf (OpV.build [.int .u8 0, .int .u8 0, .int .u8 0, .int .u8 0, .int .u8 0, .int .u8 0, .int .u8 0, .int .u8 0, .int .u8 0, .int .u8 0, .int .u8 0, .int .u8 0, .int .u8 0, .int .u8 0, .int .u8 0, .int .u8 0, .int .u8 0, .int .u8 0, .int .u8 0, .int .u8 0, .int .u8 0, .int .u8 0, .int .u8 0, .int .u8 0, .int .u8 0, .int .u8 0, .int .u8 0, .int .u8 0, .int .u8 0, .int .u8 0, .int .u8 0, .int .u8 0] (by kernel_rfl)) rfl ?_
    refine JO.reslot 13 (.agg ⟨idc zeroID⟩) rfl ?_
    repeat (first|refine Wa ?_|refine Wd ?_|refine We rfl ?_|refine Wf (by first|exact Va|exact Vb) rfl ?_|refine Wi ?_|refine Ws ?_|refine Wt ?_)
    exact CT.done () rfl (fun w ho => ho.ent)
  · have hm : may c = true := by
      rw [← Bool.not_eq_false]
      intro hm
      simp [putCommit, hm] at h1
    have h2 : hashC c = (sumI (commitPut c), 0) := by simp [hashC, hm]
    have h3 : putCommit c = (commitPut c, 0) := by simp [putCommit, hm]
    have hl := commitPut_length hm
    rw [h2, h3]
    repeat (first|refine Wa ?_|refine Wb ?_|refine Wc ?_|refine We rfl ?_|refine Wf (by exact Va) rfl ?_|refine Wl ?_)
    refine JR.callV rfl (fun w1 hw => sum_sha w1 _ p q (commitPut c) hw.get (by omega)) ?_
    repeat (first|refine Wa ?_|refine Wd ?_|refine We rfl ?_|refine Wf (by exact Vb) rfl ?_|refine Wi ?_|refine Ws ?_)
    exact CT.done () rfl (fun w ho => ho.ent)
end Ab
end Go.Proofs.YtglclakhjmogiaaGreat

/- Contracts: wait.Missing. -/
namespace Go.Proofs.YtglclakhjmogiaaGreat
namespace Ab
open Go Go.RowKit
set_option linter.unusedVariables false
set_option linter.unusedSimpArgs false
set_option synthInstance.maxSize 4000
set_option synthInstance.maxHeartbeats 400000
attribute [local irreducible] JC JO JR JQ andThen inBlock OpV Gives retTo JM JS

attribute [local irreducible] sumI hashC
def hashO (c : Commit) : Option ID := if (hashC c).2 = 0 then some (hashC c).1 else none
def parentsL (L : List Commit) : List ID := L.flatMap (·.parents)
theorem parentsL_next (L : List Commit) (k : Nat) (hk : k < L.length) : parentsL (L.take (k + 1)) = parentsL (L.take k) ++ L[k].parents := by
  rw [parentsL, parentsL, List.take_succ_eq_append_getElem hk, List.flatMap_append]
  simp
theorem parentsL_le (L : List Commit) (k : Nat) : (parentsL (L.take k)).length ≤ (parentsL L).length := by
  have h1 := congrArg (fun l => (parentsL l).length) (List.take_append_drop k L)
  simp only [parentsL, List.flatMap_append, List.length_append] at h1 ⊢
  omega

end Ab
end Go.Proofs.YtglclakhjmogiaaGreat

/- Closed commits, in plain words: what commits know, when they are closed, how they are put one by one, and the same by places. -/
namespace Go.Proofs.YtglclakhjmogiaaGreat
namespace Ab
open Go Go.RowKit
set_option linter.unusedVariables false
set_option linter.unusedSimpArgs false
set_option synthInstance.maxSize 4000
set_option synthInstance.maxHeartbeats 400000
attribute [local irreducible] JC JO JR JQ andThen inBlock OpV Gives retTo JM JS

def idC (c : Commit) : ID := (hashC c).1
def cids (L : List Commit) : List ID := L.map idC
/-- What a commit of L stands behind, of what is there. -/
def par (L : List Commit) (x y : ID) : Prop := ∃ c ∈ L, idC c = x ∧ y ∈ c.parents ∧ y ∈ cids L
def knows (L : List Commit) (x y : ID) : Prop := Relation.TransGen (par L) x y
def genAt (L : List Commit) (p : ID) : Int := match L.find? (fun c => decide (idC c = p)) with | some c => c.gen | none => 0
def maxGen (L : List Commit) (ps : List ID) : Int := ps.foldl (fun g p => max g (genAt L p)) 0

structure Fine (L : List Commit) (c : Commit) : Prop where
  merge : merge c = false
  here : ∀ p ∈ c.parents, p ∈ cids L
  free : ∀ p ∈ c.parents, ∀ q ∈ c.parents, ¬ knows L p q
  gen : c.gen = maxGen L c.parents + 1
def evOk (L : List Commit) (c d : Commit) : Prop := idC c ≠ idC d → c.ev.node = d.ev.node → c.ev.seq ≠ d.ev.seq ∧ (d.ev.seq < c.ev.seq → knows L (idC c) (idC d))
structure Closed (L : List Commit) : Prop where
  may : ∀ c ∈ L, may c = true
  nodup : (cids L).Nodup
  fine : ∀ c ∈ L, Fine L c
  ev : ∀ c ∈ L, ∀ d ∈ L, evOk L c d

theorem mem_cids {L : List Commit} {x : ID} : x ∈ cids L ↔ ∃ c ∈ L, idC c = x := by simp [cids]
theorem cids_perm {L M : List Commit} (h : L.Perm M) : (cids L).Perm (cids M) := h.map _
theorem par_perm {L M : List Commit} (h : L.Perm M) (x y : ID) : par L x y ↔ par M x y := by
  unfold par
  constructor
  · rintro ⟨c, h1, h2, h3, h4⟩; exact ⟨c, h.mem_iff.1 h1, h2, h3, (cids_perm h).mem_iff.1 h4⟩
  · rintro ⟨c, h1, h2, h3, h4⟩; exact ⟨c, h.mem_iff.2 h1, h2, h3, (cids_perm h).mem_iff.2 h4⟩
theorem par_perm_eq {L M : List Commit} (h : L.Perm M) : par L = par M := by
  funext x y; exact propext (par_perm h x y)
theorem knows_perm {L M : List Commit} (h : L.Perm M) : knows L = knows M := by unfold knows; rw [par_perm_eq h]
/-- One commit has an id, of commits with ids of their own. -/
theorem id_inj {L : List Commit} (h : (cids L).Nodup) {c d : Commit} (hc : c ∈ L) (hd : d ∈ L) (e : idC c = idC d) : c = d := by
  induction L with
  | nil => cases hc
  | cons a L ih =>
    simp only [cids, List.map_cons, List.nodup_cons, List.mem_map, not_exists, not_and] at h
    rcases List.mem_cons.1 hc with e1 | hc'
    · rcases List.mem_cons.1 hd with e2 | hd'
      · rw [e1, e2]
      · exact (h.1 d hd' (by rw [← e1, e])).elim
    · rcases List.mem_cons.1 hd with e2 | hd'
      · exact (h.1 c hc' (by rw [← e2, e])).elim
      · exact ih h.2 hc' hd'
theorem genAt_of {L : List Commit} (h : (cids L).Nodup) {c : Commit} (hc : c ∈ L) : genAt L (idC c) = c.gen := by
  unfold genAt
  cases hf : L.find? (fun d => decide (idC d = idC c)) with
  | none => exact absurd (List.find?_eq_none.1 hf c hc) (by simp)
  | some d =>
    have h1 := List.find?_some hf
    have h2 := List.mem_of_find?_eq_some hf
    rw [id_inj h h2 hc (by simpa using h1)]
theorem genAt_none {L : List Commit} {p : ID} (h : p ∉ cids L) : genAt L p = 0 := by
  unfold genAt
  cases hf : L.find? (fun d => decide (idC d = p)) with
  | none => rfl
  | some d =>
    have h1 := List.find?_some hf
    exact (h (mem_cids.2 ⟨d, List.mem_of_find?_eq_some hf, by simpa using h1⟩)).elim
theorem genAt_perm {L M : List Commit} (h : L.Perm M) (hn : (cids L).Nodup) (p : ID) : genAt L p = genAt M p := by
  by_cases hp : p ∈ cids L
  · obtain ⟨c, hc, rfl⟩ := mem_cids.1 hp
    rw [genAt_of hn hc, genAt_of ((cids_perm h).nodup_iff.1 hn) (h.mem_iff.1 hc)]
  · rw [genAt_none hp, genAt_none (fun hq => hp ((cids_perm h).mem_iff.2 hq))]
theorem foldl_max_le (f : ID → Int) (ps : List ID) : ∀ g : Int, g ≤ ps.foldl (fun g p => max g (f p)) g := by
  induction ps with
  | nil => intro g; exact Int.le_refl _
  | cons p ps ih => intro g; exact Int.le_trans (Int.le_max_left _ _) (ih _)
theorem foldl_max_mem (f : ID → Int) (ps : List ID) : ∀ (g : Int), ∀ p ∈ ps, f p ≤ ps.foldl (fun g p => max g (f p)) g := by
  induction ps with
  | nil => intro g p hp; cases hp
  | cons q ps ih =>
    intro g p hp
    rcases List.mem_cons.1 hp with rfl | hp
    · exact Int.le_trans (Int.le_max_right _ _) (foldl_max_le f ps _)
    · exact ih _ p hp
theorem foldl_max_congr (f g : ID → Int) (ps : List ID) (h : ∀ p ∈ ps, f p = g p) : ∀ a : Int, ps.foldl (fun g p => max g (f p)) a = ps.foldl (fun a p => max a (g p)) a := by
  induction ps with
  | nil => intro a; rfl
  | cons q ps ih =>
    intro a
    simp only [List.foldl_cons]
    rw [h q (by simp)]
    exact ih (fun p hp => h p (by simp [hp])) _
theorem maxGen_mem (L : List Commit) (ps : List ID) (p : ID) (h : p ∈ ps) : genAt L p ≤ maxGen L ps := foldl_max_mem _ _ _ p h
theorem maxGen_congr {L M : List Commit} {ps : List ID} (h : ∀ p ∈ ps, genAt L p = genAt M p) : maxGen L ps = maxGen M ps := foldl_max_congr _ _ _ h _

theorem Closed.perm {L M : List Commit} (h : L.Perm M) (hc : Closed L) : Closed M := by
  have hk := knows_perm h
  refine ⟨fun c hm => hc.may c (h.mem_iff.2 hm), (cids_perm h).nodup_iff.1 hc.nodup, fun c hm => ?_, fun c hm d hd => ?_⟩
  · have hf := hc.fine c (h.mem_iff.2 hm)
    refine ⟨hf.merge, fun p hp => (cids_perm h).mem_iff.1 (hf.here p hp), ?_, ?_⟩
    · rw [← hk]; exact hf.free
    · rw [hf.gen, maxGen_congr fun p _ => genAt_perm h hc.nodup p]
  · have := hc.ev c (h.mem_iff.2 hm) d (h.mem_iff.2 hd)
    unfold evOk at *
    rw [← hk]; exact this
theorem closed_nil : Closed [] := ⟨by simp, by simp [cids], by simp, by simp⟩

/-- What is known has a smaller generation. -/
theorem Closed.par_gen {L : List Commit} (h : Closed L) {x y : ID} (hp : par L x y) : genAt L y < genAt L x := by
  obtain ⟨c, h1, rfl, h3, _⟩ := hp
  rw [genAt_of h.nodup h1, (h.fine c h1).gen]
  have := maxGen_mem L c.parents y h3
  omega
theorem Closed.knows_gen {L : List Commit} (h : Closed L) {x y : ID} (hp : knows L x y) : genAt L y < genAt L x := by
  induction hp with
  | single h1 => exact h.par_gen h1
  | tail _ h1 ih => exact Int.lt_trans (h.par_gen h1) ih
theorem Closed.irrefl {L : List Commit} (h : Closed L) (x : ID) : ¬ knows L x x := fun hk => Int.lt_irrefl _ (h.knows_gen hk)
theorem knows_ids {L : List Commit} {x y : ID} (h : knows L x y) : x ∈ cids L ∧ y ∈ cids L := by
  have hp : ∀ {x y}, par L x y → x ∈ cids L ∧ y ∈ cids L := fun ⟨c, h1, h2, _, h4⟩ => ⟨mem_cids.2 ⟨c, h1, h2⟩, h4⟩
  induction h with
  | single h1 => exact hp h1
  | tail _ h1 ih => exact ⟨ih.1, (hp h1).2⟩
theorem knows_trans {L : List Commit} {x y z : ID} (h : knows L x y) (k : knows L y z) : knows L x z := Relation.TransGen.trans h k
/-- What a commit knows: its parents, and what these know. -/
theorem knows_iff {L : List Commit} (hn : (cids L).Nodup) {c : Commit} (hc : c ∈ L) (hh : ∀ p ∈ c.parents, p ∈ cids L) (y : ID) :
    knows L (idC c) y ↔ ∃ p ∈ c.parents, y = p ∨ knows L p y := by
  constructor
  · intro h
    have key : ∀ {x y}, Relation.TransGen (par L) x y → ∃ z, par L x z ∧ (y = z ∨ Relation.TransGen (par L) z y) := by
      intro x y h
      induction h with
      | single h1 => exact ⟨_, h1, .inl rfl⟩
      | tail _ h1 ih =>
        obtain ⟨z, h2, h3⟩ := ih
        refine ⟨z, h2, .inr ?_⟩
        rcases h3 with rfl | h3
        · exact .single h1
        · exact .tail h3 h1
    obtain ⟨z, ⟨d, h1, h2, h3, _⟩, h4⟩ := key h
    have : d = c := id_inj hn h1 hc h2
    subst this
    exact ⟨z, h3, h4⟩
  · rintro ⟨p, hp, h⟩
    have h1 : par L (idC c) p := ⟨c, hc, rfl, hp, hh p hp⟩
    rcases h with rfl | h
    · exact .single h1
    · exact Relation.TransGen.trans (.single h1) h

/-- A part that stands behind nothing else knows the same. -/
theorem knows_sub {L M : List Commit} (hs : ∀ c ∈ M, c ∈ L) (hn : (cids L).Nodup) (hh : ∀ c ∈ M, ∀ p ∈ c.parents, p ∈ cids M) {x : ID} (hx : x ∈ cids M) (y : ID) :
    knows M x y ↔ knows L x y := by
  have hi : ∀ z, z ∈ cids M → z ∈ cids L := fun z hz => by
    obtain ⟨c, hc, rfl⟩ := mem_cids.1 hz; exact mem_cids.2 ⟨c, hs c hc, rfl⟩
  constructor
  · intro h
    refine Relation.TransGen.rec (motive := fun y _ => knows L x y) ?_ ?_ h
    · rintro y ⟨c, h1, h2, h3, h4⟩; exact .single ⟨c, hs c h1, h2, h3, hi _ h4⟩
    · rintro y z _ ⟨c, h1, h2, h3, h4⟩ ih; exact .tail ih ⟨c, hs c h1, h2, h3, hi _ h4⟩
  · intro h
    have step : ∀ {x y}, x ∈ cids M → par L x y → par M x y ∧ y ∈ cids M := by
      rintro x y hx ⟨c, h1, h2, h3, _⟩
      obtain ⟨d, hd, he⟩ := mem_cids.1 hx
      have : d = c := id_inj hn (hs d hd) h1 (he.trans h2.symm)
      subst this
      exact ⟨⟨d, hd, he, h3, hh d hd y h3⟩, hh d hd y h3⟩
    have : knows M x y ∧ y ∈ cids M := by
      refine Relation.TransGen.rec (motive := fun y _ => knows M x y ∧ y ∈ cids M) ?_ ?_ h
      · intro y h1; exact ⟨.single (step hx h1).1, (step hx h1).2⟩
      · intro y z _ h1 ih; exact ⟨.tail ih.1 (step ih.2 h1).1, (step ih.2 h1).2⟩
    exact this.1
theorem genAt_sub {L M : List Commit} (hs : ∀ c ∈ M, c ∈ L) (hn : (cids L).Nodup) (hm : (cids M).Nodup) {x : ID} (hx : x ∈ cids M) : genAt M x = genAt L x := by
  obtain ⟨c, hc, rfl⟩ := mem_cids.1 hx
  rw [genAt_of hm hc, genAt_of hn (hs c hc)]
theorem nodup_sub {L M : List Commit} (hn : (cids L).Nodup) (hs : M.Sublist L) : (cids M).Nodup := hn.sublist (hs.map _)
/-- A part of closed commits that stands behind nothing else is closed. -/
theorem Closed.sub {L M : List Commit} (h : Closed L) (hs : ∀ c ∈ M, c ∈ L) (hm : (cids M).Nodup) (hh : ∀ c ∈ M, ∀ p ∈ c.parents, p ∈ cids M) : Closed M := by
  refine ⟨fun c hc => h.may c (hs c hc), hm, fun c hc => ?_, fun c hc d hd => ?_⟩
  · have hf := h.fine c (hs c hc)
    refine ⟨hf.merge, hh c hc, fun p hp q hq hk => hf.free p hp q hq ((knows_sub hs h.nodup hh (hh c hc p hp) q).1 hk), ?_⟩
    rw [hf.gen, maxGen_congr fun p hp => (genAt_sub hs h.nodup hm (hh c hc p hp))]
  · have := h.ev c (hs c hc) d (hs d hd)
    intro h1 h2
    obtain ⟨h3, h4⟩ := this h1 h2
    exact ⟨h3, fun h5 => (knows_sub hs h.nodup hh (mem_cids.2 ⟨c, hc, rfl⟩) _).2 (h4 h5)⟩
/-- Commits in the order in which they were put, and what each of them knows. -/
def nodes (G : List (Commit × List ID)) : List Commit := G.map (·.1)
def knownBy (G : List (Commit × List ID)) (q : ID) : List ID := match G.find? (fun g => decide (idC g.1 = q)) with | some g => g.2 | none => []
def addOk (G : List (Commit × List ID)) (c : Commit) : Bool := c.parents.all (fun p => decide (p ∈ cids (nodes G))) && c.parents.all (fun p => c.parents.all fun q => decide (p ∉ knownBy G q))
def addGen (G : List (Commit × List ID)) (c : Commit) : Bool := decide (c.gen = maxGen (nodes G) c.parents + 1)
def isKnown (G : List (Commit × List ID)) (c : Commit) (S : List ID) : Prop := ∀ x, x ∈ S ↔ ∃ p ∈ c.parents, x = p ∨ x ∈ knownBy G p
inductive Built : List (Commit × List ID) → Prop
  | nil : Built []
  | snoc {G : List (Commit × List ID)} {c : Commit} {S : List ID} : Built G → idC c ∉ cids (nodes G) → merge c = false → addOk G c = true → addGen G c = true → isKnown G c S → Built (G ++ [(c, S)])

theorem nodes_snoc (G : List (Commit × List ID)) (c : Commit) (S : List ID) : nodes (G ++ [(c, S)]) = nodes G ++ [c] := by simp [nodes]
theorem cids_append (L M : List Commit) : cids (L ++ M) = cids L ++ cids M := by simp [cids]
theorem cids_snoc (L : List Commit) (c : Commit) : cids (L ++ [c]) = cids L ++ [idC c] := by simp [cids]
theorem knownBy_of {G : List (Commit × List ID)} (h : (cids (nodes G)).Nodup) {g : Commit × List ID} (hg : g ∈ G) : knownBy G (idC g.1) = g.2 := by
  unfold knownBy
  cases hf : G.find? (fun d => decide (idC d.1 = idC g.1)) with
  | none => exact absurd (List.find?_eq_none.1 hf g hg) (by simp)
  | some d =>
    have h1 := List.find?_some hf
    have h2 := List.mem_of_find?_eq_some hf
    have h3 : idC d.1 = idC g.1 := by simpa using h1
    have : d = g := by
      clear hf h1
      induction G with
      | nil => cases hg
      | cons a G ih =>
        simp only [nodes, cids, List.map_cons, List.nodup_cons, List.mem_map, not_exists, not_and] at h
        rcases List.mem_cons.1 h2 with e1 | h2'
        · rcases List.mem_cons.1 hg with e2 | hg'
          · rw [e1, e2]
          · exact (h.1 g.1 ⟨g, hg', rfl⟩ (by rw [← e1, h3])).elim
        · rcases List.mem_cons.1 hg with e2 | hg'
          · exact (h.1 d.1 ⟨d, h2', rfl⟩ (by rw [← e2, h3])).elim
          · exact ih h.2 hg' h2'
    rw [this]
theorem knownBy_snoc {G : List (Commit × List ID)} {c : Commit} {S : List ID} {q : ID} (h : q ∈ cids (nodes G)) : knownBy (G ++ [(c, S)]) q = knownBy G q := by
  obtain ⟨c', hc', he⟩ := mem_cids.1 h
  obtain ⟨g, hg, rfl⟩ := List.mem_map.1 hc'
  unfold knownBy
  rw [List.find?_append]
  cases hf : G.find? (fun d => decide (idC d.1 = q)) with
  | none => exact absurd (List.find?_eq_none.1 hf g hg) (by simpa using he)
  | some d => rfl
theorem addOk_iff (G : List (Commit × List ID)) (c : Commit) : addOk G c = true ↔ (∀ p ∈ c.parents, p ∈ cids (nodes G)) ∧ ∀ p ∈ c.parents, ∀ q ∈ c.parents, p ∉ knownBy G q := by
  simp only [addOk, Bool.and_eq_true, List.all_eq_true, decide_eq_true_eq]

/-- What was built is right. -/
structure BuiltR (G : List (Commit × List ID)) : Prop where
  nodup : (cids (nodes G)).Nodup
  here : ∀ c ∈ nodes G, ∀ p ∈ c.parents, p ∈ cids (nodes G)
  known : ∀ q ∈ cids (nodes G), ∀ x, x ∈ knownBy G q ↔ knows (nodes G) q x
  fine : ∀ c ∈ nodes G, Fine (nodes G) c
theorem Built.right {G : List (Commit × List ID)} (h : Built G) : BuiltR G := by
  induction h with
  | nil => exact ⟨by simp [nodes, cids], by simp [nodes], by simp [nodes, cids], by simp [nodes]⟩
  | snoc h1 h2 h3 h4 h5 h6 ih =>
    rename_i G c S
    have hn : (cids (nodes (G ++ [(c, S)]))).Nodup := by
      rw [nodes_snoc, cids_snoc]
      exact List.nodup_append.2 ⟨ih.nodup, by simp, fun a ha b hb => by simp at hb; subst hb; exact fun e => h2 (e ▸ ha)⟩
    obtain ⟨h7, h8⟩ := (addOk_iff G c).1 h4
    have hs : ∀ d ∈ nodes G, d ∈ nodes (G ++ [(c, S)]) := fun d hd => by rw [nodes_snoc]; exact List.mem_append_left _ hd
    have hi : ∀ x ∈ cids (nodes G), x ∈ cids (nodes (G ++ [(c, S)])) := fun x hx => by rw [nodes_snoc, cids_append]; exact List.mem_append_left _ hx
    have hc : c ∈ nodes (G ++ [(c, S)]) := by rw [nodes_snoc]; simp
    have hsub : ∀ {x}, x ∈ cids (nodes G) → ∀ y, knows (nodes G) x y ↔ knows (nodes (G ++ [(c, S)])) x y := fun hx y => knows_sub hs hn ih.here hx y
    have hgen : ∀ x ∈ cids (nodes G), genAt (nodes G) x = genAt (nodes (G ++ [(c, S)])) x := fun x hx => genAt_sub hs hn ih.nodup hx
    have hcc : ∀ x, x ∈ S ↔ knows (nodes (G ++ [(c, S)])) (idC c) x := by
      intro x
      rw [h6 x, knows_iff hn hc (fun p hp => hi p (h7 p hp))]
      constructor
      · rintro ⟨p, hp, h9⟩
        exact ⟨p, hp, h9.imp id fun h9 => (hsub (h7 p hp) x).1 ((ih.known p (h7 p hp) x).1 h9)⟩
      · rintro ⟨p, hp, h9⟩
        exact ⟨p, hp, h9.imp id fun h9 => (ih.known p (h7 p hp) x).2 ((hsub (h7 p hp) x).2 h9)⟩
    refine ⟨hn, fun d hd p hp => ?_, fun q hq x => ?_, fun d hd => ?_⟩
    · rw [nodes_snoc] at hd
      rcases List.mem_append.1 hd with hd | hd
      · exact hi p (ih.here d hd p hp)
      · simp at hd; subst hd; exact hi p (h7 p hp)
    · by_cases hq' : q ∈ cids (nodes G)
      · rw [knownBy_snoc hq', ih.known q hq', hsub hq']
      · have : q = idC c := by
          rw [nodes_snoc, cids_snoc] at hq
          rcases List.mem_append.1 hq with hq | hq
          · exact (hq' hq).elim
          · simpa using hq
        subst this
        rw [knownBy_of hn (g := (c, S)) (by simp)]
        exact hcc x
    · rw [nodes_snoc] at hd
      rcases List.mem_append.1 hd with hd | hd
      · have hf := ih.fine d hd
        refine ⟨hf.merge, fun p hp => hi p (hf.here p hp), fun p hp q hq hk => hf.free p hp q hq ((hsub (hf.here p hp) q).2 hk), ?_⟩
        rw [hf.gen, maxGen_congr fun p hp => hgen p (hf.here p hp)]
      · simp at hd; subst hd
        refine ⟨h3, fun p hp => hi p (h7 p hp), fun p hp q hq hk => h8 q hq p hp ((ih.known p (h7 p hp) q).2 ((hsub (h7 p hp) q).2 hk)), ?_⟩
        have := of_decide_eq_true h5
        rw [this, maxGen_congr fun p hp => hgen p (h7 p hp)]

theorem Built.closed {G : List (Commit × List ID)} (h : Built G) (hm : ∀ c ∈ nodes G, may c = true) (he : ∀ c ∈ nodes G, ∀ d ∈ nodes G, evOk (nodes G) c d) : Closed (nodes G) :=
  ⟨hm, h.right.nodup, h.right.fine, he⟩
/-- Closed commits, by rising generations, can be put one by one. -/
theorem Closed.step {Lo : List Commit} (h : Closed Lo) (hs : Lo.Pairwise (fun c d => c.gen ≤ d.gen)) {G : List (Commit × List ID)} (hb : Built G) {k : Nat} (hk : k < Lo.length) (hG : nodes G = Lo.take k) :
    idC Lo[k] ∉ cids (nodes G) ∧ merge Lo[k] = false ∧ addOk G Lo[k] = true ∧ addGen G Lo[k] = true := by
  have hm := List.getElem_mem hk
  have hf := h.fine _ hm
  have hr := hb.right
  have hsub : ∀ c ∈ nodes G, c ∈ Lo := fun c hc => by rw [hG] at hc; exact List.mem_of_mem_take hc
  have hpar : ∀ p ∈ Lo[k].parents, p ∈ cids (nodes G) := by
    intro p hp
    obtain ⟨d, hd, rfl⟩ := mem_cids.1 (hf.here p hp)
    have hlt : d.gen < Lo[k].gen := by
      have := h.par_gen (x := idC Lo[k]) (y := idC d) ⟨_, hm, rfl, hp, hf.here _ hp⟩
      rwa [genAt_of h.nodup hd, genAt_of h.nodup hm] at this
    obtain ⟨j, hj, rfl⟩ := List.getElem_of_mem hd
    have hjk : j < k := by
      apply Classical.byContradiction
      intro hge
      by_cases he : j = k
      · subst he; omega
      · have := List.pairwise_iff_getElem.1 hs k j hk hj (by omega)
        omega
    rw [hG]
    refine mem_cids.2 ⟨Lo[j], ?_, rfl⟩
    rw [List.mem_take_iff_getElem]
    exact ⟨j, by omega, rfl⟩
  refine ⟨?_, hf.merge, (addOk_iff G _).2 ⟨hpar, fun p hp q hq hk' => ?_⟩, ?_⟩
  · intro hc
    obtain ⟨d, hd, he⟩ := mem_cids.1 hc
    rw [hG, List.mem_take_iff_getElem] at hd
    obtain ⟨j, hj, rfl⟩ := hd
    have h1 := List.pairwise_iff_getElem.1 (show (cids Lo).Pairwise _ from h.nodup) j k (by simp [cids]; omega) (by simpa [cids] using hk) (by omega)
    simp [cids] at h1
    exact h1 he
  · exact hf.free q hq p hp ((knows_sub hsub h.nodup hr.here (hpar q hq) p).1 ((hr.known q (hpar q hq) p).1 hk'))
  · refine decide_eq_true ?_
    rw [hf.gen, maxGen_congr fun p hp => (genAt_sub hsub h.nodup hr.nodup (hpar p hp)).symm]
/- By places. -/
def istep (L : List Commit) (i j : Nat) : Prop := ∃ h : i < L.length, ∃ p ∈ L[i].parents, (cids L).findIdx? (fun x => decide (x = p)) = some j
def knowsI (L : List Commit) (i j : Nat) : Prop := Relation.TransGen (istep L) i j
theorem at_some {I : List ID} {p : ID} {j : Nat} (h : I.findIdx? (fun x => decide (x = p)) = some j) : ∃ hj : j < I.length, I[j] = p := by
  obtain ⟨h1, h2, _⟩ := List.findIdx?_eq_some_iff_getElem.1 h
  exact ⟨h1, by simpa using h2⟩
theorem at_none {I : List ID} {p : ID} : I.findIdx? (fun x => decide (x = p)) = none ↔ p ∉ I := by
  rw [List.findIdx?_eq_none_iff]
  constructor
  · intro h hp; have := h p hp; simp at this
  · intro h x hx; simp; intro e; exact h (e ▸ hx)
theorem at_of {I : List ID} (hn : I.Nodup) {j : Nat} (hj : j < I.length) : I.findIdx? (fun x => decide (x = I[j])) = some j := by
  rw [List.findIdx?_eq_some_iff_getElem]
  refine ⟨hj, by simp, fun k hk => ?_⟩
  have := List.pairwise_iff_getElem.1 hn k j (by omega) hj hk
  simpa using this
theorem cids_length (L : List Commit) : (cids L).length = L.length := by simp [cids]
theorem cids_get (L : List Commit) (i : Nat) (h : i < (cids L).length) : (cids L)[i] = idC (L[i]'(by simpa [cids] using h)) := by simp [cids]
theorem istep_lt {L : List Commit} {i j : Nat} (h : istep L i j) : i < L.length ∧ j < L.length := by
  obtain ⟨h1, p, _, h3⟩ := h
  obtain ⟨h4, _⟩ := at_some h3
  exact ⟨h1, by rwa [cids_length] at h4⟩
theorem istep_par {L : List Commit} (hn : (cids L).Nodup) {i j : Nat} (hi : i < L.length) (hj : j < L.length) : istep L i j ↔ par L (idC L[i]) (idC L[j]) := by
  constructor
  · rintro ⟨_, p, h2, h3⟩
    obtain ⟨h4, h5⟩ := at_some h3
    rw [cids_get] at h5
    subst h5
    exact ⟨_, List.getElem_mem hi, rfl, h2, mem_cids.2 ⟨_, List.getElem_mem hj, rfl⟩⟩
  · rintro ⟨c, h1, h2, h3, _⟩
    have : c = L[i] := id_inj hn h1 (List.getElem_mem hi) h2
    subst this
    refine ⟨hi, _, h3, ?_⟩
    have := at_of hn (j := j) (by rw [cids_length]; exact hj)
    rwa [cids_get] at this
theorem knowsI_iff {L : List Commit} (hn : (cids L).Nodup) {i j : Nat} (hi : i < L.length) (hj : j < L.length) : knowsI L i j ↔ knows L (idC L[i]) (idC L[j]) := by
  constructor
  · intro h
    have : ∀ {j}, Relation.TransGen (istep L) i j → ∀ hj : j < L.length, knows L (idC L[i]) (idC L[j]) := by
      intro j h
      induction h with
      | single h1 => exact fun hj => .single ((istep_par hn hi hj).1 h1)
      | tail h0 h1 ih =>
        intro hj
        have hb := (istep_lt h1).1
        exact .tail (ih hb) ((istep_par hn hb hj).1 h1)
    exact this h hj
  · intro h
    have : ∀ {y}, Relation.TransGen (par L) (idC L[i]) y → ∀ j, ∀ hj : j < L.length, idC L[j] = y → knowsI L i j := by
      intro y h
      induction h with
      | single h1 => intro j hj e; exact .single ((istep_par hn hi hj).2 (e ▸ h1))
      | tail h0 h1 ih =>
        intro j hj e
        rename_i b c
        have hb : b ∈ cids L := by obtain ⟨c, h2, h3, _⟩ := h1; exact mem_cids.2 ⟨c, h2, h3⟩
        obtain ⟨d, hd, he⟩ := mem_cids.1 hb
        obtain ⟨k, hk, rfl⟩ := List.getElem_of_mem hd
        exact .tail (ih k hk he) ((istep_par hn hk hj).2 (by rw [he, e]; exact h1))
    exact this h j hj rfl
/-- What is found as long as one more is found, is all. -/
theorem knowsI_all {L : List Commit} {K : Nat → Nat → Prop} (h : ∀ i p, istep L i p → K i p ∧ ∀ j, K p j → K i j) {i j : Nat} (hk : knowsI L i j) : K i j := by
  have : ∀ {i j}, Relation.TransGen (istep L) i j → (∀ k, k = i → K k j) := by
    intro i j hk
    induction hk with
    | single h1 => rintro k rfl; exact (h _ _ h1).1
    | tail h0 h1 ih =>
      rintro k rfl
      rename_i b c
      -- K along the path: by the first step
      have key : ∀ {a b}, Relation.TransGen (istep L) a b → ∀ c, K b c → K a c := by
        intro a b hab
        induction hab with
        | single h1 => exact fun c hc => (h _ _ h1).2 c hc
        | tail _ h1 ih => exact fun c hc => ih c ((h _ _ h1).2 c hc)
      exact key h0 c (h _ _ h1).1
  exact this hk i rfl

/-- One commit is fine, by places. -/
def oneI (L : List Commit) (i : Nat) : Prop := ∃ h : i < L.length, (∀ p ∈ L[i].parents, p ∈ cids L) ∧
  (∀ a b, istep L i a → istep L i b → ¬ knowsI L a b) ∧ L[i].gen = maxGen L L[i].parents + 1
theorem oneI_fine {L : List Commit} (hn : (cids L).Nodup) {i : Nat} (hi : i < L.length) : (merge L[i] = false ∧ oneI L i) ↔ Fine L L[i] := by
  constructor
  · rintro ⟨h1, _, h2, h3, h4⟩
    refine ⟨h1, h2, fun p hp q hq hk => ?_, h4⟩
    obtain ⟨c, hc, rfl⟩ := mem_cids.1 (h2 p hp)
    obtain ⟨a, ha, rfl⟩ := List.getElem_of_mem hc
    obtain ⟨d, hd, rfl⟩ := mem_cids.1 (h2 q hq)
    obtain ⟨b, hb, rfl⟩ := List.getElem_of_mem hd
    have e1 : ∀ a (ha : a < L.length), idC L[a] ∈ L[i].parents → istep L i a := fun a ha hm => ⟨hi, _, hm, by
      have := at_of hn (j := a) (by rw [cids_length]; exact ha)
      rwa [cids_get] at this⟩
    exact h3 a b (e1 a ha hp) (e1 b hb hq) ((knowsI_iff hn ha hb).2 hk)
  · rintro ⟨h1, h2, h3, h4⟩
    refine ⟨h1, hi, h2, ?_, h4⟩
    rintro a b ⟨_, p, hp, ha⟩ ⟨_, q, hq, hb⟩ hk
    obtain ⟨ha1, rfl⟩ := at_some ha
    obtain ⟨hb1, rfl⟩ := at_some hb
    rw [cids_length] at ha1 hb1
    rw [cids_get] at hp hq
    exact h3 _ hp _ hq ((knowsI_iff hn ha1 hb1).1 hk)
def evI (L : List Commit) (i j : Nat) : Prop := ∃ hi : i < L.length, ∃ hj : j < L.length, L[i].ev.node = L[j].ev.node →
  L[i].ev.seq ≠ L[j].ev.seq ∧ (L[j].ev.seq < L[i].ev.seq → knowsI L i j) ∧ (L[i].ev.seq < L[j].ev.seq → knowsI L j i)
/-- Closed commits, as the document tells it. -/
theorem closed_iff_I (L : List Commit) : Closed L ↔ (∀ c ∈ L, may c = true) ∧ ∀ i (hi : i < L.length), merge L[i] = false ∧ oneI L i ∧ (cids L).findIdx? (fun x => decide (x = idC L[i])) = some i ∧ ∀ j, j < i → evI L i j := by
  constructor
  · intro h
    refine ⟨h.may, fun i hi => ?_⟩
    obtain ⟨h1, h2⟩ := (oneI_fine h.nodup hi).2 (h.fine _ (List.getElem_mem hi))
    have hat := at_of h.nodup (j := i) (by rw [cids_length]; exact hi)
    rw [cids_get] at hat
    refine ⟨h1, h2, hat, fun j hj => ⟨hi, by omega, fun he => ?_⟩⟩
    have hne : idC L[i] ≠ idC L[j] := by
      intro e
      have := List.pairwise_iff_getElem.1 (show (cids L).Pairwise _ from h.nodup) j i (by rw [cids_length]; omega) (by rw [cids_length]; exact hi) hj
      rw [cids_get, cids_get] at this
      exact this e.symm
    obtain ⟨h3, h4⟩ := h.ev _ (List.getElem_mem hi) _ (List.getElem_mem (by omega : j < L.length)) hne he
    obtain ⟨_, h5⟩ := h.ev _ (List.getElem_mem (by omega : j < L.length)) _ (List.getElem_mem hi) hne.symm he.symm
    exact ⟨h3, fun h6 => (knowsI_iff h.nodup hi (by omega)).2 (h4 h6), fun h6 => (knowsI_iff h.nodup (by omega) hi).2 (h5 h6)⟩
  · rintro ⟨hm, h⟩
    have hn : (cids L).Nodup := by
      refine List.pairwise_iff_getElem.2 fun a b ha hb hab e => ?_
      rw [cids_length] at ha hb
      have h1 := (h b hb).2.2.1
      obtain ⟨_, _, h2⟩ := List.findIdx?_eq_some_iff_getElem.1 h1
      have := h2 a hab
      rw [cids_get] at this
      rw [cids_get, cids_get] at e
      simp [e] at this
    refine ⟨hm, hn, fun c hc => ?_, fun c hc d hd hne he => ?_⟩
    · obtain ⟨i, hi, rfl⟩ := List.getElem_of_mem hc
      exact (oneI_fine hn hi).1 ⟨(h i hi).1, (h i hi).2.1⟩
    · obtain ⟨i, hi, rfl⟩ := List.getElem_of_mem hc
      obtain ⟨j, hj, rfl⟩ := List.getElem_of_mem hd
      rcases Nat.lt_trichotomy i j with hij | rfl | hij
      · obtain ⟨_, _, h1⟩ := (h j hj).2.2.2 i hij
        obtain ⟨h2, h3, h4⟩ := h1 he.symm
        exact ⟨h2.symm, fun h5 => (knowsI_iff hn hi hj).1 (h4 h5)⟩
      · exact (hne rfl).elim
      · obtain ⟨_, _, h1⟩ := (h i hi).2.2.2 j hij
        obtain ⟨h2, h3, h4⟩ := h1 he
        exact ⟨h2, fun h5 => (knowsI_iff hn hi hj).1 (h3 h5)⟩
end Ab
end Go.Proofs.YtglclakhjmogiaaGreat

/- Contracts: the document's Same and List, the laws' Few. -/
namespace Go.Proofs.YtglclakhjmogiaaGreat
namespace Ab
open Go Go.RowKit
set_option linter.unusedVariables false
set_option linter.unusedSimpArgs false
set_option synthInstance.maxSize 4000
set_option synthInstance.maxHeartbeats 400000
attribute [local irreducible] JC JO JR JQ andThen inBlock OpV Gives retTo JM JS

theorem sameIds_ref (w : World) (F : Nat → Prop) (a b : Option Addr) (c k : Nat) (L M : List ID) (h : (sl a c L).holds F w) (h' : (sl b k M).holds F w) :
    GivesV Tryz.prog 17 [.slice a L.length c, .slice b M.length k] w F (.bool (decide (L = M))) := by
  have hL : L.length < 9223372036854775807 := by have := h.2.2.1; simp only [lim] at this; omega
  refine gives_of Tryz.func17 rfl Tryz.ntmps17 rfl rfl [.st (sl a c L), .st (sl b k M)] (.start2 h h') ?_
  repeat (first|refine Wa ?_|refine Wb ?_|refine Wc ?_|refine Wd ?_|refine We rfl ?_|refine Wf (by first|exact Va|exact Vb|exact Vf|exact Vm) rfl ?_)
  refine JC.test (fun hne => ?_) (fun he => ?_)
  · repeat (first|refine Wa ?_|refine Wb ?_|refine Wc ?_|refine Wd ?_|refine We rfl ?_|refine Wf (by exact Vb) rfl ?_|refine Ws ?_|refine Wt ?_)
    refine CT.done () ?_ (fun w ho => ho.ent)
    have : ¬ L = M := fun h => hne (by rw [h])
    simp [packed, this]
  · have hlen : L.length = M.length := by omega
    repeat (first|refine Wa ?_|refine Wb ?_|refine Wc ?_|refine Wd ?_|refine We rfl ?_|refine Wf (by exact Vb) rfl ?_|refine Wl ?_|refine Wn ?_)
    refine JC.loop1 (fun k0 : Nat => [(0, .slice a L.length c), (1, .slice b M.length k), (5, .int .i64 (k0 : Int))]) (fun _ => [.st (sl a c L), .st (sl b k M)])
      (fun k0 => k0 ≤ L.length ∧ L.take k0 = M.take k0) (fun k0 => L.length - k0) 0 ⟨Nat.zero_le _, rfl⟩ inferInstance ?_
    intro k0 ⟨hk, heq⟩
    repeat (first|refine Wa ?_|refine Wb ?_|refine Wc ?_|refine Wd ?_|refine We rfl ?_|refine Wf (by first|exact Va|exact Vf|exact Vg) rfl ?_)
    refine JC.test (fun hlt => ?_) (fun hge => ?_)
    · have hlt' : k0 < L.length := by omega
      repeat (first|refine Wa ?_|refine Wb ?_|refine Wl ?_|refine Wn ?_)
      refine JC.openID (.slice a L.length c) k0 hlt' ?_
      intro b1 o1
      refine JC.openID (.slice b M.length k) k0 (by omega) ?_
      intro b2 o2
      refine JC.quiet mixed (by kernel_rfl) ?_
      repeat (first|refine Wy rfl (by first|exact Va|exact Vc|exact Ve|exact Vy) rfl ?_|refine WB ?_)
      repeat (refine Wa ?_)
      refine JC.test (fun hne => ?_) (fun heq2 => ?_)
      · repeat (first|refine Wa ?_|refine Wb ?_|refine Wc ?_|refine Wd ?_|refine We rfl ?_|refine Wf (by exact Vb) rfl ?_|refine Ws ?_|refine Wt ?_|refine Wu ?_)
        refine CT.done () ?_ (fun w ho => ho.ent)
        have : ¬ L = M := fun h => by subst h; exact hne rfl
        simp [packed, this]
      · repeat (first|refine Wa ?_|refine Wc ?_|refine Wd ?_|refine We rfl ?_|refine Wf (by first|exact Va|exact Vb|exact Vk (by omega)) rfl ?_|refine Wl ?_|refine Wr ?_)
        refine ⟨k0 + 1, ⟨by omega, ?_⟩, by omega, inferInstance⟩
        have heq2 : L[k0] = M[k0] := by simpa using heq2
        rw [List.take_succ_eq_append_getElem hlt', List.take_succ_eq_append_getElem (by omega), heq, heq2]
    · have hk0 : k0 = L.length := by omega
      repeat (first|refine Wa ?_|refine Wb ?_|refine Wc ?_|refine Wd ?_|refine We rfl ?_|refine Wf (by exact Vb) rfl ?_|refine Wm ?_|refine Wo ?_|refine Wp ?_|refine Ws ?_)
      refine CT.done () ?_ (fun w ho => ho.ent)
      have : L = M := by
        rw [List.take_of_length_le (by omega), List.take_of_length_le (by omega)] at heq
        exact heq
      simp [packed, this]

theorem op_eq (a b : Op_) : (decide (a.kind = b.kind) && (decide (a.key = b.key) && (decide (a.elem = b.elem) && decide (a.n = b.n)))) = decide (a = b) := by
  obtain ⟨a1, a2, a3, a4⟩ := a
  obtain ⟨b1, b2, b3, b4⟩ := b
  rw [Bool.eq_iff_iff]
  simp

theorem same_ref (w : World) (F : Nat → Prop) (c d : Commit) (a b : Option Addr) (k m : Nat) (h : (sl a k c.parents).holds F w) (h' : (sl b m d.parents).holds F w) :
    GivesV Tryz.prog 28 [commitV c a k, commitV d b m] w F (.bool (decide (c = d))) := by
  have key : ∀ (c d : Commit), c = d ↔ c.ev = d.ev ∧ c.gen = d.gen ∧ c.op = d.op ∧ c.parents = d.parents := by
    intro c d
    cases c; cases d
    simp only [Commit.mk.injEq]
    constructor
    · rintro ⟨h1, h2, h3, h4⟩; exact ⟨h1, h2, h4, h3⟩
    · rintro ⟨h1, h2, h3, h4⟩; exact ⟨h1, h2, h4, h3⟩
  refine gives_of Tryz.func28 rfl Tryz.ntmps28 rfl rfl [.st (sl a k c.parents), .st (sl b m d.parents)] (.start2 h h') ?_
  repeat (first|refine Wa ?_|refine Wb ?_|refine Wc ?_|refine Wd ?_|refine We rfl ?_|refine Wf (by first|exact Vb|exact Vc|exact Vd) rfl ?_|(refine Wh rfl ?_; intro _))
  refine JR.callV rfl (fun w1 hw => sameIds_ref w1 _ a b k m _ _ hw.get hw.get) ?_
  repeat (first|refine Wa ?_|refine Wb ?_|refine Wc ?_|refine Wd ?_|refine We rfl ?_|refine Wf (by first|exact Va|exact Vb) rfl ?_)
  refine JO.test 12 (fun h1 => ?_) (fun h1 => ?_)
  · repeat (first|refine We rfl ?_|refine Wf (by first|exact Va|exact Vc|exact Vd|exact Vi|exact Vz) rfl ?_)
    refine JO.test 19 (fun h2 => ?_) (fun h2 => ?_)
    · repeat (first|refine We rfl ?_|refine Wf (by first|exact Va|exact Vc|exact Vd|exact Vi|exact Vl) rfl ?_)
      refine JO.test 26 (fun h3 => ?_) (fun h3 => ?_)
      · repeat (first|refine Wa ?_|refine Wd ?_|refine We rfl ?_|refine Wf (by first|exact Vb|exact Vc|exact Vd|exact Vi|exact VA) rfl ?_|refine Ws ?_)
        refine CT.done () ?_ (fun w ho => ho.ent)
        have h1 : c.parents = d.parents := by simpa using h1
        have h2 : c.ev = d.ev := h2
        simp [packed, key, h1, h2, h3]
        exact op_eq _ _
      · repeat (first|refine Wa ?_|refine Wd ?_|refine We rfl ?_|refine Wf (by first|exact Vb|exact Vj) rfl ?_|refine Ws ?_|refine Wv rfl rfl ?_)
        refine CT.done () ?_ (fun w ho => ho.ent)
        simp [packed, key, h3]
    · repeat (first|refine Wa ?_|refine Wd ?_|refine We rfl ?_|refine Wf (by first|exact Va|exact Vb|exact Vj) rfl ?_|refine Ws ?_|refine Wv rfl rfl ?_)
      refine CT.done () ?_ (fun w ho => ho.ent)
      have h2 : ¬ c.ev = d.ev := h2
      simp [packed, key, h2]
  · repeat (first|refine Wa ?_|refine Wd ?_|refine We rfl ?_|refine Wf (by first|exact Va|exact Vb|exact Vj) rfl ?_|refine Ws ?_|refine Wv rfl rfl ?_)
    refine CT.done () ?_ (fun w ho => ho.ent)
    have h1 : ¬ c.parents = d.parents := by simpa using h1
    simp [packed, key, h1]
end Ab
end Go.Proofs.YtglclakhjmogiaaGreat

/- Contracts: the document's List, the laws' Few. -/
namespace Go.Proofs.YtglclakhjmogiaaGreat
namespace Ab
open Go Go.RowKit
set_option linter.unusedVariables false
set_option linter.unusedSimpArgs false
set_option synthInstance.maxSize 4000
set_option synthInstance.maxHeartbeats 400000
attribute [local irreducible] JC JO JR JQ andThen inBlock OpV Gives retTo JM JS

/-- At most 20 parents, and texts of at most 100 bytes. -/
def fewC (c : Commit) : Bool := decide (c.parents.length ≤ 20) && decide (c.op.key.size ≤ 100) && decide (c.op.elem.size ≤ 100)
theorem few_one (w : World) (F : Nat → Prop) (c : Commit) (a : Option Addr) (k : Nat) : GivesV Tryz.prog 40 [commitV c a k] w F (.bool (fewC c)) := by
  refine gives_of Tryz.func40 rfl Tryz.ntmps40 rfl rfl [] (.start w F) ?_
  repeat (first|refine Wa ?_|refine Wb ?_|refine Wc ?_|refine Wd ?_|refine We rfl ?_|refine Wf (by first|exact Va|exact Vb|exact Vc|exact Vd|exact Vf|exact Vn) rfl ?_|(refine Wh rfl ?_; intro _))
  refine JO.test 7 (fun h1 => ?_) (fun h1 => ?_)
  · repeat (first|refine We rfl ?_|refine Wf (by first|exact Va|exact Vc|exact Vd|exact Vi|exact Vn|exact Vw) rfl ?_)
    refine JO.test 14 (fun h2 => ?_) (fun h2 => ?_)
    · repeat (first|refine Wa ?_|refine Wd ?_|refine We rfl ?_|refine Wf (by first|exact Vb|exact Vc|exact Vd|exact Vi|exact Vn|exact Vw) rfl ?_|refine Ws ?_)
      refine CT.done () ?_ (fun w ho => ho.ent)
      have h1 : c.parents.length ≤ 20 := by omega
      have h2 : c.op.key.size ≤ 100 := by omega
      have h3 : ((c.op.elem.size : Int) ≤ 100) ↔ c.op.elem.size ≤ 100 := by omega
      simp [packed, fewC, h1, h2, h3]
    · repeat (first|refine Wa ?_|refine Wd ?_|refine We rfl ?_|refine Wf (by first|exact Vb|exact Vj) rfl ?_|refine Ws ?_|refine Wv rfl rfl ?_)
      refine CT.done () ?_ (fun w ho => ho.ent)
      have h2 : ¬ c.op.key.size ≤ 100 := by omega
      simp [packed, fewC, h2]
  · repeat (first|refine Wa ?_|refine Wd ?_|refine We rfl ?_|refine Wf (by first|exact Va|exact Vb|exact Vj) rfl ?_|refine Ws ?_|refine Wv rfl rfl ?_)
    refine CT.done () ?_ (fun w ho => ho.ent)
    have h1 : ¬ c.parents.length ≤ 20 := by omega
    simp [packed, fewC, h1]

def fewL (L : List Commit) (m : Nat) : Bool := decide (L.length ≤ m) && L.all fewC
theorem few_all (w : World) (F : Nat → Prop) (a : Option Addr) (c : Nat) (L : List Commit) (m : Nat) (h : (sl a c L).holds F w) :
    GivesV Tryz.prog 16 [.slice a L.length c, .int .i64 (m : Int)] w F (.bool (fewL L m)) := by
  have hL : L.length < 9223372036854775807 := by have := h.2.2.1; simp only [lim] at this; omega
  refine gives_of Tryz.func16 rfl Tryz.ntmps16 rfl rfl [.st (sl a c L)] (.start1 h) ?_
  repeat (first|refine Wa ?_|refine Wb ?_|refine Wc ?_|refine Wd ?_|refine We rfl ?_|refine Wf (by first|exact Va|exact Vb|exact Vf|exact Vo) rfl ?_)
  refine JC.test (fun h1 => ?_) (fun h1 => ?_)
  · repeat (first|refine Wa ?_|refine Wb ?_|refine Wc ?_|refine Wd ?_|refine We rfl ?_|refine Wf (by exact Vb) rfl ?_|refine Ws ?_|refine Wt ?_)
    refine CT.done () ?_ (fun w ho => ho.ent)
    have h1 : ¬ L.length ≤ m := by omega
    simp [packed, fewL, h1]
  · have h1 : L.length ≤ m := by omega
    repeat (first|refine Wa ?_|refine Wb ?_|refine Wc ?_|refine Wd ?_|refine We rfl ?_|refine Wf (by exact Vb) rfl ?_|refine Wl ?_|refine Wn ?_)
    refine JC.loop1 (fun k0 : Nat => [(0, .slice a L.length c), (5, .int .i64 (k0 : Int))]) (fun _ => [.st (sl a c L)])
      (fun k0 => k0 ≤ L.length ∧ (L.take k0).all fewC = true) (fun k0 => L.length - k0) 0 ⟨Nat.zero_le _, rfl⟩ inferInstance ?_
    intro k0 ⟨hk, heq⟩
    repeat (first|refine Wa ?_|refine Wb ?_|refine Wc ?_|refine Wd ?_|refine We rfl ?_|refine Wf (by first|exact Va|exact Vf|exact Vg) rfl ?_)
    refine JC.test (fun hlt => ?_) (fun hge => ?_)
    · have hlt' : k0 < L.length := by omega
      repeat (first|refine Wa ?_|refine Wb ?_|refine Wc ?_|refine We rfl ?_|refine Wf (by exact Va) rfl ?_|refine Wl ?_|refine Wn ?_)
      refine JR.indexCommit rfl hlt' ?_
      intro b1 o1 p1 q1
      repeat (first|refine We rfl ?_|refine Wf (by exact Vc) rfl ?_)
      refine JR.callV rfl (fun w1 hw => few_one w1 _ L[k0] p1 q1) ?_
      repeat (first|refine Wa ?_|refine Wb ?_|refine Wc ?_|refine Wd ?_|refine We rfl ?_|refine Wf (by first|exact Va|exact Vb|exact Vh) rfl ?_)
      refine JC.test (fun hne => ?_) (fun heq2 => ?_)
      · repeat (first|refine Wa ?_|refine Wb ?_|refine Wc ?_|refine Wd ?_|refine We rfl ?_|refine Wf (by exact Vb) rfl ?_|refine Ws ?_|refine Wt ?_|refine Wu ?_)
        refine CT.done () ?_ (fun w ho => ho.ent)
        have h3 : L.all fewC = false := by
          rw [← Bool.not_eq_true]
          intro h4
          exact hne (List.all_eq_true.1 h4 _ (List.getElem_mem hlt'))
        simp only [packed, fewL, h3, Bool.and_false]
      · repeat (first|refine Wa ?_|refine Wc ?_|refine Wd ?_|refine We rfl ?_|refine Wf (by first|exact Va|exact Vb|exact Vk (by omega)) rfl ?_|refine Wl ?_|refine Wr ?_)
        refine ⟨k0 + 1, ⟨by omega, ?_⟩, by omega, inferInstance⟩
        have heq2 : fewC L[k0] = true := by simpa using heq2
        rw [List.take_succ_eq_append_getElem hlt', List.all_append, heq]
        simp [heq2]
    · have hk0 : k0 = L.length := by omega
      subst hk0
      rw [List.take_length] at heq
      repeat (first|refine Wa ?_|refine Wb ?_|refine Wc ?_|refine Wd ?_|refine We rfl ?_|refine Wf (by exact Vb) rfl ?_|refine Wm ?_|refine Wo ?_|refine Wp ?_|refine Ws ?_)
      refine CT.done () ?_ (fun w ho => ho.ent)
      simp only [packed, fewL, heq, h1, decide_true, Bool.and_self]
end Ab
end Go.Proofs.YtglclakhjmogiaaGreat

/- Contracts of dag.Ids, own, Find. -/
namespace Go.Proofs.YtglclakhjmogiaaGreat
namespace Ab
open Go Go.RowKit
set_option linter.unusedVariables false
set_option linter.unusedSimpArgs false
set_option synthInstance.maxSize 4000
set_option synthInstance.maxHeartbeats 400000
attribute [local irreducible] JC JO JR JQ andThen inBlock OpV Gives retTo JM JS

attribute [local irreducible] hashC
theorem hash_err (c : Commit) : ((hashC c).2 = 0) ↔ may c = true := by
  unfold hashC; cases may c <;> simp
/-- Commits' ids as told: none, if one may not be. -/
def idsP (L : List Commit) : List ID := if L.all may then cids L else []
theorem idsP_all {L : List Commit} (h : ∀ c ∈ L, may c = true) : idsP L = cids L := by
  rw [idsP, if_pos (List.all_eq_true.2 h)]
theorem idsP_not {L : List Commit} {c : Commit} (hc : c ∈ L) (h : may c = false) : idsP L = [] := by
  rw [idsP, if_neg]
  intro h'
  have := List.all_eq_true.1 h' c hc
  rw [h] at this; cases this
theorem idsP_length (L : List Commit) : (idsP L).length ≤ L.length := by
  unfold idsP; split <;> simp [cids]
theorem cids_take_next {L : List Commit} {i : Nat} (h : i < L.length) : cids (L.take (i + 1)) = cids (L.take i) ++ [idC L[i]] := by
  rw [List.take_succ_eq_append_getElem h, cids_append]; rfl
set_option maxHeartbeats 1000000 in
theorem ids_dag (w : World) (F : Nat → Prop) (a : Option Addr) (k : Nat) (L : List Commit) (h : (sl a k L).holds F w) (hl : L.length < 34359738368) (hf : ∀ x ∈ L, fine x) :
    GivesSl Tryz.prog 32 [.slice a L.length k] w F (idsP L) := by
  refine gives_of Tryz.func32 rfl Tryz.ntmps32 rfl rfl [.st (sl a k L)] (.start1 h) ?_
  repeat (first|refine Wa ?_|refine Wb ?_|refine Wc ?_|refine Wd ?_|refine We rfl ?_|refine Wf (by first|exact Va|exact Vb|exact Vf) rfl ?_|refine Wn ?_)
  refine JC.buf_nil (α := ID) 47 ?_
  refine JC.loop3 (fun (i : Nat) p q => [(3, .slice p (cids (L.take i)).length q), (8, .slice a L.length k), (9, .int .i64 (L.length : Int)), (10, .int .i64 (i : Int))])
    (fun i p q => [.res (buf p q 47 (cids (L.take i))), .st (sl a k L)])
    (fun i _ _ => i ≤ L.length ∧ ∀ c ∈ L.take i, may c = true) (fun i _ _ => L.length - i) 0 none 0 ⟨Nat.zero_le _, by simp⟩ (by rw [List.take_zero, show cids [] = [] from rfl]; infer_instance) ?_
  intro i p q ⟨hi, hm⟩
  repeat (first|refine Wa ?_|refine Wb ?_|refine Wc ?_|refine Wd ?_|refine We rfl ?_|refine Wf (by exact Vg) rfl ?_)
  refine JC.test (fun hlt => ?_) (fun hge => ?_)
  · have hlt' : i < L.length := by omega
    have hfx := hf _ (List.getElem_mem hlt')
    repeat (first|refine Wa ?_|refine Wb ?_|refine Wc ?_|refine We rfl ?_|refine Wl ?_|refine Wn ?_)
    refine JR.indexCommit rfl hlt' ?_
    intro b1 o1 p1 q1
    repeat (first|refine Wa ?_|refine Wb ?_|refine Wc ?_|refine Wd ?_|refine We rfl ?_|refine Wf (by exact Vc) rfl ?_|(refine Wg rfl ?_; intro _)|refine Wi ?_)
    refine JR.callV rfl (fun w1 hw => hash_commit w1 _ (L[i]) p1 q1 hw.get hfx.1) ?_
    repeat (first|refine Wa ?_|refine Wb ?_|refine Wc ?_|refine Wd ?_|refine We rfl ?_|refine Wf (by first|exact Va|exact Vb|exact Vm|exact Vq) rfl ?_|(refine Wg rfl ?_; intro _)|refine Wi ?_)
    refine JC.test (fun h0 => ?_) (fun h0 => ?_)
    · have hmay : may L[i] = false := by
        rw [← Bool.not_eq_true, ← hash_err]; exact h0
      repeat (first|refine Wa ?_|refine Wb ?_|refine Wc ?_|refine Wd ?_|refine We rfl ?_|refine Wf (by exact Vb) rfl ?_|refine Ws ?_|refine Wt ?_|refine Wu ?_)
      rw [idsP_not (List.getElem_mem hlt') hmay]
      exact CT.done (none, 0) rfl (fun w ho => (ho.ent : Hold _ _ [.st (sl a k L)] w).tail.add sl_nil)
    · have hmay : may L[i] = true := (hash_err _).1 (by simpa using h0)
      have h1 : (cids (L.take i)).length ≤ i := by simp [cids]; omega
      repeat (first|refine Wa ?_|refine Wc ?_|refine We rfl ?_|refine Wf (by first|exact Va|exact Vc) rfl ?_|refine Wl ?_|(refine Ww rfl ⟨rfl, by decide, by decide, by decide⟩ ?_; intro _))
      refine JR.append1 (u := idC L[i]) rfl (by exact ⟨rfl, rfl, by decide⟩) (by omega) ?_
      intro r s
      repeat (first|refine Wa ?_|refine Wc ?_|refine Wd ?_|refine We rfl ?_|refine Wf (by first|exact Va|exact Vb|exact Vk (by omega)) rfl ?_|refine Wr ?_)
      refine ⟨i + 1, r, s, ⟨by omega, fun c hc => ?_⟩, by omega, by rw [cids_take_next hlt']; infer_instance⟩
      rw [List.take_succ_eq_append_getElem hlt', List.mem_append, List.mem_singleton] at hc
      rcases hc with hc | rfl
      · exact hm c hc
      · exact hmay
  · obtain rfl : i = L.length := by omega
    rw [List.take_length] at hm ⊢
    refine JC.more (fun w1 ho => ho.pub) ?_
    repeat (first|refine Wa ?_|refine Wb ?_|refine Wc ?_|refine Wd ?_|refine We rfl ?_|refine Wf (by first|exact Va|exact Vb) rfl ?_|refine Wm ?_|refine Wo ?_|refine Wp ?_|refine Ws ?_)
    rw [idsP_all hm]
    exact CT.done (p, q) rfl (fun w ho => (ho.ent : Hold _ _ [.st (sl p q (cids L))] w))

theorem own_dag (w : World) (F : Nat → Prop) (c : Commit) (a : Option Addr) (k : Nat) (h : (sl a k c.parents).holds F w) (hp : c.parents.length ≤ 34359738368) :
    Gives Tryz.prog 94 [commitV c a k] w F (fun y : Option Addr × Nat => commitV c y.1 y.2) (fun y => [.st (sl y.1 y.2 c.parents)]) := by
  refine gives_of Tryz.func94 rfl Tryz.ntmps94 rfl rfl [.st (sl a k c.parents)] (.start1 h) ?_
  repeat (first|refine Wa ?_|refine Wb ?_|refine Wc ?_|refine Wd ?_|refine We rfl ?_|refine Wf (by first|exact Vc|exact Vd) rfl ?_|(refine Wg rfl ?_; intro _)|(refine Wh rfl ?_; intro _))
  refine JR.callBuf rfl (fun w1 hw => clone_ids_buf w1 _ a k c.parents hw.get hp) ?_
  intro p q
  refine JO.more (fun w1 ho => ho.pub) ?_
  repeat (first|refine Wa ?_|refine Wb ?_|refine Wc ?_|refine Wd ?_|refine We rfl ?_|refine Wf (by first|exact Vc|exact Vd) rfl ?_|refine Wi ?_|refine Ws ?_)
  exact CT.done (p, q) rfl (fun w ho => ho.ent)
/-- The first commit of an id. -/
def findC (L : List Commit) (x : ID) : Option Commit := L.find? (fun c => decide (hashO c = some x))
def findR (L : List Commit) (x : ID) : Commit × Bool := match findC L x with | some c => (c, true) | none => (commit0, false)
theorem hashO_dec (c : Commit) (x : ID) : decide (hashO c = some x) = (decide ((hashC c).2 = 0) && decide (x = (hashC c).1)) := by
  unfold hashO
  by_cases h0 : (hashC c).2 = 0
  · simp only [h0, if_true, Option.some.injEq, decide_true, Bool.true_and]
    exact decide_eq_decide.2 ⟨Eq.symm, Eq.symm⟩
  · simp [h0]
set_option maxHeartbeats 1000000 in
theorem find_dag (w : World) (F : Nat → Prop) (a : Option Addr) (k : Nat) (L : List Commit) (x : ID) (h : (sl a k L).holds F w) (hf : ∀ c ∈ L, fine c) :
    Gives Tryz.prog 62 [.slice a L.length k, .agg ⟨idc x⟩] w F (fun y : Option Addr × Nat => .tuple ⟨[commitV (findR L x).1 y.1 y.2, .bool (findR L x).2]⟩) (fun y => [.st (sl y.1 y.2 (findR L x).1.parents)]) := by
  have hL : L.length < 9223372036854775807 := by have := h.2.2.1; simp only [lim] at this; omega
  refine gives_of Tryz.func62 rfl Tryz.ntmps62 rfl rfl [.st (sl a k L)] (.start1 h) ?_
  repeat (first|refine Wa ?_|refine Wb ?_|refine Wc ?_|refine Wd ?_|refine We rfl ?_|refine Wf (by first|exact Va|exact Vb|exact Vf) rfl ?_|(refine Wg rfl ?_; intro _)|(refine Wh rfl ?_; intro _)|refine Wn ?_)
  rename_i bx bc
  refine JC.loop1 (fun (i : Nat) => [(3, .pointer (some ⟨bx, 0, none⟩)), (4, .pointer (some ⟨bc, 0, none⟩)), (5, .bool false), (10, .slice a L.length k), (11, .int .i64 (L.length : Int)), (12, .int .i64 (i : Int))])
    (fun i => [.st (sl a k L), .own bx 47 (idc x), .own bc 34 [.int .i64 0, .int .i64 0, .int .i64 0, .slice none 0 0, .int .i64 0, .string .empty, .string .empty, .int .i64 0]])
    (fun i => i ≤ L.length ∧ ∀ c ∈ L.take i, decide (hashO c = some x) = false) (fun i => L.length - i) 0 ⟨Nat.zero_le _, by simp⟩ inferInstance ?_
  intro i ⟨hi, hno⟩
  repeat (first|refine Wa ?_|refine Wb ?_|refine Wc ?_|refine Wd ?_|refine We rfl ?_|refine Wf (by exact Vg) rfl ?_)
  refine JC.test (fun hlt => ?_) (fun hge => ?_)
  · have hlt' : i < L.length := by omega
    have hfx := hf _ (List.getElem_mem hlt')
    repeat (first|refine Wa ?_|refine Wb ?_|refine Wc ?_|refine We rfl ?_|refine Wl ?_|refine Wn ?_)
    refine JR.indexCommit rfl hlt' ?_
    intro b1 o1 p1 q1
    repeat (first|refine Wa ?_|refine Wb ?_|refine Wc ?_|refine Wd ?_|refine We rfl ?_|refine Wf (by exact Vc) rfl ?_|(refine Wg rfl ?_; intro _)|refine Wi ?_)
    refine JR.callV rfl (fun w1 hw => hash_commit w1 _ (L[i]) p1 q1 hw.get hfx.1) ?_
    repeat (first|refine Wa ?_|refine Wb ?_|refine Wc ?_|refine Wd ?_|refine We rfl ?_|refine Wf (by first|exact Va|exact Vb|exact Vl|exact Vq) rfl ?_|(refine Wg rfl ?_; intro _)|refine Wi ?_)
    refine JO.test 23 (fun h0 => ?_) (fun h0 => ?_)
    · repeat (first|refine Wa ?_|refine Wd ?_|refine We rfl ?_|refine Wf (by first|exact Vc|exact Vi|exact Vx) rfl ?_)
      refine JC.test (fun he => ?_) (fun hne => ?_)
      · have hd : decide (hashO L[i] = some x) = true := by rw [hashO_dec, decide_eq_true h0, decide_eq_true he]; rfl
        have hfd : findC L x = some L[i] := by
          rw [findC, List.find?_eq_some_iff_getElem]
          refine ⟨hd, i, hlt', rfl, fun j hj => ?_⟩
          rw [hno _ (List.mem_take_iff_getElem.2 ⟨j, by omega, rfl⟩)]; rfl
        have e1 : findR L x = (L[i], true) := by simp [findR, hfd]
        rw [e1]
        repeat (first|refine Wb ?_|refine Wc ?_|refine We rfl ?_|refine Wf (by exact Vc) rfl ?_)
        refine JR.call1 rfl (fun w1 hw => own_dag w1 _ (L[i]) p1 q1 hw.get hfx.2) ?_
        rintro ⟨p2, q2⟩
        dsimp only
        repeat (first|refine Wa ?_|refine Wd ?_|refine We rfl ?_|refine Wf (by exact Vb) rfl ?_|refine Wi ?_|refine Ws ?_|refine Wt ?_|refine Wu ?_)
        exact CT.done (p2, q2) rfl (fun w ho => ho.ent)
      · have hd : decide (hashO L[i] = some x) = false := by rw [hashO_dec, decide_eq_false hne, Bool.and_false]
        repeat (first|refine Wa ?_|refine Wc ?_|refine Wd ?_|refine We rfl ?_|refine Wf (by first|exact Va|exact Vk (by omega)) rfl ?_|refine Wl ?_|refine Wr ?_)
        refine ⟨i + 1, ⟨by omega, fun c hc => ?_⟩, by omega, inferInstance⟩
        rw [List.take_succ_eq_append_getElem hlt', List.mem_append, List.mem_singleton] at hc
        rcases hc with hc | rfl
        · exact hno c hc
        · exact hd
    · have hd : decide (hashO L[i] = some x) = false := by rw [hashO_dec, decide_eq_false h0, Bool.false_and]
      repeat (first|refine Wa ?_|refine Wc ?_|refine Wd ?_|refine We rfl ?_|refine Wf (by first|exact Va|exact Vj|exact Vk (by omega)) rfl ?_|refine Wk ?_|refine Wl ?_|refine Wr ?_|refine Wv rfl rfl ?_)
      refine ⟨i + 1, ⟨by omega, fun c hc => ?_⟩, by omega, inferInstance⟩
      rw [List.take_succ_eq_append_getElem hlt', List.mem_append, List.mem_singleton] at hc
      rcases hc with hc | rfl
      · exact hno c hc
      · exact hd
  · obtain rfl : i = L.length := by omega
    rw [List.take_length] at hno
    have hfd : findC L x = none := by
      rw [findC, List.find?_eq_none]
      intro c hc; rw [hno c hc]; simp
    have e1 : findR L x = (commit0, false) := by simp [findR, hfd]
    rw [e1]
    repeat (first|refine Wa ?_|refine Wb ?_|refine Wc ?_|refine We rfl ?_|refine Wm ?_|refine Wo ?_|refine Wp ?_)
    refine Wf (OpV.build [.int .i64 0, .int .i64 0, .int .i64 0, .slice none 0 0, .int .i64 0, .string .empty, .string .empty, .int .i64 0] (by kernel_rfl)) rfl ?_
    repeat (first|refine Wa ?_|refine Wd ?_|refine We rfl ?_|refine Wf (by exact Vb) rfl ?_|refine Wi ?_|refine Ws ?_)
    exact CT.done (none, 0) rfl (fun w ho => (ho.ent : Hold _ _ [.st (sl a k L)] w).tail.add sl_nil)
end Ab
end Go.Proofs.YtglclakhjmogiaaGreat

/- x[l:] of a slice that is read, as a value. Program-independent. -/
namespace Go.Proofs.YtglclakhjmogiaaGreat
namespace Ab
open Go Go.RowKit
set_option linter.unusedVariables false
set_option linter.unusedSimpArgs false
section
variable {P : Program} {n : Nat} {w0 : World} {F : Nat → Prop} {ops : Array Oper} {i d : Nat} {t : TypeId} {pos : String} {aft : Array Edge} {g : Option (Nat × Bool)} {os : List Oper} {Q : Cont} {e : E} {Γ : List Fact} [Dr]

/-- Where x[l:] begins. -/
def fromA (a0 : Option Addr) (c l s : Nat) : Option Addr := if c - l = 0 ∧ c = l then a0 else a0.map (·.add (l * s))
theorem OpV.sliceFromA {x lo : Operand} {a0 : Option Addr} {m c l s : Nat} {kk : IntKind} {j : Int} {ty el : TypeId} {ed : TypeDesc} {sz by_ es eb : Nat} {z ez : Value} {d : Option Nat}
    [hx : Ev e x (.slice a0 m c)] [hi : Ev e lo (.int kk j)] [hk : NatI j l] [hT : Ty P ty (.slice el) sz by_ z] [hE : Ty P el ed es eb ez] (hes : es = s) (h : ∀ w, Hold w0 F Γ w → l ≤ m ∧ m ≤ c) :
    OpV P n w0 F ⟨d, .slice ty x (some lo) none none, t, pos, aft, g⟩ e Γ (.slice (fromA a0 c l s) (m - l) (c - l)) :=
  fun a w fr ho => by
    have hlc := h w ho
    have h1 := run_und (P := P) (t := ty) w
    have h2 := run_size (P := P) (t := el) w
    have hj := hk.ok
    subst hj hes
    have hb : (Instr.sliceBound (.int kk (l : Int)) m .sliceB).run P w = .ok l w := by
      simp [Instr.sliceBound, asIntOf]
      omega
    simp [execOp, hx.ok n a fr, hi.ok n a fr, Instr.sliceAt, Instr.slice, h1, h2, Instr.sliceBounds, hb, fromA]
    by_cases hck : c = l
    · simp [hck]
    · rw [if_neg hck, if_neg (by omega)]
end
section
variable {P : Program} {n : Nat} {w0 : World} {F : Nat → Prop} {ops : Array Oper} {i d : Nat} {t : TypeId} {pos : String} {aft : Array Edge} {g : Option (Nat × Bool)} {os : List Oper} {Q : Cont} {e : E} {Γ : List Fact}
theorem sl_from {α : Type} [ic : Cell α] {G : Nat → Prop} {w : World} {a : Option Addr} {c : Nat} {L : List α} (h : (sl a c L).holds G w) {k : Nat} (hk : k ≤ L.length) : (sl (fromA a c k (Cell.sz α)) (c - k) (L.drop k)).holds G w := sl_drop h hk
end
section
variable {P : Program} {n : Nat} {w0 : World} {F : Nat → Prop} {ops : Array Oper} {i d : Nat} {t : TypeId} {pos : String} {aft : Array Edge} {g : Option (Nat × Bool)} {os : List Oper} {Q : Cont} {e : E} {Γ : List Fact} [Dr]

/-- append([]T(nil), y...), which leaves what was there. -/
theorem JS.appendNil {α : Type} [ic : Cell α] {x y : Operand} {u : Value} {L' : List α} {el ty : TypeId} {ed : TypeDesc} {sz by_ es eb : Nat} {z ez : Value} {ecs : List Value} {K : E → List Fact → Prop}
    [hx : Ev e x (.slice none 0 0)] [hy : Ev e y u] [hS : HasSl Γ u α ic L'] [hT : Ty P ty (.slice el) sz by_ z] [hE : Ty P el ed es eb ez] [hz : Cel ez ecs]
    (hd : Nat.blt d n = true) (hes : es = Cell.sz α ∧ ecs.length = es ∧ eb ≤ 4096) (hl : L'.length ≤ 34359738368)
    (k : ∀ a c, K ((d, .slice a L'.length c) :: e) (.res (buf a c el L') :: Γ)) :
    JS P n w0 F ⟨some d, .call ⟨.builtin .append, #[x, y], #[ty, ty]⟩, t, pos, aft, g⟩ e Γ K :=
  JS.value hd fun a w fr ho => by
    obtain ⟨a1, c1, rfl, hsl⟩ := hS.holds ho
    by_cases hL : L' = []
    · subst hL
      obtain ⟨ti, hti, hti1, hti2, hti3⟩ := hE.some
      refine ⟨.slice none 0 0, w, _, ?_, Bel.refl _ _, ho.res (R := buf (α := α) none 0 el []) (fun k hk => by obtain ⟨a, h, _⟩ := hk; cases h) buf_nil, k none 0⟩
      cases a1 <;> simp [execOp, resolve_builtin, invoke, builtin, hx.ok n a fr, hy.ok n a fr, Builtin.append_, run_underlying hT.und, sizeOf, typeInfo, hti, Builtin.lenOf, Builtin.firstCells, loadCells, loadCellsFrom]
    · obtain ⟨b, off, rfl, hF, hlt, hrow⟩ := hsl.2.2.2 hL
      obtain ⟨r, hr1, hr2, hr3⟩ := row_list L' off hrow
      have hm : r.length = L'.length := by rw [← hr1]; simp
      obtain ⟨ti, hti, hti1, hti2, hti3⟩ := hE.some
      have hfl : (flat r).length = L'.length * ti.size := by rw [flat_length, hm, hti1, hes.1]
      have h0 : 0 < L'.length := List.length_pos_iff.2 hL
      have hb48 : L'.length * ti.bytes ≤ 281474976710656 := by rw [hti2]; have := Nat.mul_le_mul hl hes.2.2; omega
      have hr := run_append_nil (P := P) w ty t el ti ez hT.und hti hti3 ⟨b, off, none⟩ L'.length c1 (flat r) hfl (fun j u hu => by rw [Addr.add_mid]; exact hr2 j u hu) (by omega) (by omega) hb48
      have hge := grownCap_ge w L'.length 0 el
      have hcm : grownCap w L'.length 0 el ≤ maxLen := grownCap_le_maxLen w L'.length 0 el (by simp only [maxLen]; omega)
      have hzs : ez.cells.size = ti.size := by rw [cells_eq (v := ez) (cs := ecs), hti1]; simpa using hes.2.1
      have hsz1 : ti.size = Cell.sz α := by rw [hti1, hes.1]
      have hbel : Bel w.heap.size w (w.drew.alloc (.cells ((flat r).toArray ++ Builtin.zeroCells ez.cells (grownCap w L'.length 0 el - L'.length)) el)) := ((Bel.refl _ _).drew).alloc (Nat.le_refl _) _
      refine ⟨_, _, _, ?_, hbel, ho.call (B := [.res (buf (some ⟨w.heap.size, 0, none⟩) (grownCap w L'.length 0 el) el L')]) hbel ⟨fun f hf => ?_, by simp, fun f hf k' hk => ?_⟩, k (some ⟨w.heap.size, 0, none⟩) (grownCap w L'.length 0 el)⟩
      · simp [execOp, resolve_builtin, invoke, builtin, hx.ok n a fr, hy.ok n a fr] at hr ⊢
        simp [hr]
      · simp only [List.mem_singleton] at hf; subst hf
        refine ⟨by simp only [lim]; omega, r, hr1, ⟨by rw [flat_length, hm], .inr ⟨w.heap.size, _, _, rfl, Nat.zero_le _, heap_alloc_new w.drew _, hge, hcm, ?_, ?_⟩⟩, fun p hp A hA => ?_⟩
        · simp only [Array.size_append, List.size_toArray, size_zeroCells, hzs, hfl, ← Nat.add_mul, ← hsz1]
          congr 1
          omega
        · simp only [Array.toList_append]
          exact List.take_left' (by rw [hfl, hsz1])
        · refine Fact.sat_keep (f := .st A) (hr3 p hp A hA) (fun k' hk hlt => ⟨.inl hk, fun f hf => ?_⟩) (fun k' hlt _ => hbel.block k' hlt)
          simp only [List.mem_singleton] at hf; subst hf
          rintro ⟨a', ha', rfl⟩
          injection ha' with ha'
          subst ha'
          simp at hlt
      · simp only [List.mem_singleton] at hf; subst hf
        obtain ⟨a', ha', rfl⟩ := hk
        injection ha' with ha'
        subst ha'
        exact Nat.le_refl _
end
end Ab
end Go.Proofs.YtglclakhjmogiaaGreat

/- An operation that is passed over because the one it waits for was passed over. Program-independent. -/
namespace Go.Proofs.YtglclakhjmogiaaGreat
namespace Ab
open Go Go.RowKit
set_option linter.unusedVariables false
set_option linter.unusedSimpArgs false
section
variable {P : Program} {n : Nat} {w0 : World} {F : Nat → Prop} {i d : Nat} {t : TypeId} {pos : String} {aft : Array Edge} {g : Option (Nat × Bool)} {Q : Cont} {e : E} {Γ : List Fact} [Dr]

/-- The guard's operation was itself passed over. -/
def gskip (ops : List Oper) (e : E) : Option (Nat × Bool) → Bool
  | none => false
  | some (j, _) =>
    match ops[j]? with
    | some o => match o.dst with
      | some d => match look e d with
        | some (.tuple _) => true
        | _ => false
      | none => false
    | none => false

end
section
variable {P : Program} {n : Nat} {w0 : World} {F : Nat → Prop} {i d : Nat} {t : TypeId} {pos : String} {aft : Array Edge} {g : Option (Nat × Bool)} {Q : Cont} {e : E} {Γ : List Fact}
theorem gskip_ok {ops : List Oper} {e : E} {o : Oper} {a : Act} (h : gskip ops e o.guard = true) (fr : Fr n e a) : Region.wanted o (yielded ⟨ops⟩ a.tmps) = false := by
  unfold gskip at h
  unfold Region.wanted
  split at h
  · cases h
  · rename_i j want hg
    rw [hg]
    split at h
    · rename_i o' ho'
      split at h
      · rename_i d hd
        split at h
        · rename_i b hb
          have := fr.slot _ _ hb
          simp only [yielded]
          have e1 : ((⟨ops⟩ : Array Oper)[j]?) = some o' := by simpa using ho'
          rw [e1]
          simp [hd, this]
        · cases h
      · cases h
    · cases h
end
section
variable {P : Program} {n : Nat} {w0 : World} {F : Nat → Prop} {i d : Nat} {t : TypeId} {pos : String} {aft : Array Edge} {g : Option (Nat × Bool)} {Q : Cont} {e : E} {Γ : List Fact} [Dr]

theorem Wx {ops : List Oper} {op : Op} {os : List Oper} (hg : gskip ops e g = true) (hd : Nat.blt d n = true)
    (h : JO P n w0 F ⟨ops⟩ (i + 1) os Q ((d, undef) :: e) Γ) : JO P n w0 F ⟨ops⟩ i (⟨some d, op, t, pos, aft, g⟩ :: os) Q e Γ := by
  intro hdr a w fr ho
  obtain ⟨h1, h2⟩ := drop_at hdr
  simp only [List.length_cons, List.range'_succ, wpOps]
  rw [h1]
  simp only [gskip_ok (o := ⟨some d, op, t, pos, aft, g⟩) hg fr, Bool.false_eq_true, if_false]
  exact h h2 _ w (fr.put hd _) ho

theorem WA {ops os : List Oper} {K : E → Prop} {op : Op} (hg : gskip ops e g = true) (hd : Nat.blt d n = true) (k : JQ P n w0 F ops os K ((d, undef) :: e) Γ) :
    JQ P n w0 F ops (⟨some d, op, t, pos, aft, g⟩ :: os) K e Γ := by
  intro a fr
  unfold wpQuiet
  rw [gskip_ok (o := ⟨some d, op, t, pos, aft, g⟩) hg fr, if_neg (by decide)]
  exact k _ (fr.put hd _)
end
end Ab
end Go.Proofs.YtglclakhjmogiaaGreat

/- More arithmetic on words: products, differences, quotients, remainders. Program-independent. -/
namespace Go.Proofs.YtglclakhjmogiaaGreat
namespace Ab
open Go Go.RowKit
set_option linter.unusedVariables false
set_option linter.unusedSimpArgs false
/-- A number that is a word's. -/
class W32 (p : Int) (a : outParam UInt32) : Prop where
  ok : p = (a.toNat : Int)
instance (priority := 1000) {a : UInt32} : W32 (a.toNat : Int) a := ⟨rfl⟩
instance : W32 (16777216 : Int) 16777216 := ⟨rfl⟩
instance : W32 (65536 : Int) 65536 := ⟨rfl⟩
instance : W32 (256 : Int) 256 := ⟨rfl⟩
instance : W32 (1024 : Int) 1024 := ⟨rfl⟩
instance : W32 (8 : Int) 8 := ⟨rfl⟩
class W64 (p : Int) (a : outParam UInt64) : Prop where
  ok : p = (a.toNat : Int)
instance (priority := 1000) {a : UInt64} : W64 (a.toNat : Int) a := ⟨rfl⟩
instance : W64 (256 : Int) 256 := ⟨rfl⟩
instance : W64 (128 : Int) 128 := ⟨rfl⟩
instance : W64 (127 : Int) 127 := ⟨rfl⟩
instance : W64 (8 : Int) 8 := ⟨rfl⟩
instance : W64 (2 : Int) 2 := ⟨rfl⟩
instance : W64 (1 : Int) 1 := ⟨rfl⟩
theorem JR.reslot [Dr] {P : Program} {n : Nat} {w0 : World} {F : Nat → Prop} {ops : Array Oper} {i : Nat} {o : Oper} {os : List Oper} {Q : Cont} {e : E} {Γ : List Fact} (s : Nat) {v : Value} (u : Value) [hs : Lk e s v] (h : v = u) (k : JR P n w0 F ops i o os Q ((s, u) :: e) Γ) : JR P n w0 F ops i o os Q e Γ :=
  fun hd a w fr ho => k hd a w (fr.again (by rw [← h]; exact hs.ok)) ho
theorem JR.reown [Dr] {P : Program} {n : Nat} {w0 : World} {F : Nat → Prop} {ops : Array Oper} {i : Nat} {o : Oper} {os : List Oper} {Q : Cont} {e : E} {Γ : List Fact} {bt : TypeId} {vs : List Value} {Δ : List Fact} (b : Nat) (us : List Value) [h : Own Γ b bt vs Δ] (he : vs = us) (k : JR P n w0 F ops i o os Q e (.own b bt us :: Δ)) : JR P n w0 F ops i o os Q e Γ :=
  JR.more (fun w ho => by subst he; exact ho.perm h.ok) k
/-- x[l:h] of a slice that is read, as a value. -/
theorem OpV.sliceMidA [Dr] {P : Program} {n : Nat} {w0 : World} {F : Nat → Prop} {t : TypeId} {pos : String} {aft : Array Edge} {g : Option (Nat × Bool)} {e : E} {Γ : List Fact} {x lo hi' : Operand} {a0 : Option Addr} {m c l h s : Nat} {kk k2 : IntKind} {j j2 : Int} {ty el : TypeId} {ed : TypeDesc} {sz by_ es eb : Nat} {z ez : Value} {d : Option Nat}
    [hx : Ev e x (.slice a0 m c)] [hi : Ev e lo (.int kk j)] [hk : NatI j l] [hi2 : Ev e hi' (.int k2 j2)] [hk2 : NatI j2 h] [hT : Ty P ty (.slice el) sz by_ z] [hE : Ty P el ed es eb ez] (hes : es = s) (hh : ∀ w, Hold w0 F Γ w → l ≤ h ∧ h ≤ c) :
    OpV P n w0 F ⟨d, .slice ty x (some lo) (some hi') none, t, pos, aft, g⟩ e Γ (.slice (fromA a0 c l s) (h - l) (c - l)) :=
  fun a w fr ho => by
    have hlc := hh w ho
    have h1 := run_und (P := P) (t := ty) w
    have h2 := run_size (P := P) (t := el) w
    have hj := hk.ok
    have hj2 := hk2.ok
    subst hj hj2 hes
    have hb : (Instr.sliceBound (.int k2 (h : Int)) c .sliceAcap).run P w = .ok h w := by
      simp [Instr.sliceBound, asIntOf]
      omega
    have hb2 : (Instr.sliceBound (.int kk (l : Int)) h .sliceB).run P w = .ok l w := by
      simp [Instr.sliceBound, asIntOf]
      omega
    simp [execOp, hx.ok n a fr, hi.ok n a fr, hi2.ok n a fr, Instr.sliceAt, Instr.slice, h1, h2, Instr.sliceBounds, hb, hb2, fromA]
    by_cases hck : c = l
    · simp [hck]
    · rw [if_neg hck, if_neg (by omega)]
section
variable {P : Program} {n : Nat} {w0 : World} {F : Nat → Prop} {d : Option Nat} {t : TypeId} {pos : String} {aft : Array Edge} {g : Option (Nat × Bool)} {e : E} {Γ : List Fact} [Dr]
  {x y : Operand} {ty yt : TypeId}
theorem OpV.mul32 {p q : Int} {a b : UInt32} [hx : Ev e x (.int .u32 p)] [hp : W32 p a] [hy : Ev e y (.int .u32 q)] [hq : W32 q b] : OpV P n w0 F ⟨d, .binOp .mul ty x y yt, t, pos, aft, g⟩ e Γ (w32 (a * b)) := by
  have := OpV.mulw (P := P) (n := n) (w0 := w0) (F := F) (d := d) (t := t) (pos := pos) (aft := aft) (g := g) (e := e) (Γ := Γ) (x := x) (y := y) (ty := ty) (yt := yt) (kk := .u32) (p := p) (q := q)
  rwa [hp.ok, hq.ok, ← Int.natCast_mul, wrap32, ← show (a * b).toNat = (a.toNat * b.toNat) % 4294967296 from UInt32.toNat_mul a b] at this
theorem OpV.sub32 {p q : Int} {a b : UInt32} [hx : Ev e x (.int .u32 p)] [hp : W32 p a] [hy : Ev e y (.int .u32 q)] [hq : W32 q b] : OpV P n w0 F ⟨d, .binOp .sub ty x y yt, t, pos, aft, g⟩ e Γ (w32 (a - b)) := by
  have := OpV.subw (P := P) (n := n) (w0 := w0) (F := F) (d := d) (t := t) (pos := pos) (aft := aft) (g := g) (e := e) (Γ := Γ) (x := x) (y := y) (ty := ty) (yt := yt) (kk := .u32) (p := p) (q := q)
  have h1 : IntKind.u32.wrap (p - q) = ((a - b).toNat : Int) := by
    rw [hp.ok, hq.ok]
    have e1 : IntKind.u32.wrap ((a.toNat : Int) - (b.toNat : Int)) = ((a.toNat : Int) - (b.toNat : Int)) % 4294967296 := by simp [IntKind.wrap, IntKind.bits, IntKind.signed]
    rw [e1, UInt32.toNat_sub]
    have := a.toNat_lt
    have := b.toNat_lt
    omega
  rwa [h1] at this
theorem OpV.quo32 {p q : Int} {a b : UInt32} [hx : Ev e x (.int .u32 p)] [hp : W32 p a] [hy : Ev e y (.int .u32 q)] [hq : W32 q b] (h : b ≠ 0) : OpV P n w0 F ⟨d, .binOp .quo ty x y yt, t, pos, aft, g⟩ e Γ (w32 (a / b)) := by
  have hb : b.toNat ≠ 0 := fun h0 => h (UInt32.toNat_inj.1 h0)
  have := OpV.quo (P := P) (n := n) (w0 := w0) (F := F) (d := d) (t := t) (pos := pos) (aft := aft) (g := g) (e := e) (Γ := Γ) (x := x) (y := y) (ty := ty) (yt := yt) (kk := .u32) (p := p) (q := q) (by rw [hq.ok]; omega)
  rwa [hp.ok, hq.ok, Int.tdiv_eq_ediv_of_nonneg (Int.natCast_nonneg _), ← Int.natCast_ediv, ← UInt32.toNat_div, wrapw32] at this
theorem OpV.rem32 {p q : Int} {a b : UInt32} [hx : Ev e x (.int .u32 p)] [hp : W32 p a] [hy : Ev e y (.int .u32 q)] [hq : W32 q b] (h : b ≠ 0) : OpV P n w0 F ⟨d, .binOp .rem ty x y yt, t, pos, aft, g⟩ e Γ (w32 (a % b)) := by
  have hb : b.toNat ≠ 0 := fun h0 => h (UInt32.toNat_inj.1 h0)
  have := OpV.rem (P := P) (n := n) (w0 := w0) (F := F) (d := d) (t := t) (pos := pos) (aft := aft) (g := g) (e := e) (Γ := Γ) (x := x) (y := y) (ty := ty) (yt := yt) (kk := .u32) (p := p) (q := q) (by rw [hq.ok]; omega)
  rwa [hp.ok, hq.ok, Int.tmod_eq_emod_of_nonneg (Int.natCast_nonneg _), ← Int.natCast_emod, ← UInt32.toNat_mod] at this
theorem OpV.mul64 {p q : Int} {a b : UInt64} [hx : Ev e x (.int .u64 p)] [hp : W64 p a] [hy : Ev e y (.int .u64 q)] [hq : W64 q b] : OpV P n w0 F ⟨d, .binOp .mul ty x y yt, t, pos, aft, g⟩ e Γ (w64 (a * b)) := by
  have := OpV.mulw (P := P) (n := n) (w0 := w0) (F := F) (d := d) (t := t) (pos := pos) (aft := aft) (g := g) (e := e) (Γ := Γ) (x := x) (y := y) (ty := ty) (yt := yt) (kk := .u64) (p := p) (q := q)
  rwa [hp.ok, hq.ok, ← Int.natCast_mul, wrap64, ← show (a * b).toNat = (a.toNat * b.toNat) % 18446744073709551616 from UInt64.toNat_mul a b] at this
theorem OpV.quo64 {p q : Int} {a b : UInt64} [hx : Ev e x (.int .u64 p)] [hp : W64 p a] [hy : Ev e y (.int .u64 q)] [hq : W64 q b] (h : b ≠ 0) : OpV P n w0 F ⟨d, .binOp .quo ty x y yt, t, pos, aft, g⟩ e Γ (w64 (a / b)) := by
  have hb : b.toNat ≠ 0 := fun h0 => h (UInt64.toNat_inj.1 h0)
  have := OpV.quo (P := P) (n := n) (w0 := w0) (F := F) (d := d) (t := t) (pos := pos) (aft := aft) (g := g) (e := e) (Γ := Γ) (x := x) (y := y) (ty := ty) (yt := yt) (kk := .u64) (p := p) (q := q) (by rw [hq.ok]; omega)
  rwa [hp.ok, hq.ok, Int.tdiv_eq_ediv_of_nonneg (Int.natCast_nonneg _), ← Int.natCast_ediv, ← UInt64.toNat_div, wrapw64] at this
theorem OpV.rem64 {p q : Int} {a b : UInt64} [hx : Ev e x (.int .u64 p)] [hp : W64 p a] [hy : Ev e y (.int .u64 q)] [hq : W64 q b] (h : b ≠ 0) : OpV P n w0 F ⟨d, .binOp .rem ty x y yt, t, pos, aft, g⟩ e Γ (w64 (a % b)) := by
  have hb : b.toNat ≠ 0 := fun h0 => h (UInt64.toNat_inj.1 h0)
  have := OpV.rem (P := P) (n := n) (w0 := w0) (F := F) (d := d) (t := t) (pos := pos) (aft := aft) (g := g) (e := e) (Γ := Γ) (x := x) (y := y) (ty := ty) (yt := yt) (kk := .u64) (p := p) (q := q) (by rw [hq.ok]; omega)
  rwa [hp.ok, hq.ok, Int.tmod_eq_emod_of_nonneg (Int.natCast_nonneg _), ← Int.natCast_emod, ← UInt64.toNat_mod] at this
end
end Ab
end Go.Proofs.YtglclakhjmogiaaGreat

/- An element of an array that is read, wherever it lies. Program-independent. -/
namespace Go.Proofs.YtglclakhjmogiaaGreat
namespace Ab
open Go Go.RowKit
set_option linter.unusedVariables false
set_option linter.unusedSimpArgs false
/-- An element of an array that is read, loaded. -/
theorem OpV.getR [Dr] {P : Program} {n : Nat} {w0 : World} {F : Nat → Prop} {t : TypeId} {pos : String} {aft : Array Edge} {g : Option (Nat × Bool)} {e : E} {Γ : List Fact} {α : Type} {f : α → Value} {x : Operand} {ty : TypeId} {td : TypeDesc} {sz by_ b o p : Nat} {z : Value} {L : List α} {vs : List Value} {d : Option Nat} (k : Nat)
    [hx : Ev e x (.pointer (some ⟨b, o, none⟩))] [hA : At Γ b p vs] [hT : Ty P ty td sz by_ z] (hvs : vs = L.map f) (h : k < L.length) (ho' : o = p + k) (hsz : sz = 1) [hv : Val td [f (L[k]'h)] (f (L[k]'h))] :
    OpV P n w0 F ⟨d, .load ty x, t, pos, aft, g⟩ e Γ (f (L[k]'h)) :=
  fun a w fr ho => by
    have hr0 := hA.ok w0 F w ho
    have hr : w.rangeAt b o [f (L[k]'h)] := by
      intro j v hj
      cases j with
      | zero =>
        simp only [List.getElem?_cons_zero, Option.some.injEq] at hj
        subst hj
        have := hr0 k (f (L[k]'h)) (by rw [hvs]; simp [h])
        rw [ho']
        exact this
      | succ j => simp at hj
    have hload := run_load_at (P := P) (t := ty) (v := f (L[k]'h)) hr (by simp [hsz])
    simp [execOp, hx.ok n a fr, hload]
end Ab
end Go.Proofs.YtglclakhjmogiaaGreat

/- Two operations of a region's end, in either order; rows of whole numbers made and written; a graph in two maps. Program-independent. -/
namespace Go.Proofs.YtglclakhjmogiaaGreat
namespace Ab
open Go Go.RowKit
set_option linter.unusedVariables false
set_option linter.unusedSimpArgs false
section
variable {P : Program} {n : Nat} {w0 : World} {F : Nat → Prop} {ops : List Oper} {m fuel i d : Nat} {done done' : List Bool} {t : TypeId} {pos : String} {aft : Array Edge} {g : Option (Nat × Bool)} {Q : Cont} {e : E} {Γ : List Fact} [Dr]
end

/-- Γ ends as Δ. -/
class Suf (Γ Δ : List Fact) : Prop where
  ok : ∃ R, Γ.Perm (Δ ++ R)
instance (priority := 1000) Suf.hit {Γ : List Fact} : Suf Γ Γ := ⟨[], by simp⟩
instance (priority := 100) Suf.miss {Γ Δ : List Fact} {g : Fact} [h : Suf Γ Δ] : Suf (g :: Γ) Δ :=
  ⟨let ⟨R, hR⟩ := h.ok; ⟨g :: R, (hR.cons g).trans (List.perm_middle.symm)⟩⟩
instance (priority := 10) Sub.suf {Γ Δ : List Fact} [h : Suf Γ Δ] : Sub Γ Δ := ⟨h.ok⟩

abbrev natV (k : Nat) : Value := .int .i64 (k : Int)
instance {k : Nat} : Cel (natV k) [natV k] := ⟨rfl⟩
section
variable {P : Program} {n : Nat} {w0 : World} {F : Nat → Prop} {ops : Array Oper} {i d : Nat} {t : TypeId} {pos : String} {aft : Array Edge} {g : Option (Nat × Bool)} {os : List Oper} {Q : Cont} {e : E} {Γ : List Fact} [Dr]
end
section
variable {P : Program} {n : Nat} {w0 : World} {F : Nat → Prop} {ops : Array Oper} {i d : Nat} {t : TypeId} {pos : String} {aft : Array Edge} {g : Option (Nat × Bool)} {os : List Oper} {Q : Cont} {e : E} {Γ : List Fact}
theorem madeInts (c : Nat) : (madeCells (Value.cells (.int .i64 0)) (c * 1)) = ((List.replicate c 0).map natV).toArray := by
  apply Array.ext
  · simp [size_madeCells]
  · intro i h1 h2
    simp [madeCells, Value.cells, Nat.mod_one]
end
section
variable {P : Program} {n : Nat} {w0 : World} {F : Nat → Prop} {ops : Array Oper} {i d : Nat} {t : TypeId} {pos : String} {aft : Array Edge} {g : Option (Nat × Bool)} {os : List Oper} {Q : Cont} {e : E} {Γ : List Fact} [Dr]
/-- make([]int, l) -/
theorem JR.makeInts {x y : Operand} {kk k2 : IntKind} {j j2 : Int} {l l2 : Nat} {ty el : TypeId} {ed : TypeDesc} {sz by_ : Nat} {z : Value}
    [hx : Ev e x (.int kk j)] [hk : NatI j l] [hy : Ev e y (.int k2 j2)] [hk2 : NatI j2 l2] [hT : Ty P ty (.slice el) sz by_ z] [hE : Ty P el ed 1 8 (.int .i64 0)]
    (hd : Nat.blt d n = true) (he : l = l2) (hl : l ≤ 1073741824)
    (K : ∀ b, JO P n w0 F ops (i + 1) os Q ((d, .slice (some ⟨b, 0, none⟩) l l) :: e) (.own b el ((List.replicate l 0).map natV) :: Γ)) :
    JR P n w0 F ops i ⟨some d, .makeSlice ty x y, t, pos, aft, g⟩ os Q e Γ :=
  JR.value hd fun a w fr ho => by
    subst he
    obtain ⟨ti, hti, hti1, hti2, hti3⟩ := hE.some
    have hj := hk.ok
    have hj2 := hk2.ok
    subst hj hj2
    have hr := run_make (P := P) w ty el ti (.int .i64 0) hT.und hti hti3 kk k2 (l : Int) (l : Int) (by omega) (by omega) (by rw [hti2]; omega) (by omega)
    simp only [Int.toNat_natCast, hti1, madeInts] at hr
    refine ⟨_, w.alloc (.cells ((List.replicate l 0).map natV).toArray el), _, ?_, ho.alloc el ((List.replicate l 0).map natV), K w.heap.size⟩
    simp [execOp, hx.ok n a fr, hy.ok n a fr, hr]
end
end Ab
end Go.Proofs.YtglclakhjmogiaaGreat

/- Contracts: ids.Sort. -/
namespace Go.Proofs.YtglclakhjmogiaaGreat
namespace Ab
open Go Go.RowKit
set_option linter.unusedVariables false
set_option linter.unusedSimpArgs false
set_option synthInstance.maxSize 4000
set_option synthInstance.maxHeartbeats 400000
attribute [local irreducible] JC JO JR JQ andThen inBlock OpV Gives retTo JM JS

theorem sort_ids (w : World) (F : Nat → Prop) (a : Option Addr) (c : Nat) (L : List ID) (h : (sl a c L).holds F w) (hl : L.length ≤ 34359738368) :
    GivesBuf Tryz.prog 31 [.slice a L.length c] w F 47 (sortL (setOf L)) := by
  refine gives_of Tryz.func31 rfl Tryz.ntmps31 rfl rfl [.st (sl a c L)] (.start1 h) ?_
  repeat (first|refine Wa ?_|refine Wb ?_|refine Wc ?_|refine Wd ?_|refine We rfl ?_|refine Wf (by first|exact Va|exact Vb) rfl ?_)
  refine JR.call1 rfl (fun w1 hw => of_ids w1 _ a c L hw.get) ?_
  intro m
  refine JO.more (fun w ho => ho.pubMap) ?_
  repeat (refine We rfl ?_)
  refine JR.callBuf rfl (fun w1 hw => list_ids w1 _ m _ (setOf_nodup L) (Nat.le_trans (setOf_length L) hl) hw.get) ?_
  intro a2 c2
  repeat (first|refine Wa ?_|refine Wd ?_|refine We rfl ?_|refine Wf (by exact Vb) rfl ?_|refine Ws ?_)
  exact CT.done (a2, c2) rfl (fun w ho => ho.ent)
end Ab
end Go.Proofs.YtglclakhjmogiaaGreat

/- dag's graph as two maps; contract of its add. -/
namespace Go.Proofs.YtglclakhjmogiaaGreat
namespace Ab
open Go Go.RowKit
set_option linter.unusedVariables false
set_option linter.unusedSimpArgs false
set_option synthInstance.maxSize 4000
set_option synthInstance.maxHeartbeats 400000
attribute [local irreducible] JC JO JR JQ andThen inBlock OpV Gives retTo JM JS

attribute [local irreducible] ents hashC
/-- A row of a graph: a commit, what it knows, and where its parents and its set lie. -/
abbrev Row := (Commit × List ID) × (Option Addr × Nat × Nat)
def ofM (R : List Row) : List (ID × Value) := R.map fun r => (idC r.1.1, commitV r.1.1 r.2.1 r.2.2.1)
def knM (R : List Row) : List (ID × Value) := R.map fun r => (idC r.1.1, .map (some r.2.2.2))
def grOf (R : List Row) : List (Commit × List ID) := R.map (·.1)
def rowA (r : Row) : List Asn := [sl r.2.1 r.2.2.1 r.1.1.parents, rmap r.2.2.2 (ents idV (sety r.1.2)) r.1.2.length]
/-- What the rows' commits and sets are. -/
def graphA (R : List Row) : Asn where
  holds F w := ∀ r ∈ R, ∀ A ∈ rowA r, A.holds F w
  mono F G w h hh := fun r hr A hA => A.mono F G w h (hh r hr A hA)
  frame F w w' hk h := fun r hr A hA => A.frame F w w' hk (h r hr A hA)
  within F w h := fun r hr A hA => A.within F w (h r hr A hA)
theorem nodes_gr (R : List Row) : nodes (grOf R) = R.map (·.1.1) := by simp [nodes, grOf]
theorem ids_gr (R : List Row) : cids (nodes (grOf R)) = R.map (fun r => idC r.1.1) := by simp [nodes_gr, cids]
theorem ofM_keys (R : List Row) : (ofM R).map (·.1) = cids (nodes (grOf R)) := by simp [ids_gr, ofM]
theorem knM_keys (R : List Row) : (knM R).map (·.1) = cids (nodes (grOf R)) := by simp [ids_gr, knM]
theorem row_of {R : List Row} {p : ID} (hn : (cids (nodes (grOf R))).Nodup) (hp : p ∈ cids (nodes (grOf R))) :
    ∃ r ∈ R, idC r.1.1 = p ∧ gotten (ofM R) p = some (commitV r.1.1 r.2.1 r.2.2.1) ∧ gotten (knM R) p = some (.map (some r.2.2.2)) ∧ knownBy (grOf R) p = r.1.2 := by
  rw [ids_gr] at hp
  obtain ⟨r, hr, he⟩ := List.mem_map.1 hp
  cases hf : R.find? (fun r => decide (idC r.1.1 = p)) with
  | none => exact absurd (List.find?_eq_none.1 hf r hr) (by simpa using he)
  | some q =>
    have h1 := List.find?_some hf
    have h1' : idC q.1.1 = p := by simpa using h1
    have h2 := List.mem_of_find?_eq_some hf
    refine ⟨q, h2, h1', ?_, ?_, ?_⟩
    · simp only [gotten, ofM, List.find?_map, Function.comp_def]
      rw [hf]; rfl
    · simp only [gotten, knM, List.find?_map, Function.comp_def]
      rw [hf]; rfl
    · have := knownBy_of (G := grOf R) hn (g := q.1) (List.mem_map.2 ⟨q, h2, rfl⟩)
      rw [← h1']; exact this
theorem row_none {R : List Row} {p : ID} (hp : p ∉ cids (nodes (grOf R))) : gotten (ofM R) p = none ∧ gotten (knM R) p = none := by
  rw [ids_gr] at hp
  have hf : R.find? (fun r => decide (idC r.1.1 = p)) = none := by
    rw [List.find?_eq_none]
    intro r hr h
    exact hp (List.mem_map.2 ⟨r, hr, by simpa using h⟩)
  constructor
  · simp only [gotten, ofM, List.find?_map, Function.comp_def]
    rw [hf]; rfl
  · simp only [gotten, knM, List.find?_map, Function.comp_def]
    rw [hf]; rfl
theorem upd_new {K : Type} [DecidableEq K] {M : List (K × Value)} {k : K} (v : Value) (h : k ∉ M.map (·.1)) : upd M k v = M ++ [(k, v)] := by
  have : plc M k = none := by
    simp only [plc, List.findIdx?_eq_none_iff, decide_eq_false_iff_not]
    intro p hp e
    exact h (List.mem_map.2 ⟨p, hp, e⟩)
  simp [upd, this]
theorem mem_take_succ {α : Type} {L : List α} {i : Nat} (h : i < L.length) {x : α} : x ∈ L.take (i + 1) ↔ x ∈ L.take i ∨ x = L[i] := by
  rw [List.take_succ_eq_append_getElem h, List.mem_append, List.mem_singleton]
theorem maxGen_snoc (L : List Commit) (ps : List ID) (p : ID) : maxGen L (ps ++ [p]) = max (maxGen L ps) (genAt L p) := by simp [maxGen]
theorem not_ok_of_none {G : List (Commit × List ID)} {c : Commit} {p : ID} (hp : p ∈ c.parents) (h : p ∉ cids (nodes G)) : addOk G c = false := by
  rw [← Bool.not_eq_true, addOk_iff]; exact fun h' => h (h'.1 p hp)
theorem not_ok_of_known {G : List (Commit × List ID)} {c : Commit} {p q : ID} (hp : p ∈ c.parents) (hq : q ∈ c.parents) (h : p ∈ knownBy G q) : addOk G c = false := by
  rw [← Bool.not_eq_true, addOk_iff]; exact fun h' => h'.2 p hp q hq h
theorem graph_row {R : List Row} {F : Nat → Prop} {w : World} (h : (graphA R).holds F w) {r : Row} (hr : r ∈ R) : (sl r.2.1 r.2.2.1 r.1.1.parents).holds F w ∧ (rmap r.2.2.2 (ents idV (sety r.1.2)) r.1.2.length).holds F w :=
  ⟨h r hr _ (by simp [rowA]), h r hr _ (by simp [rowA])⟩
theorem graph_snoc {R : List Row} {F : Nat → Prop} {w : World} (h : (graphA R).holds F w) {c : Commit} {S : List ID} {a : Option Addr} {k b : Nat} (h1 : (sl a k c.parents).holds F w) (h2 : (rmap b (ents idV (sety S)) S.length).holds F w) :
    (graphA (R ++ [((c, S), (a, k, b))])).holds F w := by
  intro r hr A hA
  rcases List.mem_append.1 hr with hr | hr
  · exact h r hr A hA
  · simp only [List.mem_singleton] at hr
    subst hr
    simp only [rowA, List.mem_cons, List.not_mem_nil, or_false] at hA
    rcases hA with rfl | rfl
    · exact h1
    · exact h2
theorem graph_nil {F : Nat → Prop} {w : World} : (graphA []).holds F w := fun r hr => by cases hr
theorem ofM_snoc (R : List Row) (c : Commit) (S : List ID) (a : Option Addr) (k b : Nat) : ofM (R ++ [((c, S), (a, k, b))]) = ofM R ++ [(idC c, commitV c a k)] := by simp [ofM]
theorem knM_snoc (R : List Row) (c : Commit) (S : List ID) (a : Option Addr) (k b : Nat) : knM (R ++ [((c, S), (a, k, b))]) = knM R ++ [(idC c, .map (some b))] := by simp [knM]
theorem grOf_snoc (R : List Row) (c : Commit) (S : List ID) (a : Option Addr) (k b : Nat) : grOf (R ++ [((c, S), (a, k, b))]) = grOf R ++ [(c, S)] := by simp [grOf]
end Ab
end Go.Proofs.YtglclakhjmogiaaGreat

/- A region whose order is open, in which some operations write what the call owns, and others read what these leave: the latter may be taken first. Program-independent. -/
namespace Go.Proofs.YtglclakhjmogiaaGreat
namespace Ab
open Go Go.RowKit
set_option linter.unusedVariables false
set_option linter.unusedSimpArgs false
section
variable {P : Program} {ops : Array Oper} {C : World → Prop} {R : Exit → Act → World → Prop} [Dr]

/-- One operation, which keeps what C tells. -/
def cOp (P : Program) (ops : Array Oper) (C : World → Prop) (i : Nat) (K : Act → World → Prop) (a : Act) (w : World) : Prop :=
  match ops[i]? with
  | none => K a w
  | some o => if Region.wanted o (yielded ops a.tmps) then o.wp P a w (fun a' w' => (C w → C w') ∧ K a' w') noExit else K (a.put o.dst undef) w

/-- Whatever order: all operations keep what C tells. -/
def cAny (P : Program) (ops : Array Oper) (C : World → Prop) (R : Exit → Act → World → Prop) : Nat → Array Bool → Act → World → Prop
  | 0, listed, a, w => Region.ready .any ops listed = [] ∧ R .normal a w
  | fuel + 1, listed, a, w => (Region.ready .any ops listed = [] → R .normal a w) ∧ ∀ i ∈ Region.ready .any ops listed, cOp P ops C i (cAny P ops C R fuel (listed.setIfInBounds i true)) a w

end
section
variable {P : Program} {ops : Array Oper} {C : World → Prop} {R : Exit → Act → World → Prop}
theorem cOp_wp {i : Nat} {K K' : Act → World → Prop} {a : Act} {w : World} (hk : ∀ a w, K a w → K' a w) (h : cOp P ops C i K a w) : wpOp P ops R i K' a w := by
  unfold cOp at h
  unfold wpOp
  split
  · rename_i ho; simp only [ho] at h; exact hk _ _ h
  · rename_i o ho
    simp only [ho] at h
    split
    · rename_i hw; simp only [hw, if_true] at h; exact .inl (noExit_wp (fun a w h => hk a w h.2) h)
    · rename_i hw; simp only [hw] at h; exact hk _ _ h
end
section
variable {P : Program} {ops : Array Oper} {C : World → Prop} {R : Exit → Act → World → Prop} [Dr]

end
section
variable {P : Program} {ops : Array Oper} {C : World → Prop} {R : Exit → Act → World → Prop}
theorem cAny_wp : ∀ (fuel : Nat) (listed : Array Bool) (a : Act) (w : World), cAny P ops C R fuel listed a w → wpAny P .any ops R fuel listed a w
  | 0, _, _, _, h => h
  | fuel + 1, listed, a, w, h => ⟨h.1, fun i hi => cOp_wp (fun a w => cAny_wp fuel _ a w) (h.2 i hi)⟩
end
section
variable {P : Program} {ops : Array Oper} {C : World → Prop} {R : Exit → Act → World → Prop} [Dr]

/-- The operation gives v and leaves all as it is, in every world of the class. -/
def GivesC (P : Program) (ops : Array Oper) (C : World → Prop) (o : Oper) (v : Value) (a : Act) : Prop :=
  Region.wanted o (yielded ops a.tmps) = true ∧ ∀ w, C w → (execOp a.eval o).run P w = .ok (.value v) w

end
section
variable {P : Program} {ops : Array Oper} {C : World → Prop} {R : Exit → Act → World → Prop}
theorem GivesC.cOp {i : Nat} {o : Oper} {v : Value} {a : Act} (hi : ops[i]? = some o) (hy : GivesC P ops C o v a) {K : Act → World → Prop} {w : World} (hC : C w) (h : K (a.put o.dst v) w) : cOp P ops C i K a w := by
  unfold Ab.cOp
  simp only [hi]
  obtain ⟨hw, hv⟩ := hy
  simp only [hw, if_true]
  unfold Oper.wp
  rw [hv w hC]
  exact ⟨fun h => h, h⟩
end
section
variable {P : Program} {ops : Array Oper} {C : World → Prop} {R : Exit → Act → World → Prop} [Dr]

end
section
variable {P : Program} {ops : Array Oper} {C : World → Prop} {R : Exit → Act → World → Prop}
theorem GivesC.same {o : Oper} {v : Value} {a a' : Act} (hy : GivesC P ops C o v a) (he : execOp a'.eval o = execOp a.eval o)
    (hw : Region.wanted o (yielded ops a'.tmps) = Region.wanted o (yielded ops a.tmps)) : GivesC P ops C o v a' := by
  unfold GivesC at *
  rw [he, hw]
  exact hy
end
section
variable {P : Program} {ops : Array Oper} {C : World → Prop} {R : Exit → Act → World → Prop} [Dr]

end
section
variable {P : Program} {ops : Array Oper} {C : World → Prop} {R : Exit → Act → World → Prop}
theorem cOp_put {j : Nat} {oi oj : Oper} {v : Value} (hj : ops[j]? = some oj) (hap : oi.apart ops oj = true)
    (hsi : ∀ cs b, oi.op ≠ .select cs b) (hsj : ∀ cs b, oj.op ≠ .select cs b) {K : Act → World → Prop} {a : Act} {w : World}
    (hw0 : C w) (hy : GivesC P ops C oi v a) (h : cOp P ops C j K (a.put oi.dst v) w) :
    cOp P ops C j (fun a' w' => (C w' ∧ GivesC P ops C oi v a') ∧ K (a'.put oi.dst v) w') a w := by
  obtain ⟨h1, h2, h3⟩ := Oper.apart_spec hap
  have keep : ∀ u, GivesC P ops C oi v (a.put oj.dst u) := fun u => hy.same (execOp_put oi hsi a oj.dst u h3) (wanted_put oi a oj.dst u h3)
  unfold cOp at *
  simp only [hj] at *
  rw [wanted_put oj a oi.dst v h1] at h
  split
  · rename_i hw
    simp only [hw, if_true] at h
    unfold Oper.wp at *
    rw [execOp_put oj hsj a oi.dst v h1] at h
    generalize (execOp a.eval oj).run P w = r at *
    have put : ∀ u w', ((C w → C w') ∧ K ((a.put oi.dst v).put oj.dst u) w') → ((C w → C w') ∧ (C w' ∧ GivesC P ops C oi v (a.put oj.dst u)) ∧ K ((a.put oj.dst u).put oi.dst v) w') :=
      fun u w' hh => ⟨hh.1, ⟨hh.1 hw0, keep u⟩, by rw [← Act.put_comm a v u h2]; exact hh.2⟩
    cases r with
    | ok n w' =>
      cases n <;> simp only [Oper.upon] at h ⊢
      case value u => exact put u _ h
      case skip => exact put undef _ h
      case defer d =>
        have hd : GivesC P ops C oi v ({ a with defers := d :: a.defers } : Act) := hy.same rfl rfl
        refine ⟨h.1, ⟨h.1 hw0, hd.same (execOp_put oi hsi _ oj.dst undef h3) (wanted_put oi _ oj.dst undef h3)⟩, ?_⟩
        rw [← Act.put_comm _ v undef h2, ← Act.put_defers]
        exact h.2
      case enter f args =>
        refine Calls.mono h fun e w'' he => ?_
        cases e with
        | returned u => exact put u _ he
        | panicked c => exact he
        | outgrown => exact he
      case row row args => exact Rows.mono h fun u w'' he => put u _ he
    | halt x w' =>
      cases x <;> simp only [Oper.upon] at h ⊢
      case panic u => exact h
  · rename_i hw
    simp only [hw] at h
    exact ⟨⟨hw0, keep _⟩, by rw [← Act.put_comm a v undef h2]; exact h⟩
end
section
variable {P : Program} {ops : Array Oper} {C : World → Prop} {R : Exit → Act → World → Prop} [Dr]

end
section
variable {P : Program} {ops : Array Oper} {C : World → Prop} {R : Exit → Act → World → Prop}
theorem cOp_mono {i : Nat} {K K' : Act → World → Prop} {a : Act} {w : World} (hk : ∀ a w, K a w → K' a w) (h : cOp P ops C i K a w) : cOp P ops C i K' a w := by
  unfold cOp at *
  split
  · rename_i ho; simp only [ho] at h; exact hk _ _ h
  · rename_i o ho
    simp only [ho] at h
    split
    · rename_i hw; simp only [hw, if_true] at h; exact Oper.wp_mono (fun a w h => ⟨h.1, hk _ _ h.2⟩) h
    · rename_i hw; simp only [hw] at h; exact hk _ _ h
end
section
variable {P : Program} {ops : Array Oper} {C : World → Prop} {R : Exit → Act → World → Prop} [Dr]

end
section
variable {P : Program} {ops : Array Oper} {C : World → Prop} {R : Exit → Act → World → Prop}
theorem cAny_first {i : Nat} {oi : Oper} {v : Value} (hi : ops[i]? = some oi) (hsel : ∀ (j : Nat) (o : Oper) cs b, ops[j]? = some o → o.op ≠ .select cs b) :
    ∀ (fuel : Nat) (listed : Array Bool) (a : Act) (w : World),
      (∀ j oj, ops[j]? = some oj → j ≠ i → listed.getD j true = false → (∀ e ∈ oj.after, Region.binds .any e = true → e.on ≠ i) → oi.apart ops oj = true) →
      i ∈ Region.ready .any ops listed → C w → GivesC P ops C oi v a →
      cAny P ops C R fuel (listed.setIfInBounds i true) (a.put oi.dst v) w → cAny P ops C R (fuel + 1) listed a w := by
  intro fuel
  induction fuel with
  | zero =>
    intro listed a w _ hr hw hy H
    refine ⟨fun h => (by rw [h] at hr; cases hr), fun j hj => ?_⟩
    by_cases hji : j = i
    · subst hji; exact hy.cOp hi hw H
    · have := ready_mono hj hji
      rw [H.1] at this
      cases this
  | succ fuel ih =>
    intro listed a w hfree hr hw hy H
    refine ⟨fun h => (by rw [h] at hr; cases hr), fun j hj => ?_⟩
    by_cases hji : j = i
    · subst hji; exact hy.cOp hi hw H
    · have h1 := H.2 j (ready_mono hj hji)
      obtain ⟨hjun, oj, hoj, hall⟩ := mem_ready.1 hj
      have hnot : ∀ e ∈ oj.after, Region.binds .any e = true → e.on ≠ i := fun e he hb heq => by
        have h1 := hall e he hb
        have h0 := (mem_ready.1 hr).1
        rw [heq] at h1
        rcases Nat.lt_or_ge i listed.size with h' | h'
        · simp [h'] at h0 h1; rw [h0] at h1; cases h1
        · simp [Array.getElem?_eq_none h'] at h1
      have h2 := cOp_put hoj (hfree j oj hoj hji hjun hnot) (fun cs b => hsel i oi cs b hi) (fun cs b => hsel j oj cs b hoj) hw hy h1
      have hfree' : ∀ k ok, ops[k]? = some ok → k ≠ i → (listed.setIfInBounds j true).getD k true = false →
          (∀ e ∈ ok.after, Region.binds .any e = true → e.on ≠ i) → oi.apart ops ok = true := fun k ok hk hki hun hno => by
        refine hfree k ok hk hki ?_ hno
        by_cases hjk : j = k
        · subst hjk; exact hjun
        · rw [getD_set_ne true hjk] at hun; exact hun
      refine cOp_mono (fun a' w' h3 => ih (listed.setIfInBounds j true) a' w' hfree' (ready_mono hr (Ne.symm hji)) h3.1.1 h3.1.2 ?_) h2
      rw [Array.setIfInBounds_comm _ _ hji]
      exact h3.2
end
section
variable {P : Program} {ops : Array Oper} {C : World → Prop} {R : Exit → Act → World → Prop} [Dr]
end

/-- The judgement: as JM, but what all operations keep is told by the facts Δ. -/
def JN [Dr] (P : Program) (n : Nat) (w0 : World) (F : Nat → Prop) (ops : List Oper) (Δ : List Fact) (fuel : Nat) (done : List Bool) (Q : Cont) (e : E) (Γ : List Fact) : Prop :=
  ∀ a w, Fr n e a → Hold w0 F Γ w → cAny P ⟨ops⟩ (Hold w0 F Δ) (up n w0 F Q) fuel ⟨done⟩ a w
section
variable {P : Program} {n : Nat} {w0 : World} {F : Nat → Prop} {ops : List Oper} {Δ : List Fact} {fuel i d : Nat} {done done' : List Bool} {t : TypeId} {pos : String} {aft : Array Edge} {g : Option (Nat × Bool)} {Q : Cont} {e : E} {Γ : List Fact} [Dr]
theorem JC.drawN {id : Nat} (Δ : List Fact) (hm : P.follows .mixedOrders = true) (h : JN P n w0 F ops Δ ops.length (List.replicate ops.length false) Q e Γ) : JC P n w0 F (.region id ⟨ops⟩ true) Q e Γ := by
  intro a w fr ho
  refine wp_region_any hm ?_
  have := cAny_wp _ _ _ _ (h a w.drew fr ho.drew)
  have e1 : (⟨List.replicate ops.length false⟩ : Array Bool) = Array.replicate (⟨ops⟩ : Array Oper).size false := by apply Array.ext'; simp
  rw [← e1]
  exact this
theorem JN.nil (hr : Region.ready .any ⟨ops⟩ ⟨done⟩ = []) (h : Q .normal e Γ) : JN P n w0 F ops Δ fuel done Q e Γ := by
  intro a w fr ho
  cases fuel with
  | zero => exact ⟨hr, e, Γ, h, fr, ho⟩
  | succ fuel => exact ⟨fun _ => ⟨e, Γ, h, fr, ho⟩, by rw [hr]; simp⟩
def takeOkN (ops : List Oper) (done : List Bool) (i : Nat) : Bool :=
  Region.noSelect ⟨ops⟩ && Region.free .any ⟨ops⟩ ⟨done⟩ i && (Region.ready .any ⟨ops⟩ ⟨done⟩).contains i
/-- A quiet operation, whose value what all keep tells, is taken first. -/
theorem JN.take {op : Op} {v : Value} (i : Nat) (hi : ops[i]? = some ⟨some d, op, t, pos, aft, g⟩) (hok : takeOkN ops done i = true) (hg : gtest ops e g = some true) [hs : Sub Γ Δ] (h : OpV P n w0 F ⟨some d, op, t, pos, aft, g⟩ e Δ v) (hd : Nat.blt d n = true)
    (hdone : done.set i true = done') (k : JN P n w0 F ops Δ fuel done' Q ((d, v) :: e) Γ) : JN P n w0 F ops Δ (fuel + 1) done Q e Γ := by
  intro a w fr ho
  simp only [takeOkN, Bool.and_eq_true] at hok
  obtain ⟨⟨h2, h3⟩, h4⟩ := hok
  have hi' : (⟨ops⟩ : Array Oper)[i]? = some ⟨some d, op, t, pos, aft, g⟩ := by simpa using hi
  refine cAny_first hi' (Region.noSelect_spec h2) fuel ⟨done⟩ a w (Region.free_spec hi' h3) (by simpa using h4) (ho.sub hs) ⟨gtest_ok (o := ⟨some d, op, t, pos, aft, g⟩) hg fr, fun w ho => h a w fr ho⟩ ?_
  have := k _ w (fr.put hd v) ho
  rw [← hdone] at this
  simpa using this
theorem JN.reslot (s : Nat) {v : Value} (u : Value) [hs : Lk e s v] (h : v = u) (k : JN P n w0 F ops Δ fuel done Q ((s, u) :: e) Γ) : JN P n w0 F ops Δ fuel done Q e Γ :=
  fun a w fr ho => k a w (fr.again (by rw [← h]; exact hs.ok)) ho
theorem JN.more {Γ' : List Fact} (h : ∀ w, Hold w0 F Γ w → Hold w0 F Γ' w) (k : JN P n w0 F ops Δ fuel done Q e Γ') : JN P n w0 F ops Δ fuel done Q e Γ :=
  fun a w fr ho => k a w fr (h w ho)
/-- An operation, as JR tells it. -/
theorem opN {o : Oper} (i : Nat) (hi : ops[i]? = some o) (hg : gtest ops e o.guard = some true)
    (h : JR P n w0 F ⟨[o]⟩ 0 o [] (fun x e' Γ' => x = .normal ∧ Sub Γ' Δ ∧ JN P n w0 F ops Δ fuel (done.set i true) Q e' Γ') e Γ) (a : Act) (w : World) (fr : Fr n e a) (ho : Hold w0 F Γ w) :
    cOp P ⟨ops⟩ (Hold w0 F Δ) i (cAny P ⟨ops⟩ (Hold w0 F Δ) (up n w0 F Q) fuel ((⟨done⟩ : Array Bool).setIfInBounds i true)) a w := by
  have hi' : (⟨ops⟩ : Array Oper)[i]? = some o := by simpa using hi
  unfold cOp
  simp only [hi']
  rw [if_pos (gtest_ok hg fr)]
  have h1 := h rfl a w fr ho
  have key : ∀ (K K' : Act → World → Prop) (Q1 Q2 : Exit → Act → World → Prop), (∀ a w, K a w → K' a w) → (∀ x a w, Q1 x a w → x = .normal) → o.wp P a w K Q1 → o.wp P a w K' Q2 := by
    intro K K' Q1 Q2 hk hq hh
    have hh' := Oper.wp_mono (P := P) hk hh
    unfold Oper.wp at *
    generalize (execOp a.eval o).run P w = r at *
    cases r with
    | ok n w' =>
      cases n <;> simp only [Oper.upon] at hh' ⊢ <;> first | exact hh' | skip
      refine Calls.mono hh' fun e w'' he => ?_
      cases e with
      | returned v => exact he
      | panicked c => have := hq _ _ _ he; cases this
      | outgrown => obtain ⟨_, _, h⟩ := he; have := hq _ _ _ h; cases this
    | halt x w' => cases x <;> simp only [Oper.upon] at hh' ⊢ <;> first | exact hh' | (have := hq _ _ _ hh'; cases this)
  refine key _ _ _ _ (fun a' w' hk => ?_) ?_ h1
  · simp only [List.range'_zero, List.length_nil, wpOps] at hk
    obtain ⟨e', Γ', ⟨_, hs, hj⟩, fr', ho'⟩ := hk
    have := hj a' w' fr' ho'
    exact ⟨fun _ => ho'.sub hs, by simpa using this⟩
  · rintro x a w ⟨e', Γ', ⟨hx, _⟩, _⟩
    exact hx
theorem JN.op {o : Oper} (i : Nat) (hr : Region.ready .any ⟨ops⟩ ⟨done⟩ = [i]) (hi : ops[i]? = some o) (hg : gtest ops e o.guard = some true)
    (h : JR P n w0 F ⟨[o]⟩ 0 o [] (fun x e' Γ' => x = .normal ∧ Sub Γ' Δ ∧ JN P n w0 F ops Δ fuel (done.set i true) Q e' Γ') e Γ) : JN P n w0 F ops Δ (fuel + 1) done Q e Γ := by
  intro a w fr ho
  refine ⟨fun h0 => ?_, fun j hj => ?_⟩
  · rw [h0] at hr; cases hr
  · rw [hr] at hj
    simp only [List.mem_singleton] at hj; subst hj
    exact opN j hi hg h a w fr ho
end
end Ab
end Go.Proofs.YtglclakhjmogiaaGreat

/- Contract of dag's graph.add. -/
namespace Go.Proofs.YtglclakhjmogiaaGreat
namespace Ab
open Go Go.RowKit
set_option linter.unusedVariables false
set_option linter.unusedSimpArgs false
set_option synthInstance.maxSize 4000
set_option synthInstance.maxHeartbeats 400000
attribute [local irreducible] JC JO JR JQ andThen inBlock OpV Gives retTo JM JS

attribute [local irreducible] JN
attribute [local irreducible] ents hashC graphA
abbrev AddY (R : List Row) (c : Commit) := { y : List ID × Nat × Bool // y.2.2 = (addOk (grOf R) c && addGen (grOf R) c) ∧ (y.2.2 = true → y.1.Nodup ∧ isKnown (grOf R) c y.1) }
abbrev addB (bo bk : Nat) (R : List Row) (c : Commit) (a : Option Addr) (k : Nat) (Γ : List Fact) (S : List ID) (ba : Nat) : List Fact :=
  .omap bo (ents idV (ofM (R ++ [((c, S), (a, k, ba))]))) (ofM (R ++ [((c, S), (a, k, ba))])).length :: .omap bk (ents idV (knM (R ++ [((c, S), (a, k, ba))]))) (knM (R ++ [((c, S), (a, k, ba))])).length :: .st (graphA (R ++ [((c, S), (a, k, ba))])) :: Γ
set_option maxHeartbeats 4000000 in
theorem add_graph {w0 w : World} {F : Nat → Prop} {Γ : List Fact} {bo bk : Nat} {R : List Row} {c : Commit} {a : Option Addr} {k : Nat}
    (hn : (cids (nodes (grOf R))).Nodup) (hS : ∀ r ∈ R, r.1.2.Nodup) (hnew : idC c ∉ cids (nodes (grOf R))) (hg : ∀ r ∈ R, 0 ≤ r.1.1.gen ∧ r.1.1.gen ≤ 1048576)
    (ho : Hold w0 F (.omap bo (ents idV (ofM R)) (ofM R).length :: .omap bk (ents idV (knM R)) (knM R).length :: .st (graphA R) :: .st (sl a k c.parents) :: Γ) w) :
    Calls Tryz.prog 109 ⟨[.agg ⟨[.map (some bo), .map (some bk)]⟩, .agg ⟨idc (idC c)⟩, commitV c a k]⟩ w fun x w' =>
      ∃ y : AddY R c, x = .returned (.bool y.1.2.2) ∧ Hold w0 F (if y.1.2.2 = true then addB bo bk R c a k Γ y.1.1 y.1.2.1 else Γ) w' := by
  have hpl : c.parents.length < 9223372036854775807 := by
    have h1 : (sl a k c.parents).holds _ w := ho.sat (.st (sl a k c.parents)) (by simp)
    have := h1.2.2.1; simp only [lim] at this; omega
  have hkO : ((ofM R).map (·.1)).Nodup := by rw [ofM_keys]; exact hn
  have hkK : ((knM R).map (·.1)).Nodup := by rw [knM_keys]; exact hn
  refine calls_of (v := fun y : AddY R c => .bool y.1.2.2) (B := fun y => if y.1.2.2 = true then addB bo bk R c a k Γ y.1.1 y.1.2.1 else Γ) Tryz.func109 rfl Tryz.ntmps109 rfl rfl _ ho ?_
  repeat (first|refine Wa ?_|refine Wb ?_|refine Wc ?_|refine Wd ?_|refine We rfl ?_|refine Wf (by exact Vb) rfl ?_|(refine Wh rfl ?_; intro _))
  rename_i b3 b4 b5
  refine JR.makeSet idV rfl ?_
  intro ba
  repeat (first|refine Wa ?_|refine Wb ?_|refine Wc ?_|refine Wd ?_|refine We rfl ?_|refine Wf (by first|exact Va|exact Vb|exact Vc|exact Vd|exact Vf) rfl ?_|refine Wn ?_)
  refine JC.loop3 (fun (i : Nat) (A : List ID) (g : Int) => [(3, .pointer (some ⟨b3, 0, none⟩)), (4, .pointer (some ⟨b4, 0, none⟩)), (5, .pointer (some ⟨b5, 0, none⟩)), (7, .int .i64 g), (8, .map (some ba)), (20, .slice a c.parents.length k), (21, .int .i64 (c.parents.length : Int)), (22, .int .i64 (i : Int))])
    (fun i A g => .omap bo (ents idV (ofM R)) (ofM R).length :: .omap bk (ents idV (knM R)) (knM R).length :: .own b3 80 [.map (some bo), .map (some bk)] :: .own b4 47 (idc (idC c)) :: .own b5 34 [.int .i64 c.ev.node, .int .i64 c.ev.seq, .int .i64 c.gen, .slice a c.parents.length k, .int .i64 c.op.kind, .string c.op.key, .string c.op.elem, .int .i64 c.op.n] :: .omap ba (ents idV (sety A)) A.length :: .st (graphA R) :: .st (sl a k c.parents) :: Γ)
    (fun i A g => i ≤ c.parents.length ∧ A.Nodup ∧ (∀ p ∈ c.parents.take i, p ∈ cids (nodes (grOf R))) ∧ (∀ x, x ∈ A ↔ ∃ p ∈ c.parents.take i, x ∈ knownBy (grOf R) p) ∧ g = maxGen (nodes (grOf R)) (c.parents.take i) ∧ 0 ≤ g ∧ g ≤ 1048576)
    (fun i _ _ => c.parents.length - i) 0 [] 0 ⟨Nat.zero_le _, List.nodup_nil, by simp, by simp, by simp [maxGen], by decide, by decide⟩ inferInstance ?_
  intro i A g ⟨hi, hA, hin, hmem, hmax, hg0, hg1⟩
  repeat (first|refine Wa ?_|refine Wb ?_|refine Wc ?_|refine Wd ?_|refine We rfl ?_|refine Wf (by exact Vg) rfl ?_)
  refine JC.test (fun hlt => ?_) (fun hge => ?_)
  · have hlt' : i < c.parents.length := by omega
    repeat (first|refine Wa ?_|refine Wb ?_|refine Wc ?_|refine We rfl ?_|refine Wl ?_|refine Wn ?_)
    refine JR.indexID rfl hlt' ?_
    intro bp op
    repeat (first|refine Wa ?_|refine Wb ?_|refine Wc ?_|refine Wd ?_|refine We rfl ?_|refine Wf (by first|exact Vc|exact Vd) rfl ?_|(refine Wg rfl ?_; intro _)|refine Wi ?_)
    have hpm : c.parents[i] ∈ c.parents := List.getElem_mem hlt'
    by_cases hin' : c.parents[i] ∈ cids (nodes (grOf R))
    · obtain ⟨r, hr, hre, hgo, hgk, hkn⟩ := row_of hn hin'
      have hga : genAt (nodes (grOf R)) c.parents[i] = r.1.1.gen := by
        rw [← hre]; exact genAt_of hn (by rw [nodes_gr]; exact List.mem_map.2 ⟨r, hr, rfl⟩)
      obtain ⟨hr0, hr1⟩ := hg r hr
      refine Wf (OpV.lookupOk (M := ofM R) (v := commitV r.1.1 r.2.1 r.2.2.1) (is := true) c.parents[i] hkO (by rw [hgo]; rfl) (by rw [hgo]; rfl)) rfl ?_
      repeat (first|refine Wa ?_|refine Wb ?_|refine Wc ?_|refine Wd ?_|refine We rfl ?_|refine Wf (by first|exact Va|exact Vb|exact Vc|exact Vh|exact Vq) rfl ?_|(refine Wg rfl ?_; intro _)|refine Wi ?_)
      refine Wf (OpV.setHas (L := A) c.parents[i] hA) rfl ?_
      repeat (first|refine Wa ?_|refine Wd ?_|refine We rfl ?_|refine Wf (by exact Vj) rfl ?_)
      refine JC.test (fun hy => ?_) (fun hno => ?_)
      · obtain ⟨q, hq, hqk⟩ := (hmem _).1 (by simpa using hy)
        repeat (first|refine Wa ?_|refine Wb ?_|refine Wc ?_|refine Wd ?_|refine We rfl ?_|refine Wf (by exact Vb) rfl ?_|refine Ws ?_|refine Wt ?_|refine Wu ?_)
        exact CT.done ⟨([], 0, false), by rw [not_ok_of_known hpm (List.mem_of_mem_take hq) hqk]; rfl, by simp⟩ rfl (fun w ho => (ho.ent : Hold w0 F Γ w))
      · repeat (first|refine Wa ?_|refine Wb ?_|refine Wc ?_|refine We rfl ?_|refine Wf (by first|exact Va|exact Vc|exact Vd) rfl ?_|refine Wl ?_)
        refine Wf OpV.max rfl ?_
        repeat (first|refine Wa ?_|refine Wb ?_|refine Wc ?_|refine Wd ?_|refine We rfl ?_|refine Wf (by first|exact Vb|exact Vc|exact Vd) rfl ?_)
        refine Wf (OpV.lookupNo (M := knM R) (v := .map (some r.2.2.2)) c.parents[i] hkK (by rw [hgk]; rfl)) rfl ?_
        refine JO.more (fun w1 ho => ho.add (A := rmap r.2.2.2 (ents idV (sety r.1.2)) r.1.2.length) (graph_row (ho.get (A := graphA R)) hr).2) ?_
        refine We rfl ?_
        refine JR.rangeS rfl ?_
        intro ri
        repeat (first|refine Wa ?_|refine Wd ?_|refine Wn ?_)
        refine JC.loop2 (fun (S : List Nat) (A' : List ID) => [(3, .pointer (some ⟨b3, 0, none⟩)), (4, .pointer (some ⟨b4, 0, none⟩)), (5, .pointer (some ⟨b5, 0, none⟩)), (7, .int .i64 (max g r.1.1.gen)), (8, .map (some ba)), (20, .slice a c.parents.length k), (21, .int .i64 (c.parents.length : Int)), (22, .int .i64 (i : Int)), (48, .pointer (some ⟨ri, 0, none⟩))])
          (fun S A' => .omap bo (ents idV (ofM R)) (ofM R).length :: .omap bk (ents idV (knM R)) (knM R).length :: .own b3 80 [.map (some bo), .map (some bk)] :: .own b4 47 (idc (idC c)) :: .own b5 34 [.int .i64 c.ev.node, .int .i64 c.ev.seq, .int .i64 c.gen, .slice a c.parents.length k, .int .i64 c.op.kind, .string c.op.key, .string c.op.elem, .int .i64 c.op.n] :: .omap ba (ents idV (sety A')) A'.length :: .obj ri (.mapIter (some r.2.2.2) r.1.2.length S.toArray r.1.2.length) :: .st (rmap r.2.2.2 (ents idV (sety r.1.2)) r.1.2.length) :: .st (graphA R) :: .st (sl a k c.parents) :: Γ)
          (fun S A' => S.Nodup ∧ (∀ j ∈ S, j < r.1.2.length) ∧ A'.Nodup ∧ ∀ x, x ∈ A' ↔ x ∈ A ∨ ∃ j ∈ S, r.1.2[j]? = some x)
          (fun S _ => r.1.2.length - S.length) [] A ⟨List.nodup_nil, by simp, hA, by simp⟩ inferInstance ?_
        intro S A' ⟨hS1, hS2, hA', hmem'⟩
        have hSl : S.length ≤ r.1.2.length := nodup_le hS1 hS2
        repeat (first|refine Wb ?_|refine Wc ?_|refine We rfl ?_)
        refine JR.nextS rfl hS2 (fun hall => ?_) (fun j hj hjS => ?_)
        · repeat (first|refine Wa ?_|refine Wb ?_|refine Wc ?_|refine Wd ?_|refine We rfl ?_|refine Wf (by first|exact Va|exact Vk (by omega)|exact Vq) rfl ?_|refine Wk ?_|refine Wm ?_|refine Wo ?_|refine Wp ?_|refine Wr ?_)
          refine ⟨i + 1, A', max g r.1.1.gen, ⟨by omega, hA', fun p hp => ?_, fun x => ?_, ?_, by omega, by omega⟩, by omega, inferInstance⟩
          · rcases (mem_take_succ hlt').1 hp with hp | rfl
            · exact hin p hp
            · exact hin'
          · rw [hmem', hmem]
            constructor
            · rintro (⟨q, hq, hx⟩ | ⟨j, hj, hx⟩)
              · exact ⟨q, (mem_take_succ hlt').2 (.inl hq), hx⟩
              · exact ⟨c.parents[i], (mem_take_succ hlt').2 (.inr rfl), by rw [hkn]; exact List.mem_of_getElem? hx⟩
            · rintro ⟨q, hq, hx⟩
              rcases (mem_take_succ hlt').1 hq with hq | rfl
              · exact .inl ⟨q, hq, hx⟩
              · rw [hkn] at hx
                obtain ⟨j, hj, rfl⟩ := List.getElem_of_mem hx
                exact .inr ⟨j, hall j hj, List.getElem?_eq_getElem hj⟩
          · rw [List.take_succ_eq_append_getElem hlt', maxGen_snoc, ← hmax, hga]
        · repeat (first|refine Wa ?_|refine Wb ?_|refine Wc ?_|refine Wd ?_|refine We rfl ?_|refine Wf (by exact Vq) rfl ?_|refine Wj ?_|refine Wl ?_|refine Wn ?_)
          refine Wf (OpV.entryS hj) rfl ?_
          repeat (first|refine Wa ?_|refine Wc ?_|refine Wd ?_|refine We rfl ?_|refine Wf (by first|exact Va|exact Vc|exact Vq) rfl ?_|(refine Wg rfl ?_; intro _)|refine Wi ?_)
          refine JR.setAdd r.1.2[j] hA' ?_
          have hS3 : (S ++ [j]).Nodup := List.nodup_append.2 ⟨hS1, by simp, fun x hx y hy => by simp at hy; subst hy; exact fun e => hjS (e ▸ hx)⟩
          have hS4 : ∀ i ∈ S ++ [j], i < r.1.2.length := fun i hi => by
            rcases List.mem_append.1 hi with hi | hi
            · exact hS2 i hi
            · simp at hi; subst hi; exact hj
          have hlt2 := nodup_le hS3 hS4
          repeat (first|refine Wa ?_|refine Wd ?_|refine Wr ?_)
          refine ⟨S ++ [j], addK A' r.1.2[j], ⟨hS3, hS4, addK_nodup hA' _, fun x => ?_⟩, by simp at hlt2 ⊢; omega, inferInstance⟩
          rw [mem_addK, hmem']
          constructor
          · rintro ((h | ⟨q, hq, hx⟩) | rfl)
            · exact .inl h
            · exact .inr ⟨q, by simp [hq], hx⟩
            · exact .inr ⟨j, by simp, List.getElem?_eq_getElem hj⟩
          · rintro (h | ⟨q, hq, hx⟩)
            · exact .inl (.inl h)
            · rcases List.mem_append.1 hq with hq | hq
              · exact .inl (.inr ⟨q, hq, hx⟩)
              · simp at hq; subst hq
                rw [List.getElem?_eq_getElem hj] at hx
                injection hx with hx
                exact .inr hx.symm
    · obtain ⟨hgo, hgk⟩ := row_none hin'
      refine Wf (OpV.lookupOk (M := ofM R) (v := .agg ⟨[.int .i64 0, .int .i64 0, .int .i64 0, .slice none 0 0, .int .i64 0, .string .empty, .string .empty, .int .i64 0]⟩) (is := false) c.parents[i] hkO (by rw [hgo]; rfl) (by rw [hgo]; rfl)) rfl ?_
      repeat (first|refine Wa ?_|refine Wb ?_|refine Wc ?_|refine Wd ?_|refine We rfl ?_|refine Wf (by first|exact Va|exact Vb|exact Vh|exact Vi|exact Vq) rfl ?_|(refine Wg rfl ?_; intro _)|refine Wi ?_|refine Wj ?_|refine Ws ?_|refine Wt ?_|refine Wu ?_|refine Wv rfl rfl ?_)
      exact CT.done ⟨([], 0, false), by rw [not_ok_of_none hpm hin']; rfl, by simp⟩ rfl (fun w ho => (ho.ent : Hold w0 F Γ w))
  · obtain rfl : i = c.parents.length := by omega
    rw [List.take_length] at hin hmem hmax
    repeat (first|refine Wa ?_|refine Wb ?_|refine Wc ?_|refine Wd ?_|refine We rfl ?_|refine Wf (by first|exact Va|exact Vc|exact Vd|exact Vf) rfl ?_|refine Wm ?_|refine Wn ?_|refine Wo ?_|refine Wp ?_)
    refine JC.loop1 (fun (i : Nat) => [(3, .pointer (some ⟨b3, 0, none⟩)), (4, .pointer (some ⟨b4, 0, none⟩)), (5, .pointer (some ⟨b5, 0, none⟩)), (7, .int .i64 g), (8, .map (some ba)), (57, .slice a c.parents.length k), (58, .int .i64 (c.parents.length : Int)), (59, .int .i64 (i : Int))])
      (fun i => .omap bo (ents idV (ofM R)) (ofM R).length :: .omap bk (ents idV (knM R)) (knM R).length :: .own b3 80 [.map (some bo), .map (some bk)] :: .own b4 47 (idc (idC c)) :: .own b5 34 [.int .i64 c.ev.node, .int .i64 c.ev.seq, .int .i64 c.gen, .slice a c.parents.length k, .int .i64 c.op.kind, .string c.op.key, .string c.op.elem, .int .i64 c.op.n] :: .omap ba (ents idV (sety A)) A.length :: .st (graphA R) :: .st (sl a k c.parents) :: Γ)
      (fun i => i ≤ c.parents.length ∧ ∀ p ∈ c.parents.take i, p ∉ A) (fun i => c.parents.length - i) 0 ⟨Nat.zero_le _, by simp⟩ inferInstance ?_
    intro i ⟨hi, hfree⟩
    repeat (first|refine Wa ?_|refine Wb ?_|refine Wc ?_|refine Wd ?_|refine We rfl ?_|refine Wf (by exact Vg) rfl ?_)
    refine JC.test (fun hlt => ?_) (fun hge => ?_)
    · have hlt' : i < c.parents.length := by omega
      repeat (first|refine Wa ?_|refine Wb ?_|refine Wc ?_|refine We rfl ?_|refine Wl ?_|refine Wn ?_)
      refine JR.indexID rfl hlt' ?_
      intro bp op
      repeat (first|refine Wa ?_|refine Wb ?_|refine Wc ?_|refine Wd ?_|refine We rfl ?_|refine Wf (by first|exact Va|exact Vc) rfl ?_|(refine Wg rfl ?_; intro _)|refine Wi ?_)
      refine Wf (OpV.setHas (L := A) c.parents[i] hA) rfl ?_
      repeat (first|refine Wa ?_|refine Wd ?_)
      refine JC.test (fun hy => ?_) (fun hno => ?_)
      · obtain ⟨q, hq, hqk⟩ := (hmem _).1 (by simpa using hy)
        repeat (first|refine Wa ?_|refine Wb ?_|refine Wc ?_|refine Wd ?_|refine We rfl ?_|refine Wf (by exact Vb) rfl ?_|refine Ws ?_|refine Wt ?_|refine Wu ?_)
        exact CT.done ⟨([], 0, false), by rw [not_ok_of_known (List.getElem_mem hlt') hq hqk]; rfl, by simp⟩ rfl (fun w ho => (ho.ent : Hold w0 F Γ w))
      · repeat (first|refine Wa ?_|refine Wc ?_|refine Wd ?_|refine We rfl ?_|refine Wf (by first|exact Va|exact Vk (by omega)) rfl ?_|refine Wl ?_|refine Wr ?_)
        refine ⟨i + 1, ⟨by omega, fun p hp => ?_⟩, by omega, inferInstance⟩
        rcases (mem_take_succ hlt').1 hp with hp | rfl
        · exact hfree p hp
        · simpa using hno
    · obtain rfl : i = c.parents.length := by omega
      rw [List.take_length] at hfree
      have hok : addOk (grOf R) c = true := (addOk_iff _ _).2 ⟨hin, fun p hp q hq hk => hfree p hp ((hmem p).2 ⟨q, hq, hk⟩)⟩
      repeat (first|refine Wa ?_|refine Wb ?_|refine Wc ?_|refine Wd ?_|refine We rfl ?_|refine Wf (by first|exact Va|exact Vc|exact Vd|exact Vf) rfl ?_|refine Wm ?_|refine Wn ?_|refine Wo ?_|refine Wp ?_)
      refine JC.loop2 (fun (i : Nat) (A' : List ID) => [(3, .pointer (some ⟨b3, 0, none⟩)), (4, .pointer (some ⟨b4, 0, none⟩)), (5, .pointer (some ⟨b5, 0, none⟩)), (7, .int .i64 g), (8, .map (some ba)), (68, .slice a c.parents.length k), (69, .int .i64 (c.parents.length : Int)), (70, .int .i64 (i : Int))])
        (fun i A' => .omap bo (ents idV (ofM R)) (ofM R).length :: .omap bk (ents idV (knM R)) (knM R).length :: .own b3 80 [.map (some bo), .map (some bk)] :: .own b4 47 (idc (idC c)) :: .own b5 34 [.int .i64 c.ev.node, .int .i64 c.ev.seq, .int .i64 c.gen, .slice a c.parents.length k, .int .i64 c.op.kind, .string c.op.key, .string c.op.elem, .int .i64 c.op.n] :: .omap ba (ents idV (sety A')) A'.length :: .st (graphA R) :: .st (sl a k c.parents) :: Γ)
        (fun i A' => i ≤ c.parents.length ∧ A'.Nodup ∧ ∀ x, x ∈ A' ↔ x ∈ A ∨ x ∈ c.parents.take i) (fun i _ => c.parents.length - i) 0 A ⟨Nat.zero_le _, hA, by simp⟩ inferInstance ?_
      intro i A' ⟨hi, hA', hmem'⟩
      repeat (first|refine Wa ?_|refine Wb ?_|refine Wc ?_|refine Wd ?_|refine We rfl ?_|refine Wf (by exact Vg) rfl ?_)
      refine JC.test (fun hlt => ?_) (fun hge => ?_)
      · have hlt' : i < c.parents.length := by omega
        repeat (first|refine Wa ?_|refine Wb ?_|refine Wc ?_|refine We rfl ?_|refine Wl ?_|refine Wn ?_)
        refine JR.indexID rfl hlt' ?_
        intro bp op
        repeat (first|refine Wa ?_|refine Wc ?_|refine Wd ?_|refine We rfl ?_|refine Wf (by first|exact Va|exact Vc) rfl ?_|(refine Wg rfl ?_; intro _)|refine Wi ?_)
        refine JR.setAdd c.parents[i] hA' ?_
        repeat (first|refine Wa ?_|refine Wc ?_|refine Wd ?_|refine We rfl ?_|refine Wf (by first|exact Va|exact Vk (by omega)) rfl ?_|refine Wr ?_)
        refine ⟨i + 1, addK A' c.parents[i], ⟨by omega, addK_nodup hA' _, fun x => ?_⟩, by omega, inferInstance⟩
        rw [mem_addK, hmem', mem_take_succ hlt', or_assoc]
      · obtain rfl : i = c.parents.length := by omega
        rw [List.take_length] at hmem'
        repeat (first|refine Wa ?_|refine Wb ?_|refine Wm ?_|refine Wo ?_|refine Wp ?_)
        have hkn : isKnown (grOf R) c A' := fun x => by
          rw [hmem', hmem]
          constructor
          · rintro (⟨q, hq, hx⟩ | h)
            · exact ⟨q, hq, .inr hx⟩
            · exact ⟨x, h, .inl rfl⟩
          · rintro ⟨q, hq, (rfl | hx)⟩
            · exact .inr hq
            · exact .inl ⟨q, hq, hx⟩
        have eO : upd (ofM R) (idC c) (.agg ⟨[.int .i64 c.ev.node, .int .i64 c.ev.seq, .int .i64 c.gen, .slice a c.parents.length k, .int .i64 c.op.kind, .string c.op.key, .string c.op.elem, .int .i64 c.op.n]⟩) = ofM (R ++ [((c, A'), (a, k, ba))]) := by
          rw [upd_new _ (by rw [ofM_keys]; exact hnew), ofM_snoc]
        have eK : upd (knM R) (idC c) (.map (some ba)) = knM (R ++ [((c, A'), (a, k, ba))]) := by
          rw [upd_new _ (by rw [knM_keys]; exact hnew), knM_snoc]
        refine JC.drawN [.own b3 80 [.map (some bo), .map (some bk)], .own b4 47 (idc (idC c)), .own b5 34 [.int .i64 c.ev.node, .int .i64 c.ev.seq, .int .i64 c.gen, .slice a c.parents.length k, .int .i64 c.op.kind, .string c.op.key, .string c.op.elem, .int .i64 c.op.n]] mixed ?_
        refine JN.take 0 rfl (by kernel_rfl) rfl Vd rfl rfl ?_
        refine JN.take 1 rfl (by kernel_rfl) rfl Vc rfl rfl ?_
        refine JN.take 2 rfl (by kernel_rfl) rfl Vc rfl rfl ?_
        refine JN.take 3 rfl (by kernel_rfl) rfl Vd rfl rfl ?_
        refine JN.take 4 rfl (by kernel_rfl) rfl Vc rfl rfl ?_
        refine JN.take 5 rfl (by kernel_rfl) rfl Vc rfl rfl ?_
        refine JN.take 6 rfl (by kernel_rfl) rfl Vc rfl rfl ?_
        refine JN.take 7 rfl (by kernel_rfl) rfl Va rfl rfl ?_
        refine JN.op 8 (by kernel_rfl) rfl rfl (JR.mapUpdate_ (M := ofM R) (k := idC c) (.inl rfl) hkO (Wd ⟨rfl, inferInstance, ?_⟩))
        refine JN.op 9 (by kernel_rfl) rfl rfl (JR.mapUpdate_ (M := knM R) (k := idC c) (.inl rfl) hkK (Wd ⟨rfl, inferInstance, ?_⟩))
        refine JN.nil (by kernel_rfl) ?_
        rw [eO, eK]
        repeat (first|refine Wa ?_|refine Wb ?_|refine Wc ?_|refine Wd ?_|refine We rfl ?_|refine Wf (by first|exact Va|exact Vb|exact Vc|exact Vd|exact Vl|exact Vt (by omega)) rfl ?_|refine Ws ?_)
        refine CT.done ⟨(A', ba, decide (c.gen = g + 1)), by rw [hok, hmax]; rfl, fun _ => ⟨hA', hkn⟩⟩ rfl (fun w ho => ?_)
        have h1 : Hold _ _ (.omap ba (ents idV (sety A')) A'.length :: .omap bo (ents idV (ofM (R ++ [((c, A'), (a, k, ba))]))) (ofM (R ++ [((c, A'), (a, k, ba))])).length :: .omap bk (ents idV (knM (R ++ [((c, A'), (a, k, ba))]))) (knM (R ++ [((c, A'), (a, k, ba))])).length :: .st (graphA R) :: .st (sl a k c.parents) :: Γ) w := ho.ent
        have h2 := h1.pubMap
        have h3 := h2.add (graph_snoc (S := A') (h2.get (A := graphA R)) (h2.get (A := sl a k c.parents)) (h2.get (A := rmap ba (ents idV (sety A')) A'.length)))
        by_cases hb : c.gen = g + 1
        · rw [if_pos (by simpa using hb)]; exact h3.ent
        · rw [if_neg (by simpa using hb)]; exact h3.ent
end Ab
end Go.Proofs.YtglclakhjmogiaaGreat

/- Contract of dag's graph.events. -/
namespace Go.Proofs.YtglclakhjmogiaaGreat
namespace Ab
open Go Go.RowKit
set_option linter.unusedVariables false
set_option linter.unusedSimpArgs false
set_option synthInstance.maxSize 4000
set_option synthInstance.maxHeartbeats 400000
attribute [local irreducible] JC JO JR JQ andThen inBlock OpV Gives retTo JM JS

attribute [local irreducible] ents hashC graphA
/-- Two commits of one node, of which the second one stands behind, or is told by the first one. -/
def evBad (r s : Row) : Bool := decide (idC r.1.1 ≠ idC s.1.1) && decide (r.1.1.ev.node = s.1.1.ev.node) && (decide (r.1.1.ev.seq = s.1.1.ev.seq) || (decide (s.1.1.ev.seq < r.1.1.ev.seq) && decide (idC s.1.1 ∉ r.1.2)))
def evG (R : List Row) : Bool := R.all fun r => R.all fun s => !evBad r s
theorem ofM_get (R : List Row) (j : Nat) (h : j < (ofM R).length) : (ofM R)[j] = (idC (R[j]'(by simpa [ofM] using h)).1.1, commitV (R[j]'(by simpa [ofM] using h)).1.1 (R[j]'(by simpa [ofM] using h)).2.1 (R[j]'(by simpa [ofM] using h)).2.2.1) := by simp [ofM]
theorem ofM_length (R : List Row) : (ofM R).length = R.length := by simp [ofM]
theorem evG_false {R : List Row} {r s : Row} (hr : r ∈ R) (hs : s ∈ R) (h : evBad r s = true) : evG R = false := by
  rw [← Bool.not_eq_true]
  intro he
  have := List.all_eq_true.1 (List.all_eq_true.1 he r hr) s hs
  rw [h] at this; cases this
set_option maxHeartbeats 4000000 in
theorem events_graph (w : World) (F : Nat → Prop) (bo bk : Nat) (R : List Row) (hn : (cids (nodes (grOf R))).Nodup) (hS : ∀ r ∈ R, r.1.2.Nodup)
    (h1 : (rmap bo (ents idV (ofM R)) (ofM R).length).holds F w) (h2 : (rmap bk (ents idV (knM R)) (knM R).length).holds F w) (h3 : (graphA R).holds F w) :
    GivesV Tryz.prog 110 [.agg ⟨[.map (some bo), .map (some bk)]⟩] w F (.bool (evG R)) := by
  have hkK : ((knM R).map (·.1)).Nodup := by rw [knM_keys]; exact hn
  refine gives_of Tryz.func110 rfl Tryz.ntmps110 rfl rfl [.st (rmap bo (ents idV (ofM R)) (ofM R).length), .st (rmap bk (ents idV (knM R)) (knM R).length), .st (graphA R)] (.start3 h1 h2 h3) ?_
  repeat (first|refine Wa ?_|refine Wb ?_|refine Wc ?_|refine Wd ?_|refine We rfl ?_|refine Wf (by first|exact Vb|exact Vc|exact Vd) rfl ?_|(refine Wh rfl ?_; intro _))
  rename_i bg
  refine JR.range (M := ofM R) rfl ?_
  intro r1
  repeat (first|refine Wa ?_|refine Wd ?_|refine Wn ?_)
  refine JC.loop1 (fun (S : List Nat) => [(1, .pointer (some ⟨bg, 0, none⟩)), (9, .pointer (some ⟨r1, 0, none⟩))])
    (fun S => [.obj r1 (.mapIter (some bo) (ofM R).length S.toArray (ofM R).length), .own bg 80 [.map (some bo), .map (some bk)], .st (rmap bo (ents idV (ofM R)) (ofM R).length), .st (rmap bk (ents idV (knM R)) (knM R).length), .st (graphA R)])
    (fun S => S.Nodup ∧ (∀ j ∈ S, j < (ofM R).length) ∧ ∀ j ∈ S, ∀ hj : j < R.length, ∀ s ∈ R, evBad R[j] s = false) (fun S => (ofM R).length - S.length) [] ⟨List.nodup_nil, by simp, by simp⟩ inferInstance ?_
  intro S ⟨hS1, hS2, hok⟩
  repeat (first|refine Wb ?_|refine Wc ?_|refine We rfl ?_)
  refine JR.next (M := ofM R) rfl hS2 (fun hall => ?_) (fun j hj hjS => ?_)
  · have e1 : evG R = true := by
      refine List.all_eq_true.2 fun r hr => List.all_eq_true.2 fun s hs => ?_
      obtain ⟨j, hj, rfl⟩ := List.getElem_of_mem hr
      rw [hok j (hall j (by rw [ofM_length]; exact hj)) hj s hs]; rfl
    rw [e1]
    repeat (first|refine Wa ?_|refine Wb ?_|refine Wc ?_|refine Wd ?_|refine We rfl ?_|refine Wf (by first|exact Vb|exact Vq) rfl ?_|refine Wk ?_|refine Wm ?_|refine Wo ?_|refine Wp ?_|refine Ws ?_)
    exact CT.done () rfl (fun w ho => ho.ent)
  · have hjR : j < R.length := by rw [ofM_length] at hj; exact hj
    obtain ⟨r, hr⟩ : ∃ r, r = R[j] := ⟨_, rfl⟩
    have hrm : r ∈ R := by rw [hr]; exact List.getElem_mem hjR
    have eg := ofM_get R j hj
    rw [← hr] at eg
    have hS3 : (S ++ [j]).Nodup := List.nodup_append.2 ⟨hS1, by simp, fun x hx y hy => by simp at hy; subst hy; exact fun e => hjS (e ▸ hx)⟩
    have hS4 : ∀ i ∈ S ++ [j], i < (ofM R).length := fun i hi => by
      rcases List.mem_append.1 hi with hi | hi
      · exact hS2 i hi
      · simp at hi; subst hi; exact hj
    have hlt2 := nodup_le hS3 hS4
    repeat (first|refine Wa ?_|refine Wb ?_|refine Wc ?_|refine Wd ?_|refine We rfl ?_|refine Wf (by exact Vq) rfl ?_|refine Wj ?_|refine Wl ?_|refine Wn ?_)
    refine Wf (OpV.entry (M := ofM R) hj) rfl ?_
    refine JO.reslot 12 (.tuple ⟨[idV (idC r.1.1), commitV r.1.1 r.2.1 r.2.2.1]⟩) (by rw [eg]) ?_
    refine JO.more (fun w1 ho => (ho.add (A := sl r.2.1 r.2.2.1 r.1.1.parents) (graph_row (ho.get (A := graphA R)) hrm).1).add (A := rmap r.2.2.2 (ents idV (sety r.1.2)) r.1.2.length) (graph_row (ho.add (A := sl r.2.1 r.2.2.1 r.1.1.parents) (graph_row (ho.get (A := graphA R)) hrm).1 |>.get (A := graphA R)) hrm).2) ?_
    repeat (first|refine Wa ?_|refine Wb ?_|refine Wc ?_|refine Wd ?_|refine We rfl ?_|refine Wf (by first|exact Vc|exact Vd|exact Vq) rfl ?_|(refine Wg rfl ?_; intro _)|refine Wi ?_)
    rename_i b3 b4
    refine JR.range (M := ofM R) rfl ?_
    intro r2
    repeat (first|refine Wa ?_|refine Wd ?_|refine Wn ?_)
    refine JC.loop1 (fun (S2 : List Nat) => [(1, .pointer (some ⟨bg, 0, none⟩)), (9, .pointer (some ⟨r1, 0, none⟩)), (3, .pointer (some ⟨b3, 0, none⟩)), (4, .pointer (some ⟨b4, 0, none⟩)), (17, .pointer (some ⟨r2, 0, none⟩))])
      (fun S2 => [.obj r2 (.mapIter (some bo) (ofM R).length S2.toArray (ofM R).length), .own b3 47 (idc (idC r.1.1)), .own b4 34 [.int .i64 r.1.1.ev.node, .int .i64 r.1.1.ev.seq, .int .i64 r.1.1.gen, .slice r.2.1 r.1.1.parents.length r.2.2.1, .int .i64 r.1.1.op.kind, .string r.1.1.op.key, .string r.1.1.op.elem, .int .i64 r.1.1.op.n],
        .obj r1 (.mapIter (some bo) (ofM R).length (S ++ [j]).toArray (ofM R).length), .own bg 80 [.map (some bo), .map (some bk)], .st (rmap r.2.2.2 (ents idV (sety r.1.2)) r.1.2.length), .st (rmap bo (ents idV (ofM R)) (ofM R).length), .st (rmap bk (ents idV (knM R)) (knM R).length), .st (graphA R)])
      (fun S2 => S2.Nodup ∧ (∀ j ∈ S2, j < (ofM R).length) ∧ ∀ j ∈ S2, ∀ hj : j < R.length, evBad r R[j] = false) (fun S2 => (ofM R).length - S2.length) [] ⟨List.nodup_nil, by simp, by simp⟩ inferInstance ?_
    intro S2 ⟨hT1, hT2, hok2⟩
    repeat (first|refine Wb ?_|refine Wc ?_|refine We rfl ?_)
    refine JR.next (M := ofM R) rfl hT2 (fun hall => ?_) (fun i hi hiS => ?_)
    · repeat (first|refine Wa ?_|refine Wb ?_|refine Wd ?_|refine We rfl ?_|refine Wf (by exact Vq) rfl ?_|refine Wk ?_|refine Wm ?_|refine Wo ?_|refine Wp ?_|refine Wr ?_)
      refine ⟨S ++ [j], ⟨hS3, hS4, fun x hx hxR s hs => ?_⟩, by simp at hlt2 ⊢; omega, inferInstance⟩
      rcases List.mem_append.1 hx with hx | hx
      · exact hok x hx hxR s hs
      · simp only [List.mem_singleton] at hx
        subst hx
        obtain ⟨y, hy, rfl⟩ := List.getElem_of_mem hs
        rw [← hr]
        exact hok2 y (hall y (by rw [ofM_length]; exact hy)) hy
    · have hiR : i < R.length := by rw [ofM_length] at hi; exact hi
      obtain ⟨s, hs⟩ : ∃ s, s = R[i] := ⟨_, rfl⟩
      have hsm : s ∈ R := by rw [hs]; exact List.getElem_mem hiR
      have eg2 := ofM_get R i hi
      rw [← hs] at eg2
      have hT3 : (S2 ++ [i]).Nodup := List.nodup_append.2 ⟨hT1, by simp, fun x hx y hy => by simp at hy; subst hy; exact fun e => hiS (e ▸ hx)⟩
      have hT4 : ∀ x ∈ S2 ++ [i], x < (ofM R).length := fun x hx => by
        rcases List.mem_append.1 hx with hx | hx
        · exact hT2 x hx
        · simp at hx; subst hx; exact hi
      have hlt3 := nodup_le hT3 hT4
      have next : evBad r s = false → ∀ x ∈ S2 ++ [i], ∀ hx : x < R.length, evBad r R[x] = false := fun hb x hx hxR => by
        rcases List.mem_append.1 hx with hx | hx
        · exact hok2 x hx hxR
        · simp only [List.mem_singleton] at hx; subst hx; rw [← hs]; exact hb
      repeat (first|refine Wa ?_|refine Wb ?_|refine Wc ?_|refine Wd ?_|refine We rfl ?_|refine Wf (by exact Vq) rfl ?_|refine Wj ?_|refine Wl ?_|refine Wn ?_)
      refine Wf (OpV.entry (M := ofM R) hi) rfl ?_
      refine JO.reslot 20 (.tuple ⟨[idV (idC s.1.1), commitV s.1.1 s.2.1 s.2.2.1]⟩) (by rw [eg2]) ?_
      refine JO.more (fun w1 ho => ho.add (A := sl s.2.1 s.2.2.1 s.1.1.parents) (graph_row (ho.get (A := graphA R)) hsm).1) ?_
      repeat (first|refine Wa ?_|refine Wb ?_|refine Wc ?_|refine Wd ?_|refine We rfl ?_|refine Wf (by first|exact Va|exact Vc|exact Vq|exact Vx) rfl ?_|(refine Wg rfl ?_; intro _)|refine Wi ?_)
      refine JO.test 26 (fun he => ?_) (fun he => ?_)
      · have hb : evBad r s = false := by simp [evBad, he]
        repeat (first|refine Wa ?_|refine Wd ?_|refine We rfl ?_|refine Wf (by exact Vi) rfl ?_|refine Wj ?_|refine Wm ?_|refine Wo ?_|refine Wp ?_|refine Wv rfl rfl ?_)
        exact ⟨S2 ++ [i], ⟨hT3, hT4, next hb⟩, by simp at hlt3 ⊢; omega, inferInstance⟩
      repeat (first|refine Wa ?_|refine Wd ?_|refine We rfl ?_|refine Wf (by first|exact Vc|exact Vd|exact Vj|exact Vm) rfl ?_)
      refine JC.test (fun hnd => ?_) (fun hnd => ?_)
      · have hb : evBad r s = false := by simp only [ne_eq] at hnd; simp [evBad, hnd]
        repeat (first|refine Wa ?_|refine Wm ?_|refine Wo ?_|refine Wp ?_)
        exact ⟨S2 ++ [i], ⟨hT3, hT4, next hb⟩, by simp at hlt3 ⊢; omega, inferInstance⟩
      have hnd' : r.1.1.ev.node = s.1.1.ev.node := by simpa using hnd
      repeat (first|refine Wa ?_|refine Wb ?_|refine Wl ?_)
      have hgk : gotten (knM R) (idC r.1.1) = some (.map (some r.2.2.2)) := by
        obtain ⟨q, hq, hqe, _, hqk, _⟩ := row_of hn (p := idC r.1.1) (by rw [ids_gr]; exact List.mem_map.2 ⟨r, hrm, rfl⟩)
        have : q = r := by
          obtain ⟨x, hx, hxq⟩ := List.getElem_of_mem hq
          obtain ⟨y, hy, hyr⟩ := List.getElem_of_mem hrm
          rw [ids_gr] at hn
          rcases Nat.lt_trichotomy x y with h | h | h
          · have := List.pairwise_iff_getElem.1 hn x y (by simpa using hx) (by simpa using hy) h
            simp [hxq, hyr, hqe] at this
          · subst h; rw [← hxq, ← hyr]
          · have := List.pairwise_iff_getElem.1 hn y x (by simpa using hy) (by simpa using hx) h
            simp [hxq, hyr, hqe] at this
        rw [← this]; rw [this] at hqk ⊢; exact hqk
      refine JC.quiet mixed (by kernel_rfl) ?_
      repeat (refine Wy rfl (by first|exact Va|exact Vc|exact Vd|exact Vl) rfl ?_)
      by_cases hsq : r.1.1.ev.seq = s.1.1.ev.seq
      · have hb : evBad r s = true := by simp [evBad, he, hnd', hsq]
        refine JQ.reslot 42 (.bool true) (by simp [hsq]) ?_
        repeat (first|refine Wy rfl (by first|exact Va|exact Vc|exact Vd|exact Vi) rfl ?_|refine Wz rfl rfl ?_|refine WA rfl rfl ?_|refine WB ?_)
        repeat (first|refine Wa ?_|refine Wb ?_|refine Wc ?_|refine Wd ?_|refine We rfl ?_|refine Wf (by exact Vb) rfl ?_|refine Wj ?_|refine Ws ?_|refine Wt ?_|refine Wu ?_)
        rw [evG_false hrm hsm hb]
        exact CT.done () rfl (fun w ho => ho.ent)
      refine JQ.reslot 42 (.bool false) (by simp [hsq]) ?_
      repeat (refine Wy rfl (by first|exact Va|exact Vc|exact Vd|exact Vo) rfl ?_)
      by_cases hlt : s.1.1.ev.seq < r.1.1.ev.seq
      · refine JQ.reslot 50 (.bool true) (by simp [hlt]) ?_
        repeat (refine Wy rfl (by first|exact Vc|exact Vd) rfl ?_)
        refine Wy rfl (OpV.lookupNo (M := knM R) (v := .map (some r.2.2.2)) (idC r.1.1) hkK (by rw [hgk]; rfl)) rfl ?_
        repeat (refine Wy rfl (by exact Vc) rfl ?_)
        refine Wy rfl (OpV.setHas (L := r.1.2) (idC s.1.1) (hS r hrm)) rfl ?_
        repeat (first|refine Wy rfl (by first|exact Vh|exact Vi|exact Vj) rfl ?_|refine WB ?_)
        repeat (refine Wa ?_)
        refine JC.test (fun hk => ?_) (fun hk => ?_)
        · have hb : evBad r s = true := by
            have hk' : idC s.1.1 ∉ r.1.2 := by simpa using hk

            simp [evBad, he, hnd', hlt, hk']
          repeat (first|refine Wa ?_|refine Wb ?_|refine Wc ?_|refine Wd ?_|refine We rfl ?_|refine Wf (by exact Vb) rfl ?_|refine Ws ?_|refine Wt ?_|refine Wu ?_)
          rw [evG_false hrm hsm hb]
          exact CT.done () rfl (fun w ho => ho.ent)
        · have hb : evBad r s = false := by
            have hk' : idC s.1.1 ∈ r.1.2 := by simpa using hk
            simp [evBad, hsq, hk']
          repeat (first|refine Wa ?_|refine Wl ?_|refine Wr ?_)
          exact ⟨S2 ++ [i], ⟨hT3, hT4, next hb⟩, by simp at hlt3 ⊢; omega, inferInstance⟩
      · have hb : evBad r s = false := by simp [evBad, hsq, hlt]
        refine JQ.reslot 50 (.bool false) (by simp [hlt]) ?_
        repeat (first|refine Wy rfl (by first|exact Vc|exact Vd|exact Vj) rfl ?_|refine Wz rfl rfl ?_|refine WB ?_)
        repeat (first|refine Wa ?_|refine Wk ?_|refine Wl ?_|refine Wr ?_)
        exact ⟨S2 ++ [i], ⟨hT3, hT4, next hb⟩, by simp at hlt3 ⊢; omega, inferInstance⟩
end Ab
end Go.Proofs.YtglclakhjmogiaaGreat

/- Contracts of comparators, whether draws are told or not: cmp.Compare, cmp.Or, the comparators of dag.of and dag.Sorted. -/
namespace Go.Proofs.YtglclakhjmogiaaGreat
namespace Ab
open Go Go.RowKit
set_option linter.unusedVariables false
set_option linter.unusedSimpArgs false
set_option synthInstance.maxSize 4000
set_option synthInstance.maxHeartbeats 400000
attribute [local irreducible] JC JO JR JQ andThen inBlock OpV Gives retTo JM JS

def cmpI (a b : Int) : Int := if a < b then -1 else if b < a then 1 else 0
theorem nan_int [Dr] (w : World) (F : Nat → Prop) (a : Int) : GivesV Tryz.prog 138 [.int .i64 a] w F (.bool false) := by
  refine gives_of Tryz.func138 rfl Tryz.ntmps138 rfl rfl [] (.start w F) ?_
  repeat (first|refine Wa ?_|refine Wb ?_|refine Wc ?_|refine Wd ?_|refine We rfl ?_|refine Wf (by first|exact Va|exact Vb|exact Vm) rfl ?_|refine Ws ?_)
  exact CT.done () (by simp [packed]) (fun w ho => ho.ent)
theorem compare_int [Dr] (w : World) (F : Nat → Prop) (a b : Int) : GivesV Tryz.prog 92 [.int .i64 a, .int .i64 b] w F (.int .i64 (cmpI a b)) := by
  refine gives_of Tryz.func92 rfl Tryz.ntmps92 rfl rfl [] (.start w F) ?_
  repeat (first|refine Wa ?_|refine Wb ?_|refine Wc ?_|refine Wd ?_|refine We rfl ?_|refine Wf (by first|exact Va|exact Vb) rfl ?_)
  refine JR.callV rfl (fun w1 hw => nan_int w1 _ a) ?_
  repeat (first|refine Wa ?_|refine Wb ?_|refine Wc ?_|refine Wd ?_|refine We rfl ?_|refine Wf (by first|exact Va|exact Vb) rfl ?_)
  refine JR.callV rfl (fun w1 hw => nan_int w1 _ b) ?_
  repeat (first|refine Wa ?_|refine Wb ?_|refine Wc ?_|refine Wd ?_|refine We rfl ?_|refine Wf (by first|exact Va|exact Vb|exact Vg) rfl ?_|refine Wk ?_|refine Wl ?_)
  refine JC.test (fun h => ?_) (fun h => ?_)
  · have e1 : cmpI a b = -1 := by simp [cmpI, h]
    rw [e1]
    repeat (first|refine Wa ?_|refine Wb ?_|refine Wc ?_|refine Wd ?_|refine We rfl ?_|refine Wf (by exact Vb) rfl ?_|refine Ws ?_|refine Wt ?_)
    exact CT.done () rfl (fun w ho => ho.ent)
  repeat (first|refine Wa ?_|refine Wb ?_|refine Wc ?_|refine Wd ?_|refine We rfl ?_|refine Wf (by first|exact Va|exact Vo) rfl ?_|refine Wl ?_)
  refine JC.test (fun h' => ?_) (fun h' => ?_)
  · have e1 : cmpI a b = 1 := by simp [cmpI, h, h']
    rw [e1]
    repeat (first|refine Wa ?_|refine Wb ?_|refine Wc ?_|refine Wd ?_|refine We rfl ?_|refine Wf (by exact Vb) rfl ?_|refine Ws ?_|refine Wt ?_)
    exact CT.done () rfl (fun w ho => ho.ent)
  · have e1 : cmpI a b = 0 := by simp [cmpI, h, h']
    rw [e1]
    repeat (first|refine Wa ?_|refine Wb ?_|refine Wc ?_|refine Wd ?_|refine We rfl ?_|refine Wf (by exact Vb) rfl ?_|refine Wl ?_|refine Ws ?_)
    exact CT.done () rfl (fun w ho => ho.ent)

theorem of1_dag [Dr] (w : World) (F : Nat → Prop) (a : Option Addr) (k bl : Nat) (L : List Commit) (i j : Nat) (hi : i < L.length) (hj : j < L.length) (h : (sl a k L).holds F w) (hb : (ro bl 0 [.slice a L.length k]).holds F w) :
    GivesV Tryz.prog 108 [.int .i64 (i : Int), .int .i64 (j : Int), .pointer (some ⟨bl, 0, none⟩)] w F (.int .i64 (cmpI L[i].gen L[j].gen)) := by
  refine gives_of Tryz.func108 rfl Tryz.ntmps108 rfl rfl [.st (sl a k L), .st (ro bl 0 [.slice a L.length k])] (.start2 h hb) ?_
  repeat (first|refine Wa ?_|refine Wb ?_|refine Wc ?_|refine Wd ?_|refine We rfl ?_|refine Wf (by exact Vb) rfl ?_)
  refine JC.openCommit (L := L) (.slice a L.length k) i hi ?_
  intro b1 o1 p1 q1
  refine JC.openCommit (L := L) (.slice a L.length k) j hj ?_
  intro b2 o2 p2 q2
  refine JC.quiet mixed (by kernel_rfl) ?_
  repeat (refine Wy rfl (by first|exact Va|exact Vc|exact Vd|exact Ve) rfl ?_)
  refine JQ.call rfl rfl (fun w1 hw => compare_int w1 _ (L[i]).gen (L[j]).gen) ?_
  repeat (first|refine Wy rfl (by exact Vb) rfl ?_|refine WB ?_)
  repeat (first|refine Wa ?_|refine Ws ?_)
  exact CT.done () rfl (fun w ho => ho.ent)
end Ab
end Go.Proofs.YtglclakhjmogiaaGreat

/- The library's sort of a row of places, by a comparator with captured boxes. Program-independent. -/
namespace Go.Proofs.YtglclakhjmogiaaGreat
namespace Ab
open Go Go.RowKit Go.Sort Go.Shelf
set_option linter.unusedVariables false
set_option linter.unusedSimpArgs false

/-- What a call that is told with its draws leaves. -/
theorem grow_of_bel [dr : Dr] (hdr : Dr.on) {w w' : World} (h : Bel w.heap.size w w') : ∃ q os, w' = grow (w.drewN q) os := by
  refine ⟨w'.drawn - w.drawn, w'.heap.extract w.heap.size, ?_⟩
  have h1 := h.drawn hdr
  have h2 := h.os; have h3 := h.tape; have h4 := h.output
  have hh : w.heap ++ w'.heap.extract w.heap.size = w'.heap := by
    apply Array.ext_getElem?
    intro i
    by_cases hi : i < w.heap.size
    · rw [Array.getElem?_append_left hi]; exact (h.block i hi).symm
    · rw [Array.getElem?_append_right (by omega), Array.getElem?_extract]
      have := h.size
      by_cases hi' : i < w'.heap.size
      · rw [if_pos (by omega)]; congr 1; omega
      · rw [if_neg (by omega), Array.getElem?_eq_none (by omega)]
  cases w; cases w'
  simp only [World.drewN, grow] at *
  subst h2 h3 h4
  simp only [hh]
  congr 1
  omega

abbrev Sorted2 {m : Nat} (cf : Fin (m + 1) → Fin (m + 1) → Int) := { O : List (Fin (m + 1)) // O.Perm (List.finRange (m + 1)) ∧ O.Pairwise (fun i j => Go.Proofs.ltOf cf j i = false) }
theorem sort_places [Dr] {P : Program} {ρ : Ren} (Ly : Go.Proofs.SlLaysF.n6 P ρ) {m : Nat} (cf : Fin (m + 1) → Fin (m + 1) → Int) (hO : SWO (Go.Proofs.ltOf cf)) (g : FuncId) (caps : List Value) [eg : Body P g] {w0 w : World} {F : Nat → Prop} {Γ : List Fact} {b c : Nat} {el : TypeId}
    (hm : m < 1000000) (ho : Hold w0 F (.own b el ((List.range (m + 1)).map natV) :: Γ) w)
    (hc : ∀ W : World, (∀ A : Asn, A.holds (fp w0 F (.own b el ((List.range (m + 1)).map natV) :: Γ)) w → A.holds (fp w0 F (.own b el ((List.range (m + 1)).map natV) :: Γ)) W) →
      ∀ x y : Fin (m + 1), @GivesV ⟨True⟩ P g ([natV x.1, natV y.1] ++ caps) W (fp w0 F (.own b el ((List.range (m + 1)).map natV) :: Γ)) (.int .i64 (cf x y))) :
    Calls P (ρ.f 6) ⟨[.slice (some ⟨b, 0, none⟩) (m + 1) c, .func (.func g) ⟨[]⟩ ⟨caps⟩]⟩ w fun x w' => ∃ O : Sorted2 cf, x = .returned (.tuple ⟨[]⟩) ∧ Hold w0 F (.own b el (O.1.map fun i => natV i.1) :: Γ) w' := by
  have hw : w.heap[b]? = some (.cells ((List.range (m + 1)).map natV).toArray el (0, 0)) := ho.sat (.own b el _) (by simp)
  have hlt : b < w.heap.size := (Array.getElem?_eq_some_iff.1 hw).1
  obtain ⟨enc, henc⟩ : ∃ enc : Fin (m + 1) → Value, enc = fun i => natV i.1 := ⟨_, rfl⟩
  obtain ⟨d, hd⟩ : ∃ d : Array (Fin (m + 1)), d = (List.finRange (m + 1)).toArray := ⟨_, rfl⟩
  have hds : d.size = m + 1 := by rw [hd]; simp
  have hdg : ∀ j, j < m + 1 → enc d[j]! = natV j := by
    intro j hj
    rw [henc, hd]
    simp [hj]
  have hH : Holds enc w b 0 d := by
    intro j hj
    rw [hds] at hj
    rw [hdg j hj]
    constructor
    · rw [Nat.zero_add, cell_of_row w b j _ el _ hw]
      simp [hj]
    · simp [World.frozen?, hw]
  have h1 : Go.Proofs.OneCell enc := fun x => by rw [henc]; rfl
  have hcmp : Go.Proofs.CmpLays1 P g ⟨caps⟩ enc cf b 0 d.size w := by
    intro q os dk hdk x y
    have hold : ∀ k, k < w.heap.size → k ≠ b → (Go.Proofs.sortWorld enc w b 0 q dk os).heap[k]? = w.heap[k]? := by
      intro k hk hkb
      unfold Go.Proofs.sortWorld
      rw [heap_grow_old]
      · simp [Go.Sort.putRow, Go.Sort.mapBlock, Array.getElem?_modify, Ne.symm hkb, Go.Sort.ahead]
      · simp [Go.Sort.putRow, Go.Sort.mapBlock, Go.Sort.ahead]; exact hk
    have hx := hc (Go.Proofs.sortWorld enc w b 0 q dk os) (fun A hA => by
      have hA2 := A.within _ _ hA
      refine A.mono _ _ _ (fun k hk => hk.1) (A.frame _ _ _ (fun k hk => ?_) hA2)
      exact hold k hk.2 (fun e => hk.1.2 (.own b el ((List.range (m + 1)).map natV)) (by simp) e)) x y
    have e1 : (#[enc x, enc y] ++ (⟨caps⟩ : Array Value)) = ⟨[natV x.1, natV y.1] ++ caps⟩ := by rw [henc]; apply Array.ext'; simp
    rw [e1]
    refine Calls.mono hx ?_
    rintro e w' ⟨_, he, hb, _⟩
    exact ⟨he, grow_of_bel (dr := ⟨True⟩) trivial hb⟩
  have hs := Go.Proofs.Any.slices_SortFunc Ly enc h1 cf hO g ⟨caps⟩ b 0 c d w eg.ok hcmp hH hlt (by rw [hds]; omega)
  rw [hds] at hs
  refine Calls.mono hs ?_
  rintro x w' ⟨hx, d', q, os, hp, hsrt, rfl⟩
  obtain ⟨hp1, _, hp3⟩ := hp
  have hd's : d'.size = m + 1 := by rw [hp1, hds]
  have hperm : d'.toList.Perm (List.finRange (m + 1)) := by
    have e1 : (d'.extract 0 (m + 1)).toList = d'.toList := by rw [Array.extract_eq_self_of_le (by omega)]
    have e2 : (d.extract 0 (m + 1)).toList = d.toList := by rw [Array.extract_eq_self_of_le (by omega)]
    rw [e1, e2] at hp3
    rw [hd] at hp3
    exact hp3
  have hpair : d'.toList.Pairwise (fun i j => Go.Proofs.ltOf cf j i = false) := by
    rw [List.pairwise_iff_getElem]
    intro i j hi hj hij
    have hi' : i < d'.size := by simpa using hi
    have hj' : j < d'.size := by simpa using hj
    have := hsrt i j (Nat.zero_le _) hij (by omega)
    rw [getElem!_pos d' j hj', getElem!_pos d' i hi'] at this
    simpa using this
  refine ⟨⟨d'.toList, hperm, hpair⟩, hx, ?_⟩
  have hrow : (Go.Sort.putRow enc (Go.Sort.ahead w q) b 0 d').heap[b]? = some (.cells (d'.toList.map fun i => natV i.1).toArray el (0, 0)) := by
    have : (Go.Sort.ahead w q).heap[b]? = some (.cells ((List.range (m + 1)).map natV).toArray el (0, 0)) := hw
    simp only [Go.Sort.putRow, Go.Sort.mapBlock, Array.getElem?_modify, this]
    simp only [if_true, Option.map_some, Go.Sort.onCells]
    congr 2
    apply Array.ext_getElem?
    intro k
    simp only [Go.Sort.putCells, Array.getElem?_mapIdx]
    by_cases hk : k < m + 1
    · have hk' : k < d'.size := by omega
      simp [hk, hk', henc]
    · have hk' : ¬ k < d'.size := by omega
      simp [hk, hk']
  have h2 : Hold w0 F (.own b el (d'.toList.map fun i => natV i.1) :: Γ) (Go.Sort.putRow enc (Go.Sort.ahead w q) b 0 d') :=
    ho.swap (b := b) (fun _ => Iff.rfl) (fun _ => Iff.rfl) rfl rfl rfl (by simp [Go.Sort.putRow, Go.Sort.mapBlock, Go.Sort.ahead])
      (fun k hk => by simp [Go.Sort.putRow, Go.Sort.mapBlock, Array.getElem?_modify, Ne.symm hk, Go.Sort.ahead]) hrow (hdr := Nat.le_add_right _ _)
  exact h2.of_below ⟨rfl, rfl, rfl, by simp [Go.Proofs.sortWorld, grow, Go.Sort.putRow, Go.Sort.mapBlock, Go.Sort.ahead], fun k hk => heap_grow_old _ _ hk, fun _ => Nat.le_refl _⟩
/-- Places sorted by f. -/
abbrev Order (cf : Nat → Nat → Int) (n : Nat) := { O : List Nat // O.Perm (List.range n) ∧ O.Pairwise (fun i j => ¬ cf j i < 0) }
theorem sort_order [Dr] {P : Program} {ρ : Ren} (Ly : Go.Proofs.SlLaysF.n6 P ρ) (cf : Nat → Nat → Int) (hO : SWO (Go.Proofs.ltOf cf)) (g : FuncId) (caps : List Value) [eg : Body P g] {w0 w : World} {F : Nat → Prop} {Γ : List Fact} {b c n : Nat} {el : TypeId}
    (hm : n ≤ 1000000) (ho : Hold w0 F (.own b el ((List.range n).map natV) :: Γ) w)
    (hc : ∀ W : World, (∀ A : Asn, A.holds (fp w0 F (.own b el ((List.range n).map natV) :: Γ)) w → A.holds (fp w0 F (.own b el ((List.range n).map natV) :: Γ)) W) →
      ∀ x y : Nat, x < n → y < n → @GivesV ⟨True⟩ P g ([natV x, natV y] ++ caps) W (fp w0 F (.own b el ((List.range n).map natV) :: Γ)) (.int .i64 (cf x y))) :
    Calls P (ρ.f 6) ⟨[.slice (some ⟨b, 0, none⟩) n c, .func (.func g) ⟨[]⟩ ⟨caps⟩]⟩ w fun x w' => ∃ O : Order cf n, x = .returned (.tuple ⟨[]⟩) ∧ Hold w0 F (.own b el (O.1.map natV) :: Γ) w' := by
  cases n with
  | zero =>
    refine Calls.mono (Go.Proofs.AnyF.slices_SortFunc_none (P := P) (ρ := ρ) { Ly with } (some ⟨b, 0, none⟩) c _ w) ?_
    rintro x w' ⟨hx, rfl⟩
    exact ⟨⟨[], by simp, by simp⟩, hx, ho⟩
  | succ m =>
    have := sort_places Ly (m := m) (c := c) (fun x y => cf x.1 y.1) ⟨fun x => hO.irrefl x.1, fun x y z h1 h2 => hO.trans x.1 y.1 z.1 h1 h2, fun x y z h1 h2 => hO.ntrans x.1 y.1 z.1 h1 h2⟩ g caps (by omega) ho (fun W hW x y => hc W hW x.1 y.1 x.2 y.2)
    refine Calls.mono this ?_
    rintro x w' ⟨O, hx, hO'⟩
    refine ⟨⟨O.1.map (·.1), ?_, ?_⟩, hx, by rw [List.map_map]; exact hO'⟩
    · have := O.2.1.map (·.1)
      have e : (List.finRange (m + 1)).map (fun x => x.1) = List.range (m + 1) := by
        apply List.ext_getElem
        · simp
        · intro i h1 h2; simp
      rwa [e] at this
    · rw [List.pairwise_map]
      refine O.2.2.imp ?_
      intro i j h
      simpa [Go.Proofs.ltOf] using h
end Ab
end Go.Proofs.YtglclakhjmogiaaGreat

/- The library's sorting contract laid at this seat's sort of whole numbers: written by genlay.py. -/
namespace Go.Proofs.YtglclakhjmogiaaGreat
namespace Ab
open Go
def sortInt_ren : Go.Shelf.Ren := ⟨fun | 6 => 89 | 14 => 136 | 15 => 137 | 20 => 170 | 21 => 171 | 22 => 172 | 23 => 173 | 24 => 174 | 25 => 175 | 26 => 176 | 27 => 177 | 28 => 178 | 29 => 179 | 46 => 204 | 47 => 205 | 48 => 206 | 49 => 207 | 50 => 208 | 57 => 214 | n => n, fun | 22 => 67 | 24 => 3 | 25 => 108 | 39 => 127 | 45 => 181 | 46 => 182 | 50 => 186 | 53 => 136 | 55 => 91 | 66 => 200 | 70 => 203 | 76 => 208 | 77 => 209 | n => n, fun | n => n⟩
open Go.Shelf Go.Proofs in
theorem sortInt : SlLaysF.n6 Tryz.prog sortInt_ren where
  mixed := by kernel_rfl
  f6 := ⟨ "slices.SortFunc[[]int,int]", by decide, Tryz.func89.trans (congrArg some (by kernel_rfl))⟩
  f14 := ⟨ "slices.pdqsortCmpFunc[int]", by decide, Tryz.func136.trans (congrArg some (by kernel_rfl))⟩
  f15 := Tryz.func137.trans (congrArg some (by kernel_rfl))
  f20 := ⟨ "slices.insertionSortCmpFunc[int]", by decide, Tryz.func170.trans (congrArg some (by kernel_rfl))⟩
  f21 := ⟨ "slices.heapSortCmpFunc[int]", by decide, Tryz.func171.trans (congrArg some (by kernel_rfl))⟩
  f22 := ⟨ "slices.breakPatternsCmpFunc[int]", by decide, Tryz.func172.trans (congrArg some (by kernel_rfl))⟩
  f23 := ⟨ "slices.choosePivotCmpFunc[int]", by decide, Tryz.func173.trans (congrArg some (by kernel_rfl))⟩
  f24 := ⟨ "slices.reverseRangeCmpFunc[int]", by decide, Tryz.func174.trans (congrArg some (by kernel_rfl))⟩
  f25 := ⟨ "slices.partialInsertionSortCmpFunc[int]", by decide, Tryz.func175.trans (congrArg some (by kernel_rfl))⟩
  f26 := ⟨ "slices.partitionEqualCmpFunc[int]", by decide, Tryz.func176.trans (congrArg some (by kernel_rfl))⟩
  f27 := ⟨ "slices.partitionCmpFunc[int]", by decide, Tryz.func177.trans (congrArg some (by kernel_rfl))⟩
  f28 := Tryz.func178.trans (congrArg some (by kernel_rfl))
  f29 := Tryz.func179.trans (congrArg some (by kernel_rfl))
  f46 := ⟨ "slices.siftDownCmpFunc[int]", by decide, Tryz.func204.trans (congrArg some (by kernel_rfl))⟩
  f47 := Tryz.func205.trans (congrArg some (by kernel_rfl))
  f48 := Tryz.func206.trans (congrArg some (by kernel_rfl))
  f49 := ⟨ "slices.medianAdjacentCmpFunc[int]", by decide, Tryz.func207.trans (congrArg some (by kernel_rfl))⟩
  f50 := ⟨ "slices.medianCmpFunc[int]", by decide, Tryz.func208.trans (congrArg some (by kernel_rfl))⟩
  f57 := ⟨ "slices.order2CmpFunc[int]", by decide, Tryz.func214.trans (congrArg some (by kernel_rfl))⟩
  t0 := Tryz.underlying0
  a0 := Tryz.isAgg0
  z0 := Tryz.sizeOf0
  v0 := Tryz.zeroValue0
  t3 := Tryz.underlying3
  a3 := Tryz.isAgg3
  z3 := Tryz.sizeOf3
  v3 := Tryz.zeroValue3
  t4 := Tryz.underlying4
  a4 := Tryz.isAgg4
  z4 := Tryz.sizeOf4
  v4 := Tryz.zeroValue4
  t5 := Tryz.underlying5
  a5 := Tryz.isAgg5
  z5 := Tryz.sizeOf5
  v5 := Tryz.zeroValue5
  t9 := Tryz.underlying9
  a9 := Tryz.isAgg9
  z9 := Tryz.sizeOf9
  v9 := Tryz.zeroValue9
  t22 := Tryz.underlying67
  a22 := Tryz.isAgg67
  z22 := Tryz.sizeOf67
  v22 := Tryz.zeroValue67
  a24 := Tryz.isAgg3
  z24 := Tryz.sizeOf3
  t25 := Tryz.underlying108
  a25 := Tryz.isAgg108
  z25 := Tryz.sizeOf108
  v25 := Tryz.zeroValue108
  t39 := Tryz.underlying127
  a39 := Tryz.isAgg127
  z39 := Tryz.sizeOf127
  v39 := Tryz.zeroValue127
  t45 := Tryz.underlying181
  a45 := Tryz.isAgg181
  z45 := Tryz.sizeOf181
  v45 := Tryz.zeroValue181
  t46 := Tryz.underlying182
  a46 := Tryz.isAgg182
  z46 := Tryz.sizeOf182
  v46 := Tryz.zeroValue182
  t50 := Tryz.underlying186
  a50 := Tryz.isAgg186
  z50 := Tryz.sizeOf186
  v50 := Tryz.zeroValue186
  t53 := Tryz.underlying136
  a53 := Tryz.isAgg136
  z53 := Tryz.sizeOf136
  v53 := Tryz.zeroValue136
  t55 := Tryz.underlying91
  a55 := Tryz.isAgg91
  z55 := Tryz.sizeOf91
  v55 := Tryz.zeroValue91
  t66 := Tryz.underlying200
  a66 := Tryz.isAgg200
  z66 := Tryz.sizeOf200
  v66 := Tryz.zeroValue200
  t70 := Tryz.underlying203
  a70 := Tryz.isAgg203
  z70 := Tryz.sizeOf203
  v70 := Tryz.zeroValue203
  t76 := Tryz.underlying208
  a76 := Tryz.isAgg208
  z76 := Tryz.sizeOf208
  v76 := Tryz.zeroValue208
  t77 := Tryz.underlying209
  a77 := Tryz.isAgg209
  z77 := Tryz.sizeOf209
  v77 := Tryz.zeroValue209
end Ab
end Go.Proofs.YtglclakhjmogiaaGreat

/- Contract of dag.of: the graph of commits, if they are closed. -/
namespace Go.Proofs.YtglclakhjmogiaaGreat
namespace Ab
open Go Go.RowKit
set_option linter.unusedVariables false
set_option linter.unusedSimpArgs false
set_option synthInstance.maxSize 4000
set_option synthInstance.maxHeartbeats 400000
attribute [local irreducible] JC JO JR JQ andThen inBlock OpV Gives retTo JM JS

attribute [local irreducible] ents hashC graphA
theorem evG_iff {R : List Row} (hb : BuiltR (grOf R)) : evG R = true ↔ ∀ c ∈ nodes (grOf R), ∀ d ∈ nodes (grOf R), evOk (nodes (grOf R)) c d := by
  have hk : ∀ r ∈ R, ∀ x, x ∈ r.1.2 ↔ knows (nodes (grOf R)) (idC r.1.1) x := by
    intro r hr x
    have hg : r.1 ∈ grOf R := List.mem_map.2 ⟨r, hr, rfl⟩
    have h1 := knownBy_of hb.nodup hg
    rw [← h1]
    exact hb.known _ (mem_cids.2 ⟨r.1.1, by rw [nodes_gr]; exact List.mem_map.2 ⟨r, hr, rfl⟩, rfl⟩) x
  have hn : ∀ c, c ∈ nodes (grOf R) ↔ ∃ r ∈ R, r.1.1 = c := fun c => by rw [nodes_gr]; exact List.mem_map
  have key : ∀ r ∈ R, ∀ s ∈ R, evBad r s = false ↔ evOk (nodes (grOf R)) r.1.1 s.1.1 := by
    intro r hr s hs
    unfold evBad evOk
    have := hk r hr (idC s.1.1)
    rw [← this]
    by_cases h1 : idC r.1.1 = idC s.1.1
    · simp [h1]
    by_cases h2 : r.1.1.ev.node = s.1.1.ev.node
    · simp [h1, h2]
    · simp [h2]
  rw [evG, List.all_eq_true]
  simp only [List.all_eq_true, Bool.not_eq_true']
  constructor
  · intro h c hc d hd
    obtain ⟨r, hr, rfl⟩ := (hn c).1 hc
    obtain ⟨s, hs, rfl⟩ := (hn d).1 hd
    exact (key r hr s hs).1 (h r hr s hs)
  · intro h r hr s hs
    exact (key r hr s hs).2 (h _ ((hn _).2 ⟨r, hr, rfl⟩) _ ((hn _).2 ⟨s, hs, rfl⟩))

/-- What of gives. -/
structure OfR where
  bo : Nat
  bk : Nat
  R : List Row
  I : List ID
  p : Option Addr
  q : Nat
  b : Bool
structure OfOk (L : List Commit) (y : OfR) : Prop where
  iff : y.b = true ↔ Closed L
  len : y.I.length ≤ L.length
  ids : y.b = true → y.I = cids L
  built : y.b = true → Built (grOf y.R)
  perm : y.b = true → (nodes (grOf y.R)).Perm L
  nodup : y.b = true → ∀ r ∈ y.R, r.1.2.Nodup
abbrev OfY (L : List Commit) := { y : OfR // OfOk L y }
abbrev ofV {L : List Commit} (y : OfY L) : Value := .tuple ⟨[.agg ⟨[.map (some y.1.bo), .map (some y.1.bk)]⟩, .slice y.1.p y.1.I.length y.1.q, .bool y.1.b]⟩
abbrev ofB {L : List Commit} (y : OfY L) : List Fact := if y.1.b = true then [.st (rmap y.1.bo (ents idV (ofM y.1.R)) (ofM y.1.R).length), .st (rmap y.1.bk (ents idV (knM y.1.R)) (knM y.1.R).length), .st (graphA y.1.R), .st (sl y.1.p y.1.q y.1.I)] else [.st (sl y.1.p y.1.q y.1.I)]
theorem ofOk_no {L : List Commit} {bo bk q : Nat} {R : List Row} {I : List ID} {p : Option Addr} (h : ¬ Closed L) (hl : I.length ≤ L.length) : OfOk L ⟨bo, bk, R, I, p, q, false⟩ :=
  ⟨⟨fun h => Bool.noConfusion h, fun h' => (h h').elim⟩, hl, fun h => Bool.noConfusion h, fun h => Bool.noConfusion h, fun h => Bool.noConfusion h, fun h => Bool.noConfusion h⟩
/-- Commits by places. -/
def genC (L : List Commit) (i : Nat) : Int := (L.getD i commit0).gen
def byO (L : List Commit) (O : List Nat) : List Commit := O.map fun i => L.getD i commit0
theorem byO_perm {L : List Commit} {O : List Nat} (h : O.Perm (List.range L.length)) : (byO L O).Perm L := by
  have h1 := h.map (fun i => L.getD i commit0)
  have e : (List.range L.length).map (fun i => L.getD i commit0) = L := by
    apply List.ext_getElem
    · simp
    · intro i h1 h2; simp [List.getD_eq_getElem?_getD, h2]
  rwa [e] at h1
theorem cmpI_lt (a b : Int) : cmpI a b < 0 ↔ a < b := by
  unfold cmpI
  split
  · simp [*]
  · split <;> simp [*]
theorem swo_gen (L : List Commit) : Go.Sort.SWO (Go.Proofs.ltOf fun i j => cmpI (genC L i) (genC L j)) := by
  have h : ∀ i j, Go.Proofs.ltOf (fun i j => cmpI (genC L i) (genC L j)) i j = decide (genC L i < genC L j) := fun i j => by
    simp only [Go.Proofs.ltOf, cmpI_lt]
  refine ⟨fun x => ?_, fun x y z => ?_, fun x y z => ?_⟩
  · rw [h]; simp
  · rw [h, h, h]; simp only [decide_eq_true_eq]; omega
  · rw [h, h, h]; simp only [decide_eq_false_iff_not]; omega
theorem sortFunc_gen {w0 w : World} {F : Nat → Prop} {Γ : List Fact} {b c el bl k : Nat} {a : Option Addr} {L : List Commit} (hl : L.length ≤ 1000000)
    (ho : Hold w0 F (.own b el ((List.range L.length).map natV) :: .st (ro bl 0 [.slice a L.length k]) :: .st (sl a k L) :: Γ) w) :
    Calls Tryz.prog 89 ⟨[.slice (some ⟨b, 0, none⟩) L.length c, .func (.func 108) ⟨[]⟩ ⟨[.pointer (some ⟨bl, 0, none⟩)]⟩]⟩ w fun x w' =>
      ∃ O : Order (fun i j => cmpI (genC L i) (genC L j)) L.length, x = .returned (.tuple ⟨[]⟩) ∧ Hold w0 F (.own b el (O.1.map natV) :: .st (ro bl 0 [.slice a L.length k]) :: .st (sl a k L) :: Γ) w' := by
  refine sort_order sortInt _ (swo_gen L) _ _ hl ho (fun W hW x y hx hy => ?_)
  have h1 := hW (sl a k L) (ho.get (A := sl a k L))
  have h2 := hW (ro bl 0 [.slice a L.length k]) (ho.get (A := ro bl 0 [.slice a L.length k]))
  have := @of1_dag ⟨True⟩ W _ a k bl L x y hx hy h1 h2
  simpa [genC, List.getD_eq_getElem?_getD, hx, hy] using this
theorem may_gen {c : Commit} (h : may c = true) : 1 ≤ c.gen ∧ c.gen ≤ 1048576 := by
  unfold may at h
  split at h
  · cases h
  · rename_i hn
    simp only [Bool.or_eq_true, Bool.not_eq_true', not_or, Bool.not_eq_false, inB, Bool.and_eq_true, decide_eq_true_eq] at hn
    exact hn.1.1.1
end Ab
end Go.Proofs.YtglclakhjmogiaaGreat

/- Contract of dag.of: the walk. -/
namespace Go.Proofs.YtglclakhjmogiaaGreat
namespace Ab
open Go Go.RowKit
set_option linter.unusedVariables false
set_option linter.unusedSimpArgs false
set_option synthInstance.maxSize 4000
set_option synthInstance.maxHeartbeats 400000
attribute [local irreducible] JC JO JR JQ andThen inBlock OpV Gives retTo JM JS

attribute [local irreducible] JN
attribute [local irreducible] ents hashC graphA
set_option maxHeartbeats 4000000 in
theorem of_dag (w : World) (F : Nat → Prop) (a : Option Addr) (k : Nat) (L : List Commit) (h : (sl a k L).holds F w) (hl : L.length ≤ 1000000) (hf : ∀ x ∈ L, fine x) :
    Gives Tryz.prog 69 [.slice a L.length k] w F (fun y : OfY L => ofV y) (fun y => ofB y) := by
  refine gives_of Tryz.func69 rfl Tryz.ntmps69 rfl rfl [.st (sl a k L)] (.start1 h) ?_
  repeat (first|refine Wa ?_|refine Wb ?_|refine Wc ?_|refine Wd ?_|refine We rfl ?_|refine Wf (by exact Vb) rfl ?_|(refine Wg rfl ?_; intro _)|(refine Wh rfl ?_; intro _))
  rename_i b1 b2
  refine JR.makeMap idV rfl ?_
  intro bo
  refine We rfl ?_
  refine JR.makeMap idV rfl ?_
  intro bk
  refine We rfl ?_
  refine Wf (OpV.build [.map (some bo), .map (some bk)] (by kernel_rfl)) rfl ?_
  repeat (first|refine Wa ?_|refine Wb ?_|refine Wc ?_|refine Wd ?_|refine We rfl ?_|refine Wf (by exact Vc) rfl ?_|(refine Wg rfl ?_; intro _)|refine Wi ?_)
  rename_i b5
  refine JR.pubOwn b1 ?_
  refine JR.callSl rfl (fun w1 hw => ids_dag w1 _ a k L hw.get (by omega) hf) ?_
  intro p q
  repeat (first|refine Wa ?_|refine Wb ?_|refine Wc ?_|refine Wd ?_|refine We rfl ?_|refine Wf (by first|exact Va|exact Vb|exact Vc|exact Vf|exact Vm) rfl ?_)
  refine JC.test (fun hne => ?_) (fun heq => ?_)
  · have hno : ¬ Closed L := fun hc => hne (by rw [idsP_all hc.may]; simp [cids])
    repeat (first|refine Wa ?_|refine Wb ?_|refine Wc ?_|refine Wd ?_|refine We rfl ?_|refine Wf (by first|exact Vb|exact Vc) rfl ?_|refine Wi ?_|refine Ws ?_|refine Wt ?_)
    exact CT.done (Y := OfY L) ⟨⟨bo, bk, [], [], none, 0, false⟩, ofOk_no hno (Nat.zero_le _)⟩ rfl (fun w ho => (Hold.add (A := sl (α := ID) none 0 []) (ho.ent : Hold _ _ [] w) sl_nil))
  · have hmay : ∀ c ∈ L, may c = true := by
      intro c hc
      rw [← Bool.not_eq_false]
      intro hn
      have h1 : (idsP L).length = L.length := by omega
      rw [idsP_not hc hn, List.length_nil] at h1
      have := List.length_pos_of_mem hc
      omega
    have hids := idsP_all hmay
    have hcl : (cids L).length = L.length := cids_length L
    repeat (first|refine Wa ?_|refine Wb ?_|refine Wc ?_|refine We rfl ?_|refine Wf (by first|exact Vc|exact Vf) rfl ?_|refine Wl ?_)
    refine JR.makeInts rfl rfl (by omega) ?_
    intro bO
    repeat (first|refine Wa ?_|refine Wb ?_|refine Wc ?_|refine Wd ?_|refine We rfl ?_|refine Wf (by first|exact Va|exact Vb|exact Vf) rfl ?_|refine Wn ?_)
    rw [hids]
    refine JC.more (Γ' := .own bO 3 ((List.replicate L.length 0).map natV) :: .own b2 80 [.map none, .map none] :: .own b5 80 [.map (some bo), .map (some bk)] :: .omap bo (ents idV ([] : List (ID × Value))) ([] : List (ID × Value)).length :: .omap bk (ents idV ([] : List (ID × Value))) ([] : List (ID × Value)).length :: .st (graphA []) :: .st (ro b1 0 [.slice a L.length k]) :: .st (sl a k L) :: .st (sl p q (cids L)) :: []) (fun w1 ho => (ho.add (A := graphA []) graph_nil).ent) ?_
    refine JC.loop1 (fun (i : Nat) => [(1, .pointer (some ⟨b1, 0, none⟩)), (2, .pointer (some ⟨b2, 0, none⟩)), (5, .pointer (some ⟨b5, 0, none⟩)), (6, .slice p (cids L).length q), (7, .slice (some ⟨bO, 0, none⟩) L.length L.length), (28, .int .i64 (L.length : Int)), (29, .int .i64 (i : Int))])
      (fun i => .own bO 3 ((List.range i ++ List.replicate (L.length - i) 0).map natV) :: .own b2 80 [.map none, .map none] :: .own b5 80 [.map (some bo), .map (some bk)] :: .omap bo (ents idV ([] : List (ID × Value))) ([] : List (ID × Value)).length :: .omap bk (ents idV ([] : List (ID × Value))) ([] : List (ID × Value)).length :: .st (graphA []) :: .st (ro b1 0 [.slice a L.length k]) :: .st (sl a k L) :: .st (sl p q (cids L)) :: [])
      (fun i => i ≤ L.length) (fun i => L.length - i) 0 (Nat.zero_le _) (by rw [List.range_zero, List.nil_append, Nat.sub_zero]; infer_instance) ?_
    intro i hi
    repeat (first|refine Wa ?_|refine Wb ?_|refine Wc ?_|refine Wd ?_|refine We rfl ?_|refine Wf (by exact Vg) rfl ?_)
    refine JC.test (fun hlt => ?_) (fun hge => ?_)
    · have hlt' : i < L.length := by omega
      have e : (List.range i ++ List.replicate (L.length - i) 0).set i i = List.range (i + 1) ++ List.replicate (L.length - (i + 1)) 0 := by
        obtain ⟨m, hm⟩ : ∃ m, L.length - i = m + 1 := ⟨L.length - i - 1, by omega⟩
        rw [hm, List.replicate_succ, List.set_append_right _ _ (by simp), List.length_range, Nat.sub_self, List.set_cons_zero, List.range_succ, List.append_assoc, show L.length - (i + 1) = m by omega]
        rfl
      repeat (first|refine Wa ?_|refine Wb ?_|refine Wc ?_|refine Wd ?_|refine We rfl ?_|refine Wf (by first|exact Va|exact Vb) rfl ?_|refine Wl ?_|refine Wn ?_)
      refine Wf (OpV.indexBuf (k := i) hlt') rfl ?_
      refine We rfl ?_
      refine JR.setW (f := natV) i i (by simp; omega) (by omega) rfl ?_
      rw [e]
      repeat (first|refine Wa ?_|refine Wc ?_|refine Wd ?_|refine We rfl ?_|refine Wf (by first|exact Va|exact Vk (by omega)) rfl ?_|refine Wr ?_)
      exact ⟨i + 1, by omega, by omega, inferInstance⟩
    obtain rfl : i = L.length := by omega
    rw [show List.range L.length ++ List.replicate (L.length - L.length) 0 = List.range L.length by simp]
    repeat (first|refine Wa ?_|refine Wb ?_|refine Wc ?_|refine We rfl ?_|refine Wf (by first|exact Va|exact Vr) rfl ?_|refine Wm ?_|refine Wo ?_|refine Wp ?_)
    refine JR.callW (v := fun _ : Order (fun i j => cmpI (genC L i) (genC L j)) L.length => .tuple ⟨[]⟩) rfl (fun w1 hw => sortFunc_gen (el := 3) (a := a) (k := k) (bl := b1) (Γ := .own b2 80 [.map none, .map none] :: .own b5 80 [.map (some bo), .map (some bk)] :: .omap bo (ents idV ([] : List (ID × Value))) ([] : List (ID × Value)).length :: .omap bk (ents idV ([] : List (ID × Value))) ([] : List (ID × Value)).length :: .st (graphA []) :: .st (sl p q (cids L)) :: []) hl hw.ent) ?_
    rintro ⟨O, hO1, hO2⟩
    dsimp only
    have hOl : O.length = L.length := by rw [hO1.length_eq, List.length_range]
    obtain ⟨Lo, hLo⟩ : ∃ Lo, Lo = byO L O := ⟨_, rfl⟩
    have hLp : Lo.Perm L := hLo ▸ byO_perm hO1
    have hLl : Lo.length = L.length := hLp.length_eq
    have hLs : Lo.Pairwise (fun c d => c.gen ≤ d.gen) := by
      rw [hLo, byO, List.pairwise_map]
      refine hO2.imp ?_
      intro i j hij
      rw [cmpI_lt] at hij
      simp only [genC] at hij
      omega
    repeat (first|refine Wa ?_|refine Wb ?_|refine Wc ?_|refine Wd ?_|refine We rfl ?_|refine Wf (by first|exact Va|exact Vf) rfl ?_|refine Wn ?_)
    refine JC.loop2 (fun (i : Nat) (R : List Row) => [(1, .pointer (some ⟨b1, 0, none⟩)), (2, .pointer (some ⟨b2, 0, none⟩)), (5, .pointer (some ⟨b5, 0, none⟩)), (6, .slice p (cids L).length q), (40, .slice (some ⟨bO, 0, none⟩) L.length L.length), (41, .int .i64 (L.length : Int)), (42, .int .i64 (i : Int))])
      (fun i R => .own bO 3 (O.map natV) :: .own b2 80 [.map none, .map none] :: .own b5 80 [.map (some bo), .map (some bk)] :: .omap bo (ents idV (ofM R)) (ofM R).length :: .omap bk (ents idV (knM R)) (knM R).length :: .st (graphA R) :: .st (ro b1 0 [.slice a L.length k]) :: .st (sl a k L) :: .st (sl p q (cids L)) :: [])
      (fun i R => i ≤ L.length ∧ Built (grOf R) ∧ nodes (grOf R) = Lo.take i ∧ ∀ r ∈ R, r.1.2.Nodup) (fun i _ => L.length - i) 0 [] ⟨Nat.zero_le _, .nil, rfl, by simp⟩ (by rw [show ofM [] = [] from rfl, show knM [] = [] from rfl]; infer_instance) ?_
    intro i R ⟨hi, hB, hnd, hS⟩
    have hR := hB.right
    have hgen : ∀ r ∈ R, 0 ≤ r.1.1.gen ∧ r.1.1.gen ≤ 1048576 := fun r hr => by
      have h1 : r.1.1 ∈ nodes (grOf R) := by rw [nodes_gr]; exact List.mem_map.2 ⟨r, hr, rfl⟩
      rw [hnd] at h1
      have h2 := may_gen (hmay _ (hLp.mem_iff.1 (List.mem_of_mem_take h1)))
      omega
    repeat (first|refine Wa ?_|refine Wb ?_|refine Wc ?_|refine Wd ?_|refine We rfl ?_|refine Wf (by exact Vg) rfl ?_)
    refine JC.test (fun hlt => ?_) (fun hge => ?_)
    · have hlt' : i < L.length := by omega
      have hiO : i < O.length := by omega
      obtain ⟨j, hj⟩ : ∃ j, j = O[i] := ⟨_, rfl⟩
      have hjn : j < L.length := by rw [hj]; exact List.mem_range.1 (hO1.mem_iff.1 (List.getElem_mem hiO))
      have hLi : i < Lo.length := by omega
      have hLoi : Lo[i] = L[j] := by
        subst hLo
        simp [byO, ← hj, List.getD_eq_getElem?_getD, hjn]
      have hjm : L[j] ∈ L := List.getElem_mem hjn
      have hxe : (cids L)[j]'(by omega) = idC L[j] := cids_get L j (by omega)
      have hstep : Closed L → idC L[j] ∉ cids (nodes (grOf R)) ∧ merge L[j] = false ∧ addOk (grOf R) L[j] = true ∧ addGen (grOf R) L[j] = true := fun hc => by
        have := (Closed.perm hLp.symm hc).step hLs hB hLi hnd
        rwa [hLoi] at this
      have hkO : ((ofM R).map (·.1)).Nodup := by rw [ofM_keys]; exact hR.nodup
      repeat (first|refine Wa ?_|refine Wb ?_|refine Wc ?_|refine We rfl ?_|refine Wl ?_|refine Wn ?_)
      refine Wf (OpV.indexBuf (k := i) (by omega)) rfl ?_
      refine We rfl ?_
      refine Wf (OpV.getW (f := natV) i (by omega) (by omega) rfl) rfl ?_
      refine JO.reslot 45 (natV j) (by rw [hj]) ?_
      repeat (first|refine Wa ?_|refine Wb ?_|refine Wd ?_|refine We rfl ?_|refine Wf (by exact Vb) rfl ?_)
      refine JC.openID (L := cids L) (.slice p (cids L).length q) j (by omega) ?_
      intro bi oi
      rw [hxe]
      by_cases hd : idC L[j] ∈ cids (nodes (grOf R))
      · have hno : ¬ Closed L := fun hc => (hstep hc).1 hd
        obtain ⟨r, hr, hre, hgo, hgk, hkn⟩ := row_of hR.nodup hd
        refine JC.drawN [.own b5 80 [.map (some bo), .map (some bk)], .omap bo (ents idV (ofM R)) (ofM R).length, .st (elA (.slice p (cids L).length q) j 32 bi oi), .st (ro bi oi (idc (idC L[j])))] mixed ?_
        refine JN.take 0 rfl (by kernel_rfl) rfl Vd rfl rfl ?_
        refine JN.take 1 rfl (by kernel_rfl) rfl Vc rfl rfl ?_
        refine JN.take 2 rfl (by kernel_rfl) rfl Va rfl rfl ?_
        refine JN.take 3 rfl (by kernel_rfl) rfl Va rfl rfl ?_
        refine JN.take 4 rfl (by kernel_rfl) rfl Ve rfl rfl ?_
        refine JN.take 5 rfl (by kernel_rfl) rfl Vc rfl rfl ?_
        refine JN.take 6 rfl (by kernel_rfl) rfl (OpV.lookupOk (M := ofM R) (v := commitV r.1.1 r.2.1 r.2.2.1) (is := true) (idC L[j]) hkO (by rw [hgo]; rfl) (by rw [hgo]; rfl)) rfl rfl ?_
        refine JN.take 7 rfl (by kernel_rfl) rfl Va rfl rfl ?_
        refine JN.take 8 rfl (by kernel_rfl) rfl Vq rfl rfl ?_
        refine JN.take 9 rfl (by kernel_rfl) rfl Vq rfl rfl ?_
        refine JN.op 10 (by kernel_rfl) rfl rfl (Wg rfl (fun b11 => Wd ⟨rfl, inferInstance, ?_⟩))
        refine JN.op 11 (by kernel_rfl) rfl rfl (Wi (Wd ⟨rfl, inferInstance, ?_⟩))
        refine JN.op 12 (by kernel_rfl) rfl rfl (Wf Vb rfl (Wd ⟨rfl, inferInstance, ?_⟩))
        refine JN.nil (by kernel_rfl) ?_
        repeat (first|refine Wa ?_|refine Wb ?_)
        refine JC.quiet mixed (by kernel_rfl) ?_
        repeat (first|refine Wy rfl (by first|exact Va|exact Vc|exact Vi) rfl ?_|refine Wz rfl rfl ?_|refine WB ?_)
        repeat (first|refine Wa ?_|refine Wb ?_|refine Wc ?_|refine Wd ?_|refine We rfl ?_|refine Wf (by first|exact Vb|exact Vc) rfl ?_|refine Wi ?_|refine Wj ?_|refine Ws ?_|refine Wt ?_|refine Wu ?_)
        exact CT.done (Y := OfY L) ⟨⟨bo, bk, [], [], none, 0, false⟩, ofOk_no hno (Nat.zero_le _)⟩ rfl (fun w ho => (Hold.add (A := sl (α := ID) none 0 []) (ho.ent : Hold _ _ [] w) sl_nil))
      · obtain ⟨hgo, hgk⟩ := row_none hd
        refine JC.drawN [.own b5 80 [.map (some bo), .map (some bk)], .omap bo (ents idV (ofM R)) (ofM R).length, .st (elA (.slice p (cids L).length q) j 32 bi oi), .st (ro bi oi (idc (idC L[j])))] mixed ?_
        refine JN.take 0 rfl (by kernel_rfl) rfl Vd rfl rfl ?_
        refine JN.take 1 rfl (by kernel_rfl) rfl Vc rfl rfl ?_
        refine JN.take 2 rfl (by kernel_rfl) rfl Va rfl rfl ?_
        refine JN.take 3 rfl (by kernel_rfl) rfl Va rfl rfl ?_
        refine JN.take 4 rfl (by kernel_rfl) rfl Ve rfl rfl ?_
        refine JN.take 5 rfl (by kernel_rfl) rfl Vc rfl rfl ?_
        refine JN.take 6 rfl (by kernel_rfl) rfl (OpV.lookupOk (M := ofM R) (v := .agg ⟨[.int .i64 0, .int .i64 0, .int .i64 0, .slice none 0 0, .int .i64 0, .string .empty, .string .empty, .int .i64 0]⟩) (is := false) (idC L[j]) hkO (by rw [hgo]; rfl) (by rw [hgo]; rfl)) rfl rfl ?_
        refine JN.take 7 rfl (by kernel_rfl) rfl Va rfl rfl ?_
        refine JN.take 8 rfl (by kernel_rfl) rfl Vq rfl rfl ?_
        refine JN.take 9 rfl (by kernel_rfl) rfl Vq rfl rfl ?_
        refine JN.op 10 (by kernel_rfl) rfl rfl (Wg rfl (fun b11 => Wd ⟨rfl, inferInstance, ?_⟩))
        refine JN.op 11 (by kernel_rfl) rfl rfl (Wi (Wd ⟨rfl, inferInstance, ?_⟩))
        refine JN.op 12 (by kernel_rfl) rfl rfl (Wf Vb rfl (Wd ⟨rfl, inferInstance, ?_⟩))
        refine JN.nil (by kernel_rfl) ?_
        repeat (first|refine Wa ?_|refine Wb ?_)
        refine JC.openCommit (L := L) (.slice a L.length k) j hjn ?_
        intro bc oc pc qc
        have hfx := hf _ hjm
        cases hmer : merge L[j] with
        | true =>
          have hno : ¬ Closed L := fun hc => by have := (hstep hc).2.1; rw [hmer] at this; cases this
          refine JC.quiet mixed (by kernel_rfl) ?_
          repeat (refine Wy rfl (by first|exact Va|exact Vc|exact Ve) rfl ?_)
          refine JQ.call rfl rfl (fun w1 hw => merge_commit w1 _ (L[j]) pc qc hw.get hfx.1) ?_
          refine JQ.reslot 62 (.bool true) (by rw [hmer]) ?_
          repeat (first|refine Wy rfl (by first|exact Va|exact Vc|exact Vi|exact Vj) rfl ?_|refine Wz rfl rfl ?_|refine WB ?_)
          repeat (first|refine Wa ?_|refine Wb ?_|refine Wc ?_|refine Wd ?_|refine We rfl ?_|refine Wf (by first|exact Vb|exact Vc) rfl ?_|refine Wi ?_|refine Wj ?_|refine Ws ?_|refine Wt ?_|refine Wu ?_)
          exact CT.done (Y := OfY L) ⟨⟨bo, bk, [], [], none, 0, false⟩, ofOk_no hno (Nat.zero_le _)⟩ rfl (fun w ho => (Hold.add (A := sl (α := ID) none 0 []) (ho.ent : Hold _ _ [] w) sl_nil))
        | false =>
          refine JC.draw 18 mixed ?_
          refine JM.take 0 rfl (by kernel_rfl) rfl Va rfl rfl ?_
          refine JM.take 1 rfl (by kernel_rfl) rfl Va rfl rfl ?_
          refine JM.take 2 rfl (by kernel_rfl) rfl Vc rfl rfl ?_
          refine JM.take 3 rfl (by kernel_rfl) rfl Va rfl rfl ?_
          refine JM.take 4 rfl (by kernel_rfl) rfl Ve rfl rfl ?_
          refine JM.take 5 rfl (by kernel_rfl) rfl Vc rfl rfl ?_
          refine JM.takeCall 6 rfl (by kernel_rfl) rfl (fun w1 hw => merge_commit w1 _ (L[j]) pc qc hw.get hfx.1) rfl rfl ?_
          refine JM.reslot 62 (.bool false) (by rw [hmer]) ?_
          refine JM.take 7 rfl (by kernel_rfl) rfl Vj rfl rfl ?_
          refine JM.take 8 rfl (by kernel_rfl) rfl Va rfl rfl ?_
          refine JM.take 9 rfl (by kernel_rfl) rfl Vc rfl rfl ?_
          refine JM.take 10 rfl (by kernel_rfl) rfl Va rfl rfl ?_
          refine JM.take 11 rfl (by kernel_rfl) rfl Va rfl rfl ?_
          refine JM.take 12 rfl (by kernel_rfl) rfl Ve rfl rfl ?_
          refine JM.take 13 rfl (by kernel_rfl) rfl Vc rfl rfl ?_
          refine JM.take 14 rfl (by kernel_rfl) rfl Vc rfl rfl ?_
          refine JM.take 15 rfl (by kernel_rfl) rfl Va rfl rfl ?_
          refine JM.take 16 rfl (by kernel_rfl) rfl Ve rfl rfl ?_
          refine JM.take 17 rfl (by kernel_rfl) rfl Vc rfl rfl ?_
          refine JM.last 18 (by kernel_rfl) rfl rfl rfl (JR.callW (v := fun y : AddY R L[j] => .bool y.1.2.2) rfl (fun w1 hw => add_graph (a := pc) (k := qc) (Γ := .own bO 3 (O.map natV) :: .own b2 80 [.map none, .map none] :: .own b5 80 [.map (some bo), .map (some bk)] :: .st (ro b1 0 [.slice a L.length k]) :: .st (sl a k L) :: .st (sl p q (cids L)) :: []) hR.nodup hS hd hgen hw.ent) (fun y => ?_))
          rcases y with ⟨⟨S, ba, ok⟩, hy1, hy2⟩
          dsimp only at hy1 hy2 ⊢
          cases ok with
          | false =>
            have hno : ¬ Closed L := fun hc => by
              have := hstep hc
              rw [this.2.2.1, this.2.2.2] at hy1; cases hy1
            rw [if_neg (by simp)]
            refine Wd ⟨rfl, ?_⟩
            refine JM.last 19 (by kernel_rfl) rfl rfl rfl (Wf Vh rfl (Wd ⟨rfl, ?_⟩))
            refine JM.last 20 (by kernel_rfl) rfl rfl rfl (Wf Vj rfl (Wd ⟨rfl, ?_⟩))
            refine JM.nil (by kernel_rfl) ?_
            repeat (first|refine Wa ?_|refine Wb ?_|refine Wc ?_|refine Wd ?_|refine We rfl ?_|refine Wf (by first|exact Vb|exact Vc) rfl ?_|refine Wi ?_|refine Wj ?_|refine Ws ?_|refine Wt ?_|refine Wu ?_)
            exact CT.done (Y := OfY L) ⟨⟨bo, bk, [], [], none, 0, false⟩, ofOk_no hno (Nat.zero_le _)⟩ rfl (fun w ho => (Hold.add (A := sl (α := ID) none 0 []) (ho.ent : Hold _ _ [] w) sl_nil))
          | true =>
            obtain ⟨hSn, hSk⟩ := hy2 rfl
            have hy1' := hy1.symm
            rw [Bool.and_eq_true] at hy1'
            rw [if_pos rfl]
            refine Wd ⟨rfl, ?_⟩
            refine JM.last 19 (by kernel_rfl) rfl rfl rfl (Wf Vh rfl (Wd ⟨rfl, ?_⟩))
            refine JM.last 20 (by kernel_rfl) rfl rfl rfl (Wf Vj rfl (Wd ⟨rfl, ?_⟩))
            refine JM.nil (by kernel_rfl) ?_
            repeat (first|refine Wa ?_|refine Wc ?_|refine Wd ?_|refine We rfl ?_|refine Wf (by first|exact Va|exact Vk (by omega)) rfl ?_|refine Wk ?_|refine Wl ?_|refine Wr ?_)
            refine ⟨i + 1, R ++ [((L[j], S), (pc, qc, ba))], ⟨by omega, ?_, ?_, fun r hr => ?_⟩, by omega, inferInstance⟩
            · rw [grOf_snoc]; exact .snoc hB hd hmer hy1'.1 hy1'.2 hSk
            · rw [grOf_snoc, nodes_snoc, hnd, List.take_succ_eq_append_getElem hLi, hLoi]
            · rcases List.mem_append.1 hr with hr | hr
              · exact hS r hr
              · simp only [List.mem_singleton] at hr; subst hr; exact hSn
    · obtain rfl : i = L.length := by omega
      rw [List.take_of_length_le (by omega)] at hnd
      have hfin : Closed L ↔ evG R = true := by
        rw [evG_iff hR]
        constructor
        · intro hc c hcm d hdm
          rw [hnd] at hcm hdm ⊢
          exact (Closed.perm hLp.symm hc).ev c hcm d hdm
        · intro he
          have := hB.closed (fun c hc => hmay c (by rw [hnd] at hc; exact hLp.mem_iff.1 hc)) he
          rw [hnd] at this
          exact Closed.perm hLp this
      refine JC.more (Γ' := .st (rmap bo (ents idV (ofM R)) (ofM R).length) :: .st (rmap bk (ents idV (knM R)) (knM R).length) :: .st (graphA R) :: .own b2 80 [.map none, .map none] :: .own b5 80 [.map (some bo), .map (some bk)] :: .st (ro b1 0 [.slice a L.length k]) :: .st (sl a k L) :: .st (sl p q (cids L)) :: []) (fun w1 ho => ?_) ?_
      · have h1 : Hold _ _ (.omap bo (ents idV (ofM R)) (ofM R).length :: .omap bk (ents idV (knM R)) (knM R).length :: .st (graphA R) :: .own b2 80 [.map none, .map none] :: .own b5 80 [.map (some bo), .map (some bk)] :: .st (ro b1 0 [.slice a L.length k]) :: .st (sl a k L) :: .st (sl p q (cids L)) :: []) w1 := ho.ent
        have h2 : Hold _ _ (.omap bk (ents idV (knM R)) (knM R).length :: .st (rmap bo (ents idV (ofM R)) (ofM R).length) :: .st (graphA R) :: .own b2 80 [.map none, .map none] :: .own b5 80 [.map (some bo), .map (some bk)] :: .st (ro b1 0 [.slice a L.length k]) :: .st (sl a k L) :: .st (sl p q (cids L)) :: []) w1 := (h1.pubMap).ent
        exact (h2.pubMap).ent
      repeat (first|refine Wa ?_|refine Wb ?_|refine Wm ?_|refine Wo ?_|refine Wp ?_)
      refine JC.drawN [.own b5 80 [.map (some bo), .map (some bk)]] mixed ?_
      refine JN.take 0 rfl (by kernel_rfl) rfl Vc rfl rfl ?_
      refine JN.take 1 rfl (by kernel_rfl) rfl Va rfl rfl ?_
      refine JN.take 2 rfl (by kernel_rfl) rfl Vc rfl rfl ?_
      refine JN.op 3 (by kernel_rfl) rfl rfl (JR.callV rfl (fun w1 hw => events_graph w1 _ bo bk R hR.nodup hS hw.get hw.get hw.get) (Wd ⟨rfl, inferInstance, ?_⟩))
      refine JN.op 4 (by kernel_rfl) rfl rfl (Wi (Wd ⟨rfl, inferInstance, ?_⟩))
      refine JN.op 5 (by kernel_rfl) rfl rfl (Wf Vb rfl (Wd ⟨rfl, inferInstance, ?_⟩))
      refine JN.op 6 (by kernel_rfl) rfl rfl (Wf Vb rfl (Wd ⟨rfl, inferInstance, ?_⟩))
      refine JN.nil (by kernel_rfl) ?_
      repeat (first|refine Wa ?_|refine Ws ?_)
      refine CT.done (Y := OfY L) ⟨⟨bo, bk, R, cids L, p, q, evG R⟩, ⟨hfin.symm, by show (cids L).length ≤ _; omega, fun _ => rfl, fun _ => hB, fun _ => by rw [hnd]; exact hLp, fun _ => hS⟩⟩ rfl (fun w ho => ?_)
      by_cases hev : evG R = true
      · rw [ofB, if_pos hev]; exact ho.ent
      · rw [ofB, if_neg hev]; exact ho.ent
end Ab
end Go.Proofs.YtglclakhjmogiaaGreat

/- Contracts of dag.Closed, Anc, Part, Sorted. -/
namespace Go.Proofs.YtglclakhjmogiaaGreat
namespace Ab
open Go Go.RowKit
set_option linter.unusedVariables false
set_option linter.unusedSimpArgs false
set_option synthInstance.maxSize 4000
set_option synthInstance.maxHeartbeats 400000
attribute [local irreducible] JC JO JR JQ andThen inBlock OpV Gives retTo JM JS

attribute [local irreducible] ents hashC graphA
theorem of_true {L : List Commit} {bo bk q : Nat} {R : List Row} {I : List ID} {p : Option Addr} (hy : OfOk L ⟨bo, bk, R, I, p, q, true⟩) :
    ofB (L := L) ⟨⟨bo, bk, R, I, p, q, true⟩, hy⟩ = [.st (rmap bo (ents idV (ofM R)) (ofM R).length), .st (rmap bk (ents idV (knM R)) (knM R).length), .st (graphA R), .st (sl p q I)] := if_pos rfl
theorem of_false {L : List Commit} {bo bk q : Nat} {R : List Row} {I : List ID} {p : Option Addr} (hy : OfOk L ⟨bo, bk, R, I, p, q, false⟩) :
    ofB (L := L) ⟨⟨bo, bk, R, I, p, q, false⟩, hy⟩ = [.st (sl p q I)] := if_neg (by simp)
/-- A truth value that tells whether commits are closed. -/
abbrev IsClosed (L : List Commit) := { b : Bool // b = true ↔ Closed L }
theorem closed_dag (w : World) (F : Nat → Prop) (a : Option Addr) (k : Nat) (L : List Commit) (h : (sl a k L).holds F w) (hl : L.length ≤ 1000000) (hf : ∀ x ∈ L, fine x) :
    Gives Tryz.prog 29 [.slice a L.length k] w F (fun y : IsClosed L => .bool y.1) (fun _ => []) := by
  refine gives_of Tryz.func29 rfl Tryz.ntmps29 rfl rfl [.st (sl a k L)] (.start1 h) ?_
  repeat (first|refine Wa ?_|refine Wb ?_|refine Wc ?_|refine Wd ?_|refine We rfl ?_|refine Wf (by first|exact Va|exact Vb) rfl ?_)
  refine JR.call (v := fun y : OfY L => ofV y) rfl (fun w1 hw => of_dag w1 _ a k L hw.get hl hf) ?_
  rintro ⟨⟨bo, bk, R, I, p, q, b⟩, hy⟩
  dsimp only [ofV]
  refine JO.more (Γ' := []) (fun w1 ho => ho.ent) ?_
  repeat (first|refine Wa ?_|refine Wb ?_|refine Wc ?_|refine Wd ?_|refine We rfl ?_|refine Wf (by first|exact Va|exact Vb|exact Vq) rfl ?_|(refine Wg rfl ?_; intro _)|refine Wi ?_|refine Ws ?_)
  exact CT.done (Y := IsClosed L) ⟨b, hy.iff⟩ rfl (fun w ho => ho.ent)

theorem nodup_len {α : Type} [DecidableEq α] : ∀ (S L : List α), S.Nodup → (∀ x ∈ S, x ∈ L) → S.length ≤ L.length
  | [], _, _, _ => Nat.zero_le _
  | x :: S, L, h, hs => by
    have h1 := List.nodup_cons.1 h
    have := nodup_len S (L.erase x) h1.2 (fun y hy => (List.mem_erase_of_ne (by intro e; subst e; exact h1.1 hy)).2 (hs y (by simp [hy])))
    have h2 := List.length_erase_of_mem (hs x (by simp))
    have h3 := List.length_pos_of_mem (hs x (by simp))
    simp only [List.length_cons]; omega
/-- Ids of which some stand behind some of A, or are of A. -/
def inAnc (L : List Commit) (A : List ID) (x : ID) : Prop := x ∈ cids L ∧ (x ∈ A ∨ ∃ y ∈ A, knows L y x)
structure AncR (L : List Commit) (A M : List ID) : Prop where
  sorted : M.Pairwise (fun x y => idLt y x = false)
  nodup : M.Nodup
  mem : Closed L → ∀ x, x ∈ M ↔ inAnc L A x
  not : ¬ Closed L → M = []
theorem AncR.unique {L : List Commit} {A M N : List ID} (h : AncR L A M) (k : AncR L A N) : M = N := by
  by_cases hc : Closed L
  · exact sorted_unique ((List.perm_ext_iff_of_nodup h.nodup k.nodup).2 fun x => (h.mem hc x).trans (k.mem hc x).symm) h.sorted k.sorted
  · rw [h.not hc, k.not hc]
abbrev AncY (L : List Commit) (A : List ID) := { y : List ID × Option Addr × Nat // AncR L A y.1 }
set_option maxHeartbeats 2000000 in
theorem anc_dag (w : World) (F : Nat → Prop) (a d : Option Addr) (k m : Nat) (L : List Commit) (A : List ID) (h : (sl a k L).holds F w) (h' : (sl d m A).holds F w) (hl : L.length ≤ 1000) (hA : A.length ≤ 1000) (hf : ∀ x ∈ L, fine x) :
    Gives Tryz.prog 30 [.slice a L.length k, .slice d A.length m] w F (fun y : AncY L A => .slice y.1.2.1 y.1.1.length y.1.2.2) (fun y => [.st (sl y.1.2.1 y.1.2.2 y.1.1)]) := by
  refine gives_of Tryz.func30 rfl Tryz.ntmps30 rfl rfl [.st (sl a k L), .st (sl d m A)] (.start2 h h') ?_
  repeat (first|refine Wa ?_|refine Wb ?_|refine Wc ?_|refine Wd ?_|refine We rfl ?_|refine Wf (by first|exact Va|exact Vb) rfl ?_)
  refine JR.call (v := fun y : OfY L => ofV y) rfl (fun w1 hw => of_dag w1 _ a k L hw.get (by omega) hf) ?_
  rintro ⟨⟨bo, bk, R, I, p, q, b⟩, hy⟩
  dsimp only [ofV]
  cases b with
  | false =>
    have hno : ¬ Closed L := fun hc => by have := hy.iff.2 hc; cases this
    refine JO.more (Γ' := []) (fun w1 ho => ho.ent) ?_
    repeat (first|refine Wa ?_|refine Wb ?_|refine Wc ?_|refine Wd ?_|refine We rfl ?_|refine Wf (by first|exact Va|exact Vb|exact Vh|exact Vq) rfl ?_|(refine Wg rfl ?_; intro _)|refine Wi ?_|refine Wj ?_|refine Ws ?_|refine Wt ?_)
    exact CT.done (Y := AncY L A) ⟨([], none, 0), ⟨List.Pairwise.nil, List.nodup_nil, fun hc => (hno hc).elim, fun _ => rfl⟩⟩ rfl (fun w ho => (Hold.add (A := sl (α := ID) none 0 []) (ho.ent : Hold _ _ [] w) sl_nil))
  | true =>
    have hc := hy.iff.1 rfl
    have hI := hy.ids rfl
    have hB := hy.built rfl
    have hP := hy.perm rfl
    have hS := hy.nodup rfl
    dsimp only at hI hB hP hS
    have hR := hB.right
    have hkO : ((ofM R).map (·.1)).Nodup := by rw [ofM_keys]; exact hR.nodup
    have hkK : ((knM R).map (·.1)).Nodup := by rw [knM_keys]; exact hR.nodup
    have hmem : ∀ x, x ∈ cids (nodes (grOf R)) ↔ x ∈ cids L := fun x => (cids_perm hP).mem_iff
    have hknow : knows (nodes (grOf R)) = knows L := knows_perm hP
    refine JO.more (Γ' := [.st (rmap bo (ents idV (ofM R)) (ofM R).length), .st (rmap bk (ents idV (knM R)) (knM R).length), .st (graphA R), .st (sl a k L), .st (sl d m A)]) (fun w1 ho => by rw [of_true hy] at ho; simp only [List.cons_append, List.nil_append] at ho; exact ho.ent) ?_
    repeat (first|refine Wa ?_|refine Wb ?_|refine Wc ?_|refine Wd ?_|refine We rfl ?_|refine Wf (by first|exact Va|exact Vb|exact Vf|exact Vh|exact Vq) rfl ?_|(refine Wg rfl ?_; intro _)|refine Wi ?_|refine Wk ?_|refine Wl ?_|refine Wn ?_)
    rename_i b5
    refine JC.buf_nil (α := ID) 47 ?_
    refine JC.loop4 (fun (i : Nat) (out : List ID) r s => [(5, .pointer (some ⟨b5, 0, none⟩)), (8, .slice r out.length s), (22, .slice d A.length m), (23, .int .i64 (A.length : Int)), (24, .int .i64 (i : Int))])
      (fun i out r s => [.res (buf r s 47 out), .own b5 80 [.map (some bo), .map (some bk)], .st (rmap bo (ents idV (ofM R)) (ofM R).length), .st (rmap bk (ents idV (knM R)) (knM R).length), .st (graphA R), .st (sl a k L), .st (sl d m A)])
      (fun i out r s => i ≤ A.length ∧ out.length ≤ i * 1001 ∧ ∀ x, x ∈ out ↔ ∃ y ∈ A.take i, y ∈ cids L ∧ (x = y ∨ knows L y x)) (fun i _ _ _ => A.length - i) 0 [] none 0 ⟨Nat.zero_le _, by simp, by simp⟩ inferInstance ?_
    intro i out r s ⟨hi, hol, hom⟩
    repeat (first|refine Wa ?_|refine Wb ?_|refine Wc ?_|refine Wd ?_|refine We rfl ?_|refine Wf (by exact Vg) rfl ?_)
    refine JC.test (fun hlt => ?_) (fun hge => ?_)
    · have hlt' : i < A.length := by omega
      repeat (first|refine Wa ?_|refine Wb ?_|refine Wc ?_|refine We rfl ?_|refine Wl ?_|refine Wn ?_)
      refine JR.indexID rfl hlt' ?_
      intro bi oi
      repeat (first|refine Wa ?_|refine Wb ?_|refine Wc ?_|refine Wd ?_|refine We rfl ?_|refine Wf (by first|exact Vc|exact Vd) rfl ?_|(refine Wg rfl ?_; intro _)|refine Wi ?_)
      by_cases hd : A[i] ∈ cids (nodes (grOf R))
      · obtain ⟨rw_, hr, hre, hgo, hgk, hkn⟩ := row_of hR.nodup hd
        have hSm : ∀ x, x ∈ rw_.1.2 ↔ knows L A[i] x := fun x => by rw [← hkn, hR.known _ hd, hknow]
        have hSl : rw_.1.2.length ≤ 1000 := by
          have := nodup_len rw_.1.2 (cids L) (hS rw_ hr) (fun x hx => (knows_ids ((hSm x).1 hx)).2)
          rw [cids_length] at this; omega
        refine Wf (OpV.lookupOk (M := ofM R) (v := commitV rw_.1.1 rw_.2.1 rw_.2.2.1) (is := true) A[i] hkO (by rw [hgo]; rfl) (by rw [hgo]; rfl)) rfl ?_
        repeat (first|refine Wa ?_|refine Wb ?_|refine Wc ?_|refine Wd ?_|refine We rfl ?_|refine Wf (by first|exact Va|exact Vb|exact Vc|exact Vh|exact Vq) rfl ?_|(refine Wg rfl ?_; intro _)|refine Wi ?_|refine Wk ?_|refine Wl ?_|(refine Ww rfl ⟨rfl, by decide, by decide, by decide⟩ ?_; intro _))
        refine JR.append1 (u := A[i]) rfl (by exact ⟨rfl, rfl, by decide⟩) (by omega) ?_
        intro r2 s2
        repeat (first|refine Wa ?_|refine Wb ?_|refine Wc ?_|refine Wd ?_|refine We rfl ?_|refine Wf (by first|exact Vb|exact Vc|exact Vd) rfl ?_)
        refine Wf (OpV.lookupNo (M := knM R) (v := .map (some rw_.2.2.2)) A[i] hkK (by rw [hgk]; rfl)) rfl ?_
        refine JO.more (fun w1 ho => ho.add (A := rmap rw_.2.2.2 (ents idV (sety rw_.1.2)) rw_.1.2.length) (graph_row (ho.get (A := graphA R)) hr).2) ?_
        refine We rfl ?_
        refine JR.rangeS rfl ?_
        intro ri
        repeat (first|refine Wa ?_|refine Wd ?_|refine Wn ?_)
        refine JC.loop4 (fun (S : List Nat) (o2 : List ID) r3 s3 => [(5, .pointer (some ⟨b5, 0, none⟩)), (8, .slice r3 o2.length s3), (22, .slice d A.length m), (23, .int .i64 (A.length : Int)), (24, .int .i64 (i : Int)), (45, .pointer (some ⟨ri, 0, none⟩))])
          (fun S o2 r3 s3 => [.res (buf r3 s3 47 o2), .obj ri (.mapIter (some rw_.2.2.2) rw_.1.2.length S.toArray rw_.1.2.length), .own b5 80 [.map (some bo), .map (some bk)], .st (rmap rw_.2.2.2 (ents idV (sety rw_.1.2)) rw_.1.2.length), .st (rmap bo (ents idV (ofM R)) (ofM R).length), .st (rmap bk (ents idV (knM R)) (knM R).length), .st (graphA R), .st (sl a k L), .st (sl d m A)])
          (fun S o2 _ _ => S.Nodup ∧ (∀ j ∈ S, j < rw_.1.2.length) ∧ o2.length = out.length + 1 + S.length ∧ ∀ x, x ∈ o2 ↔ x ∈ out ∨ x = A[i] ∨ ∃ j ∈ S, rw_.1.2[j]? = some x)
          (fun S _ _ _ => rw_.1.2.length - S.length) [] (out ++ [A[i]]) r2 s2 ⟨List.nodup_nil, by simp, by simp, by simp⟩ inferInstance ?_
        intro S o2 r3 s3 ⟨hS1, hS2, hlen, hmem2⟩
        have hSl2 : S.length ≤ rw_.1.2.length := nodup_le hS1 hS2
        repeat (first|refine Wb ?_|refine Wc ?_|refine We rfl ?_)
        refine JR.nextS rfl hS2 (fun hall => ?_) (fun j hj hjS => ?_)
        · repeat (first|refine Wa ?_|refine Wb ?_|refine Wc ?_|refine Wd ?_|refine We rfl ?_|refine Wf (by first|exact Va|exact Vk (by omega)|exact Vq) rfl ?_|refine Wk ?_|refine Wm ?_|refine Wo ?_|refine Wp ?_|refine Wr ?_)
          refine ⟨i + 1, o2, r3, s3, ⟨by omega, by omega, fun x => ?_⟩, by omega, inferInstance⟩
          rw [hmem2, hom]
          constructor
          · rintro (⟨y, hy, hx⟩ | rfl | ⟨j, hj, hx⟩)
            · exact ⟨y, (mem_take_succ hlt').2 (.inl hy), hx⟩
            · exact ⟨A[i], (mem_take_succ hlt').2 (.inr rfl), (hmem _).1 hd, .inl rfl⟩
            · exact ⟨A[i], (mem_take_succ hlt').2 (.inr rfl), (hmem _).1 hd, .inr ((hSm x).1 (List.mem_of_getElem? hx))⟩
          · rintro ⟨y, hy, hyc, hx⟩
            rcases (mem_take_succ hlt').1 hy with hy | rfl
            · exact .inl ⟨y, hy, hyc, hx⟩
            · rcases hx with rfl | hx
              · exact .inr (.inl rfl)
              · obtain ⟨j, hj, hjx⟩ := List.getElem_of_mem ((hSm x).2 hx)
                exact .inr (.inr ⟨j, hall j hj, by rw [List.getElem?_eq_getElem hj, hjx]⟩)
        · repeat (first|refine Wa ?_|refine Wb ?_|refine Wc ?_|refine Wd ?_|refine We rfl ?_|refine Wf (by exact Vq) rfl ?_|refine Wj ?_|refine Wl ?_|refine Wn ?_)
          refine Wf (OpV.entryS hj) rfl ?_
          repeat (first|refine Wa ?_|refine Wc ?_|refine Wd ?_|refine We rfl ?_|refine Wf (by first|exact Va|exact Vc|exact Vq) rfl ?_|(refine Wg rfl ?_; intro _)|refine Wi ?_|(refine Ww rfl ⟨rfl, by decide, by decide, by decide⟩ ?_; intro _))
          have hS3 : (S ++ [j]).Nodup := List.nodup_append.2 ⟨hS1, by simp, fun x hx y hy => by simp at hy; subst hy; exact fun e => hjS (e ▸ hx)⟩
          have hS4 : ∀ i ∈ S ++ [j], i < rw_.1.2.length := fun i hi => by
            rcases List.mem_append.1 hi with hi | hi
            · exact hS2 i hi
            · simp at hi; subst hi; exact hj
          have hlt2 := nodup_le hS3 hS4
          refine JR.append1 (u := rw_.1.2[j]) rfl (by exact ⟨rfl, rfl, by decide⟩) (by omega) ?_
          intro r4 s4
          repeat (first|refine Wa ?_|refine Wd ?_|refine We rfl ?_|refine Wf (by exact Vb) rfl ?_|refine Wr ?_)
          refine ⟨S ++ [j], o2 ++ [rw_.1.2[j]], r4, s4, ⟨hS3, hS4, by simp; omega, fun x => ?_⟩, by simp at hlt2 ⊢; omega, inferInstance⟩
          rw [List.mem_append, hmem2, List.mem_singleton]
          constructor
          · rintro ((h | h | ⟨y, hy, hx⟩) | rfl)
            · exact .inl h
            · exact .inr (.inl h)
            · exact .inr (.inr ⟨y, by simp [hy], hx⟩)
            · exact .inr (.inr ⟨j, by simp, List.getElem?_eq_getElem hj⟩)
          · rintro (h | h | ⟨y, hy, hx⟩)
            · exact .inl (.inl h)
            · exact .inl (.inr (.inl h))
            · rcases List.mem_append.1 hy with hy | hy
              · exact .inl (.inr (.inr ⟨y, hy, hx⟩))
              · simp at hy; subst hy
                rw [List.getElem?_eq_getElem hj] at hx
                injection hx with hx
                exact .inr hx.symm
      · obtain ⟨hgo, hgk⟩ := row_none hd
        refine Wf (OpV.lookupOk (M := ofM R) (v := .agg ⟨[.int .i64 0, .int .i64 0, .int .i64 0, .slice none 0 0, .int .i64 0, .string .empty, .string .empty, .int .i64 0]⟩) (is := false) A[i] hkO (by rw [hgo]; rfl) (by rw [hgo]; rfl)) rfl ?_
        repeat (first|refine Wa ?_|refine Wb ?_|refine Wc ?_|refine Wd ?_|refine We rfl ?_|refine Wf (by first|exact Va|exact Vb|exact Vh|exact Vk (by omega)|exact Vq) rfl ?_|(refine Wg rfl ?_; intro _)|refine Wi ?_|refine Wj ?_|refine Wm ?_|refine Wo ?_|refine Wp ?_)
        refine ⟨i + 1, out, r, s, ⟨by omega, Nat.le_trans hol (Nat.mul_le_mul_right 1001 (Nat.le_succ i)), fun x => ?_⟩, by omega, inferInstance⟩
        rw [hom]
        constructor
        · rintro ⟨y, hy, hx⟩; exact ⟨y, (mem_take_succ hlt').2 (.inl hy), hx⟩
        · rintro ⟨y, hy, hyc, hx⟩
          rcases (mem_take_succ hlt').1 hy with hy | rfl
          · exact ⟨y, hy, hyc, hx⟩
          · exact (hd ((hmem _).2 hyc)).elim
    · obtain rfl : i = A.length := by omega
      rw [List.take_length] at hom
      refine JC.more (fun w1 ho => ho.pub) ?_
      repeat (first|refine Wa ?_|refine Wb ?_|refine Wc ?_|refine We rfl ?_|refine Wf (by exact Va) rfl ?_|refine Wm ?_|refine Wo ?_|refine Wp ?_)
      refine JR.callBuf rfl (fun w1 hw => sort_ids w1 _ r s out hw.get (by omega)) ?_
      intro p3 q3
      refine JO.more (fun w1 ho => ho.pub) ?_
      repeat (first|refine Wa ?_|refine Wd ?_|refine We rfl ?_|refine Wf (by exact Vb) rfl ?_|refine Ws ?_)
      refine CT.done (Y := AncY L A) ⟨(sortL (setOf out), p3, q3), ⟨sortL_pairwise _, (sortL_perm' _).nodup_iff.2 (setOf_nodup _), fun _ x => ?_, fun hno => (hno hc).elim⟩⟩ rfl (fun w ho => ho.ent)
      rw [mem_sortL, mem_setOf, hom, inAnc]
      constructor
      · rintro ⟨y, hy, hyc, (rfl | hx)⟩
        · exact ⟨hyc, .inl hy⟩
        · exact ⟨(knows_ids hx).2, .inr ⟨y, hy, hx⟩⟩
      · rintro ⟨hx, (hxA | ⟨y, hy, hk⟩)⟩
        · exact ⟨x, hxA, hx, .inl rfl⟩
        · exact ⟨y, hy, (knows_ids hk).1, .inr hk⟩
end Ab
end Go.Proofs.YtglclakhjmogiaaGreat

/- Contracts of dag.Part, Sorted. -/
namespace Go.Proofs.YtglclakhjmogiaaGreat
namespace Ab
open Go Go.RowKit
set_option linter.unusedVariables false
set_option linter.unusedSimpArgs false
set_option synthInstance.maxSize 4000
set_option synthInstance.maxHeartbeats 400000
attribute [local irreducible] JC JO JR JQ andThen inBlock OpV Gives retTo JM JS

attribute [local irreducible] ents hashC graphA
/-- The commits of some ids, of closed ones. -/
structure PartR (L : List Commit) (A : List ID) (M : List Commit) : Prop where
  part : Closed L → M = L.filter (fun c => decide (idC c ∈ A))
  not : ¬ Closed L → M = []
abbrev PartY (L : List Commit) (A : List ID) := { y : List Commit × Option Addr × Nat // PartR L A y.1 }
set_option maxHeartbeats 2000000 in
theorem part_dag (w : World) (F : Nat → Prop) (a d : Option Addr) (k m : Nat) (L : List Commit) (A : List ID) (h : (sl a k L).holds F w) (h' : (sl d m A).holds F w) (hl : L.length ≤ 1000) (hf : ∀ x ∈ L, fine x) :
    Gives Tryz.prog 61 [.slice a L.length k, .slice d A.length m] w F (fun y : PartY L A => .slice y.1.2.1 y.1.1.length y.1.2.2) (fun y => [.st (sl y.1.2.1 y.1.2.2 y.1.1)]) := by
  refine gives_of Tryz.func61 rfl Tryz.ntmps61 rfl rfl [.st (sl a k L), .st (sl d m A)] (.start2 h h') ?_
  repeat (first|refine Wa ?_|refine Wb ?_|refine Wc ?_|refine Wd ?_|refine We rfl ?_|refine Wf (by first|exact Va|exact Vb) rfl ?_)
  refine JR.call (v := fun y : OfY L => ofV y) rfl (fun w1 hw => of_dag w1 _ a k L hw.get (by omega) hf) ?_
  rintro ⟨⟨bo, bk, R, I, p, q, b⟩, hy⟩
  dsimp only [ofV]
  have hIl : I.length ≤ L.length := hy.len
  refine JO.more (Γ' := [.st (sl p q I), .st (sl a k L), .st (sl d m A)]) (fun w1 ho => by
    cases b with
    | false => rw [of_false hy] at ho; simp only [List.cons_append, List.nil_append] at ho; exact ho.ent
    | true => rw [of_true hy] at ho; simp only [List.cons_append, List.nil_append] at ho; exact ho.ent) ?_
  repeat (first|refine Wa ?_|refine Wb ?_|refine Wc ?_|refine Wd ?_|refine We rfl ?_|refine Wf (by first|exact Va|exact Vb|exact Vf|exact Vq) rfl ?_|(refine Wg rfl ?_; intro _)|refine Wi ?_|refine Wn ?_)
  refine JC.buf_nil (α := Commit) 34 ?_
  cases b with
  | false =>
    have hno : ¬ Closed L := fun hc => by have := hy.iff.2 hc; cases this
    refine JC.loop1 (fun (i : Nat) => [(0, .slice a L.length k), (1, .slice d A.length m), (6, .slice p I.length q), (7, .bool false), (8, .slice none 0 0), (17, .int .i64 (I.length : Int)), (18, .int .i64 (i : Int))])
      (fun i => [.st (sl p q I), .st (sl a k L), .st (sl d m A)]) (fun i => i ≤ I.length) (fun i => I.length - i) 0 (Nat.zero_le _) inferInstance ?_
    intro i hi
    repeat (first|refine Wa ?_|refine Wb ?_|refine Wc ?_|refine Wd ?_|refine We rfl ?_|refine Wf (by exact Vg) rfl ?_)
    refine JC.test (fun hlt => ?_) (fun hge => ?_)
    · repeat (first|refine Wa ?_|refine Wb ?_|refine Wc ?_|refine Wd ?_|refine We rfl ?_|refine Wf (by first|exact Va|exact Vb|exact Vj|exact Vk (by omega)) rfl ?_|refine Wk ?_|refine Wl ?_|refine Wn ?_|refine Wr ?_|refine Wv rfl rfl ?_)
      exact ⟨i + 1, by omega, by omega, inferInstance⟩
    · repeat (first|refine Wa ?_|refine Wb ?_|refine Wc ?_|refine Wd ?_|refine We rfl ?_|refine Wf (by first|exact Va|exact Vb) rfl ?_|refine Wm ?_|refine Wo ?_|refine Wp ?_|refine Ws ?_)
      exact CT.done (Y := PartY L A) ⟨([], none, 0), ⟨fun hc => (hno hc).elim, fun _ => rfl⟩⟩ rfl (fun w ho => (Hold.add (A := sl (α := Commit) none 0 []) (ho.ent : Hold _ _ [] w) sl_nil))
  | true =>
    have hc := hy.iff.1 rfl
    have hI : I = cids L := hy.ids rfl
    subst hI
    have hcl : (cids L).length = L.length := cids_length L
    refine JC.loop4 (fun (i : Nat) (out : List Commit) r s => [(0, .slice a L.length k), (1, .slice d A.length m), (6, .slice p (cids L).length q), (7, .bool true), (8, .slice r out.length s), (17, .int .i64 ((cids L).length : Int)), (18, .int .i64 (i : Int))])
      (fun i out r s => [.res (buf r s 34 out), .st (sl p q (cids L)), .st (sl a k L), .st (sl d m A)]) (fun i out _ _ => i ≤ L.length ∧ out.length ≤ i ∧ out = (L.take i).filter (fun c => decide (idC c ∈ A))) (fun i _ _ _ => L.length - i) 0 [] none 0 ⟨Nat.zero_le _, by simp, by simp⟩ inferInstance ?_
    intro i out r s ⟨hi, hol, hout⟩
    repeat (first|refine Wa ?_|refine Wb ?_|refine Wc ?_|refine Wd ?_|refine We rfl ?_|refine Wf (by exact Vg) rfl ?_)
    refine JC.test (fun hlt => ?_) (fun hge => ?_)
    · have hlt' : i < L.length := by omega
      have hxe : (cids L)[i]'(by omega) = idC L[i] := cids_get L i (by omega)
      have hfx := hf _ (List.getElem_mem hlt')
      have hnx : (L.take (i + 1)).filter (fun c => decide (idC c ∈ A)) = out ++ (if idC L[i] ∈ A then [L[i]] else []) := by
        rw [List.take_succ_eq_append_getElem hlt', List.filter_append, ← hout]
        congr 1
        by_cases hA : idC L[i] ∈ A <;> simp [hA]
      repeat (first|refine Wa ?_|refine Wb ?_|refine Wc ?_|refine Wd ?_|refine We rfl ?_|refine Wf (by first|exact Va|exact Vb) rfl ?_|refine Wl ?_|refine Wn ?_)
      refine JR.indexID (L := cids L) rfl (by omega) ?_
      intro bi oi
      rw [hxe]
      repeat (first|refine We rfl ?_|refine Wf (by exact Vc) rfl ?_)
      refine JR.callV rfl (fun w1 hw => has_ids w1 _ d m A (idC L[i]) hw.get) ?_
      repeat (first|refine Wa ?_|refine Wd ?_|refine We rfl ?_|refine Wf (by exact Vi) rfl ?_)
      refine JC.test (fun hA => ?_) (fun hA => ?_)
      · repeat (first|refine Wc ?_|refine We rfl ?_|refine Wf (by exact Va) rfl ?_)
        refine JR.indexCommit rfl hlt' ?_
        intro b1 o1 p1 q1
        repeat (first|refine We rfl ?_|refine Wf (by exact Vc) rfl ?_)
        refine JR.call1 rfl (fun w1 hw => own_dag w1 _ (L[i]) p1 q1 hw.get hfx.2) ?_
        rintro ⟨p2, q2⟩
        dsimp only
        repeat (first|refine We rfl ?_|(refine Ww rfl ⟨rfl, by decide, by decide, by decide⟩ ?_; intro _))
        refine JR.append1 (u := L[i]) rfl (by exact ⟨rfl, rfl, by decide⟩) (by omega) ?_
        intro r2 s2
        repeat (first|refine Wa ?_|refine Wc ?_|refine Wd ?_|refine We rfl ?_|refine Wf (by first|exact Va|exact Vb|exact Vk (by omega)) rfl ?_|refine Wr ?_)
        exact ⟨i + 1, out ++ [L[i]], r2, s2, ⟨by omega, by simp; omega, by rw [hnx, if_pos hA]⟩, by omega, inferInstance⟩
      · repeat (first|refine Wa ?_|refine Wc ?_|refine Wd ?_|refine We rfl ?_|refine Wf (by first|exact Va|exact Vk (by omega)) rfl ?_|refine Wl ?_|refine Wr ?_)
        exact ⟨i + 1, out, r, s, ⟨by omega, by omega, by rw [hnx, if_neg hA, List.append_nil]⟩, by omega, inferInstance⟩
    · obtain rfl : i = L.length := by omega
      rw [List.take_length] at hout
      refine JC.more (fun w1 ho => ho.pub) ?_
      repeat (first|refine Wa ?_|refine Wb ?_|refine Wc ?_|refine Wd ?_|refine We rfl ?_|refine Wf (by first|exact Va|exact Vb) rfl ?_|refine Wm ?_|refine Wo ?_|refine Wp ?_|refine Ws ?_)
      exact CT.done (Y := PartY L A) ⟨(out, r, s), ⟨fun _ => hout, fun hn => (hn hc).elim⟩⟩ rfl (fun w ho => ho.ent)

/- Sorted -/
def leS (c d : Commit) : Prop := c.gen < d.gen ∨ (c.gen = d.gen ∧ idLt (idC d) (idC c) = false)
structure SortedR (L M : List Commit) : Prop where
  perm : Closed L → M.Perm L
  sorted : Closed L → M.Pairwise leS
  not : ¬ Closed L → M = []
theorem sorted_uniqueC {L M N : List Commit} (h : (cids L).Nodup) (h1 : M.Perm L) (h2 : N.Perm L) (h3 : M.Pairwise leS) (h4 : N.Pairwise leS) : M = N := by
  refine List.Perm.eq_of_pairwise (le := leS) (fun c d hc hd h5 h6 => ?_) h3 h4 (h1.trans h2.symm)
  have e : idC c = idC d := by
    rcases h5 with h5 | ⟨h5, h7⟩ <;> rcases h6 with h6 | ⟨h6, h8⟩
    · omega
    · omega
    · omega
    · exact idLt_total h8 h7
  exact id_inj h (h1.mem_iff.1 hc) (h2.mem_iff.1 hd) e
end Ab
end Go.Proofs.YtglclakhjmogiaaGreat
