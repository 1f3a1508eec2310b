/- Lemmas for the walks, part 4 of 6: WalkQ, WalkR, Lays2, WalkS, WalkT, WalkU, WalkV, WalkW, WalkX, WalkY, WalkZ, Few, More10, More11, RefOps, RefA, RefB, RefC. -/
import Derived.Test.YtcmfemfndadfmaaGreatWa3
import Derived.Test.YtcmfemfndadfmaaGreatWa2
import Derived.Shelf.Bytes.SlJoin
import Derived.Test.YtcmfemfndadfmaaGreatChecked
import Derived.KernelRfl
/- Contracts: sha.Sum. -/
namespace Go.Proofs.YtcmfemfndadfmaaGreat
namespace Ab
open Go Go.RowKit
set_option linter.unusedVariables false
set_option linter.unusedSimpArgs false
set_option synthInstance.maxSize 4000
set_option synthInstance.maxHeartbeats 400000
attribute [local irreducible] JC JO JR JQ andThen inBlock OpV Gives retTo JM JS

attribute [local irreducible] spreadK shaKV spreadV turnV plusV blockL
theorem padL_length (L : List UInt8) : (padL L).length = 64 * ((L.length + 72) / 64) := by
  simp only [padL, List.length_append, List.length_replicate, longL, List.length_map, List.length_range, List.length_singleton, padZ]
  omega
/-- One block after another. -/
def blocksV : Nat → Vec UInt32 8 → List UInt8 → Vec UInt32 8
  | 0, h, _ => h
  | n + 1, h, p => blocksV n (blockL h (p.take 64)) (p.drop 64)
def shaSV : Vec UInt32 8 := ⟨shaS, rfl⟩
theorem start_shaV (w : World) (F : Nat → Prop) : GivesV Tryz.prog 102 [] w F (.agg ⟨shaSV.1.map w32⟩) := start_sha w F
def sumV (L : List UInt8) : Vec UInt32 8 := blocksV ((padL L).length / 64) shaSV (padL L)
/-- The words' bytes, as far as they are written. -/
def outK (h : List UInt32) (k : Nat) : List UInt8 := (h.take k).flatMap fourL ++ List.replicate (32 - 4 * k) 0
theorem flat4 (h : List UInt32) : (h.flatMap fourL).length = 4 * h.length := by
  induction h with
  | nil => rfl
  | cons x h ih => simp only [List.flatMap_cons, List.length_append, ih, List.length_cons]; simp [fourL]; omega
theorem outK_length (h : Vec UInt32 8) (k : Nat) (hk : k ≤ 8) : (outK h.1 k).length = 32 := by
  have := h.2
  simp only [outK, List.length_append, flat4, List.length_take, List.length_replicate]
  omega
theorem outK_zero (h : List UInt32) : outK h 0 = List.replicate 32 0 := by simp [outK]
theorem outK_next (h : Vec UInt32 8) (k : Nat) (hk : k < 8) : (outK h.1 k).take (4 * k) ++ fourL (h.1.getD k 0) ++ (outK h.1 k).drop (4 * k + 4) = outK h.1 (k + 1) := by
  have h8 := h.2
  have h4 : ((h.1.take k).flatMap fourL).length = 4 * k := by rw [flat4, List.length_take]; omega
  rw [outK, outK, List.take_left' h4, List.drop_append, h4, List.drop_eq_nil_of_le (by omega), List.nil_append, List.drop_replicate, List.take_succ_eq_append_getElem (by omega), List.flatMap_append]
  have hg : h.1[k]'(by omega) = h.1.getD k 0 := by simp [List.getD_eq_getElem?_getD, h8, hk]
  simp only [List.flatMap_cons, List.flatMap_nil, List.append_nil, hg]
  congr 2
  omega
def sumL (L : List UInt8) : List UInt8 := (sumV L).1.flatMap fourL
def idOfS (S : Vec UInt32 8) : ID := ⟨S.1.flatMap fourL, by rw [flat4, S.2]⟩
def sumI (L : List UInt8) : ID := idOfS (sumV L)
theorem part_word {S : List UInt32} {k : Nat} (h : k < S.length) (w : World) : (part 110 ⟨S.map w32⟩ (k * 1)).run Tryz.prog w = .ok (w32 (S.getD k 0)) w := by
  have hagg : (isAgg 110).run Tryz.prog w = .ok false w := by
    unfold isAgg
    rw [Sem.run_bind, run_und (P := Tryz.prog) (t := 110) w]
    rfl
  have hv : (⟨S.map w32⟩ : Array Value)[k * 1]? = some (w32 (S.getD k 0)) := by
    rw [Nat.mul_one]
    simp [List.getD_eq_getElem?_getD, h]
  unfold part
  rw [Sem.run_bind, hagg]
  simp only [Result.andThen_ok, Bool.false_eq_true, if_false, hv]
  rfl
set_option maxHeartbeats 1000000 in
theorem sum_sha (w : World) (F : Nat → Prop) (a : Option Addr) (c : Nat) (L : List UInt8) (h : (sl a c L).holds F w) (hL : L.length ≤ 1048576) :
    GivesV Tryz.prog 75 [.slice a L.length c] w F (.agg ⟨idc (sumI L)⟩) := by
  have hpl := padL_length L
  refine gives_of Tryz.func75 rfl Tryz.ntmps75 rfl rfl [.st (sl a c L)] (.start1 h) ?_
  repeat (first|refine Wa ?_|refine Wb ?_|refine Wc ?_|refine Wd ?_|refine We rfl ?_|refine Wf (by first|exact Va|exact Vb|exact Vc|exact Vd|exact Ve|exact Vf|exact Vg|exact Vh|exact Vi|exact Vj|exact Vk (by omega)|exact Vl|exact Vm|exact Vn|exact Vo|exact Vp|exact Vq|exact Vr|exact Vs (by omega)|exact Vt (by omega)|exact Vu (by omega)|exact Vv (by omega)|exact Vw|exact Vx|exact Vy|exact Vz|exact VA|exact VB|exact VC|exact VD|exact VE|exact VF) rfl ?_|(refine Wg rfl ?_; intro _)|(refine Wh rfl ?_; intro _)|refine Wi ?_|refine Wj ?_|refine Wk ?_|refine Wl ?_|refine Wm ?_|refine Wn ?_|refine Wo ?_|refine Wp ?_|refine Wq rfl ?_|refine Wr ?_|refine Ws ?_|refine Wt ?_|refine Wu ?_|refine Wv rfl rfl ?_|(refine Ww rfl ⟨rfl, by decide, by decide, by decide⟩ ?_; intro _))
  refine JR.callV rfl (fun w1 hw => start_shaV w1 _) ?_
  repeat (first|refine Wa ?_|refine Wb ?_|refine Wc ?_|refine Wd ?_|refine We rfl ?_|refine Wf (by first|exact Va|exact Vb|exact Vc|exact Vd|exact Ve|exact Vf|exact Vg|exact Vh|exact Vi|exact Vj|exact Vk (by omega)|exact Vl|exact Vm|exact Vn|exact Vo|exact Vp|exact Vq|exact Vr|exact Vs (by omega)|exact Vt (by omega)|exact Vu (by omega)|exact Vv (by omega)|exact Vw|exact Vx|exact Vy|exact Vz|exact VA|exact VB|exact VC|exact VD|exact VE|exact VF) rfl ?_|(refine Wg rfl ?_; intro _)|(refine Wh rfl ?_; intro _)|refine Wi ?_|refine Wj ?_|refine Wk ?_|refine Wl ?_|refine Wm ?_|refine Wn ?_|refine Wo ?_|refine Wp ?_|refine Wq rfl ?_|refine Wr ?_|refine Ws ?_|refine Wt ?_|refine Wu ?_|refine Wv rfl rfl ?_|(refine Ww rfl ⟨rfl, by decide, by decide, by decide⟩ ?_; intro _))
  refine JR.callBuf rfl (fun w1 hw => pad_sha w1 _ a c L hw.get hL) ?_
  intro a1 c1
  refine JO.more (fun w1 ho => ho.pub) ?_
  repeat (first|refine Wa ?_|refine Wb ?_|refine Wc ?_|refine Wd ?_|refine We rfl ?_|refine Wf (by first|exact Va|exact Vb|exact Vc|exact Vd|exact Ve|exact Vf|exact Vg|exact Vh|exact Vi|exact Vj|exact Vk (by omega)|exact Vl|exact Vm|exact Vn|exact Vo|exact Vp|exact Vq|exact Vr|exact Vs (by omega)|exact Vt (by omega)|exact Vu (by omega)|exact Vv (by omega)|exact Vw|exact Vx|exact Vy|exact Vz|exact VA|exact VB|exact VC|exact VD|exact VE|exact VF) rfl ?_|(refine Wg rfl ?_; intro _)|(refine Wh rfl ?_; intro _)|refine Wi ?_|refine Wj ?_|refine Wk ?_|refine Wl ?_|refine Wm ?_|refine Wn ?_|refine Wo ?_|refine Wp ?_|refine Wq rfl ?_|refine Wr ?_|refine Ws ?_|refine Wt ?_|refine Wu ?_|refine Wv rfl rfl ?_|(refine Ww rfl ⟨rfl, by decide, by decide, by decide⟩ ?_; intro _))
  rename_i bi bh
  refine JC.reown bi ((List.replicate 32 (0 : UInt8)).map byteV) (by rw [List.map_replicate]; rfl) ?_
  refine JC.loop4 (fun (k : Nat) (H : Vec UInt32 8) p q => [(2, .pointer (some ⟨bi, 0, none⟩)), (3, .pointer (some ⟨bh, 0, none⟩)), (4, .slice p ((padL L).drop (64 * k)).length q)])
    (fun k H p q => [.own bi 48 ((List.replicate 32 (0 : UInt8)).map byteV), .own bh 111 (H.1.map w32), .st (sl p q ((padL L).drop (64 * k)))])
    (fun k H p q => 64 * k ≤ (padL L).length ∧ blocksV ((padL L).length / 64 - k) H ((padL L).drop (64 * k)) = sumV L) (fun k _ _ _ => (padL L).length - 64 * k) 0 shaSV a1 c1 ⟨Nat.zero_le _, rfl⟩ (by rw [show 64 * 0 = 0 from rfl, List.drop_zero]; infer_instance) ?_
  intro k H p q ⟨hk, hinv⟩
  repeat (first|refine Wa ?_|refine Wb ?_|refine Wc ?_|refine Wd ?_|refine We rfl ?_|refine Wf (by first|exact Va|exact Vb|exact Vc|exact Vd|exact Ve|exact Vf|exact Vg|exact Vh|exact Vi|exact Vj|exact Vk (by omega)|exact Vl|exact Vm|exact Vn|exact Vo|exact Vp|exact Vq|exact Vr|exact Vs (by omega)|exact Vt (by omega)|exact Vu (by omega)|exact Vv (by omega)|exact Vw|exact Vx|exact Vy|exact Vz|exact VA|exact VB|exact VC|exact VD|exact VE|exact VF) rfl ?_|(refine Wg rfl ?_; intro _)|(refine Wh rfl ?_; intro _)|refine Wi ?_|refine Wj ?_|refine Wk ?_|refine Wl ?_|refine Wm ?_|refine Wn ?_|refine Wo ?_|refine Wp ?_|refine Wq rfl ?_|refine Wr ?_|refine Ws ?_|refine Wt ?_|refine Wu ?_|refine Wv rfl rfl ?_|(refine Ww rfl ⟨rfl, by decide, by decide, by decide⟩ ?_; intro _))
  refine JC.test (fun h1 => ?_) (fun h1 => ?_)
  · have hk2 : 64 * k + 64 ≤ (padL L).length := by rw [List.length_drop] at h1; omega
    repeat (first|refine Wa ?_|refine Wb ?_|refine Wc ?_|refine Wd ?_|refine We rfl ?_|refine Wf (by first|exact Va|exact Vb|exact Vc|exact Vd|exact Ve|exact Vf|exact Vg|exact Vh|exact Vi|exact Vj|exact Vk (by omega)|exact Vl|exact Vm|exact Vn|exact Vo|exact Vp|exact Vq|exact Vr|exact Vs (by omega)|exact Vt (by omega)|exact Vu (by omega)|exact Vv (by omega)|exact Vw|exact Vx|exact Vy|exact Vz|exact VA|exact VB|exact VC|exact VD|exact VE|exact VF) rfl ?_|(refine Wg rfl ?_; intro _)|(refine Wh rfl ?_; intro _)|refine Wi ?_|refine Wj ?_|refine Wk ?_|refine Wl ?_|refine Wm ?_|refine Wn ?_|refine Wo ?_|refine Wp ?_|refine Wq rfl ?_|refine Wr ?_|refine Ws ?_|refine Wt ?_|refine Wu ?_|refine Wv rfl rfl ?_|(refine Ww rfl ⟨rfl, by decide, by decide, by decide⟩ ?_; intro _))
    obtain ⟨pl, hpl2⟩ : ∃ pl, pl = (padL L).drop (64 * k) := ⟨_, rfl⟩
    have hp64 : (pl.take 64).length = 64 := by rw [hpl2, List.length_take, List.length_drop]; omega
    have hpl64 : 64 ≤ pl.length := by rw [hpl2, List.length_drop]; omega
    rw [← hpl2] at hinv ⊢
    refine JC.draw 7 mixed ?_
    refine JM.take 0 rfl (by kernel_rfl) rfl Vc rfl rfl ?_
    refine JM.take 1 rfl (by kernel_rfl) rfl Va rfl rfl ?_
    refine JM.take 2 rfl (by kernel_rfl) rfl (OpV.sliceToV (k := 64) (fun w1 ho => by have := (Hold.get (A := sl p q pl) ho).1; omega)) rfl rfl ?_
    refine JM.reslot 19 (.slice p (pl.take 64).length q) (by rw [hp64]) ?_
    refine JM.takeCall 3 rfl (by kernel_rfl) rfl (fun w1 hw => block_sha w1 _ p q (pl.take 64) H (sl_take (hw.get (A := sl p q pl)) hpl64 ⟨Nat.le_trans hpl64 (hw.get (A := sl p q pl)).1, Nat.le_refl _⟩) hp64) rfl rfl ?_
    refine JM.take 4 rfl (by kernel_rfl) rfl Va rfl rfl ?_
    refine JM.take 5 rfl (by kernel_rfl) rfl Vq rfl rfl ?_
    refine JM.mix 6 7 (by kernel_rfl) rfl rfl rfl rfl rfl rfl rfl (JS.val Vq rfl ?_) (Wi (Wd ⟨rfl, ?_⟩))
    · refine JM.last 7 (by kernel_rfl) rfl rfl rfl (Wi (Wd ⟨rfl, ?_⟩))
      refine JM.nil (by kernel_rfl) ?_
      repeat (first|refine Wa ?_|refine Wb ?_|refine Wc ?_|refine Wd ?_|refine We rfl ?_|refine Wf (by first|exact Va|exact Vb|exact Vc|exact Vd|exact Ve|exact Vf|exact Vg|exact Vh|exact Vi|exact Vj|exact Vk (by omega)|exact Vl|exact Vm|exact Vn|exact Vo|exact Vp|exact Vq|exact Vr|exact Vs (by omega)|exact Vt (by omega)|exact Vu (by omega)|exact Vv (by omega)|exact Vw|exact Vx|exact Vy|exact Vz|exact VA|exact VB|exact VC|exact VD|exact VE|exact VF) rfl ?_|(refine Wg rfl ?_; intro _)|(refine Wh rfl ?_; intro _)|refine Wi ?_|refine Wj ?_|refine Wk ?_|refine Wl ?_|refine Wm ?_|refine Wn ?_|refine Wo ?_|refine Wp ?_|refine Wq rfl ?_|refine Wr ?_|refine Ws ?_|refine Wt ?_|refine Wu ?_|refine Wv rfl rfl ?_|(refine Ww rfl ⟨rfl, by decide, by decide, by decide⟩ ?_; intro _))
      refine JR.sliceFrom (L := pl) (k := 64) rfl rfl (by omega) ?_
      intro p2 q2
      repeat (first|refine Wa ?_|refine Wb ?_|refine Wc ?_|refine Wd ?_|refine We rfl ?_|refine Wf (by first|exact Va|exact Vb|exact Vc|exact Vd|exact Ve|exact Vf|exact Vg|exact Vh|exact Vi|exact Vj|exact Vk (by omega)|exact Vl|exact Vm|exact Vn|exact Vo|exact Vp|exact Vq|exact Vr|exact Vs (by omega)|exact Vt (by omega)|exact Vu (by omega)|exact Vv (by omega)|exact Vw|exact Vx|exact Vy|exact Vz|exact VA|exact VB|exact VC|exact VD|exact VE|exact VF) rfl ?_|(refine Wg rfl ?_; intro _)|(refine Wh rfl ?_; intro _)|refine Wi ?_|refine Wj ?_|refine Wk ?_|refine Wl ?_|refine Wm ?_|refine Wn ?_|refine Wo ?_|refine Wp ?_|refine Wq rfl ?_|refine Wr ?_|refine Ws ?_|refine Wt ?_|refine Wu ?_|refine Wv rfl rfl ?_|(refine Ww rfl ⟨rfl, by decide, by decide, by decide⟩ ?_; intro _))
      have hd : pl.drop 64 = (padL L).drop (64 * (k + 1)) := by rw [hpl2, List.drop_drop]; congr 1
      have hn : (padL L).length / 64 - k = ((padL L).length / 64 - (k + 1)) + 1 := by omega
      refine ⟨k + 1, blockL H (pl.take 64), p2, q2, ⟨by omega, ?_⟩, by omega, by rw [← hd]; infer_instance⟩
      rw [← hd, ← hinv, hn]
      rfl
    · refine JM.one 6 (by kernel_rfl) rfl rfl rfl rfl (JS.val Vq rfl ?_)
      refine JM.nil (by kernel_rfl) ?_
      repeat (first|refine Wa ?_|refine Wb ?_|refine Wc ?_|refine Wd ?_|refine We rfl ?_|refine Wf (by first|exact Va|exact Vb|exact Vc|exact Vd|exact Ve|exact Vf|exact Vg|exact Vh|exact Vi|exact Vj|exact Vk (by omega)|exact Vl|exact Vm|exact Vn|exact Vo|exact Vp|exact Vq|exact Vr|exact Vs (by omega)|exact Vt (by omega)|exact Vu (by omega)|exact Vv (by omega)|exact Vw|exact Vx|exact Vy|exact Vz|exact VA|exact VB|exact VC|exact VD|exact VE|exact VF) rfl ?_|(refine Wg rfl ?_; intro _)|(refine Wh rfl ?_; intro _)|refine Wi ?_|refine Wj ?_|refine Wk ?_|refine Wl ?_|refine Wm ?_|refine Wn ?_|refine Wo ?_|refine Wp ?_|refine Wq rfl ?_|refine Wr ?_|refine Ws ?_|refine Wt ?_|refine Wu ?_|refine Wv rfl rfl ?_|(refine Ww rfl ⟨rfl, by decide, by decide, by decide⟩ ?_; intro _))
      refine JR.sliceFrom (L := pl) (k := 64) rfl rfl (by omega) ?_
      intro p2 q2
      repeat (first|refine Wa ?_|refine Wb ?_|refine Wc ?_|refine Wd ?_|refine We rfl ?_|refine Wf (by first|exact Va|exact Vb|exact Vc|exact Vd|exact Ve|exact Vf|exact Vg|exact Vh|exact Vi|exact Vj|exact Vk (by omega)|exact Vl|exact Vm|exact Vn|exact Vo|exact Vp|exact Vq|exact Vr|exact Vs (by omega)|exact Vt (by omega)|exact Vu (by omega)|exact Vv (by omega)|exact Vw|exact Vx|exact Vy|exact Vz|exact VA|exact VB|exact VC|exact VD|exact VE|exact VF) rfl ?_|(refine Wg rfl ?_; intro _)|(refine Wh rfl ?_; intro _)|refine Wi ?_|refine Wj ?_|refine Wk ?_|refine Wl ?_|refine Wm ?_|refine Wn ?_|refine Wo ?_|refine Wp ?_|refine Wq rfl ?_|refine Wr ?_|refine Ws ?_|refine Wt ?_|refine Wu ?_|refine Wv rfl rfl ?_|(refine Ww rfl ⟨rfl, by decide, by decide, by decide⟩ ?_; intro _))
      have hd : pl.drop 64 = (padL L).drop (64 * (k + 1)) := by rw [hpl2, List.drop_drop]; congr 1
      have hn : (padL L).length / 64 - k = ((padL L).length / 64 - (k + 1)) + 1 := by omega
      refine ⟨k + 1, blockL H (pl.take 64), p2, q2, ⟨by omega, ?_⟩, by omega, by rw [← hd]; infer_instance⟩
      rw [← hd, ← hinv, hn]
      rfl
  · have hk2 : 64 * k = (padL L).length := by rw [List.length_drop] at h1; omega
    have hk3 : (padL L).length / 64 - k = 0 := by omega
    rw [hk3] at hinv
    have hinv : H = sumV L := hinv
    subst hinv
    repeat (first|refine Wa ?_|refine Wb ?_|refine Wc ?_|refine Wd ?_|refine We rfl ?_|refine Wf (by first|exact Va|exact Vb|exact Vc|exact Vd|exact Ve|exact Vf|exact Vg|exact Vh|exact Vi|exact Vj|exact Vk (by omega)|exact Vl|exact Vm|exact Vn|exact Vo|exact Vp|exact Vq|exact Vr|exact Vs (by omega)|exact Vt (by omega)|exact Vu (by omega)|exact Vv (by omega)|exact Vw|exact Vx|exact Vy|exact Vz|exact VA|exact VB|exact VC|exact VD|exact VE|exact VF) rfl ?_|(refine Wg rfl ?_; intro _)|(refine Wh rfl ?_; intro _)|refine Wi ?_|refine Wj ?_|refine Wk ?_|refine Wl ?_|refine Wm ?_|refine Wn ?_|refine Wo ?_|refine Wp ?_|refine Wq rfl ?_|refine Wr ?_|refine Ws ?_|refine Wt ?_|refine Wu ?_|refine Wv rfl rfl ?_|(refine Ww rfl ⟨rfl, by decide, by decide, by decide⟩ ?_; intro _))
    obtain ⟨S, hS⟩ : ∃ S, S = sumV L := ⟨_, rfl⟩
    have hsum : sumI L = idOfS S := by subst hS; rfl
    rw [← hS, hsum]
    clear hS hinv hsum
    refine JC.loop1 (fun k : Nat => [(2, .pointer (some ⟨bi, 0, none⟩)), (23, .agg ⟨S.1.map w32⟩), (24, .int .i64 (k : Int))]) (fun k => [.own bi 48 ((outK S.1 k).map byteV)])
      (fun k => k ≤ 8) (fun k => 8 - k) 0 (Nat.zero_le _) (by rw [outK_zero]; infer_instance) ?_
    intro k hk
    repeat (first|refine Wa ?_|refine Wb ?_|refine Wc ?_|refine Wd ?_|refine We rfl ?_|refine Wf (by first|exact Va|exact Vb|exact Vc|exact Vd|exact Ve|exact Vf|exact Vg|exact Vh|exact Vi|exact Vj|exact Vk (by omega)|exact Vl|exact Vm|exact Vn|exact Vo|exact Vp|exact Vq|exact Vr|exact Vs (by omega)|exact Vt (by omega)|exact Vu (by omega)|exact Vv (by omega)|exact Vw|exact Vx|exact Vy|exact Vz|exact VA|exact VB|exact VC|exact VD|exact VE|exact VF) rfl ?_|(refine Wg rfl ?_; intro _)|(refine Wh rfl ?_; intro _)|refine Wi ?_|refine Wj ?_|refine Wk ?_|refine Wl ?_|refine Wm ?_|refine Wn ?_|refine Wo ?_|refine Wp ?_|refine Wq rfl ?_|refine Wr ?_|refine Ws ?_|refine Wt ?_|refine Wu ?_|refine Wv rfl rfl ?_|(refine Ww rfl ⟨rfl, by decide, by decide, by decide⟩ ?_; intro _))
    refine JC.test (fun hlt => ?_) (fun hge => ?_)
    · have hlt' : k < 8 := by omega
      have hkS : k < S.1.length := by rw [S.2]; exact hlt'
      repeat (first|refine Wa ?_|refine Wb ?_|refine Wc ?_|refine Wd ?_|refine We rfl ?_|refine Wf (by first|exact Va|exact Vb|exact Vc|exact Vd|exact Ve|exact Vf|exact Vg|exact Vh|exact Vi|exact Vj|exact Vk (by omega)|exact Vl|exact Vm|exact Vn|exact Vo|exact Vp|exact Vq|exact Vr|exact Vs (by omega)|exact Vt (by omega)|exact Vu (by omega)|exact Vv (by omega)|exact Vw|exact Vx|exact Vy|exact Vz|exact VA|exact VB|exact VC|exact VD|exact VE|exact VF) rfl ?_|(refine Wg rfl ?_; intro _)|(refine Wh rfl ?_; intro _)|refine Wi ?_|refine Wj ?_|refine Wk ?_|refine Wl ?_|refine Wm ?_|refine Wn ?_|refine Wo ?_|refine Wp ?_|refine Wq rfl ?_|refine Wr ?_|refine Ws ?_|refine Wt ?_|refine Wu ?_|refine Wv rfl rfl ?_|(refine Ww rfl ⟨rfl, by decide, by decide, by decide⟩ ?_; intro _))
      refine Wf (OpV.indexAgg (r := []) (v := w32 (S.1.getD k 0)) hlt' (fun w1 => part_word hkS w1)) rfl ?_
      repeat (first|refine Wa ?_|refine Wb ?_|refine Wc ?_|refine Wd ?_|refine We rfl ?_|refine Wf (by first|exact Va|exact Vb|exact Vc|exact Vd|exact Ve|exact Vf|exact Vg|exact Vh|exact Vi|exact Vj|exact Vk (by omega)|exact Vl|exact Vm|exact Vn|exact Vo|exact Vp|exact Vq|exact Vr|exact Vs (by omega)|exact Vt (by omega)|exact Vu (by omega)|exact Vv (by omega)|exact Vw|exact Vx|exact Vy|exact Vz|exact VA|exact VB|exact VC|exact VD|exact VE|exact VF) rfl ?_|(refine Wg rfl ?_; intro _)|(refine Wh rfl ?_; intro _)|refine Wi ?_|refine Wj ?_|refine Wk ?_|refine Wl ?_|refine Wm ?_|refine Wn ?_|refine Wo ?_|refine Wp ?_|refine Wq rfl ?_|refine Wr ?_|refine Ws ?_|refine Wt ?_|refine Wu ?_|refine Wv rfl rfl ?_|(refine Ww rfl ⟨rfl, by decide, by decide, by decide⟩ ?_; intro _))
      refine JR.callV rfl (fun w1 hw => four_rot w1 _ _) ?_
      repeat (first|refine Wa ?_|refine Wb ?_|refine Wc ?_|refine Wd ?_|refine We rfl ?_|refine Wf (by first|exact Va|exact Vb|exact Vc|exact Vd|exact Ve|exact Vf|exact Vg|exact Vh|exact Vi|exact Vj|exact Vk (by omega)|exact Vl|exact Vm|exact Vn|exact Vo|exact Vp|exact Vq|exact Vr|exact Vs (by omega)|exact Vt (by omega)|exact Vu (by omega)|exact Vv (by omega)|exact Vw|exact Vx|exact Vy|exact Vz|exact VA|exact VB|exact VC|exact VD|exact VE|exact VF) rfl ?_|(refine Wg rfl ?_; intro _)|(refine Wh rfl ?_; intro _)|refine Wi ?_|refine Wj ?_|refine Wk ?_|refine Wl ?_|refine Wm ?_|refine Wn ?_|refine Wo ?_|refine Wp ?_|refine Wq rfl ?_|refine Wr ?_|refine Ws ?_|refine Wt ?_|refine Wu ?_|refine Wv rfl rfl ?_|(refine Ww rfl ⟨rfl, by decide, by decide, by decide⟩ ?_; intro _))
      refine JC.draw 4 mixed ?_
      refine JM.take 0 rfl (by kernel_rfl) rfl Va rfl rfl ?_
      refine JM.take 1 rfl (by kernel_rfl) rfl (OpV.shl (by decide)) rfl rfl ?_
      refine JM.reslot 31 (.int .i64 ((4 * k : Nat) : Int)) (congrArg (Value.int .i64) (by show IntKind.i64.wrap ((k : Int) * 2 ^ 2) = _; rw [IntKind.wrap_i64]; omega)) ?_
      refine JM.take 2 rfl (by kernel_rfl) rfl (OpV.sliceArrFrom (l := 4 * k) (by omega) rfl) rfl rfl ?_
      refine JM.take 3 rfl (by kernel_rfl) rfl (OpV.sliceArr (by decide)) rfl rfl ?_
      have hmin : Nat.min 4 (32 - 4 * k) = 4 := Nat.min_eq_left (by omega)
      have h4 : (fourL (S.1.getD k 0)).length = 4 := by simp [fourL]
      have hout : (outK S.1 k).length = 32 := outK_length S k (by omega)
      refine JM.last 4 (by kernel_rfl) rfl rfl rfl (JR.copyOwn (cs := (fourL (S.1.getD k 0)).map byteV) rfl (by rw [hmin]; exact List.take_of_length_le (by rw [show (0 : Nat) - 0 = 0 from rfl, List.drop_zero, List.length_map, h4]; exact Nat.le_refl _)) (Nat.le_refl _) (by rw [hmin, List.length_map, h4]) (by simp only [List.length_map, h4, hout]; omega) inferInstance ?_)
      refine JO.reown bi ((outK S.1 (k + 1)).map byteV) (by rw [← outK_next S k hlt']; simp only [List.length_map, h4, List.map_append, List.map_take, List.map_drop, Nat.zero_add]) (Wd ⟨rfl, ?_⟩)
      refine JM.nil (by kernel_rfl) ?_
      repeat (first|refine Wa ?_|refine Wb ?_|refine Wc ?_|refine Wd ?_|refine We rfl ?_|refine Wf (by first|exact Va|exact Vb|exact Vc|exact Vd|exact Ve|exact Vf|exact Vg|exact Vh|exact Vi|exact Vj|exact Vk (by omega)|exact Vl|exact Vm|exact Vn|exact Vo|exact Vp|exact Vq|exact Vr|exact Vs (by omega)|exact Vt (by omega)|exact Vu (by omega)|exact Vv (by omega)|exact Vw|exact Vx|exact Vy|exact Vz|exact VA|exact VB|exact VC|exact VD|exact VE|exact VF) rfl ?_|(refine Wg rfl ?_; intro _)|(refine Wh rfl ?_; intro _)|refine Wi ?_|refine Wj ?_|refine Wk ?_|refine Wl ?_|refine Wm ?_|refine Wn ?_|refine Wo ?_|refine Wp ?_|refine Wq rfl ?_|refine Wr ?_|refine Ws ?_|refine Wt ?_|refine Wu ?_|refine Wv rfl rfl ?_|(refine Ww rfl ⟨rfl, by decide, by decide, by decide⟩ ?_; intro _))
      exact ⟨k + 1, by omega, by omega, inferInstance⟩
    · obtain rfl : k = 8 := by omega
      have h8 : outK S.1 8 = S.1.flatMap fourL := by
        rw [outK, List.take_of_length_le (by rw [S.2]; exact Nat.le_refl _)]
        simp
      repeat (first | refine Wa ?_ | refine Wo ?_ | refine Wp ?_ | refine Wq rfl ?_ | refine Wr ?_ | refine Wm ?_)
      refine JC.reown bi (idc (idOfS S)) (by rw [h8]; rfl) ?_
      repeat (first|refine Wa ?_|refine Wb ?_|refine Wc ?_|refine Wd ?_|refine We rfl ?_|refine Wf (by first|exact Va|exact Vb|exact Vc|exact Vd|exact Ve|exact Vf|exact Vg|exact Vh|exact Vi|exact Vj|exact Vk (by omega)|exact Vl|exact Vm|exact Vn|exact Vo|exact Vp|exact Vq|exact Vr|exact Vs (by omega)|exact Vt (by omega)|exact Vu (by omega)|exact Vv (by omega)|exact Vw|exact Vx|exact Vy|exact Vz|exact VA|exact VB|exact VC|exact VD|exact VE|exact VF) rfl ?_|(refine Wg rfl ?_; intro _)|(refine Wh rfl ?_; intro _)|refine Wi ?_|refine Wj ?_|refine Wk ?_|refine Wl ?_|refine Wm ?_|refine Wn ?_|refine Wo ?_|refine Wp ?_|refine Wq rfl ?_|refine Wr ?_|refine Ws ?_|refine Wt ?_|refine Wu ?_|refine Wv rfl rfl ?_|(refine Ww rfl ⟨rfl, by decide, by decide, by decide⟩ ?_; intro _))
      exact CT.done () rfl (fun w ho => ho.ent)
end Ab
end Go.Proofs.YtcmfemfndadfmaaGreat

/- Contracts: enc.Num, enc.Text as the layer tells them. -/
namespace Go.Proofs.YtcmfemfndadfmaaGreat
namespace Ab
open Go Go.RowKit
set_option linter.unusedVariables false
set_option linter.unusedSimpArgs false
set_option synthInstance.maxSize 4000
set_option synthInstance.maxHeartbeats 400000
attribute [local irreducible] JC JO JR JQ andThen inBlock OpV Gives retTo JM JS

theorem num_enc (n : Nat) (hn : n < 18446744073709551616) (w : World) (F : Nat → Prop) : GivesBuf Tryz.prog 99 [.int .u64 (n : Int)] w F 5 (numL n) := by
  unfold GivesBuf Gives
  refine Calls.mono (callsIn_wide.1 (num_in n hn w)) ?_
  rintro e w' ⟨v, rfl, hrow, hB⟩
  have hlen := numL_length n
  rcases hrow.2 with ⟨_, h0⟩ | ⟨g, cap, cur, rfl, hg, hgb, h1, h2, h3, h4⟩
  · exfalso
    have : numL n ≠ [] := by unfold numL; simp only [numF]; split <;> simp
    exact this (List.eq_nil_of_length_eq_zero h0)
  · refine ⟨(some ⟨g, 0, none⟩, cap), rfl, Bel.of hB (fun h => False.elim h), ⟨fun f hf => ?_, by simp, fun f hf k hk => ?_⟩⟩
    · simp only [List.mem_singleton] at hf; subst hf
      refine ⟨by simp only [lim]; omega, bytesIx (numL n), map_bytes _, ⟨by rw [flat_bytes]; simp [Cell.sz], .inr ⟨g, cap, cur, rfl, Nat.zero_le _, hgb, h1, h2, h3, ?_⟩⟩, fun p hp A hA => by simp [Cell.facts] at hA⟩
      rw [flat_bytes]; exact h4
    · simp only [List.mem_singleton] at hf; subst hf
      obtain ⟨a', ha', rfl⟩ := hk
      injection ha' with ha'
      subst ha'
      exact hg

/-- A text with its length ahead. -/
def textL (s : ByteArray) : List UInt8 := numL s.size ++ bytesOf s
theorem text_enc (s : ByteArray) (hs : s.size ≤ 1048576) (w : World) (F : Nat → Prop) : GivesBuf Tryz.prog 131 [.string s] w F 5 (textL s) := by
  have hnl := numL_length s.size
  refine gives_of Tryz.func131 rfl Tryz.ntmps131 rfl rfl [] (.start w F) ?_
  repeat (first|refine Wa ?_|refine Wb ?_|refine Wc ?_|refine Wd ?_|refine We rfl ?_|refine Wf (by first|exact Va|exact Vb|exact Vc|exact Vd|exact Ve|exact Vf|exact Vg|exact Vh|exact Vi|exact Vj|exact Vk (by omega)|exact Vl|exact Vm|exact Vn|exact Vo|exact Vp|exact Vq|exact Vr|exact Vs (by omega)|exact Vt (by omega)|exact Vu (by omega)|exact Vv (by omega)|exact Vw|exact Vx|exact Vy|exact Vz|exact VA|exact VB|exact VC|exact VD|exact VE|exact VF) rfl ?_|(refine Wg rfl ?_; intro _)|(refine Wh rfl ?_; intro _)|refine Wi ?_|refine Wj ?_|refine Wk ?_|refine Wl ?_|refine Wm ?_|refine Wn ?_|refine Wo ?_|refine Wp ?_|refine Wq rfl ?_|refine Wr ?_|refine Ws ?_|refine Wt ?_|refine Wu ?_|refine Wv rfl rfl ?_|(refine Ww rfl ⟨rfl, by decide, by decide, by decide⟩ ?_; intro _))
  refine Wf (OpV.convIn (by rw [wrap64]; omega)) rfl ?_
  repeat (first|refine Wa ?_|refine Wb ?_|refine Wc ?_|refine Wd ?_|refine We rfl ?_|refine Wf (by first|exact Va|exact Vb|exact Vc|exact Vd|exact Ve|exact Vf|exact Vg|exact Vh|exact Vi|exact Vj|exact Vk (by omega)|exact Vl|exact Vm|exact Vn|exact Vo|exact Vp|exact Vq|exact Vr|exact Vs (by omega)|exact Vt (by omega)|exact Vu (by omega)|exact Vv (by omega)|exact Vw|exact Vx|exact Vy|exact Vz|exact VA|exact VB|exact VC|exact VD|exact VE|exact VF) rfl ?_|(refine Wg rfl ?_; intro _)|(refine Wh rfl ?_; intro _)|refine Wi ?_|refine Wj ?_|refine Wk ?_|refine Wl ?_|refine Wm ?_|refine Wn ?_|refine Wo ?_|refine Wp ?_|refine Wq rfl ?_|refine Wr ?_|refine Ws ?_|refine Wt ?_|refine Wu ?_|refine Wv rfl rfl ?_|(refine Ww rfl ⟨rfl, by decide, by decide, by decide⟩ ?_; intro _))
  refine JR.callBuf rfl (fun w1 hw => num_enc s.size (by omega) w1 _) ?_
  intro a1 c1
  repeat (first|refine Wa ?_|refine Wb ?_|refine Wc ?_|refine Wd ?_|refine We rfl ?_|refine Wf (by first|exact Va|exact Vb|exact Vc|exact Vd|exact Ve|exact Vf|exact Vg|exact Vh|exact Vi|exact Vj|exact Vk (by omega)|exact Vl|exact Vm|exact Vn|exact Vo|exact Vp|exact Vq|exact Vr|exact Vs (by omega)|exact Vt (by omega)|exact Vu (by omega)|exact Vv (by omega)|exact Vw|exact Vx|exact Vy|exact Vz|exact VA|exact VB|exact VC|exact VD|exact VE|exact VF) rfl ?_|(refine Wg rfl ?_; intro _)|(refine Wh rfl ?_; intro _)|refine Wi ?_|refine Wj ?_|refine Wk ?_|refine Wl ?_|refine Wm ?_|refine Wn ?_|refine Wo ?_|refine Wp ?_|refine Wq rfl ?_|refine Wr ?_|refine Ws ?_|refine Wt ?_|refine Wu ?_|refine Wv rfl rfl ?_|(refine Ww rfl ⟨rfl, by decide, by decide, by decide⟩ ?_; intro _))
  refine JR.appendStr rfl (by exact ⟨rfl, rfl, by decide⟩) (by omega) ?_
  intro a2 c2
  repeat (first|refine Wa ?_|refine Wb ?_|refine Wc ?_|refine Wd ?_|refine We rfl ?_|refine Wf (by first|exact Va|exact Vb|exact Vc|exact Vd|exact Ve|exact Vf|exact Vg|exact Vh|exact Vi|exact Vj|exact Vk (by omega)|exact Vl|exact Vm|exact Vn|exact Vo|exact Vp|exact Vq|exact Vr|exact Vs (by omega)|exact Vt (by omega)|exact Vu (by omega)|exact Vv (by omega)|exact Vw|exact Vx|exact Vy|exact Vz|exact VA|exact VB|exact VC|exact VD|exact VE|exact VF) rfl ?_|(refine Wg rfl ?_; intro _)|(refine Wh rfl ?_; intro _)|refine Wi ?_|refine Wj ?_|refine Wk ?_|refine Wl ?_|refine Wm ?_|refine Wn ?_|refine Wo ?_|refine Wp ?_|refine Wq rfl ?_|refine Wr ?_|refine Ws ?_|refine Wt ?_|refine Wu ?_|refine Wv rfl rfl ?_|(refine Ww rfl ⟨rfl, by decide, by decide, by decide⟩ ?_; intro _))
  exact CT.done (a2, c2) rfl (fun w ho => (ho.ent : Hold _ _ [.res (buf a2 c2 5 (numL s.size ++ bytesOf s))] w))

theorem foldN_lt {n : Int} (h : -1099511627776 ≤ n ∧ n ≤ 1099511627776) : foldN n < 18446744073709551616 := by
  unfold foldN; split <;> omega
theorem kinds2 (w : World) (F : Nat → Prop) (o : Op_) (h : -1099511627776 ≤ o.n ∧ o.n ≤ 1099511627776) : GivesBuf Tryz.prog 139 [opV o] w F 5 (numL (foldN o.n)) := by
  refine gives_of Tryz.func139 rfl Tryz.ntmps139 rfl rfl [] (.start w F) ?_
  repeat (first|refine Wa ?_|refine Wb ?_|refine Wc ?_|refine Wd ?_|refine We rfl ?_|refine Wf (by first|exact Va|exact Vb|exact Vc|exact Vd|exact Ve|exact Vf|exact Vg|exact Vh|exact Vi|exact Vj|exact Vk (by omega)|exact Vl|exact Vm|exact Vn|exact Vo|exact Vp|exact Vq|exact Vr|exact Vs (by omega)|exact Vt (by omega)|exact Vu (by omega)|exact Vv (by omega)|exact Vw|exact Vx|exact Vy|exact Vz|exact VA|exact VB|exact VC|exact VD|exact VE|exact VF) rfl ?_|(refine Wg rfl ?_; intro _)|(refine Wh rfl ?_; intro _)|refine Wi ?_|refine Wj ?_|refine Wk ?_|refine Wl ?_|refine Wm ?_|refine Wn ?_|refine Wo ?_|refine Wp ?_|refine Wq rfl ?_|refine Wr ?_|refine Ws ?_|refine Wt ?_|refine Wu ?_|refine Wv rfl rfl ?_|(refine Ww rfl ⟨rfl, by decide, by decide, by decide⟩ ?_; intro _))
  refine JR.callV rfl (fun w1 hw => fold_enc w1 _ o.n h) ?_
  repeat (first|refine Wa ?_|refine Wb ?_|refine Wc ?_|refine Wd ?_|refine We rfl ?_|refine Wf (by first|exact Va|exact Vb|exact Vc|exact Vd|exact Ve|exact Vf|exact Vg|exact Vh|exact Vi|exact Vj|exact Vk (by omega)|exact Vl|exact Vm|exact Vn|exact Vo|exact Vp|exact Vq|exact Vr|exact Vs (by omega)|exact Vt (by omega)|exact Vu (by omega)|exact Vv (by omega)|exact Vw|exact Vx|exact Vy|exact Vz|exact VA|exact VB|exact VC|exact VD|exact VE|exact VF) rfl ?_|(refine Wg rfl ?_; intro _)|(refine Wh rfl ?_; intro _)|refine Wi ?_|refine Wj ?_|refine Wk ?_|refine Wl ?_|refine Wm ?_|refine Wn ?_|refine Wo ?_|refine Wp ?_|refine Wq rfl ?_|refine Wr ?_|refine Ws ?_|refine Wt ?_|refine Wu ?_|refine Wv rfl rfl ?_|(refine Ww rfl ⟨rfl, by decide, by decide, by decide⟩ ?_; intro _))
  refine JR.callBuf rfl (fun w1 hw => num_enc _ (foldN_lt h) w1 _) ?_
  intro a1 c1
  repeat (first|refine Wa ?_|refine Wb ?_|refine Wc ?_|refine Wd ?_|refine We rfl ?_|refine Wf (by first|exact Va|exact Vb|exact Vc|exact Vd|exact Ve|exact Vf|exact Vg|exact Vh|exact Vi|exact Vj|exact Vk (by omega)|exact Vl|exact Vm|exact Vn|exact Vo|exact Vp|exact Vq|exact Vr|exact Vs (by omega)|exact Vt (by omega)|exact Vu (by omega)|exact Vv (by omega)|exact Vw|exact Vx|exact Vy|exact Vz|exact VA|exact VB|exact VC|exact VD|exact VE|exact VF) rfl ?_|(refine Wg rfl ?_; intro _)|(refine Wh rfl ?_; intro _)|refine Wi ?_|refine Wj ?_|refine Wk ?_|refine Wl ?_|refine Wm ?_|refine Wn ?_|refine Wo ?_|refine Wp ?_|refine Wq rfl ?_|refine Wr ?_|refine Ws ?_|refine Wt ?_|refine Wu ?_|refine Wv rfl rfl ?_|(refine Ww rfl ⟨rfl, by decide, by decide, by decide⟩ ?_; intro _))
  exact CT.done (a1, c1) rfl (fun w ho => ho.ent)
theorem kinds5 (w : World) (F : Nat → Prop) (o : Op_) (h : o.elem.size ≤ 1048576) : GivesBuf Tryz.prog 144 [opV o] w F 5 (textL o.elem) := by
  refine gives_of Tryz.func144 rfl Tryz.ntmps144 rfl rfl [] (.start w F) ?_
  repeat (first|refine Wa ?_|refine Wb ?_|refine Wc ?_|refine Wd ?_|refine We rfl ?_|refine Wf (by first|exact Va|exact Vb|exact Vc|exact Vd|exact Ve|exact Vf|exact Vg|exact Vh|exact Vi|exact Vj|exact Vk (by omega)|exact Vl|exact Vm|exact Vn|exact Vo|exact Vp|exact Vq|exact Vr|exact Vs (by omega)|exact Vt (by omega)|exact Vu (by omega)|exact Vv (by omega)|exact Vw|exact Vx|exact Vy|exact Vz|exact VA|exact VB|exact VC|exact VD|exact VE|exact VF) rfl ?_|(refine Wg rfl ?_; intro _)|(refine Wh rfl ?_; intro _)|refine Wi ?_|refine Wj ?_|refine Wk ?_|refine Wl ?_|refine Wm ?_|refine Wn ?_|refine Wo ?_|refine Wp ?_|refine Wq rfl ?_|refine Wr ?_|refine Ws ?_|refine Wt ?_|refine Wu ?_|refine Wv rfl rfl ?_|(refine Ww rfl ⟨rfl, by decide, by decide, by decide⟩ ?_; intro _))
  refine JR.callBuf rfl (fun w1 hw => text_enc _ h w1 _) ?_
  intro a1 c1
  repeat (first|refine Wa ?_|refine Wb ?_|refine Wc ?_|refine Wd ?_|refine We rfl ?_|refine Wf (by first|exact Va|exact Vb|exact Vc|exact Vd|exact Ve|exact Vf|exact Vg|exact Vh|exact Vi|exact Vj|exact Vk (by omega)|exact Vl|exact Vm|exact Vn|exact Vo|exact Vp|exact Vq|exact Vr|exact Vs (by omega)|exact Vt (by omega)|exact Vu (by omega)|exact Vv (by omega)|exact Vw|exact Vx|exact Vy|exact Vz|exact VA|exact VB|exact VC|exact VD|exact VE|exact VF) rfl ?_|(refine Wg rfl ?_; intro _)|(refine Wh rfl ?_; intro _)|refine Wi ?_|refine Wj ?_|refine Wk ?_|refine Wl ?_|refine Wm ?_|refine Wn ?_|refine Wo ?_|refine Wp ?_|refine Wq rfl ?_|refine Wr ?_|refine Ws ?_|refine Wt ?_|refine Wu ?_|refine Wv rfl rfl ?_|(refine Ww rfl ⟨rfl, by decide, by decide, by decide⟩ ?_; intro _))
  exact CT.done (a1, c1) rfl (fun w ho => ho.ent)
end Ab
end Go.Proofs.YtcmfemfndadfmaaGreat

/- The library's contract of bytes.Join laid at this seat's function: written by genlay.py. -/
namespace Go.Proofs.YtcmfemfndadfmaaGreat
namespace Ab
open Go
def joinB_ren : Go.Shelf.Ren := ⟨fun | 14 => 130 | 15 => 170 | n => n, fun | 22 => 81 | 26 => 137 | n => n, fun | n => n⟩
open Go.Shelf Go.Proofs in
theorem joinB : SlLaysJ.n14 Tryz.prog joinB_ren where
  mixed := by kernel_rfl
  f14 := Tryz.func130.trans (congrArg some (by kernel_rfl))
  f15 := Tryz.func170.trans (congrArg some (by kernel_rfl))
  t0 := Tryz.underlying0
  a0 := Tryz.isAgg0
  z0 := Tryz.sizeOf0
  v0 := Tryz.zeroValue0
  t3 := Tryz.underlying3
  a3 := Tryz.isAgg3
  z3 := Tryz.sizeOf3
  v3 := Tryz.zeroValue3
  t4 := Tryz.underlying4
  a4 := Tryz.isAgg4
  z4 := Tryz.sizeOf4
  v4 := Tryz.zeroValue4
  t9 := Tryz.underlying9
  a9 := Tryz.isAgg9
  z9 := Tryz.sizeOf9
  v9 := Tryz.zeroValue9
  t20 := Tryz.underlying20
  a20 := Tryz.isAgg20
  z20 := Tryz.sizeOf20
  v20 := Tryz.zeroValue20
  t22 := Tryz.underlying81
  a22 := Tryz.isAgg81
  z22 := Tryz.sizeOf81
  v22 := Tryz.zeroValue81
  t26 := Tryz.underlying137
  a26 := Tryz.isAgg137
  z26 := Tryz.sizeOf137
  v26 := Tryz.zeroValue137
  t5 := Tryz.underlying5
  z5 := Tryz.sizeOf5
  i5 := by kernel_rfl
end Ab
end Go.Proofs.YtcmfemfndadfmaaGreat

/- Contracts: bytes.Join, slices.Grow from nothing, slices.Concat of byte slices. -/
namespace Go.Proofs.YtcmfemfndadfmaaGreat
namespace Ab
open Go Go.RowKit
set_option linter.unusedVariables false
set_option linter.unusedSimpArgs false
set_option synthInstance.maxSize 4000
set_option synthInstance.maxHeartbeats 400000
attribute [local irreducible] JC JO JR JQ andThen inBlock OpV Gives retTo JM JS

open Go.Proofs in
instance : Cell (List UInt8) where
  Ix := Option Addr × Nat
  sz := 1
  cells l y := [.slice y.1 l.length y.2]
  facts l y := [sl y.1 y.2 l]
  len _ _ := rfl
  one l y := by simp [Value.oneCell']
  pos := by decide
section
variable {P : Program} {n : Nat} {w0 : World} {F : Nat → Prop} {ops : Array Oper} {i d : Nat} {t : TypeId} {pos : String} {aft : Array Edge} {g : Option (Nat × Bool)} {os : List Oper} {Q : Cont} {e : E} {Γ : List Fact}
theorem JR.indexBytes {x ix : Operand} {v : Value} {L : List (List UInt8)} {kk : IntKind} {j : Int} {k : Nat} {ty el : TypeId} {sz by_ eb : Nat} {z ez : Value} {ed : TypeDesc}
    [hx : Ev e x v] [hL : HasSl Γ v (List UInt8) inferInstance L] [hi : Ev e ix (.int kk j)] [hk : NatI j k] [hT : Ty P ty (.slice el) sz by_ z] [hE : Ty P el ed 1 eb ez] (hd : Nat.blt d n = true) (h : k < L.length)
    (K : ∀ b o p q, JO P n w0 F ops (i + 1) os Q ((d, .pointer (some ⟨b, o, none⟩)) :: e) (.st (ro b o [.slice p (L[k]'h).length q]) :: .st (sl p q (L[k]'h)) :: Γ)) :
    JR P n w0 F ops i ⟨some d, .indexAddr ty x ix, t, pos, aft, g⟩ os Q e Γ := JR.index hd rfl h fun b o (y : Option Addr × Nat) => K b o y.1 y.2
end

theorem holdsBytes_of_sl {F : Nat → Prop} {w : World} {a : Option Addr} {c : Nat} {l : List UInt8} (h : (sl a c l).holds F w) : Lib.HoldsBytes w (.slice a l.length c) l := by
  refine ⟨a, c, rfl, fun h0 => ?_, fun ad hd i x hx => ?_⟩
  · rw [← Classical.not_not (a := l = [])]
    intro hne
    obtain ⟨b, off, h1, _⟩ := h.2.2.2 hne
    rw [h0] at h1; cases h1
  · obtain ⟨hi, hxi⟩ := List.getElem?_eq_some_iff.1 hx
    have hne : l ≠ [] := by intro h0; subst h0; simp at hi
    obtain ⟨b, off, h1, _⟩ := h.2.2.2 hne
    rw [hd] at h1
    injection h1 with h1
    subst h1 hd
    rw [Addr.add_mid]
    have := sl_byte h i hi
    rw [hxi] at this
    exact this

theorem fresh_sl {n : Nat} {F : Nat → Prop} {w : World} {v : Value} {l : List UInt8} (h : Lib.FreshBytes n w v l) (hl : l.length ≤ 1048576) : ∃ a c, v = .slice a l.length c ∧ Fresh n F [.st (sl a c l)] w := by
  obtain ⟨g, cap, zs, rfl, hB, h1, h2, hz, hb, hzs, hc, _⟩ := h
  refine ⟨some ⟨g, 0, none⟩, cap, rfl, ⟨fun f hf => ?_, by simp, fun f hf k hk => ?_⟩⟩
  · simp only [List.mem_singleton] at hf; subst hf
    refine ⟨h1, h2, by simp only [lim]; omega, fun hne => ⟨g, 0, rfl, ⟨.inr hB, ?_⟩, ?_, fun i hi => ⟨(), ?_, by simp [Cell.facts]⟩⟩⟩
    · intro f hf
      simp only [List.mem_singleton] at hf; subst hf
      exact fun h => h
    · have h0 := hc 0 (by have := List.length_pos_iff.2 hne; omega)
      rcases Nat.lt_or_ge g w.heap.size with h | h
      · exact h
      · unfold World.cell? at h0; simp [Array.getElem?_eq_none h] at h0
    · intro j v hj
      simp only [Cell.cells, List.getElem?_singleton] at hj
      split at hj
      · rename_i h0; subst h0
        injection hj with hj
        subst hj
        have h3 := hc i (by omega)
        simp only [Cell.sz, Nat.mul_one, Nat.zero_add, Nat.add_zero]
        rw [h3]
        have hi2 : i < zs.length := by omega
        have h4 : l[i] = UInt8.ofNat (zs[i]).toNat := by
          have : l[i]? = some (UInt8.ofNat (zs[i]).toNat) := by
            rw [← hzs, Lib.bytesOf, List.getElem?_map, List.getElem?_take, if_pos hi]
            simp [hi2]
          rw [List.getElem?_eq_getElem hi] at this
          injection this
        have h5 := hb zs[i] (List.getElem_mem hi2)
        rw [h4]
        simp only [byteV, List.getD_eq_getElem?_getD, List.getElem?_eq_getElem hi2, Option.getD_some]
        congr 2
        rw [UInt8.toNat_ofNat']
        omega
      · cases hj
  · simp only [List.mem_singleton] at hf; subst hf
    exact hk.elim

theorem join_bytes (w : World) (F : Nat → Prop) (a : Option Addr) (c : Nat) (ls : List (List UInt8)) (h2 : 2 ≤ ls.length) (h : (sl a c ls).holds F w) (hl : ls.flatten.length ≤ 1048576) (hl2 : ls.length ≤ 1048576) :
    GivesSl Tryz.prog 130 [.slice a ls.length c, .slice none 0 0] w F ls.flatten := by
  have hne : ls ≠ [] := by intro h0; subst h0; simp at h2
  obtain ⟨b, off, rfl, hF, hlt, hrow⟩ := h.2.2.2 hne
  obtain ⟨r, hr1, hr2, hr3⟩ := row_list ls off hrow
  have hflat : ∀ r : List (List UInt8 × Cell.Ix (List UInt8)), flat r = r.map (fun p => Value.slice (p.2 : Option Addr × Nat).1 p.1.length (p.2 : Option Addr × Nat).2) := by
    intro r
    induction r with
    | nil => rfl
    | cons p r ih => obtain ⟨x, y⟩ := p; simp only [flat, List.map_cons, ih]; rfl
  have hsum : Lib.lens ls = ls.flatten.length := by simp [Lib.lens, List.length_flatten]
  have hP : Lib.PartsAt w ⟨b, off, none⟩ (flat r) ls := by
    refine ⟨by rw [hflat, List.length_map, ← hr1, List.length_map], fun i v hv => by rw [Addr.add_mid]; exact hr2 i v hv, fun i v l hv hll => ?_⟩
    rw [hflat, List.getElem?_map] at hv
    rw [← hr1, List.getElem?_map] at hll
    cases hri : r[i]? with
    | none => rw [hri] at hv; cases hv
    | some p =>
      rw [hri] at hv hll
      injection hv with hv
      injection hll with hll
      subst hv hll
      exact holdsBytes_of_sl (hr3 p (List.mem_of_getElem? hri) _ (by simp [Cell.facts]))
  have hj := Go.Proofs.Any.bytes_Join_many joinB b off ls.length c (flat r) ls (.slice none 0 0) [] w rfl h2 hP h.1 ⟨none, 0, rfl, fun _ => rfl, nofun⟩ (by omega) (by rw [hsum, List.length_nil, Nat.zero_mul]; omega)
  unfold GivesSl Gives
  refine Calls.mono hj ?_
  rintro e w' ⟨v, rfl, hfr, hB⟩
  have hjoin : Lib.join ls [] = ls.flatten := by
    cases ls with
    | nil => rfl
    | cons x r => rw [Lib.join_cons]; simp [Lib.joinTail]
  rw [hjoin] at hfr
  obtain ⟨a', c', rfl, hf⟩ := fresh_sl (F := F) hfr hl
  exact ⟨(a', c'), rfl, Bel.of hB (fun h => False.elim h), hf⟩

theorem grow_bytes (w : World) (F : Nat → Prop) (k : Nat) (hk : k ≤ 1048576) : GivesBuf Tryz.prog 128 [.slice none 0 0, .int .i64 (k : Int)] w F 5 ([] : List UInt8) := by
  refine gives_of Tryz.func128 rfl Tryz.ntmps128 rfl rfl [] (.start w F) ?_
  repeat (first|refine Wa ?_|refine Wb ?_|refine Wc ?_|refine Wd ?_|refine We rfl ?_|refine Wf (by first|exact Va|exact Vb|exact Vc|exact Vd|exact Ve|exact Vf|exact Vg|exact Vh|exact Vi|exact Vj|exact Vk (by omega)|exact Vl|exact Vm|exact Vn|exact Vo|exact Vp|exact Vq|exact Vr|exact Vs (by omega)|exact Vt (by omega)|exact Vu (by omega)|exact Vv (by omega)|exact Vw|exact Vx|exact Vy|exact Vz|exact VA|exact VB|exact VC|exact VD|exact VE|exact VF) rfl ?_|(refine Wg rfl ?_; intro _)|(refine Wh rfl ?_; intro _)|refine Wi ?_|refine Wj ?_|refine Wk ?_|refine Wl ?_|refine Wm ?_|refine Wn ?_|refine Wo ?_|refine Wp ?_|refine Wq rfl ?_|refine Wr ?_|refine Ws ?_|refine Wt ?_|refine Wu ?_|refine Wv rfl rfl ?_|(refine Ww rfl ⟨rfl, by decide, by decide, by decide⟩ ?_; intro _))
  refine Wf OpV.cap rfl ?_
  repeat (first|refine Wa ?_|refine Wb ?_|refine Wc ?_|refine Wd ?_|refine We rfl ?_|refine Wf (by first|exact Va|exact Vb|exact Vc|exact Vd|exact Ve|exact Vf|exact Vg|exact Vh|exact Vi|exact Vj|exact Vk (by omega)|exact Vl|exact Vm|exact Vn|exact Vo|exact Vp|exact Vq|exact Vr|exact Vs (by omega)|exact Vt (by omega)|exact Vu (by omega)|exact Vv (by omega)|exact Vw|exact Vx|exact Vy|exact Vz|exact VA|exact VB|exact VC|exact VD|exact VE|exact VF) rfl ?_|(refine Wg rfl ?_; intro _)|(refine Wh rfl ?_; intro _)|refine Wi ?_|refine Wj ?_|refine Wk ?_|refine Wl ?_|refine Wm ?_|refine Wn ?_|refine Wo ?_|refine Wp ?_|refine Wq rfl ?_|refine Wr ?_|refine Ws ?_|refine Wt ?_|refine Wu ?_|refine Wv rfl rfl ?_|(refine Ww rfl ⟨rfl, by decide, by decide, by decide⟩ ?_; intro _))
  refine JC.reslot 1 (.int .i64 (k : Int)) (by first | rfl | (congr 1 <;> omega)) ?_
  refine JC.test (fun hlt => ?_) (fun hge => ?_)
  · repeat (first|refine Wa ?_|refine Wb ?_|refine Wc ?_|refine Wd ?_|refine We rfl ?_|refine Wf (by first|exact Va|exact Vb|exact Vc|exact Vd|exact Ve|exact Vf|exact Vg|exact Vh|exact Vi|exact Vj|exact Vk (by omega)|exact Vl|exact Vm|exact Vn|exact Vo|exact Vp|exact Vq|exact Vr|exact Vs (by omega)|exact Vt (by omega)|exact Vu (by omega)|exact Vv (by omega)|exact Vw|exact Vx|exact Vy|exact Vz|exact VA|exact VB|exact VC|exact VD|exact VE|exact VF) rfl ?_|(refine Wg rfl ?_; intro _)|(refine Wh rfl ?_; intro _)|refine Wi ?_|refine Wj ?_|refine Wk ?_|refine Wl ?_|refine Wm ?_|refine Wn ?_|refine Wo ?_|refine Wp ?_|refine Wq rfl ?_|refine Wr ?_|refine Ws ?_|refine Wt ?_|refine Wu ?_|refine Wv rfl rfl ?_|(refine Ww rfl ⟨rfl, by decide, by decide, by decide⟩ ?_; intro _))
    refine Wf OpV.cap rfl ?_
    refine We rfl ?_
    refine Wf (OpV.sliceToV (k := 0) (fun _ _ => Nat.zero_le _)) rfl ?_
    repeat (first|refine Wa ?_|refine Wb ?_|refine Wc ?_|refine Wd ?_|refine We rfl ?_|refine Wf (by first|exact Va|exact Vb|exact Vc|exact Vd|exact Ve|exact Vf|exact Vg|exact Vh|exact Vi|exact Vj|exact Vk (by omega)|exact Vl|exact Vm|exact Vn|exact Vo|exact Vp|exact Vq|exact Vr|exact Vs (by omega)|exact Vt (by omega)|exact Vu (by omega)|exact Vv (by omega)|exact Vw|exact Vx|exact Vy|exact Vz|exact VA|exact VB|exact VC|exact VD|exact VE|exact VF) rfl ?_|(refine Wg rfl ?_; intro _)|(refine Wh rfl ?_; intro _)|refine Wi ?_|refine Wj ?_|refine Wk ?_|refine Wl ?_|refine Wm ?_|refine Wn ?_|refine Wo ?_|refine Wp ?_|refine Wq rfl ?_|refine Wr ?_|refine Ws ?_|refine Wt ?_|refine Wu ?_|refine Wv rfl rfl ?_|(refine Ww rfl ⟨rfl, by decide, by decide, by decide⟩ ?_; intro _))
    refine JR.appendZeros (α := UInt8) (k := k) rfl (by exact ⟨rfl, rfl, by decide⟩) ⟨by omega, by omega⟩ ?_
    intro b c hc
    repeat (first|refine Wa ?_|refine Wb ?_|refine Wc ?_|refine Wd ?_|refine We rfl ?_|refine Wf (by first|exact Va|exact Vb|exact Vc|exact Vd|exact Ve|exact Vf|exact Vg|exact Vh|exact Vi|exact Vj|exact Vk (by omega)|exact Vl|exact Vm|exact Vn|exact Vo|exact Vp|exact Vq|exact Vr|exact Vs (by omega)|exact Vt (by omega)|exact Vu (by omega)|exact Vv (by omega)|exact Vw|exact Vx|exact Vy|exact Vz|exact VA|exact VB|exact VC|exact VD|exact VE|exact VF) rfl ?_|(refine Wg rfl ?_; intro _)|(refine Wh rfl ?_; intro _)|refine Wi ?_|refine Wj ?_|refine Wk ?_|refine Wl ?_|refine Wm ?_|refine Wn ?_|refine Wo ?_|refine Wp ?_|refine Wq rfl ?_|refine Wr ?_|refine Ws ?_|refine Wt ?_|refine Wu ?_|refine Wv rfl rfl ?_|(refine Ww rfl ⟨rfl, by decide, by decide, by decide⟩ ?_; intro _))
    refine Wf (OpV.sliceToV (k := 0) (fun _ _ => Nat.zero_le _)) rfl ?_
    repeat (first|refine Wa ?_|refine Wb ?_|refine Wc ?_|refine Wd ?_|refine We rfl ?_|refine Wf (by first|exact Va|exact Vb|exact Vc|exact Vd|exact Ve|exact Vf|exact Vg|exact Vh|exact Vi|exact Vj|exact Vk (by omega)|exact Vl|exact Vm|exact Vn|exact Vo|exact Vp|exact Vq|exact Vr|exact Vs (by omega)|exact Vt (by omega)|exact Vu (by omega)|exact Vv (by omega)|exact Vw|exact Vx|exact Vy|exact Vz|exact VA|exact VB|exact VC|exact VD|exact VE|exact VF) rfl ?_|(refine Wg rfl ?_; intro _)|(refine Wh rfl ?_; intro _)|refine Wi ?_|refine Wj ?_|refine Wk ?_|refine Wl ?_|refine Wm ?_|refine Wn ?_|refine Wo ?_|refine Wp ?_|refine Wq rfl ?_|refine Wr ?_|refine Ws ?_|refine Wt ?_|refine Wu ?_|refine Wv rfl rfl ?_|(refine Ww rfl ⟨rfl, by decide, by decide, by decide⟩ ?_; intro _))
    exact CT.done (some ⟨b, 0, none⟩, c) rfl (fun w ho => ho.ent)
  · refine JC.buf_nil (α := UInt8) 5 ?_
    repeat (first|refine Wa ?_|refine Wb ?_|refine Wc ?_|refine Wd ?_|refine We rfl ?_|refine Wf (by first|exact Va|exact Vb|exact Vc|exact Vd|exact Ve|exact Vf|exact Vg|exact Vh|exact Vi|exact Vj|exact Vk (by omega)|exact Vl|exact Vm|exact Vn|exact Vo|exact Vp|exact Vq|exact Vr|exact Vs (by omega)|exact Vt (by omega)|exact Vu (by omega)|exact Vv (by omega)|exact Vw|exact Vx|exact Vy|exact Vz|exact VA|exact VB|exact VC|exact VD|exact VE|exact VF) rfl ?_|(refine Wg rfl ?_; intro _)|(refine Wh rfl ?_; intro _)|refine Wi ?_|refine Wj ?_|refine Wk ?_|refine Wl ?_|refine Wm ?_|refine Wn ?_|refine Wo ?_|refine Wp ?_|refine Wq rfl ?_|refine Wr ?_|refine Ws ?_|refine Wt ?_|refine Wu ?_|refine Wv rfl rfl ?_|(refine Ww rfl ⟨rfl, by decide, by decide, by decide⟩ ?_; intro _))
    exact CT.done (none, 0) rfl (fun w ho => ho.ent)

set_option maxHeartbeats 1000000 in
theorem concat_bytes (w : World) (F : Nat → Prop) (a : Option Addr) (c : Nat) (ls : List (List UInt8)) (h : (sl a c ls).holds F w) (hl : ls.flatten.length ≤ 1048576) (hl2 : ls.length ≤ 1048576) :
    GivesBuf Tryz.prog 98 [.slice a ls.length c] w F 5 ls.flatten := by
  have hle : ∀ k, (ls.take k).flatten.length ≤ 1048576 := fun k => by
    have h1 := congrArg (fun l => l.flatten.length) (List.take_append_drop k ls)
    simp only [List.flatten_append, List.length_append] at h1
    omega
  have hnext : ∀ k (hk : k < ls.length), (ls.take (k + 1)).flatten = (ls.take k).flatten ++ ls[k] := fun k hk => by
    rw [List.take_succ_eq_append_getElem hk, List.flatten_append]; simp
  refine gives_of Tryz.func98 rfl Tryz.ntmps98 rfl rfl [.st (sl a c ls)] (.start1 h) ?_
  repeat (first|refine Wa ?_|refine Wb ?_|refine Wc ?_|refine Wd ?_|refine We rfl ?_|refine Wf (by first|exact Va|exact Vb|exact Vc|exact Vd|exact Ve|exact Vf|exact Vg|exact Vh|exact Vi|exact Vj|exact Vk (by omega)|exact Vl|exact Vm|exact Vn|exact Vo|exact Vp|exact Vq|exact Vr|exact Vs (by omega)|exact Vt (by omega)|exact Vu (by omega)|exact Vv (by omega)|exact Vw|exact Vx|exact Vy|exact Vz|exact VA|exact VB|exact VC|exact VD|exact VE|exact VF) rfl ?_|(refine Wg rfl ?_; intro _)|(refine Wh rfl ?_; intro _)|refine Wi ?_|refine Wj ?_|refine Wk ?_|refine Wl ?_|refine Wm ?_|refine Wn ?_|refine Wo ?_|refine Wp ?_|refine Wq rfl ?_|refine Wr ?_|refine Ws ?_|refine Wt ?_|refine Wu ?_|refine Wv rfl rfl ?_|(refine Ww rfl ⟨rfl, by decide, by decide, by decide⟩ ?_; intro _))
  refine JC.reslot 3 (.int .i64 (((ls.take 0).flatten.length : Nat) : Int)) rfl ?_
  refine JC.loop1 (fun k : Nat => [(0, .slice a ls.length c), (3, .int .i64 ((ls.take k).flatten.length : Int)), (9, .slice a ls.length c), (10, .int .i64 (ls.length : Int)), (11, .int .i64 (k : Int))]) (fun k => [.st (sl a c ls)])
    (fun k => k ≤ ls.length) (fun k => ls.length - k) 0 (Nat.zero_le _) inferInstance ?_
  intro k hk
  repeat (first|refine Wa ?_|refine Wb ?_|refine Wc ?_|refine Wd ?_|refine We rfl ?_|refine Wf (by first|exact Va|exact Vb|exact Vc|exact Vd|exact Ve|exact Vf|exact Vg|exact Vh|exact Vi|exact Vj|exact Vk (by omega)|exact Vl|exact Vm|exact Vn|exact Vo|exact Vp|exact Vq|exact Vr|exact Vs (by omega)|exact Vt (by omega)|exact Vu (by omega)|exact Vv (by omega)|exact Vw|exact Vx|exact Vy|exact Vz|exact VA|exact VB|exact VC|exact VD|exact VE|exact VF) rfl ?_|(refine Wg rfl ?_; intro _)|(refine Wh rfl ?_; intro _)|refine Wi ?_|refine Wj ?_|refine Wk ?_|refine Wl ?_|refine Wm ?_|refine Wn ?_|refine Wo ?_|refine Wp ?_|refine Wq rfl ?_|refine Wr ?_|refine Ws ?_|refine Wt ?_|refine Wu ?_|refine Wv rfl rfl ?_|(refine Ww rfl ⟨rfl, by decide, by decide, by decide⟩ ?_; intro _))
  refine JC.test (fun hlt => ?_) (fun hge => ?_)
  · have hlt' : k < ls.length := by omega
    have h1 := hle (k + 1)
    have h2 := hnext k hlt'
    have h3 : (ls.take (k + 1)).flatten.length = (ls.take k).flatten.length + (ls[k]).length := by rw [h2, List.length_append]
    repeat (first|refine Wa ?_|refine Wb ?_|refine Wc ?_|refine Wd ?_|refine We rfl ?_|refine Wf (by first|exact Va|exact Vb|exact Vc|exact Vd|exact Ve|exact Vf|exact Vg|exact Vh|exact Vi|exact Vj|exact Vk (by omega)|exact Vl|exact Vm|exact Vn|exact Vo|exact Vp|exact Vq|exact Vr|exact Vs (by omega)|exact Vt (by omega)|exact Vu (by omega)|exact Vv (by omega)|exact Vw|exact Vx|exact Vy|exact Vz|exact VA|exact VB|exact VC|exact VD|exact VE|exact VF) rfl ?_|(refine Wg rfl ?_; intro _)|(refine Wh rfl ?_; intro _)|refine Wi ?_|refine Wj ?_|refine Wk ?_|refine Wl ?_|refine Wm ?_|refine Wn ?_|refine Wo ?_|refine Wp ?_|refine Wq rfl ?_|refine Wr ?_|refine Ws ?_|refine Wt ?_|refine Wu ?_|refine Wv rfl rfl ?_|(refine Ww rfl ⟨rfl, by decide, by decide, by decide⟩ ?_; intro _))
    refine JR.indexBytes rfl hlt' ?_
    intro b o p q
    repeat (first|refine Wa ?_|refine Wb ?_|refine Wc ?_|refine Wd ?_|refine We rfl ?_|refine Wf (by first|exact Va|exact Vb|exact Vc|exact Vd|exact Ve|exact Vf|exact Vg|exact Vh|exact Vi|exact Vj|exact Vk (by omega)|exact Vl|exact Vm|exact Vn|exact Vo|exact Vp|exact Vq|exact Vr|exact Vs (by omega)|exact Vt (by omega)|exact Vu (by omega)|exact Vv (by omega)|exact Vw|exact Vx|exact Vy|exact Vz|exact VA|exact VB|exact VC|exact VD|exact VE|exact VF) rfl ?_|(refine Wg rfl ?_; intro _)|(refine Wh rfl ?_; intro _)|refine Wi ?_|refine Wj ?_|refine Wk ?_|refine Wl ?_|refine Wm ?_|refine Wn ?_|refine Wo ?_|refine Wp ?_|refine Wq rfl ?_|refine Wr ?_|refine Ws ?_|refine Wt ?_|refine Wu ?_|refine Wv rfl rfl ?_|(refine Ww rfl ⟨rfl, by decide, by decide, by decide⟩ ?_; intro _))
    exact ⟨k + 1, by omega, by omega, by rw [h3]; infer_instance⟩
  · obtain rfl : k = ls.length := by omega
    rw [List.take_length]
    repeat (first|refine Wa ?_|refine Wb ?_|refine Wc ?_|refine Wd ?_|refine We rfl ?_|refine Wf (by first|exact Va|exact Vb|exact Vc|exact Vd|exact Ve|exact Vf|exact Vg|exact Vh|exact Vi|exact Vj|exact Vk (by omega)|exact Vl|exact Vm|exact Vn|exact Vo|exact Vp|exact Vq|exact Vr|exact Vs (by omega)|exact Vt (by omega)|exact Vu (by omega)|exact Vv (by omega)|exact Vw|exact Vx|exact Vy|exact Vz|exact VA|exact VB|exact VC|exact VD|exact VE|exact VF) rfl ?_|(refine Wg rfl ?_; intro _)|(refine Wh rfl ?_; intro _)|refine Wi ?_|refine Wj ?_|refine Wk ?_|refine Wl ?_|refine Wm ?_|refine Wn ?_|refine Wo ?_|refine Wp ?_|refine Wq rfl ?_|refine Wr ?_|refine Ws ?_|refine Wt ?_|refine Wu ?_|refine Wv rfl rfl ?_|(refine Ww rfl ⟨rfl, by decide, by decide, by decide⟩ ?_; intro _))
    refine JR.callBuf rfl (fun w1 hw => grow_bytes w1 _ _ hl) ?_
    intro a1 c1
    repeat (first|refine Wa ?_|refine Wb ?_|refine Wc ?_|refine Wd ?_|refine We rfl ?_|refine Wf (by first|exact Va|exact Vb|exact Vc|exact Vd|exact Ve|exact Vf|exact Vg|exact Vh|exact Vi|exact Vj|exact Vk (by omega)|exact Vl|exact Vm|exact Vn|exact Vo|exact Vp|exact Vq|exact Vr|exact Vs (by omega)|exact Vt (by omega)|exact Vu (by omega)|exact Vv (by omega)|exact Vw|exact Vx|exact Vy|exact Vz|exact VA|exact VB|exact VC|exact VD|exact VE|exact VF) rfl ?_|(refine Wg rfl ?_; intro _)|(refine Wh rfl ?_; intro _)|refine Wi ?_|refine Wj ?_|refine Wk ?_|refine Wl ?_|refine Wm ?_|refine Wn ?_|refine Wo ?_|refine Wp ?_|refine Wq rfl ?_|refine Wr ?_|refine Ws ?_|refine Wt ?_|refine Wu ?_|refine Wv rfl rfl ?_|(refine Ww rfl ⟨rfl, by decide, by decide, by decide⟩ ?_; intro _))
    refine JC.loop3 (fun (k : Nat) p q => [(6, .slice p (ls.take k).flatten.length q), (25, .slice a ls.length c), (26, .int .i64 (ls.length : Int)), (27, .int .i64 (k : Int))]) (fun k p q => [.st (sl a c ls), .res (buf p q 5 (ls.take k).flatten)])
      (fun k _ _ => k ≤ ls.length) (fun k _ _ => ls.length - k) 0 a1 c1 (Nat.zero_le _) (by rw [List.take_zero, List.flatten_nil]; infer_instance) ?_
    intro k p q hk
    repeat (first|refine Wa ?_|refine Wb ?_|refine Wc ?_|refine Wd ?_|refine We rfl ?_|refine Wf (by first|exact Va|exact Vb|exact Vc|exact Vd|exact Ve|exact Vf|exact Vg|exact Vh|exact Vi|exact Vj|exact Vk (by omega)|exact Vl|exact Vm|exact Vn|exact Vo|exact Vp|exact Vq|exact Vr|exact Vs (by omega)|exact Vt (by omega)|exact Vu (by omega)|exact Vv (by omega)|exact Vw|exact Vx|exact Vy|exact Vz|exact VA|exact VB|exact VC|exact VD|exact VE|exact VF) rfl ?_|(refine Wg rfl ?_; intro _)|(refine Wh rfl ?_; intro _)|refine Wi ?_|refine Wj ?_|refine Wk ?_|refine Wl ?_|refine Wm ?_|refine Wn ?_|refine Wo ?_|refine Wp ?_|refine Wq rfl ?_|refine Wr ?_|refine Ws ?_|refine Wt ?_|refine Wu ?_|refine Wv rfl rfl ?_|(refine Ww rfl ⟨rfl, by decide, by decide, by decide⟩ ?_; intro _))
    refine JC.test (fun hlt => ?_) (fun hge => ?_)
    · have hlt' : k < ls.length := by omega
      have h1 := hle (k + 1)
      have h2 := hnext k hlt'
      have h3 : (ls.take (k + 1)).flatten.length = (ls.take k).flatten.length + (ls[k]).length := by rw [h2, List.length_append]
      repeat (first|refine Wa ?_|refine Wb ?_|refine Wc ?_|refine Wd ?_|refine We rfl ?_|refine Wf (by first|exact Va|exact Vb|exact Vc|exact Vd|exact Ve|exact Vf|exact Vg|exact Vh|exact Vi|exact Vj|exact Vk (by omega)|exact Vl|exact Vm|exact Vn|exact Vo|exact Vp|exact Vq|exact Vr|exact Vs (by omega)|exact Vt (by omega)|exact Vu (by omega)|exact Vv (by omega)|exact Vw|exact Vx|exact Vy|exact Vz|exact VA|exact VB|exact VC|exact VD|exact VE|exact VF) rfl ?_|(refine Wg rfl ?_; intro _)|(refine Wh rfl ?_; intro _)|refine Wi ?_|refine Wj ?_|refine Wk ?_|refine Wl ?_|refine Wm ?_|refine Wn ?_|refine Wo ?_|refine Wp ?_|refine Wq rfl ?_|refine Wr ?_|refine Ws ?_|refine Wt ?_|refine Wu ?_|refine Wv rfl rfl ?_|(refine Ww rfl ⟨rfl, by decide, by decide, by decide⟩ ?_; intro _))
      refine JR.indexBytes rfl hlt' ?_
      intro b o p2 q2
      repeat (first|refine Wa ?_|refine Wb ?_|refine Wc ?_|refine Wd ?_|refine We rfl ?_|refine Wf (by first|exact Va|exact Vb|exact Vc|exact Vd|exact Ve|exact Vf|exact Vg|exact Vh|exact Vi|exact Vj|exact Vk (by omega)|exact Vl|exact Vm|exact Vn|exact Vo|exact Vp|exact Vq|exact Vr|exact Vs (by omega)|exact Vt (by omega)|exact Vu (by omega)|exact Vv (by omega)|exact Vw|exact Vx|exact Vy|exact Vz|exact VA|exact VB|exact VC|exact VD|exact VE|exact VF) rfl ?_|(refine Wg rfl ?_; intro _)|(refine Wh rfl ?_; intro _)|refine Wi ?_|refine Wj ?_|refine Wk ?_|refine Wl ?_|refine Wm ?_|refine Wn ?_|refine Wo ?_|refine Wp ?_|refine Wq rfl ?_|refine Wr ?_|refine Ws ?_|refine Wt ?_|refine Wu ?_|refine Wv rfl rfl ?_|(refine Ww rfl ⟨rfl, by decide, by decide, by decide⟩ ?_; intro _))
      refine JR.appendSl rfl (by exact ⟨rfl, rfl, by decide⟩) (by omega) ?_
      intro p3 q3
      repeat (first|refine Wa ?_|refine Wb ?_|refine Wc ?_|refine Wd ?_|refine We rfl ?_|refine Wf (by first|exact Va|exact Vb|exact Vc|exact Vd|exact Ve|exact Vf|exact Vg|exact Vh|exact Vi|exact Vj|exact Vk (by omega)|exact Vl|exact Vm|exact Vn|exact Vo|exact Vp|exact Vq|exact Vr|exact Vs (by omega)|exact Vt (by omega)|exact Vu (by omega)|exact Vv (by omega)|exact Vw|exact Vx|exact Vy|exact Vz|exact VA|exact VB|exact VC|exact VD|exact VE|exact VF) rfl ?_|(refine Wg rfl ?_; intro _)|(refine Wh rfl ?_; intro _)|refine Wi ?_|refine Wj ?_|refine Wk ?_|refine Wl ?_|refine Wm ?_|refine Wn ?_|refine Wo ?_|refine Wp ?_|refine Wq rfl ?_|refine Wr ?_|refine Ws ?_|refine Wt ?_|refine Wu ?_|refine Wv rfl rfl ?_|(refine Ww rfl ⟨rfl, by decide, by decide, by decide⟩ ?_; intro _))
      exact ⟨k + 1, p3, q3, by omega, by omega, by rw [h2]; infer_instance⟩
    · obtain rfl : k = ls.length := by omega
      rw [List.take_length]
      repeat (first|refine Wa ?_|refine Wb ?_|refine Wc ?_|refine Wd ?_|refine We rfl ?_|refine Wf (by first|exact Va|exact Vb|exact Vc|exact Vd|exact Ve|exact Vf|exact Vg|exact Vh|exact Vi|exact Vj|exact Vk (by omega)|exact Vl|exact Vm|exact Vn|exact Vo|exact Vp|exact Vq|exact Vr|exact Vs (by omega)|exact Vt (by omega)|exact Vu (by omega)|exact Vv (by omega)|exact Vw|exact Vx|exact Vy|exact Vz|exact VA|exact VB|exact VC|exact VD|exact VE|exact VF) rfl ?_|(refine Wg rfl ?_; intro _)|(refine Wh rfl ?_; intro _)|refine Wi ?_|refine Wj ?_|refine Wk ?_|refine Wl ?_|refine Wm ?_|refine Wn ?_|refine Wo ?_|refine Wp ?_|refine Wq rfl ?_|refine Wr ?_|refine Ws ?_|refine Wt ?_|refine Wu ?_|refine Wv rfl rfl ?_|(refine Ww rfl ⟨rfl, by decide, by decide, by decide⟩ ?_; intro _))
      exact CT.done (p, q) rfl (fun w ho => ho.ent)
end Ab
end Go.Proofs.YtcmfemfndadfmaaGreat

/- Contracts: ops.Put (the orders of its region written by a program). -/
namespace Go.Proofs.YtcmfemfndadfmaaGreat
namespace Ab
open Go Go.RowKit
set_option linter.unusedVariables false
set_option linter.unusedSimpArgs false
set_option synthInstance.maxSize 4000
set_option synthInstance.maxHeartbeats 400000
attribute [local irreducible] JC JO JR JQ andThen inBlock OpV Gives retTo JM JS

/-- An operation in bytes. -/
def opPut (o : Op_) : List UInt8 := (numL o.kind.toNat ++ textL o.key) ++ (if o.kind = 0 then numL (foldN o.n) else textL o.elem)
def putOp (o : Op_) : List UInt8 × Int := if opMay o then (opPut o, 0) else ([], 1)
theorem field_kind (f1 f2 f3 : FuncId) (w : World) : (Instr.field 121 (.agg ⟨[fnV f1, fnV f2, fnV f3]⟩) 1).run Tryz.prog w = .ok (fnV f2) w := by
  have h1 := run_und (P := Tryz.prog) (t := 121) w
  unfold Instr.field
  rw [Sem.run_bind, h1]
  simp [asAgg, part, isAgg, Sem.run_bind]

/-- Three slices, each read, in a literal's block: read as a list of lists. -/
theorem Hold.pubLists {w0 w : World} {F : Nat → Prop} {Γ : List Fact} {b : Nat} {t : TypeId} (ys : List (List UInt8 × (Option Addr × Nat))) (h : Hold w0 F (.own b t (ys.map (fun p => .slice p.2.1 p.1.length p.2.2)) :: Γ) w)
    (hy : ∀ p ∈ ys, .st (sl p.2.1 p.2.2 p.1) ∈ Γ) (hl : ys.length ≤ 1048576) : Hold w0 F (.st (sl (some ⟨b, 0, none⟩) ys.length (ys.map (·.1))) :: Γ) w := by
  have hw : w.heap[b]? = some (.cells (ys.map (fun p => Value.slice p.2.1 p.1.length p.2.2)).toArray t (0, 0)) := h.sat (.own b t _) (by simp)
  refine h.publish fun hk => ?_
  have hb := hk b (.inr rfl)
  refine ⟨by simp, by simp only [maxLen]; omega, by simp only [List.length_map, lim]; omega, fun hne => ⟨b, 0, rfl, hb, (Array.getElem?_eq_some_iff.1 hw).1, fun i hi => ?_⟩⟩
  have hi' : i < ys.length := by simpa using hi
  refine ⟨(ys[i]).2, ?_, fun A hA => ?_⟩
  · intro j v hv
    simp only [Cell.cells, List.getElem?_singleton] at hv
    split at hv
    · rename_i h0; subst h0
      injection hv with hv
      subst hv
      rw [cell_of_row w b _ _ _ _ hw]
      simp [Cell.sz, hi']
    · cases hv
  · simp only [Cell.facts, List.mem_singleton] at hA
    subst hA
    have := h.tail.sat (.st (sl (ys[i]).2.1 (ys[i]).2.2 (ys[i]).1)) (hy _ (List.getElem_mem hi'))
    simp only [List.getElem_map]
    exact this
theorem pub3 {w0 w : World} {F : Nat → Prop} {b : Nat} {t u : TypeId} {N T C : List UInt8} {aN aT aC : Option Addr} {cN cT cC : Nat}
    (h : Hold w0 F [.own b t [.slice aN N.length cN, .slice aT T.length cT, .slice aC C.length cC], .res (buf aN cN u N), .res (buf aT cT u T), .res (buf aC cC u C)] w) : Hold w0 F [.st (sl (some ⟨b, 0, none⟩) 3 [N, T, C])] w := by
  have h1 : Hold w0 F [.res (buf aN cN u N), .own b t [.slice aN N.length cN, .slice aT T.length cT, .slice aC C.length cC], .res (buf aT cT u T), .res (buf aC cC u C)] w := h.ent
  have h1 := h1.pub
  have h2 : Hold w0 F [.res (buf aT cT u T), .st (sl aN cN N), .own b t [.slice aN N.length cN, .slice aT T.length cT, .slice aC C.length cC], .res (buf aC cC u C)] w := h1.ent
  have h2 := h2.pub
  have h3 : Hold w0 F [.res (buf aC cC u C), .st (sl aT cT T), .st (sl aN cN N), .own b t [.slice aN N.length cN, .slice aT T.length cT, .slice aC C.length cC]] w := h2.ent
  have h3 := h3.pub
  have h4 : Hold w0 F [.own b t [.slice aN N.length cN, .slice aT T.length cT, .slice aC C.length cC], .st (sl aC cC C), .st (sl aT cT T), .st (sl aN cN N)] w := h3.ent
  have h5 := Hold.pubLists [(N, aN, cN), (T, aT, cT), (C, aC, cC)] h4 (by simp) (by simp)
  have h5 : Hold w0 F [.st (sl (some ⟨b, 0, none⟩) 3 [N, T, C]), .st (sl aC cC C), .st (sl aT cT T), .st (sl aN cN N)] w := h5
  exact (h5.ent : Hold w0 F [.st (sl (some ⟨b, 0, none⟩) 3 [N, T, C])] w)
theorem join_to (w : World) (F : Nat → Prop) (a : Option Addr) (c : Nat) (ls : List (List UInt8)) (L : List UInt8) (h2 : 2 ≤ ls.length) (h : (sl a c ls).holds F w) (hL : ls.flatten = L) (hl : L.length ≤ 1048576) (hl2 : ls.length ≤ 1048576) :
    GivesSl Tryz.prog 130 [.slice a ls.length c, .slice none 0 0] w F L := by
  subst hL; exact join_bytes w F a c ls h2 h hl hl2

theorem textL_length (s : ByteArray) : (textL s).length ≤ 10 + s.size := by
  have := numL_length s.size
  rw [textL, List.length_append, bytesOf_length]; omega
theorem put_facts (o : Op_) (h : opMay o = true) : (o.kind = (o.kind.toNat : Int) ∧ o.kind.toNat < 4) ∧ o.key.size ≤ 1048576 ∧ ∃ (f1 f2 f3 : FuncId) (_ : Body Tryz.prog f2) (C : List UInt8), (gotten kindsM o.kind).getD noneV = .agg ⟨[fnV f1, fnV f2, fnV f3]⟩ ∧
    (∀ w F, GivesBuf Tryz.prog f2 [opV o] w F 5 C) ∧ [numL o.kind.toNat, textL o.key, C].flatten = opPut o ∧ (opPut o).length ≤ 100 := by
  have hnl := fun n => numL_length n
  unfold opMay at h
  by_cases h0 : o.kind = 0
  · rw [if_pos h0] at h
    simp only [keyOk, Bool.and_eq_true, decide_eq_true_eq] at h
    obtain ⟨⟨⟨_, _⟩, hk⟩, ⟨⟨_, hn1⟩, hn2⟩, _⟩ := h
    refine ⟨by rw [h0]; exact ⟨rfl, by decide⟩, by omega, _, _, _, inferInstance, numL (foldN o.n), by rw [h0]; rfl, fun w F => kinds2 w F o (by omega), ?_, ?_⟩
    · rw [opPut, if_pos h0]; simp
    · have h1 := hnl o.kind.toNat; have h2 := textL_length o.key; have h3 := hnl (foldN o.n)
      rw [opPut, if_pos h0, List.length_append, List.length_append]; omega
  · rw [if_neg h0] at h
    by_cases h1 : o.kind = 1 ∨ o.kind = 2 ∨ o.kind = 3
    · rw [if_pos h1] at h
      simp only [keyOk, Bool.and_eq_true, decide_eq_true_eq] at h
      obtain ⟨⟨⟨_, _⟩, hk⟩, _, ⟨_, _⟩, hk2⟩ := h
      refine ⟨by omega, by omega, 143, 144, 145, inferInstance, textL o.elem, ?_, fun w F => kinds5 w F o (by omega), ?_, ?_⟩
      · rcases h1 with h1 | h1 | h1 <;> rw [h1] <;> rfl
      · rw [opPut, if_neg h0]; simp
      · have h1 := hnl o.kind.toNat; have h2 := textL_length o.key; have h3 := textL_length o.elem
        rw [opPut, if_neg h0, List.length_append, List.length_append]; omega
    · rw [if_neg h1] at h; cases h

set_option maxHeartbeats 2000000 in
theorem put_ops (w : World) (F : Nat → Prop) (o : Op_) (hk : o.key.size < 4611686018427387904) (he : o.elem.size < 4611686018427387904) : GivesSlT Tryz.prog 101 [opV o] w F (putOp o).1 [.int .i64 (putOp o).2] := by
  refine gives_of Tryz.func101 rfl Tryz.ntmps101 rfl rfl [] (.start w F) ?_
  repeat (first|refine Wa ?_|refine Wb ?_|refine Wc ?_|refine Wd ?_|refine We rfl ?_|refine Wf (by first|exact Va|exact Vb|exact Vc|exact Vd|exact Ve|exact Vf|exact Vg|exact Vh|exact Vi|exact Vj|exact Vk (by omega)|exact Vl|exact Vm|exact Vn|exact Vo|exact Vp|exact Vq|exact Vr|exact Vs (by omega)|exact Vt (by omega)|exact Vu (by omega)|exact Vv (by omega)|exact Vw|exact Vx|exact Vy|exact Vz|exact VA|exact VB|exact VC|exact VD|exact VE|exact VF) rfl ?_|(refine Wg rfl ?_; intro _)|(refine Wh rfl ?_; intro _)|refine Wi ?_|refine Wj ?_|refine Wk ?_|refine Wl ?_|refine Wm ?_|refine Wn ?_|refine Wo ?_|refine Wp ?_|refine Wq rfl ?_|refine Wr ?_|refine Ws ?_|refine Wt ?_|refine Wu ?_|refine Wv rfl rfl ?_|(refine Ww rfl ⟨rfl, by decide, by decide, by decide⟩ ?_; intro _))
  rename_i bo
  refine JR.callV rfl (fun w1 hw => may_ops w1 _ o hk he) ?_
  repeat (first|refine Wa ?_|refine Wb ?_|refine Wc ?_|refine Wd ?_|refine We rfl ?_|refine Wf (by first|exact Va|exact Vb|exact Vc|exact Vd|exact Ve|exact Vf|exact Vg|exact Vh|exact Vi|exact Vj|exact Vk (by omega)|exact Vl|exact Vm|exact Vn|exact Vo|exact Vp|exact Vq|exact Vr|exact Vs (by omega)|exact Vt (by omega)|exact Vu (by omega)|exact Vv (by omega)|exact Vw|exact Vx|exact Vy|exact Vz|exact VA|exact VB|exact VC|exact VD|exact VE|exact VF) rfl ?_|(refine Wg rfl ?_; intro _)|(refine Wh rfl ?_; intro _)|refine Wi ?_|refine Wj ?_|refine Wk ?_|refine Wl ?_|refine Wm ?_|refine Wn ?_|refine Wo ?_|refine Wp ?_|refine Wq rfl ?_|refine Wr ?_|refine Ws ?_|refine Wt ?_|refine Wu ?_|refine Wv rfl rfl ?_|(refine Ww rfl ⟨rfl, by decide, by decide, by decide⟩ ?_; intro _))
  refine JC.test (fun h1 => ?_) (fun h1 => ?_)
  · have h2 : putOp o = ([], 1) := by simp [putOp, h1]
    rw [h2]
    repeat (first|refine Wa ?_|refine Wb ?_|refine Wc ?_|refine Wd ?_|refine We rfl ?_|refine Wf (by first|exact Va|exact Vb|exact Vc|exact Vd|exact Ve|exact Vf|exact Vg|exact Vh|exact Vi|exact Vj|exact Vk (by omega)|exact Vl|exact Vm|exact Vn|exact Vo|exact Vp|exact Vq|exact Vr|exact Vs (by omega)|exact Vt (by omega)|exact Vu (by omega)|exact Vv (by omega)|exact Vw|exact Vx|exact Vy|exact Vz|exact VA|exact VB|exact VC|exact VD|exact VE|exact VF) rfl ?_|(refine Wg rfl ?_; intro _)|(refine Wh rfl ?_; intro _)|refine Wi ?_|refine Wj ?_|refine Wk ?_|refine Wl ?_|refine Wm ?_|refine Wn ?_|refine Wo ?_|refine Wp ?_|refine Wq rfl ?_|refine Wr ?_|refine Ws ?_|refine Wt ?_|refine Wu ?_|refine Wv rfl rfl ?_|(refine Ww rfl ⟨rfl, by decide, by decide, by decide⟩ ?_; intro _))
    exact CT.done (none, 0) rfl (fun w ho => (ho.ent : Hold _ _ [] w).add sl_nil)
  have h1 : opMay o = true := by simpa using h1
  have h2 : putOp o = (opPut o, 0) := by simp [putOp, h1]
  obtain ⟨⟨hkk, hkn⟩, hks, f1, f2, f3, hbody, C, hlook, hput, hopp, hlen⟩ := put_facts o h1
  have hconv : IntKind.u64.wrap o.kind = o.kind := by rw [hkk, wrap64]; omega
  rw [h2]
  repeat (first|refine Wa ?_|refine Wb ?_|refine Wc ?_|refine Wd ?_|refine We rfl ?_|refine Wf (by first|exact Va|exact Vb|exact Vc|exact Vd|exact Ve|exact Vf|exact Vg|exact Vh|exact Vi|exact Vj|exact Vk (by omega)|exact Vl|exact Vm|exact Vn|exact Vo|exact Vp|exact Vq|exact Vr|exact Vs (by omega)|exact Vt (by omega)|exact Vu (by omega)|exact Vv (by omega)|exact Vw|exact Vx|exact Vy|exact Vz|exact VA|exact VB|exact VC|exact VD|exact VE|exact VF) rfl ?_|(refine Wg rfl ?_; intro _)|(refine Wh rfl ?_; intro _)|refine Wi ?_|refine Wj ?_|refine Wk ?_|refine Wl ?_|refine Wm ?_|refine Wn ?_|refine Wo ?_|refine Wp ?_|refine Wq rfl ?_|refine Wr ?_|refine Ws ?_|refine Wt ?_|refine Wu ?_|refine Wv rfl rfl ?_|(refine Ww rfl ⟨rfl, by decide, by decide, by decide⟩ ?_; intro _))
  refine JC.draw 18 mixed ?_
  refine JM.take 0 rfl (by kernel_rfl) rfl Vd rfl rfl ?_
  refine JM.take 1 rfl (by kernel_rfl) rfl Vc rfl rfl ?_
  refine JM.take 2 rfl (by kernel_rfl) rfl (OpV.convIn hconv) rfl rfl ?_
  refine JM.reslot 9 (.int .u64 ((o.kind.toNat : Nat) : Int)) (congrArg (Value.int .u64) hkk) ?_
  refine JM.take 4 rfl (by kernel_rfl) rfl Vd rfl rfl ?_
  refine JM.take 5 rfl (by kernel_rfl) rfl Vc rfl rfl ?_
  refine JM.take 8 rfl (by kernel_rfl) rfl Vd rfl rfl ?_
  refine JM.take 9 rfl (by kernel_rfl) rfl Vc rfl rfl ?_
  refine JM.take 12 rfl (by kernel_rfl) rfl Vc rfl rfl ?_
  refine JM.one 3 (by kernel_rfl) rfl rfl rfl rfl (JS.callBuf rfl (fun w1 hw => num_enc _ (by omega) w1 _) fun aN cN => ?_)
  refine JM.one 6 (by kernel_rfl) rfl rfl rfl rfl (JS.callBuf rfl (fun w1 hw => text_enc _ hks w1 _) fun aT cT => ?_)
  refine JM.one 7 (by kernel_rfl) rfl rfl rfl rfl (JS.call1 rfl (fun w1 hw => kinds_ops w1 _) fun mk => ?_)
  refine JM.take 10 rfl (by kernel_rfl) rfl (OpV.lookupNo o.kind kindsM_nodup hlook) rfl rfl ?_
  refine JM.take 11 rfl (by kernel_rfl) rfl (OpV.fieldV (field_kind f1 f2 f3)) rfl rfl ?_
  refine JM.one 13 (by kernel_rfl) rfl rfl rfl rfl (JS.callBuf rfl (fun w1 hw => hput w1 _) fun aC cC => ?_)
  refine JM.one 14 (by kernel_rfl) rfl rfl rfl rfl (JS.lit rfl ⟨rfl, by decide, by decide, by decide⟩ fun lb => ?_)
  refine JM.more (Γ' := [.st (sl (some ⟨lb, 0, none⟩) 3 [numL o.kind.toNat, textL o.key, C])]) (fun w1 ho => pub3 (b := lb) (t := 81) (u := 5) (N := numL o.kind.toNat) (T := textL o.key) (C := C) (aN := aN) (aT := aT) (aC := aC) (cN := cN) (cT := cT) (cC := cC) ho.ent) ?_
  refine JM.one 15 (by kernel_rfl) rfl rfl rfl rfl (JS.callSl rfl (fun w1 hw => join_to w1 _ (some ⟨lb, 0, none⟩) 3 [numL o.kind.toNat, textL o.key, C] (opPut o) (by simp) hw.get hopp (by omega) (by simp)) fun aJ cJ => ?_)
  refine JM.one 16 (by kernel_rfl) rfl rfl rfl rfl (JS.val Vb rfl ?_)
  refine JM.one 17 (by kernel_rfl) rfl rfl rfl rfl (JS.val Vb rfl ?_)
  refine JM.nil (by kernel_rfl) ?_
  repeat (first|refine Wa ?_|refine Wb ?_|refine Wc ?_|refine Wd ?_|refine We rfl ?_|refine Wf (by first|exact Va|exact Vb|exact Vc|exact Vd|exact Ve|exact Vf|exact Vg|exact Vh|exact Vi|exact Vj|exact Vk (by omega)|exact Vl|exact Vm|exact Vn|exact Vo|exact Vp|exact Vq|exact Vr|exact Vs (by omega)|exact Vt (by omega)|exact Vu (by omega)|exact Vv (by omega)|exact Vw|exact Vx|exact Vy|exact Vz|exact VA|exact VB|exact VC|exact VD|exact VE|exact VF) rfl ?_|(refine Wg rfl ?_; intro _)|(refine Wh rfl ?_; intro _)|refine Wi ?_|refine Wj ?_|refine Wk ?_|refine Wl ?_|refine Wm ?_|refine Wn ?_|refine Wo ?_|refine Wp ?_|refine Wq rfl ?_|refine Wr ?_|refine Ws ?_|refine Wt ?_|refine Wu ?_|refine Wv rfl rfl ?_|(refine Ww rfl ⟨rfl, by decide, by decide, by decide⟩ ?_; intro _))
  exact CT.done (aJ, cJ) rfl (fun w ho => ho.ent)
end Ab
end Go.Proofs.YtcmfemfndadfmaaGreat

/- Contracts: commit.Put, commit.Hash. -/
namespace Go.Proofs.YtcmfemfndadfmaaGreat
namespace Ab
open Go Go.RowKit
set_option linter.unusedVariables false
set_option linter.unusedSimpArgs false
set_option synthInstance.maxSize 4000
set_option synthInstance.maxHeartbeats 400000
attribute [local irreducible] JC JO JR JQ andThen inBlock OpV Gives retTo JM JS

attribute [local irreducible] sumI numL textL opPut
/-- A commit in bytes. -/
def headL (c : Commit) : List UInt8 := ((numL (foldN c.ev.node) ++ numL c.ev.seq.toNat) ++ numL c.gen.toNat) ++ numL c.parents.length
def idsL (L : List ID) : List UInt8 := (L.map (·.1)).flatten
def commitPut (c : Commit) : List UInt8 := if c.ev.node = -1 then headL c ++ idsL c.parents else headL c ++ idsL c.parents ++ opPut c.op
def putCommit (c : Commit) : List UInt8 × Int := if may c then (commitPut c, 0) else ([], 1)
theorem idsL_length (L : List ID) : (idsL L).length = 32 * L.length := by
  induction L with
  | nil => rfl
  | cons x L ih => simp only [idsL, List.map_cons, List.flatten_cons, List.length_append, List.length_cons] at ih ⊢; rw [ih, x.2]; omega
theorem idsL_next (L : List ID) (k : Nat) (hk : k < L.length) : idsL (L.take (k + 1)) = idsL (L.take k) ++ (L[k]).1 := by
  rw [idsL, idsL, List.take_succ_eq_append_getElem hk, List.map_append, List.flatten_append]; simp
theorem headL_length (c : Commit) : (headL c).length ≤ 40 := by
  have h1 := numL_length (foldN c.ev.node); have h2 := numL_length c.ev.seq.toNat; have h3 := numL_length c.gen.toNat; have h4 := numL_length c.parents.length
  simp only [headL, List.length_append]; omega
/-- What is known of a commit that may be. -/
structure MayC (c : Commit) : Prop where
  node : -1 ≤ c.ev.node ∧ c.ev.node ≤ 7
  seq : 0 ≤ c.ev.seq ∧ c.ev.seq ≤ 1048576
  gen : 1 ≤ c.gen ∧ c.gen ≤ 1048576
  par : c.parents.length ≤ 8
  op : c.ev.node ≠ -1 → opMay c.op = true
theorem may_spec {c : Commit} (h : may c = true) : MayC c := by
  unfold may at h
  split at h
  · cases h
  · rename_i h1
    simp only [inB, Bool.or_eq_true, Bool.not_eq_true', not_or, Bool.not_eq_false, decide_eq_true_eq, Bool.and_eq_true, Nat.not_lt] at h1
    obtain ⟨⟨⟨hg, hp⟩, _⟩, _⟩ := h1
    split at h
    · rename_i h2
      simp only [Bool.and_eq_true, decide_eq_true_eq] at h
      exact ⟨by omega, by omega, hg, hp, fun hn => (hn h2).elim⟩
    · rename_i h2
      simp only [inB, Bool.and_eq_true, decide_eq_true_eq] at h
      exact ⟨by omega, by omega, hg, hp, fun _ => h.2⟩

theorem pub4 {w0 w : World} {F : Nat → Prop} {b : Nat} {t u : TypeId} {A B C D : List UInt8} {aA aB aC aD : Option Addr} {cA cB cC cD : Nat} {Γ : List Fact}
    (h : Hold w0 F (.res (buf aA cA u A) :: .res (buf aB cB u B) :: .res (buf aC cC u C) :: .res (buf aD cD u D) :: .own b t [.slice aA A.length cA, .slice aB B.length cB, .slice aC C.length cC, .slice aD D.length cD] :: Γ) w) :
    Hold w0 F (.st (sl (some ⟨b, 0, none⟩) 4 [A, B, C, D]) :: Γ) w := by
  have rot : ∀ {X : Fact} {Γ' : List Fact}, Hold w0 F (X :: Γ') w → Hold w0 F (Γ' ++ [X]) w := fun h => h.perm (by
    exact (List.perm_append_comm (l₁ := [_])))
  have h1 := h.pub
  have h2 : Hold w0 F (.res (buf aB cB u B) :: .st (sl aA cA A) :: .res (buf aC cC u C) :: .res (buf aD cD u D) :: .own b t [.slice aA A.length cA, .slice aB B.length cB, .slice aC C.length cC, .slice aD D.length cD] :: Γ) w := h1.perm (List.Perm.swap _ _ _)
  have h2 := h2.pub
  have h3 : Hold w0 F (.res (buf aC cC u C) :: .st (sl aB cB B) :: .st (sl aA cA A) :: .res (buf aD cD u D) :: .own b t [.slice aA A.length cA, .slice aB B.length cB, .slice aC C.length cC, .slice aD D.length cD] :: Γ) w :=
    h2.perm (((List.Perm.swap _ _ _).cons _).trans (List.Perm.swap _ _ _))
  have h3 := h3.pub
  have h4 : Hold w0 F (.res (buf aD cD u D) :: .st (sl aC cC C) :: .st (sl aB cB B) :: .st (sl aA cA A) :: .own b t [.slice aA A.length cA, .slice aB B.length cB, .slice aC C.length cC, .slice aD D.length cD] :: Γ) w :=
    h3.perm (((((List.Perm.swap _ _ _).cons _).trans (List.Perm.swap _ _ _)).cons _).trans (List.Perm.swap _ _ _))
  have h4 := h4.pub
  have h5 : Hold w0 F (.own b t [.slice aA A.length cA, .slice aB B.length cB, .slice aC C.length cC, .slice aD D.length cD] :: .st (sl aD cD D) :: .st (sl aC cC C) :: .st (sl aB cB B) :: .st (sl aA cA A) :: Γ) w :=
    h4.perm ((((((((List.Perm.swap _ _ _).cons _).trans (List.Perm.swap _ _ _)).cons _).trans (List.Perm.swap _ _ _)).cons _).trans (List.Perm.swap _ _ _)))
  have h6 := Hold.pubLists [(A, aA, cA), (B, aB, cB), (C, aC, cC), (D, aD, cD)] h5 (by simp) (by simp)
  have h6 : Hold w0 F (.st (sl (some ⟨b, 0, none⟩) 4 [A, B, C, D]) :: .st (sl aD cD D) :: .st (sl aC cC C) :: .st (sl aB cB B) :: .st (sl aA cA A) :: Γ) w := h6
  have h7 : Hold w0 F ((.st (sl (some ⟨b, 0, none⟩) 4 [A, B, C, D]) :: Γ) ++ [.st (sl aD cD D), .st (sl aC cC C), .st (sl aB cB B), .st (sl aA cA A)]) w :=
    h6.perm ((List.perm_append_comm (l₁ := [Fact.st (sl aD cD D), .st (sl aC cC C), .st (sl aB cB B), .st (sl aA cA A)]) (l₂ := Γ)).cons _)
  exact h7.left

theorem concat_to (w : World) (F : Nat → Prop) (a : Option Addr) (c : Nat) (ls : List (List UInt8)) (L : List UInt8) (h : (sl a c ls).holds F w) (hL : ls.flatten = L) (hl : L.length ≤ 1048576) (hl2 : ls.length ≤ 1048576) :
    GivesBuf Tryz.prog 98 [.slice a ls.length c] w F 5 L := by
  subst hL; exact concat_bytes w F a c ls h hl hl2

theorem put_ops_ok (w : World) (F : Nat → Prop) (o : Op_) (hk : o.key.size < 4611686018427387904) (he : o.elem.size < 4611686018427387904) (h : opMay o = true) : GivesSlT Tryz.prog 101 [opV o] w F (opPut o) [.int .i64 0] := by
  have h1 := put_ops w F o hk he
  have h2 : putOp o = (opPut o, 0) := by simp [putOp, h]
  rw [h2] at h1
  exact h1
set_option maxHeartbeats 2000000 in
theorem put_commit (w : World) (F : Nat → Prop) (c : Commit) (a : Option Addr) (k : Nat) (h : (sl a k c.parents).holds F w) (ht : texts c) :
    GivesSlT Tryz.prog 74 [commitV c a k] w F (putCommit c).1 [.int .i64 (putCommit c).2] := by
  refine gives_of Tryz.func74 rfl Tryz.ntmps74 rfl rfl [.st (sl a k c.parents)] (.start1 h) ?_
  repeat (first|refine Wa ?_|refine Wb ?_|refine Wc ?_|refine Wd ?_|refine We rfl ?_|refine Wf (by first|exact Va|exact Vb|exact Vc|exact Vd|exact Ve|exact Vf|exact Vg|exact Vh|exact Vi|exact Vj|exact Vk (by omega)|exact Vl|exact Vm|exact Vn|exact Vo|exact Vp|exact Vq|exact Vr|exact Vs (by omega)|exact Vt (by omega)|exact Vu (by omega)|exact Vv (by omega)|exact Vw|exact Vx|exact Vy|exact Vz|exact VA|exact VB|exact VC|exact VD|exact VE|exact VF) rfl ?_|(refine Wg rfl ?_; intro _)|(refine Wh rfl ?_; intro _)|refine Wi ?_|refine Wj ?_|refine Wk ?_|refine Wl ?_|refine Wm ?_|refine Wn ?_|refine Wo ?_|refine Wp ?_|refine Wq rfl ?_|refine Wr ?_|refine Ws ?_|refine Wt ?_|refine Wu ?_|refine Wv rfl rfl ?_|(refine Ww rfl ⟨rfl, by decide, by decide, by decide⟩ ?_; intro _))
  rename_i bc
  refine JR.callV rfl (fun w1 hw => may_commit w1 _ c a k hw.get ht) ?_
  repeat (first|refine Wa ?_|refine Wb ?_|refine Wc ?_|refine Wd ?_|refine We rfl ?_|refine Wf (by first|exact Va|exact Vb|exact Vc|exact Vd|exact Ve|exact Vf|exact Vg|exact Vh|exact Vi|exact Vj|exact Vk (by omega)|exact Vl|exact Vm|exact Vn|exact Vo|exact Vp|exact Vq|exact Vr|exact Vs (by omega)|exact Vt (by omega)|exact Vu (by omega)|exact Vv (by omega)|exact Vw|exact Vx|exact Vy|exact Vz|exact VA|exact VB|exact VC|exact VD|exact VE|exact VF) rfl ?_|(refine Wg rfl ?_; intro _)|(refine Wh rfl ?_; intro _)|refine Wi ?_|refine Wj ?_|refine Wk ?_|refine Wl ?_|refine Wm ?_|refine Wn ?_|refine Wo ?_|refine Wp ?_|refine Wq rfl ?_|refine Wr ?_|refine Ws ?_|refine Wt ?_|refine Wu ?_|refine Wv rfl rfl ?_|(refine Ww rfl ⟨rfl, by decide, by decide, by decide⟩ ?_; intro _))
  refine JC.test (fun h1 => ?_) (fun h1 => ?_)
  · have h2 : putCommit c = ([], 1) := by simp [putCommit, h1]
    rw [h2]
    repeat (first|refine Wa ?_|refine Wb ?_|refine Wc ?_|refine Wd ?_|refine We rfl ?_|refine Wf (by first|exact Va|exact Vb|exact Vc|exact Vd|exact Ve|exact Vf|exact Vg|exact Vh|exact Vi|exact Vj|exact Vk (by omega)|exact Vl|exact Vm|exact Vn|exact Vo|exact Vp|exact Vq|exact Vr|exact Vs (by omega)|exact Vt (by omega)|exact Vu (by omega)|exact Vv (by omega)|exact Vw|exact Vx|exact Vy|exact Vz|exact VA|exact VB|exact VC|exact VD|exact VE|exact VF) rfl ?_|(refine Wg rfl ?_; intro _)|(refine Wh rfl ?_; intro _)|refine Wi ?_|refine Wj ?_|refine Wk ?_|refine Wl ?_|refine Wm ?_|refine Wn ?_|refine Wo ?_|refine Wp ?_|refine Wq rfl ?_|refine Wr ?_|refine Ws ?_|refine Wt ?_|refine Wu ?_|refine Wv rfl rfl ?_|(refine Ww rfl ⟨rfl, by decide, by decide, by decide⟩ ?_; intro _))
    exact CT.done (none, 0) rfl (fun w ho => (ho.ent : Hold _ _ [] w).add sl_nil)
  have h1 : may c = true := by simpa using h1
  have h2 : putCommit c = (commitPut c, 0) := by simp [putCommit, h1]
  have hm := may_spec h1
  have hh := headL_length c
  rw [h2]
  have hn1 := hm.node
  have hn2 := hm.seq
  have hn3 := hm.gen
  have hn4 := hm.par
  have hs1 : IntKind.u64.wrap c.ev.seq = c.ev.seq := by rw [show c.ev.seq = ((c.ev.seq.toNat : Nat) : Int) by omega, wrap64]; omega
  have hs2 : IntKind.u64.wrap c.gen = c.gen := by rw [show c.gen = ((c.gen.toNat : Nat) : Int) by omega, wrap64]; omega
  repeat (first|refine Wa ?_|refine Wb ?_|refine Wc ?_|refine Wd ?_|refine We rfl ?_|refine Wf (by first|exact Va|exact Vb|exact Vc|exact Vd|exact Ve|exact Vf|exact Vg|exact Vh|exact Vi|exact Vj|exact Vk (by omega)|exact Vl|exact Vm|exact Vn|exact Vo|exact Vp|exact Vq|exact Vr|exact Vs (by omega)|exact Vt (by omega)|exact Vu (by omega)|exact Vv (by omega)|exact Vw|exact Vx|exact Vy|exact Vz|exact VA|exact VB|exact VC|exact VD|exact VE|exact VF) rfl ?_|(refine Wg rfl ?_; intro _)|(refine Wh rfl ?_; intro _)|refine Wi ?_|refine Wj ?_|refine Wk ?_|refine Wl ?_|refine Wm ?_|refine Wn ?_|refine Wo ?_|refine Wp ?_|refine Wq rfl ?_|refine Wr ?_|refine Ws ?_|refine Wt ?_|refine Wu ?_|refine Wv rfl rfl ?_|(refine Ww rfl ⟨rfl, by decide, by decide, by decide⟩ ?_; intro _))
  refine JC.draw 22 mixed ?_
  refine JM.take 0 rfl (by kernel_rfl) rfl Vd rfl rfl ?_
  refine JM.take 1 rfl (by kernel_rfl) rfl Vd rfl rfl ?_
  refine JM.take 2 rfl (by kernel_rfl) rfl Vc rfl rfl ?_
  refine JM.takeCall 3 rfl (by kernel_rfl) rfl (fun w1 hw => fold_enc w1 _ c.ev.node (by omega)) rfl rfl ?_
  refine JM.take 5 rfl (by kernel_rfl) rfl Vd rfl rfl ?_
  refine JM.take 6 rfl (by kernel_rfl) rfl Vd rfl rfl ?_
  refine JM.take 7 rfl (by kernel_rfl) rfl Vc rfl rfl ?_
  refine JM.take 8 rfl (by kernel_rfl) rfl (OpV.convIn hs1) rfl rfl ?_
  refine JM.reslot 20 (.int .u64 ((c.ev.seq.toNat : Nat) : Int)) (congrArg (Value.int .u64) (by omega)) ?_
  refine JM.take 10 rfl (by kernel_rfl) rfl Vd rfl rfl ?_
  refine JM.take 11 rfl (by kernel_rfl) rfl Vc rfl rfl ?_
  refine JM.take 12 rfl (by kernel_rfl) rfl (OpV.convIn hs2) rfl rfl ?_
  refine JM.reslot 24 (.int .u64 ((c.gen.toNat : Nat) : Int)) (congrArg (Value.int .u64) (by omega)) ?_
  refine JM.take 14 rfl (by kernel_rfl) rfl Vd rfl rfl ?_
  refine JM.take 15 rfl (by kernel_rfl) rfl Vc rfl rfl ?_
  refine JM.take 16 rfl (by kernel_rfl) rfl Vf rfl rfl ?_
  refine JM.take 17 rfl (by kernel_rfl) rfl (OpV.convIn (by rw [wrap64]; omega)) rfl rfl ?_
  refine JM.one 4 (by kernel_rfl) rfl rfl rfl rfl (JS.callBuf rfl (fun w1 hw => num_enc _ (foldN_lt (by omega)) w1 _) fun a1 c1 => ?_)
  refine JM.one 9 (by kernel_rfl) rfl rfl rfl rfl (JS.callBuf rfl (fun w1 hw => num_enc _ (by omega) w1 _) fun a2 c2 => ?_)
  refine JM.one 13 (by kernel_rfl) rfl rfl rfl rfl (JS.callBuf rfl (fun w1 hw => num_enc _ (by omega) w1 _) fun a3 c3 => ?_)
  refine JM.one 18 (by kernel_rfl) rfl rfl rfl rfl (JS.callBuf rfl (fun w1 hw => num_enc _ (by omega) w1 _) fun a4 c4 => ?_)
  refine JM.one 19 (by kernel_rfl) rfl rfl rfl rfl (JS.lit rfl ⟨rfl, by decide, by decide, by decide⟩ fun lb => ?_)
  refine JM.more (Γ' := [.st (sl (some ⟨lb, 0, none⟩) 4 [numL (foldN c.ev.node), numL c.ev.seq.toNat, numL c.gen.toNat, numL c.parents.length]), .own bc 29 [.int .i64 c.ev.node, .int .i64 c.ev.seq, .int .i64 c.gen, .slice a c.parents.length k, .int .i64 c.op.kind, .string c.op.key, .string c.op.elem, .int .i64 c.op.n], .st (sl a k c.parents)])
    (fun w1 ho => pub4 (b := lb) (t := 81) (u := 5) (aA := a1) (aB := a2) (aC := a3) (aD := a4) (cA := c1) (cB := c2) (cC := c3) (cD := c4) ho.ent) ?_
  refine JM.one 20 (by kernel_rfl) rfl rfl rfl rfl (JS.callBuf rfl (fun w1 hw => concat_to w1 _ (some ⟨lb, 0, none⟩) 4 [numL (foldN c.ev.node), numL c.ev.seq.toNat, numL c.gen.toNat, numL c.parents.length] (headL c) hw.get (by simp [headL]) (by omega) (by simp)) fun p0 q0 => ?_)
  refine JM.one 21 (by kernel_rfl) rfl rfl rfl rfl (JS.val Vb rfl ?_)
  refine JM.nil (by kernel_rfl) ?_
  repeat (first|refine Wa ?_|refine Wb ?_|refine Wc ?_|refine Wd ?_|refine We rfl ?_|refine Wf (by first|exact Va|exact Vb|exact Vc|exact Vd|exact Ve|exact Vf|exact Vg|exact Vh|exact Vi|exact Vj|exact Vk (by omega)|exact Vl|exact Vm|exact Vn|exact Vo|exact Vp|exact Vq|exact Vr|exact Vs (by omega)|exact Vt (by omega)|exact Vu (by omega)|exact Vv (by omega)|exact Vw|exact Vx|exact Vy|exact Vz|exact VA|exact VB|exact VC|exact VD|exact VE|exact VF) rfl ?_|(refine Wg rfl ?_; intro _)|(refine Wh rfl ?_; intro _)|refine Wi ?_|refine Wj ?_|refine Wk ?_|refine Wl ?_|refine Wm ?_|refine Wn ?_|refine Wo ?_|refine Wp ?_|refine Wq rfl ?_|refine Wr ?_|refine Ws ?_|refine Wt ?_|refine Wu ?_|refine Wv rfl rfl ?_|(refine Ww rfl ⟨rfl, by decide, by decide, by decide⟩ ?_; intro _))
  refine JC.loop3 (fun (i : Nat) p q => [(1, .pointer (some ⟨bc, 0, none⟩)), (4, .slice p (headL c ++ idsL (c.parents.take i)).length q), (34, .slice a c.parents.length k), (35, .int .i64 (c.parents.length : Int)), (36, .int .i64 (i : Int))])
    (fun i p q => [.own bc 29 [.int .i64 c.ev.node, .int .i64 c.ev.seq, .int .i64 c.gen, .slice a c.parents.length k, .int .i64 c.op.kind, .string c.op.key, .string c.op.elem, .int .i64 c.op.n], .st (sl a k c.parents), .res (buf p q 5 (headL c ++ idsL (c.parents.take i)))])
    (fun i _ _ => i ≤ c.parents.length) (fun i _ _ => c.parents.length - i) 0 p0 q0 (Nat.zero_le _) (by rw [List.take_zero, show idsL [] = [] from rfl, List.append_nil]; infer_instance) ?_
  intro i p q hi
  repeat (first|refine Wa ?_|refine Wb ?_|refine Wc ?_|refine Wd ?_|refine We rfl ?_|refine Wf (by first|exact Va|exact Vb|exact Vc|exact Vd|exact Ve|exact Vf|exact Vg|exact Vh|exact Vi|exact Vj|exact Vk (by omega)|exact Vl|exact Vm|exact Vn|exact Vo|exact Vp|exact Vq|exact Vr|exact Vs (by omega)|exact Vt (by omega)|exact Vu (by omega)|exact Vv (by omega)|exact Vw|exact Vx|exact Vy|exact Vz|exact VA|exact VB|exact VC|exact VD|exact VE|exact VF) rfl ?_|(refine Wg rfl ?_; intro _)|(refine Wh rfl ?_; intro _)|refine Wi ?_|refine Wj ?_|refine Wk ?_|refine Wl ?_|refine Wm ?_|refine Wn ?_|refine Wo ?_|refine Wp ?_|refine Wq rfl ?_|refine Wr ?_|refine Ws ?_|refine Wt ?_|refine Wu ?_|refine Wv rfl rfl ?_|(refine Ww rfl ⟨rfl, by decide, by decide, by decide⟩ ?_; intro _))
  refine JC.test (fun hlt => ?_) (fun hge => ?_)
  · have hlt' : i < c.parents.length := by omega
    have hil := idsL_length (c.parents.take i)
    rw [List.length_take] at hil
    repeat (first|refine Wa ?_|refine Wb ?_|refine Wc ?_|refine Wd ?_|refine We rfl ?_|refine Wf (by first|exact Va|exact Vb|exact Vc|exact Vd|exact Ve|exact Vf|exact Vg|exact Vh|exact Vi|exact Vj|exact Vk (by omega)|exact Vl|exact Vm|exact Vn|exact Vo|exact Vp|exact Vq|exact Vr|exact Vs (by omega)|exact Vt (by omega)|exact Vu (by omega)|exact Vv (by omega)|exact Vw|exact Vx|exact Vy|exact Vz|exact VA|exact VB|exact VC|exact VD|exact VE|exact VF) rfl ?_|(refine Wg rfl ?_; intro _)|(refine Wh rfl ?_; intro _)|refine Wi ?_|refine Wj ?_|refine Wk ?_|refine Wl ?_|refine Wm ?_|refine Wn ?_|refine Wo ?_|refine Wp ?_|refine Wq rfl ?_|refine Wr ?_|refine Ws ?_|refine Wt ?_|refine Wu ?_|refine Wv rfl rfl ?_|(refine Ww rfl ⟨rfl, by decide, by decide, by decide⟩ ?_; intro _))
    refine JR.indexID rfl hlt' ?_
    intro b o
    repeat (first|refine Wa ?_|refine Wb ?_|refine Wc ?_|refine Wd ?_|refine We rfl ?_|refine Wf (by first|exact Va|exact Vb|exact Vc|exact Vd|exact Ve|exact Vf|exact Vg|exact Vh|exact Vi|exact Vj|exact Vk (by omega)|exact Vl|exact Vm|exact Vn|exact Vo|exact Vp|exact Vq|exact Vr|exact Vs (by omega)|exact Vt (by omega)|exact Vu (by omega)|exact Vv (by omega)|exact Vw|exact Vx|exact Vy|exact Vz|exact VA|exact VB|exact VC|exact VD|exact VE|exact VF) rfl ?_|(refine Wg rfl ?_; intro _)|(refine Wh rfl ?_; intro _)|refine Wi ?_|refine Wj ?_|refine Wk ?_|refine Wl ?_|refine Wm ?_|refine Wn ?_|refine Wo ?_|refine Wp ?_|refine Wq rfl ?_|refine Wr ?_|refine Ws ?_|refine Wt ?_|refine Wu ?_|refine Wv rfl rfl ?_|(refine Ww rfl ⟨rfl, by decide, by decide, by decide⟩ ?_; intro _))
    refine Wf (OpV.sliceArr (by decide)) rfl ?_
    refine We rfl ?_
    refine JR.appendBytes (M := (c.parents[i]).1) rfl rfl rfl (c.parents[i]).2 (by exact ⟨rfl, rfl, by decide⟩) (by rw [List.length_append]; omega) ?_
    intro p3 q3
    repeat (first|refine Wa ?_|refine Wb ?_|refine Wc ?_|refine Wd ?_|refine We rfl ?_|refine Wf (by first|exact Va|exact Vb|exact Vc|exact Vd|exact Ve|exact Vf|exact Vg|exact Vh|exact Vi|exact Vj|exact Vk (by omega)|exact Vl|exact Vm|exact Vn|exact Vo|exact Vp|exact Vq|exact Vr|exact Vs (by omega)|exact Vt (by omega)|exact Vu (by omega)|exact Vv (by omega)|exact Vw|exact Vx|exact Vy|exact Vz|exact VA|exact VB|exact VC|exact VD|exact VE|exact VF) rfl ?_|(refine Wg rfl ?_; intro _)|(refine Wh rfl ?_; intro _)|refine Wi ?_|refine Wj ?_|refine Wk ?_|refine Wl ?_|refine Wm ?_|refine Wn ?_|refine Wo ?_|refine Wp ?_|refine Wq rfl ?_|refine Wr ?_|refine Ws ?_|refine Wt ?_|refine Wu ?_|refine Wv rfl rfl ?_|(refine Ww rfl ⟨rfl, by decide, by decide, by decide⟩ ?_; intro _))
    have hnx : headL c ++ idsL (c.parents.take (i + 1)) = headL c ++ idsL (c.parents.take i) ++ (c.parents[i]).1 := by rw [idsL_next _ _ hlt', List.append_assoc]
    exact ⟨i + 1, p3, q3, by omega, by omega, by rw [hnx]; infer_instance⟩
  · obtain rfl : i = c.parents.length := by omega
    have hil := idsL_length c.parents
    rw [List.take_length]
    repeat (first|refine Wa ?_|refine Wb ?_|refine Wc ?_|refine Wd ?_|refine We rfl ?_|refine Wf (by first|exact Va|exact Vb|exact Vc|exact Vd|exact Ve|exact Vf|exact Vg|exact Vh|exact Vi|exact Vj|exact Vk (by omega)|exact Vl|exact Vm|exact Vn|exact Vo|exact Vp|exact Vq|exact Vr|exact Vs (by omega)|exact Vt (by omega)|exact Vu (by omega)|exact Vv (by omega)|exact Vw|exact Vx|exact Vy|exact Vz|exact VA|exact VB|exact VC|exact VD|exact VE|exact VF) rfl ?_|(refine Wg rfl ?_; intro _)|(refine Wh rfl ?_; intro _)|refine Wi ?_|refine Wj ?_|refine Wk ?_|refine Wl ?_|refine Wm ?_|refine Wn ?_|refine Wo ?_|refine Wp ?_|refine Wq rfl ?_|refine Wr ?_|refine Ws ?_|refine Wt ?_|refine Wu ?_|refine Wv rfl rfl ?_|(refine Ww rfl ⟨rfl, by decide, by decide, by decide⟩ ?_; intro _))
    refine JC.test (fun hnode => ?_) (fun hnode => ?_)
    · have hb : commitPut c = headL c ++ idsL c.parents := by rw [commitPut, if_pos hnode]
      rw [hb]
      repeat (first|refine Wa ?_|refine Wb ?_|refine Wc ?_|refine Wd ?_|refine We rfl ?_|refine Wf (by first|exact Va|exact Vb|exact Vc|exact Vd|exact Ve|exact Vf|exact Vg|exact Vh|exact Vi|exact Vj|exact Vk (by omega)|exact Vl|exact Vm|exact Vn|exact Vo|exact Vp|exact Vq|exact Vr|exact Vs (by omega)|exact Vt (by omega)|exact Vu (by omega)|exact Vv (by omega)|exact Vw|exact Vx|exact Vy|exact Vz|exact VA|exact VB|exact VC|exact VD|exact VE|exact VF) rfl ?_|(refine Wg rfl ?_; intro _)|(refine Wh rfl ?_; intro _)|refine Wi ?_|refine Wj ?_|refine Wk ?_|refine Wl ?_|refine Wm ?_|refine Wn ?_|refine Wo ?_|refine Wp ?_|refine Wq rfl ?_|refine Wr ?_|refine Ws ?_|refine Wt ?_|refine Wu ?_|refine Wv rfl rfl ?_|(refine Ww rfl ⟨rfl, by decide, by decide, by decide⟩ ?_; intro _))
      exact CT.done (p, q) rfl (fun w ho => Hold.left (Γ := [.st (sl p q (headL c ++ idsL c.parents))]) (Hold.pub (ho.ent : Hold _ _ [.res (buf p q 5 (headL c ++ idsL c.parents))] w)))
    · have hb : commitPut c = headL c ++ idsL c.parents ++ opPut c.op := by rw [commitPut, if_neg hnode]
      have hop := hm.op hnode
      have hput : putOp c.op = (opPut c.op, 0) := by simp [putOp, hop]
      have hopl := (put_facts c.op hop).2.2
      obtain ⟨_, _, _, _, _, _, _, _, hopl⟩ := hopl
      rw [hb]
      repeat (first|refine Wa ?_|refine Wb ?_|refine Wc ?_|refine Wd ?_|refine We rfl ?_|refine Wf (by first|exact Va|exact Vb|exact Vc|exact Vd|exact Ve|exact Vf|exact Vg|exact Vh|exact Vi|exact Vj|exact Vk (by omega)|exact Vl|exact Vm|exact Vn|exact Vo|exact Vp|exact Vq|exact Vr|exact Vs (by omega)|exact Vt (by omega)|exact Vu (by omega)|exact Vv (by omega)|exact Vw|exact Vx|exact Vy|exact Vz|exact VA|exact VB|exact VC|exact VD|exact VE|exact VF) rfl ?_|(refine Wg rfl ?_; intro _)|(refine Wh rfl ?_; intro _)|refine Wi ?_|refine Wj ?_|refine Wk ?_|refine Wl ?_|refine Wm ?_|refine Wn ?_|refine Wo ?_|refine Wp ?_|refine Wq rfl ?_|refine Wr ?_|refine Ws ?_|refine Wt ?_|refine Wu ?_|refine Wv rfl rfl ?_|(refine Ww rfl ⟨rfl, by decide, by decide, by decide⟩ ?_; intro _))
      refine JR.callSlT (L := opPut c.op) (us' := [.int .i64 0]) rfl (fun w1 hw => put_ops_ok w1 _ c.op ht.1 ht.2 hop) ?_
      intro p4 q4
      repeat (first|refine Wa ?_|refine Wb ?_|refine Wc ?_|refine Wd ?_|refine We rfl ?_|refine Wf (by first|exact Va|exact Vb|exact Vc|exact Vd|exact Ve|exact Vf|exact Vg|exact Vh|exact Vi|exact Vj|exact Vk (by omega)|exact Vl|exact Vm|exact Vn|exact Vo|exact Vp|exact Vq|exact Vr|exact Vs (by omega)|exact Vt (by omega)|exact Vu (by omega)|exact Vv (by omega)|exact Vw|exact Vx|exact Vy|exact Vz|exact VA|exact VB|exact VC|exact VD|exact VE|exact VF) rfl ?_|(refine Wg rfl ?_; intro _)|(refine Wh rfl ?_; intro _)|refine Wi ?_|refine Wj ?_|refine Wk ?_|refine Wl ?_|refine Wm ?_|refine Wn ?_|refine Wo ?_|refine Wp ?_|refine Wq rfl ?_|refine Wr ?_|refine Ws ?_|refine Wt ?_|refine Wu ?_|refine Wv rfl rfl ?_|(refine Ww rfl ⟨rfl, by decide, by decide, by decide⟩ ?_; intro _))
      refine JR.appendSl rfl (by exact ⟨rfl, rfl, by decide⟩) (by rw [List.length_append]; omega) ?_
      intro p5 q5
      repeat (first|refine Wa ?_|refine Wb ?_|refine Wc ?_|refine Wd ?_|refine We rfl ?_|refine Wf (by first|exact Va|exact Vb|exact Vc|exact Vd|exact Ve|exact Vf|exact Vg|exact Vh|exact Vi|exact Vj|exact Vk (by omega)|exact Vl|exact Vm|exact Vn|exact Vo|exact Vp|exact Vq|exact Vr|exact Vs (by omega)|exact Vt (by omega)|exact Vu (by omega)|exact Vv (by omega)|exact Vw|exact Vx|exact Vy|exact Vz|exact VA|exact VB|exact VC|exact VD|exact VE|exact VF) rfl ?_|(refine Wg rfl ?_; intro _)|(refine Wh rfl ?_; intro _)|refine Wi ?_|refine Wj ?_|refine Wk ?_|refine Wl ?_|refine Wm ?_|refine Wn ?_|refine Wo ?_|refine Wp ?_|refine Wq rfl ?_|refine Wr ?_|refine Ws ?_|refine Wt ?_|refine Wu ?_|refine Wv rfl rfl ?_|(refine Ww rfl ⟨rfl, by decide, by decide, by decide⟩ ?_; intro _))
      exact CT.done (p5, q5) rfl (fun w ho => Hold.left (Γ := [.st (sl p5 q5 (headL c ++ idsL c.parents ++ opPut c.op))]) (Hold.pub (ho.ent : Hold _ _ [.res (buf p5 q5 5 (headL c ++ idsL c.parents ++ opPut c.op))] w)))

theorem commitPut_length {c : Commit} (h : may c = true) : (commitPut c).length ≤ 400 := by
  have hm := may_spec h
  have h1 := headL_length c
  have h2 := idsL_length c.parents
  have h3 := hm.par
  unfold commitPut
  split
  · rw [List.length_append]; omega
  · rename_i hn
    obtain ⟨_, _, _, _, _, _, _, _, h4⟩ := (put_facts c.op (hm.op hn)).2.2
    rw [List.length_append, List.length_append]; omega
def zeroID : ID := ⟨List.replicate 32 0, rfl⟩
/-- A commit's id, and the error. -/
def hashC (c : Commit) : ID × Int := if may c then (sumI (commitPut c), 0) else (zeroID, 1)

set_option maxHeartbeats 1000000 in
theorem hash_commit (w : World) (F : Nat → Prop) (c : Commit) (a : Option Addr) (k : Nat) (h : (sl a k c.parents).holds F w) (ht : texts c) :
    GivesV Tryz.prog 39 [commitV c a k] w F (.tuple ⟨[.agg ⟨idc (hashC c).1⟩, .int .i64 (hashC c).2]⟩) := by
  refine gives_of Tryz.func39 rfl Tryz.ntmps39 rfl rfl [.st (sl a k c.parents)] (.start1 h) ?_
  repeat (first|refine Wa ?_|refine Wb ?_|refine Wc ?_|refine Wd ?_|refine We rfl ?_|refine Wf (by first|exact Va|exact Vb|exact Vc|exact Vd|exact Ve|exact Vf|exact Vg|exact Vh|exact Vi|exact Vj|exact Vk (by omega)|exact Vl|exact Vm|exact Vn|exact Vo|exact Vp|exact Vq|exact Vr|exact Vs (by omega)|exact Vt (by omega)|exact Vu (by omega)|exact Vv (by omega)|exact Vw|exact Vx|exact Vy|exact Vz|exact VA|exact VB|exact VC|exact VD|exact VE|exact VF) rfl ?_|(refine Wg rfl ?_; intro _)|(refine Wh rfl ?_; intro _)|refine Wi ?_|refine Wj ?_|refine Wk ?_|refine Wl ?_|refine Wm ?_|refine Wn ?_|refine Wo ?_|refine Wp ?_|refine Wq rfl ?_|refine Wr ?_|refine Ws ?_|refine Wt ?_|refine Wu ?_|refine Wv rfl rfl ?_|(refine Ww rfl ⟨rfl, by decide, by decide, by decide⟩ ?_; intro _))
  rename_i bc bi
  refine JR.callSlT (L := (putCommit c).1) (us' := [.int .i64 (putCommit c).2]) rfl (fun w1 hw => put_commit w1 _ c a k hw.get ht) ?_
  intro p q
  repeat (first|refine Wa ?_|refine Wb ?_|refine Wc ?_|refine Wd ?_|refine We rfl ?_|refine Wf (by first|exact Va|exact Vb|exact Vc|exact Vd|exact Ve|exact Vf|exact Vg|exact Vh|exact Vi|exact Vj|exact Vk (by omega)|exact Vl|exact Vm|exact Vn|exact Vo|exact Vp|exact Vq|exact Vr|exact Vs (by omega)|exact Vt (by omega)|exact Vu (by omega)|exact Vv (by omega)|exact Vw|exact Vx|exact Vy|exact Vz|exact VA|exact VB|exact VC|exact VD|exact VE|exact VF) rfl ?_|(refine Wg rfl ?_; intro _)|(refine Wh rfl ?_; intro _)|refine Wi ?_|refine Wj ?_|refine Wk ?_|refine Wl ?_|refine Wm ?_|refine Wn ?_|refine Wo ?_|refine Wp ?_|refine Wq rfl ?_|refine Wr ?_|refine Ws ?_|refine Wt ?_|refine Wu ?_|refine Wv rfl rfl ?_|(refine Ww rfl ⟨rfl, by decide, by decide, by decide⟩ ?_; intro _))
  refine JC.test (fun h1 => ?_) (fun h1 => ?_)
  · have hm : may c = false := by
      rw [← Bool.not_eq_true]
      intro hm
      simp [putCommit, hm] at h1
    have h2 : hashC c = (zeroID, 1) := by simp [hashC, hm]
    have h3 : (putCommit c).2 = 1 := by simp [putCommit, hm]
    rw [h2, h3]
    repeat (first|refine Wa ?_|refine Wb ?_|refine Wc ?_|refine Wd ?_|refine We rfl ?_|refine Wf (by first|exact Va|exact Vb|exact Vc|exact Vd|exact Ve|exact Vf|exact Vg|exact Vh|exact Vi|exact Vj|exact Vk (by omega)|exact Vl|exact Vm|exact Vn|exact Vo|exact Vp|exact Vq|exact Vr|exact Vs (by omega)|exact Vt (by omega)|exact Vu (by omega)|exact Vv (by omega)|exact Vw|exact Vx|exact Vy|exact Vz|exact VA|exact VB|exact VC|exact VD|exact VE|exact VF) rfl ?_|(refine Wg rfl ?_; intro _)|(refine Wh rfl ?_; intro _)|refine Wi ?_|refine Wj ?_|refine Wk ?_|refine Wl ?_|refine Wm ?_|refine Wn ?_|refine Wo ?_|refine Wp ?_|refine Wq rfl ?_|refine Wr ?_|refine Ws ?_|refine Wt ?_|refine Wu ?_|refine Wv rfl rfl ?_|(refine Ww rfl ⟨rfl, by decide, by decide, by decide⟩ ?_; intro _))
    refine Wf (OpV.build [.int .u8 0, .int .u8 0, .int .u8 0, .int .u8 0, .int .u8 0, .int .u8 0, .int .u8 0, .int .u8 0, .int .u8 0, .int .u8 0, .int .u8 0, .int .u8 0, .int .u8 0, .int .u8 0, .int .u8 0, .int .u8 0, .int .u8 0, .int .u8 0, .int .u8 0, .int .u8 0, .int .u8 0, .int .u8 0, .int .u8 0, .int .u8 0, .int .u8 0, .int .u8 0, .int .u8 0, .int .u8 0, .int .u8 0, .int .u8 0, .int .u8 0, .int .u8 0] (by kernel_rfl)) rfl ?_
    refine JO.reslot 13 (.agg ⟨idc zeroID⟩) rfl ?_
    repeat (first|refine Wa ?_|refine Wb ?_|refine Wc ?_|refine Wd ?_|refine We rfl ?_|refine Wf (by first|exact Va|exact Vb|exact Vc|exact Vd|exact Ve|exact Vf|exact Vg|exact Vh|exact Vi|exact Vj|exact Vk (by omega)|exact Vl|exact Vm|exact Vn|exact Vo|exact Vp|exact Vq|exact Vr|exact Vs (by omega)|exact Vt (by omega)|exact Vu (by omega)|exact Vv (by omega)|exact Vw|exact Vx|exact Vy|exact Vz|exact VA|exact VB|exact VC|exact VD|exact VE|exact VF) rfl ?_|(refine Wg rfl ?_; intro _)|(refine Wh rfl ?_; intro _)|refine Wi ?_|refine Wj ?_|refine Wk ?_|refine Wl ?_|refine Wm ?_|refine Wn ?_|refine Wo ?_|refine Wp ?_|refine Wq rfl ?_|refine Wr ?_|refine Ws ?_|refine Wt ?_|refine Wu ?_|refine Wv rfl rfl ?_|(refine Ww rfl ⟨rfl, by decide, by decide, by decide⟩ ?_; intro _))
    exact CT.done () rfl (fun w ho => ho.ent)
  · have hm : may c = true := by
      rw [← Bool.not_eq_false]
      intro hm
      simp [putCommit, hm] at h1
    have h2 : hashC c = (sumI (commitPut c), 0) := by simp [hashC, hm]
    have h3 : putCommit c = (commitPut c, 0) := by simp [putCommit, hm]
    have hl := commitPut_length hm
    rw [h2, h3]
    repeat (first|refine Wa ?_|refine Wb ?_|refine Wc ?_|refine Wd ?_|refine We rfl ?_|refine Wf (by first|exact Va|exact Vb|exact Vc|exact Vd|exact Ve|exact Vf|exact Vg|exact Vh|exact Vi|exact Vj|exact Vk (by omega)|exact Vl|exact Vm|exact Vn|exact Vo|exact Vp|exact Vq|exact Vr|exact Vs (by omega)|exact Vt (by omega)|exact Vu (by omega)|exact Vv (by omega)|exact Vw|exact Vx|exact Vy|exact Vz|exact VA|exact VB|exact VC|exact VD|exact VE|exact VF) rfl ?_|(refine Wg rfl ?_; intro _)|(refine Wh rfl ?_; intro _)|refine Wi ?_|refine Wj ?_|refine Wk ?_|refine Wl ?_|refine Wm ?_|refine Wn ?_|refine Wo ?_|refine Wp ?_|refine Wq rfl ?_|refine Wr ?_|refine Ws ?_|refine Wt ?_|refine Wu ?_|refine Wv rfl rfl ?_|(refine Ww rfl ⟨rfl, by decide, by decide, by decide⟩ ?_; intro _))
    refine JR.callV rfl (fun w1 hw => sum_sha w1 _ p q (commitPut c) hw.get (by omega)) ?_
    repeat (first|refine Wa ?_|refine Wb ?_|refine Wc ?_|refine Wd ?_|refine We rfl ?_|refine Wf (by first|exact Va|exact Vb|exact Vc|exact Vd|exact Ve|exact Vf|exact Vg|exact Vh|exact Vi|exact Vj|exact Vk (by omega)|exact Vl|exact Vm|exact Vn|exact Vo|exact Vp|exact Vq|exact Vr|exact Vs (by omega)|exact Vt (by omega)|exact Vu (by omega)|exact Vv (by omega)|exact Vw|exact Vx|exact Vy|exact Vz|exact VA|exact VB|exact VC|exact VD|exact VE|exact VF) rfl ?_|(refine Wg rfl ?_; intro _)|(refine Wh rfl ?_; intro _)|refine Wi ?_|refine Wj ?_|refine Wk ?_|refine Wl ?_|refine Wm ?_|refine Wn ?_|refine Wo ?_|refine Wp ?_|refine Wq rfl ?_|refine Wr ?_|refine Ws ?_|refine Wt ?_|refine Wu ?_|refine Wv rfl rfl ?_|(refine Ww rfl ⟨rfl, by decide, by decide, by decide⟩ ?_; intro _))
    exact CT.done () rfl (fun w ho => ho.ent)
end Ab
end Go.Proofs.YtcmfemfndadfmaaGreat

/- Contracts: wait.Missing. -/
namespace Go.Proofs.YtcmfemfndadfmaaGreat
namespace Ab
open Go Go.RowKit
set_option linter.unusedVariables false
set_option linter.unusedSimpArgs false
set_option synthInstance.maxSize 4000
set_option synthInstance.maxHeartbeats 400000
attribute [local irreducible] JC JO JR JQ andThen inBlock OpV Gives retTo JM JS

attribute [local irreducible] sumI hashC
def hashO (c : Commit) : Option ID := if (hashC c).2 = 0 then some (hashC c).1 else none
/-- The ids of those of some commits that have one. -/
def hashes (L : List Commit) : List ID := L.filterMap hashO
def parentsL (L : List Commit) : List ID := L.flatMap (·.parents)
def missL (L : List Commit) (H : List ID) : List ID := someIds (parentsL L) (H ++ hashes L) false
theorem hashes_next (L : List Commit) (k : Nat) (hk : k < L.length) : hashes (L.take (k + 1)) = hashes (L.take k) ++ (hashO L[k]).toList := by
  rw [hashes, hashes, List.take_succ_eq_append_getElem hk, List.filterMap_append]
  congr 1
theorem parentsL_next (L : List Commit) (k : Nat) (hk : k < L.length) : parentsL (L.take (k + 1)) = parentsL (L.take k) ++ L[k].parents := by
  rw [parentsL, parentsL, List.take_succ_eq_append_getElem hk, List.flatMap_append]
  simp
theorem hashes_le (L : List Commit) : (hashes L).length ≤ L.length := List.length_filterMap_le _ _
theorem parentsL_le (L : List Commit) (k : Nat) : (parentsL (L.take k)).length ≤ (parentsL L).length := by
  have h1 := congrArg (fun l => (parentsL l).length) (List.take_append_drop k L)
  simp only [parentsL, List.flatMap_append, List.length_append] at h1 ⊢
  omega

set_option maxHeartbeats 2000000 in
theorem missing_wait (w : World) (F : Nat → Prop) (a b : Option Addr) (k m : Nat) (L : List Commit) (H : List ID) (h : (sl a k L).holds F w) (h' : (sl b m H).holds F w) (hl : L.length + H.length ≤ 34359738360) (hp : (parentsL L).length ≤ 34359738360) (hf : ∀ x ∈ L, fine x) :
    GivesBuf Tryz.prog 20 [.slice a L.length k, .slice b H.length m] w F 48 (missL L H) := by
  refine gives_of Tryz.func20 rfl Tryz.ntmps20 rfl rfl [.st (sl a k L), .st (sl b m H)] (.start2 h h') ?_
  repeat (first|refine Wa ?_|refine Wb ?_|refine Wc ?_|refine Wd ?_|refine We rfl ?_|refine Wf (by first|exact Va|exact Vb|exact Vc|exact Vd|exact Ve|exact Vf|exact Vg|exact Vh|exact Vi|exact Vj|exact Vk (by omega)|exact Vl|exact Vm|exact Vn|exact Vo|exact Vp|exact Vq|exact Vr|exact Vs (by omega)|exact Vt (by omega)|exact Vu (by omega)|exact Vv (by omega)|exact Vw|exact Vx|exact Vy|exact Vz|exact VA|exact VB|exact VC|exact VD|exact VE|exact VF) rfl ?_|(refine Wg rfl ?_; intro _)|(refine Wh rfl ?_; intro _)|refine Wi ?_|refine Wj ?_|refine Wk ?_|refine Wl ?_|refine Wm ?_|refine Wn ?_|refine Wo ?_|refine Wp ?_|refine Wq rfl ?_|refine Wr ?_|refine Ws ?_|refine Wt ?_|refine Wu ?_|refine Wv rfl rfl ?_|(refine Ww rfl ⟨rfl, by decide, by decide, by decide⟩ ?_; intro _))
  refine JR.callBuf rfl (fun w1 hw => clone_ids_buf w1 _ b m H hw.get (by omega)) ?_
  intro a2 c2
  repeat (first|refine Wa ?_|refine Wb ?_|refine Wc ?_|refine Wd ?_|refine We rfl ?_|refine Wf (by first|exact Va|exact Vb|exact Vc|exact Vd|exact Ve|exact Vf|exact Vg|exact Vh|exact Vi|exact Vj|exact Vk (by omega)|exact Vl|exact Vm|exact Vn|exact Vo|exact Vp|exact Vq|exact Vr|exact Vs (by omega)|exact Vt (by omega)|exact Vu (by omega)|exact Vv (by omega)|exact Vw|exact Vx|exact Vy|exact Vz|exact VA|exact VB|exact VC|exact VD|exact VE|exact VF) rfl ?_|(refine Wg rfl ?_; intro _)|(refine Wh rfl ?_; intro _)|refine Wi ?_|refine Wj ?_|refine Wk ?_|refine Wl ?_|refine Wm ?_|refine Wn ?_|refine Wo ?_|refine Wp ?_|refine Wq rfl ?_|refine Wr ?_|refine Ws ?_|refine Wt ?_|refine Wu ?_|refine Wv rfl rfl ?_|(refine Ww rfl ⟨rfl, by decide, by decide, by decide⟩ ?_; intro _))
  refine JC.buf_nil (α := ID) 48 ?_
  refine JC.loop5 (fun (i : Nat) p q r s => [(5, .slice p (parentsL (L.take i)).length q), (6, .slice r (H ++ hashes (L.take i)).length s), (13, .slice a L.length k), (14, .int .i64 (L.length : Int)), (15, .int .i64 (i : Int))])
    (fun i p q r s => [.st (sl a k L), .res (buf p q 48 (parentsL (L.take i))), .res (buf r s 48 (H ++ hashes (L.take i)))])
    (fun i _ _ _ _ => i ≤ L.length) (fun i _ _ _ _ => L.length - i) 0 none 0 a2 c2 (Nat.zero_le _) (by rw [List.take_zero, show parentsL [] = [] from rfl, show hashes [] = [] from rfl, List.append_nil]; infer_instance) ?_
  intro i p q r s hi
  repeat (first|refine Wa ?_|refine Wb ?_|refine Wc ?_|refine Wd ?_|refine We rfl ?_|refine Wf (by first|exact Va|exact Vb|exact Vc|exact Vd|exact Ve|exact Vf|exact Vg|exact Vh|exact Vi|exact Vj|exact Vk (by omega)|exact Vl|exact Vm|exact Vn|exact Vo|exact Vp|exact Vq|exact Vr|exact Vs (by omega)|exact Vt (by omega)|exact Vu (by omega)|exact Vv (by omega)|exact Vw|exact Vx|exact Vy|exact Vz|exact VA|exact VB|exact VC|exact VD|exact VE|exact VF) rfl ?_|(refine Wg rfl ?_; intro _)|(refine Wh rfl ?_; intro _)|refine Wi ?_|refine Wj ?_|refine Wk ?_|refine Wl ?_|refine Wm ?_|refine Wn ?_|refine Wo ?_|refine Wp ?_|refine Wq rfl ?_|refine Wr ?_|refine Ws ?_|refine Wt ?_|refine Wu ?_|refine Wv rfl rfl ?_|(refine Ww rfl ⟨rfl, by decide, by decide, by decide⟩ ?_; intro _))
  refine JC.test (fun hlt => ?_) (fun hge => ?_)
  · have hlt' : i < L.length := by omega
    have hfx := hf _ (List.getElem_mem hlt')
    have h1 := hashes_le (L.take i)
    rw [List.length_take] at h1
    have h2 := parentsL_le L (i + 1)
    rw [parentsL_next L i hlt', List.length_append] at h2
    repeat (first|refine Wa ?_|refine Wb ?_|refine Wc ?_|refine Wd ?_|refine We rfl ?_|refine Wf (by first|exact Va|exact Vb|exact Vc|exact Vd|exact Ve|exact Vf|exact Vg|exact Vh|exact Vi|exact Vj|exact Vk (by omega)|exact Vl|exact Vm|exact Vn|exact Vo|exact Vp|exact Vq|exact Vr|exact Vs (by omega)|exact Vt (by omega)|exact Vu (by omega)|exact Vv (by omega)|exact Vw|exact Vx|exact Vy|exact Vz|exact VA|exact VB|exact VC|exact VD|exact VE|exact VF) rfl ?_|(refine Wg rfl ?_; intro _)|(refine Wh rfl ?_; intro _)|refine Wi ?_|refine Wj ?_|refine Wk ?_|refine Wl ?_|refine Wm ?_|refine Wn ?_|refine Wo ?_|refine Wp ?_|refine Wq rfl ?_|refine Wr ?_|refine Ws ?_|refine Wt ?_|refine Wu ?_|refine Wv rfl rfl ?_|(refine Ww rfl ⟨rfl, by decide, by decide, by decide⟩ ?_; intro _))
    refine JR.indexCommit rfl hlt' ?_
    intro b2 o2 p2 q2
    repeat (first|refine Wa ?_|refine Wb ?_|refine Wc ?_|refine Wd ?_|refine We rfl ?_|refine Wf (by first|exact Va|exact Vb|exact Vc|exact Vd|exact Ve|exact Vf|exact Vg|exact Vh|exact Vi|exact Vj|exact Vk (by omega)|exact Vl|exact Vm|exact Vn|exact Vo|exact Vp|exact Vq|exact Vr|exact Vs (by omega)|exact Vt (by omega)|exact Vu (by omega)|exact Vv (by omega)|exact Vw|exact Vx|exact Vy|exact Vz|exact VA|exact VB|exact VC|exact VD|exact VE|exact VF) rfl ?_|(refine Wg rfl ?_; intro _)|(refine Wh rfl ?_; intro _)|refine Wi ?_|refine Wj ?_|refine Wk ?_|refine Wl ?_|refine Wm ?_|refine Wn ?_|refine Wo ?_|refine Wp ?_|refine Wq rfl ?_|refine Wr ?_|refine Ws ?_|refine Wt ?_|refine Wu ?_|refine Wv rfl rfl ?_|(refine Ww rfl ⟨rfl, by decide, by decide, by decide⟩ ?_; intro _))
    rename_i bc
    refine JR.callV rfl (fun w1 hw => hash_commit w1 _ (L[i]) p2 q2 hw.get hfx.1) ?_
    repeat (first|refine Wa ?_|refine Wb ?_|refine Wc ?_|refine Wd ?_|refine We rfl ?_|refine Wf (by first|exact Va|exact Vb|exact Vc|exact Vd|exact Ve|exact Vf|exact Vg|exact Vh|exact Vi|exact Vj|exact Vk (by omega)|exact Vl|exact Vm|exact Vn|exact Vo|exact Vp|exact Vq|exact Vr|exact Vs (by omega)|exact Vt (by omega)|exact Vu (by omega)|exact Vv (by omega)|exact Vw|exact Vx|exact Vy|exact Vz|exact VA|exact VB|exact VC|exact VD|exact VE|exact VF) rfl ?_|(refine Wg rfl ?_; intro _)|(refine Wh rfl ?_; intro _)|refine Wi ?_|refine Wj ?_|refine Wk ?_|refine Wl ?_|refine Wm ?_|refine Wn ?_|refine Wo ?_|refine Wp ?_|refine Wq rfl ?_|refine Wr ?_|refine Ws ?_|refine Wt ?_|refine Wu ?_|refine Wv rfl rfl ?_|(refine Ww rfl ⟨rfl, by decide, by decide, by decide⟩ ?_; intro _))
    refine JC.test (fun h0 => ?_) (fun h0 => ?_)
    · have ho : hashO L[i] = some (hashC L[i]).1 := by simp [hashO, h0]
      have hnx : H ++ hashes (L.take (i + 1)) = H ++ hashes (L.take i) ++ [(hashC L[i]).1] := by rw [hashes_next _ _ hlt', ho, List.append_assoc]; rfl
      repeat (first|refine Wa ?_|refine Wb ?_|refine Wc ?_|refine Wd ?_|refine We rfl ?_|refine Wf (by first|exact Va|exact Vb|exact Vc|exact Vd|exact Ve|exact Vf|exact Vg|exact Vh|exact Vi|exact Vj|exact Vk (by omega)|exact Vl|exact Vm|exact Vn|exact Vo|exact Vp|exact Vq|exact Vr|exact Vs (by omega)|exact Vt (by omega)|exact Vu (by omega)|exact Vv (by omega)|exact Vw|exact Vx|exact Vy|exact Vz|exact VA|exact VB|exact VC|exact VD|exact VE|exact VF) rfl ?_|(refine Wg rfl ?_; intro _)|(refine Wh rfl ?_; intro _)|refine Wi ?_|refine Wj ?_|refine Wk ?_|refine Wl ?_|refine Wm ?_|refine Wn ?_|refine Wo ?_|refine Wp ?_|refine Wq rfl ?_|refine Wr ?_|refine Ws ?_|refine Wt ?_|refine Wu ?_|refine Wv rfl rfl ?_|(refine Ww rfl ⟨rfl, by decide, by decide, by decide⟩ ?_; intro _))
      refine JR.append1 rfl (by exact ⟨rfl, rfl, by decide⟩) (by rw [List.length_append]; omega) ?_
      intro r3 s3
      repeat (first|refine Wa ?_|refine Wb ?_|refine Wc ?_|refine Wd ?_|refine We rfl ?_|refine Wf (by first|exact Va|exact Vb|exact Vc|exact Vd|exact Ve|exact Vf|exact Vg|exact Vh|exact Vi|exact Vj|exact Vk (by omega)|exact Vl|exact Vm|exact Vn|exact Vo|exact Vp|exact Vq|exact Vr|exact Vs (by omega)|exact Vt (by omega)|exact Vu (by omega)|exact Vv (by omega)|exact Vw|exact Vx|exact Vy|exact Vz|exact VA|exact VB|exact VC|exact VD|exact VE|exact VF) rfl ?_|(refine Wg rfl ?_; intro _)|(refine Wh rfl ?_; intro _)|refine Wi ?_|refine Wj ?_|refine Wk ?_|refine Wl ?_|refine Wm ?_|refine Wn ?_|refine Wo ?_|refine Wp ?_|refine Wq rfl ?_|refine Wr ?_|refine Ws ?_|refine Wt ?_|refine Wu ?_|refine Wv rfl rfl ?_|(refine Ww rfl ⟨rfl, by decide, by decide, by decide⟩ ?_; intro _))
      refine JR.appendSl rfl (by exact ⟨rfl, rfl, by decide⟩) (by omega) ?_
      intro p3 q3
      repeat (first|refine Wa ?_|refine Wb ?_|refine Wc ?_|refine Wd ?_|refine We rfl ?_|refine Wf (by first|exact Va|exact Vb|exact Vc|exact Vd|exact Ve|exact Vf|exact Vg|exact Vh|exact Vi|exact Vj|exact Vk (by omega)|exact Vl|exact Vm|exact Vn|exact Vo|exact Vp|exact Vq|exact Vr|exact Vs (by omega)|exact Vt (by omega)|exact Vu (by omega)|exact Vv (by omega)|exact Vw|exact Vx|exact Vy|exact Vz|exact VA|exact VB|exact VC|exact VD|exact VE|exact VF) rfl ?_|(refine Wg rfl ?_; intro _)|(refine Wh rfl ?_; intro _)|refine Wi ?_|refine Wj ?_|refine Wk ?_|refine Wl ?_|refine Wm ?_|refine Wn ?_|refine Wo ?_|refine Wp ?_|refine Wq rfl ?_|refine Wr ?_|refine Ws ?_|refine Wt ?_|refine Wu ?_|refine Wv rfl rfl ?_|(refine Ww rfl ⟨rfl, by decide, by decide, by decide⟩ ?_; intro _))
      exact ⟨i + 1, p3, q3, r3, s3, by omega, by omega, by rw [hnx, parentsL_next _ _ hlt']; infer_instance⟩
    · have ho : hashO L[i] = none := by simp [hashO, h0]
      have hnx : H ++ hashes (L.take (i + 1)) = H ++ hashes (L.take i) := by rw [hashes_next _ _ hlt', ho]; simp
      obtain ⟨r3, hr3⟩ : ∃ r3, r3 = r := ⟨_, rfl⟩
      obtain ⟨s3, hs3⟩ : ∃ s3, s3 = s := ⟨_, rfl⟩
      subst hr3 hs3
      repeat (first|refine Wa ?_|refine Wb ?_|refine Wc ?_|refine Wd ?_|refine We rfl ?_|refine Wf (by first|exact Va|exact Vb|exact Vc|exact Vd|exact Ve|exact Vf|exact Vg|exact Vh|exact Vi|exact Vj|exact Vk (by omega)|exact Vl|exact Vm|exact Vn|exact Vo|exact Vp|exact Vq|exact Vr|exact Vs (by omega)|exact Vt (by omega)|exact Vu (by omega)|exact Vv (by omega)|exact Vw|exact Vx|exact Vy|exact Vz|exact VA|exact VB|exact VC|exact VD|exact VE|exact VF) rfl ?_|(refine Wg rfl ?_; intro _)|(refine Wh rfl ?_; intro _)|refine Wi ?_|refine Wj ?_|refine Wk ?_|refine Wl ?_|refine Wm ?_|refine Wn ?_|refine Wo ?_|refine Wp ?_|refine Wq rfl ?_|refine Wr ?_|refine Ws ?_|refine Wt ?_|refine Wu ?_|refine Wv rfl rfl ?_|(refine Ww rfl ⟨rfl, by decide, by decide, by decide⟩ ?_; intro _))
      refine JR.appendSl rfl (by exact ⟨rfl, rfl, by decide⟩) (by omega) ?_
      intro p3 q3
      repeat (first|refine Wa ?_|refine Wb ?_|refine Wc ?_|refine Wd ?_|refine We rfl ?_|refine Wf (by first|exact Va|exact Vb|exact Vc|exact Vd|exact Ve|exact Vf|exact Vg|exact Vh|exact Vi|exact Vj|exact Vk (by omega)|exact Vl|exact Vm|exact Vn|exact Vo|exact Vp|exact Vq|exact Vr|exact Vs (by omega)|exact Vt (by omega)|exact Vu (by omega)|exact Vv (by omega)|exact Vw|exact Vx|exact Vy|exact Vz|exact VA|exact VB|exact VC|exact VD|exact VE|exact VF) rfl ?_|(refine Wg rfl ?_; intro _)|(refine Wh rfl ?_; intro _)|refine Wi ?_|refine Wj ?_|refine Wk ?_|refine Wl ?_|refine Wm ?_|refine Wn ?_|refine Wo ?_|refine Wp ?_|refine Wq rfl ?_|refine Wr ?_|refine Ws ?_|refine Wt ?_|refine Wu ?_|refine Wv rfl rfl ?_|(refine Ww rfl ⟨rfl, by decide, by decide, by decide⟩ ?_; intro _))
      exact ⟨i + 1, p3, q3, r3, s3, by omega, by omega, by rw [hnx, parentsL_next _ _ hlt']; infer_instance⟩
  · obtain rfl : i = L.length := by omega
    rw [List.take_length]
    repeat (first | refine Wa ?_ | refine Wo ?_ | refine Wp ?_ | refine Wq rfl ?_ | refine Wr ?_ | refine Wm ?_)
    refine JC.more (Γ' := [.st (sl r s (H ++ hashes L)), .st (sl p q (parentsL L))]) (fun w1 ho => ?_) ?_
    · have h1 : Hold _ _ [.res (buf p q 48 (parentsL L)), .res (buf r s 48 (H ++ hashes L))] w1 := ho.ent
      have h2 : Hold _ _ [.res (buf r s 48 (H ++ hashes L)), .st (sl p q (parentsL L))] w1 := (h1.pub).ent
      exact h2.pub
    repeat (first|refine Wa ?_|refine Wb ?_|refine Wc ?_|refine Wd ?_|refine We rfl ?_|refine Wf (by first|exact Va|exact Vb|exact Vc|exact Vd|exact Ve|exact Vf|exact Vg|exact Vh|exact Vi|exact Vj|exact Vk (by omega)|exact Vl|exact Vm|exact Vn|exact Vo|exact Vp|exact Vq|exact Vr|exact Vs (by omega)|exact Vt (by omega)|exact Vu (by omega)|exact Vv (by omega)|exact Vw|exact Vx|exact Vy|exact Vz|exact VA|exact VB|exact VC|exact VD|exact VE|exact VF) rfl ?_|(refine Wg rfl ?_; intro _)|(refine Wh rfl ?_; intro _)|refine Wi ?_|refine Wj ?_|refine Wk ?_|refine Wl ?_|refine Wm ?_|refine Wn ?_|refine Wo ?_|refine Wp ?_|refine Wq rfl ?_|refine Wr ?_|refine Ws ?_|refine Wt ?_|refine Wu ?_|refine Wv rfl rfl ?_|(refine Ww rfl ⟨rfl, by decide, by decide, by decide⟩ ?_; intro _))
    refine JR.callBuf rfl (fun w1 hw => without_ids w1 _ p r q s (parentsL L) (H ++ hashes L) hw.get hw.get (by omega)) ?_
    intro a5 c5
    repeat (first|refine Wa ?_|refine Wb ?_|refine Wc ?_|refine Wd ?_|refine We rfl ?_|refine Wf (by first|exact Va|exact Vb|exact Vc|exact Vd|exact Ve|exact Vf|exact Vg|exact Vh|exact Vi|exact Vj|exact Vk (by omega)|exact Vl|exact Vm|exact Vn|exact Vo|exact Vp|exact Vq|exact Vr|exact Vs (by omega)|exact Vt (by omega)|exact Vu (by omega)|exact Vv (by omega)|exact Vw|exact Vx|exact Vy|exact Vz|exact VA|exact VB|exact VC|exact VD|exact VE|exact VF) rfl ?_|(refine Wg rfl ?_; intro _)|(refine Wh rfl ?_; intro _)|refine Wi ?_|refine Wj ?_|refine Wk ?_|refine Wl ?_|refine Wm ?_|refine Wn ?_|refine Wo ?_|refine Wp ?_|refine Wq rfl ?_|refine Wr ?_|refine Ws ?_|refine Wt ?_|refine Wu ?_|refine Wv rfl rfl ?_|(refine Ww rfl ⟨rfl, by decide, by decide, by decide⟩ ?_; intro _))
    exact CT.done (a5, c5) rfl (fun w ho => (ho.ent : Hold _ _ [.res (buf a5 c5 48 (someIds (parentsL L) (H ++ hashes L) false))] w))
end Ab
end Go.Proofs.YtcmfemfndadfmaaGreat

/- Contracts: the document's Same and List, the laws' Few. -/
namespace Go.Proofs.YtcmfemfndadfmaaGreat
namespace Ab
open Go Go.RowKit
set_option linter.unusedVariables false
set_option linter.unusedSimpArgs false
set_option synthInstance.maxSize 4000
set_option synthInstance.maxHeartbeats 400000
attribute [local irreducible] JC JO JR JQ andThen inBlock OpV Gives retTo JM JS

theorem sameIds_ref (w : World) (F : Nat → Prop) (a b : Option Addr) (c k : Nat) (L M : List ID) (h : (sl a c L).holds F w) (h' : (sl b k M).holds F w) :
    GivesV Tryz.prog 19 [.slice a L.length c, .slice b M.length k] w F (.bool (decide (L = M))) := by
  have hL : L.length < 9223372036854775807 := by have := h.2.2.1; simp only [lim] at this; omega
  refine gives_of Tryz.func19 rfl Tryz.ntmps19 rfl rfl [.st (sl a c L), .st (sl b k M)] (.start2 h h') ?_
  repeat (first|refine Wa ?_|refine Wb ?_|refine Wc ?_|refine Wd ?_|refine We rfl ?_|refine Wf (by first|exact Va|exact Vb|exact Vc|exact Vd|exact Ve|exact Vf|exact Vg|exact Vh|exact Vi|exact Vj|exact Vk (by omega)|exact Vl|exact Vm|exact Vn|exact Vo|exact Vp|exact Vq|exact Vr|exact Vs (by omega)|exact Vt (by omega)|exact Vu (by omega)|exact Vv (by omega)|exact Vw|exact Vx|exact Vy|exact Vz|exact VA|exact VB|exact VC|exact VD|exact VE|exact VF) rfl ?_|(refine Wg rfl ?_; intro _)|(refine Wh rfl ?_; intro _)|refine Wi ?_|refine Wj ?_|refine Wk ?_|refine Wl ?_|refine Wm ?_|refine Wn ?_|refine Wo ?_|refine Wp ?_|refine Wq rfl ?_|refine Wr ?_|refine Ws ?_|refine Wt ?_|refine Wu ?_|refine Wv rfl rfl ?_|(refine Ww rfl ⟨rfl, by decide, by decide, by decide⟩ ?_; intro _))
  refine JC.test (fun hne => ?_) (fun he => ?_)
  · repeat (first|refine Wa ?_|refine Wb ?_|refine Wc ?_|refine Wd ?_|refine We rfl ?_|refine Wf (by first|exact Va|exact Vb|exact Vc|exact Vd|exact Ve|exact Vf|exact Vg|exact Vh|exact Vi|exact Vj|exact Vk (by omega)|exact Vl|exact Vm|exact Vn|exact Vo|exact Vp|exact Vq|exact Vr|exact Vs (by omega)|exact Vt (by omega)|exact Vu (by omega)|exact Vv (by omega)|exact Vw|exact Vx|exact Vy|exact Vz|exact VA|exact VB|exact VC|exact VD|exact VE|exact VF) rfl ?_|(refine Wg rfl ?_; intro _)|(refine Wh rfl ?_; intro _)|refine Wi ?_|refine Wj ?_|refine Wk ?_|refine Wl ?_|refine Wm ?_|refine Wn ?_|refine Wo ?_|refine Wp ?_|refine Wq rfl ?_|refine Wr ?_|refine Ws ?_|refine Wt ?_|refine Wu ?_|refine Wv rfl rfl ?_|(refine Ww rfl ⟨rfl, by decide, by decide, by decide⟩ ?_; intro _))
    refine CT.done () ?_ (fun w ho => ho.ent)
    have : ¬ L = M := fun h => hne (by rw [h])
    simp [packed, this]
  · have hlen : L.length = M.length := by omega
    repeat (first|refine Wa ?_|refine Wb ?_|refine Wc ?_|refine Wd ?_|refine We rfl ?_|refine Wf (by first|exact Va|exact Vb|exact Vc|exact Vd|exact Ve|exact Vf|exact Vg|exact Vh|exact Vi|exact Vj|exact Vk (by omega)|exact Vl|exact Vm|exact Vn|exact Vo|exact Vp|exact Vq|exact Vr|exact Vs (by omega)|exact Vt (by omega)|exact Vu (by omega)|exact Vv (by omega)|exact Vw|exact Vx|exact Vy|exact Vz|exact VA|exact VB|exact VC|exact VD|exact VE|exact VF) rfl ?_|(refine Wg rfl ?_; intro _)|(refine Wh rfl ?_; intro _)|refine Wi ?_|refine Wj ?_|refine Wk ?_|refine Wl ?_|refine Wm ?_|refine Wn ?_|refine Wo ?_|refine Wp ?_|refine Wq rfl ?_|refine Wr ?_|refine Ws ?_|refine Wt ?_|refine Wu ?_|refine Wv rfl rfl ?_|(refine Ww rfl ⟨rfl, by decide, by decide, by decide⟩ ?_; intro _))
    refine JC.loop1 (fun k0 : Nat => [(0, .slice a L.length c), (1, .slice b M.length k), (5, .int .i64 (k0 : Int))]) (fun _ => [.st (sl a c L), .st (sl b k M)])
      (fun k0 => k0 ≤ L.length ∧ L.take k0 = M.take k0) (fun k0 => L.length - k0) 0 ⟨Nat.zero_le _, rfl⟩ inferInstance ?_
    intro k0 ⟨hk, heq⟩
    repeat (first|refine Wa ?_|refine Wb ?_|refine Wc ?_|refine Wd ?_|refine We rfl ?_|refine Wf (by first|exact Va|exact Vb|exact Vc|exact Vd|exact Ve|exact Vf|exact Vg|exact Vh|exact Vi|exact Vj|exact Vk (by omega)|exact Vl|exact Vm|exact Vn|exact Vo|exact Vp|exact Vq|exact Vr|exact Vs (by omega)|exact Vt (by omega)|exact Vu (by omega)|exact Vv (by omega)|exact Vw|exact Vx|exact Vy|exact Vz|exact VA|exact VB|exact VC|exact VD|exact VE|exact VF) rfl ?_|(refine Wg rfl ?_; intro _)|(refine Wh rfl ?_; intro _)|refine Wi ?_|refine Wj ?_|refine Wk ?_|refine Wl ?_|refine Wm ?_|refine Wn ?_|refine Wo ?_|refine Wp ?_|refine Wq rfl ?_|refine Wr ?_|refine Ws ?_|refine Wt ?_|refine Wu ?_|refine Wv rfl rfl ?_|(refine Ww rfl ⟨rfl, by decide, by decide, by decide⟩ ?_; intro _))
    refine JC.test (fun hlt => ?_) (fun hge => ?_)
    · have hlt' : k0 < L.length := by omega
      repeat (first|refine Wa ?_|refine Wb ?_|refine Wc ?_|refine Wd ?_|refine We rfl ?_|refine Wf (by first|exact Va|exact Vb|exact Vc|exact Vd|exact Ve|exact Vf|exact Vg|exact Vh|exact Vi|exact Vj|exact Vk (by omega)|exact Vl|exact Vm|exact Vn|exact Vo|exact Vp|exact Vq|exact Vr|exact Vs (by omega)|exact Vt (by omega)|exact Vu (by omega)|exact Vv (by omega)|exact Vw|exact Vx|exact Vy|exact Vz|exact VA|exact VB|exact VC|exact VD|exact VE|exact VF) rfl ?_|(refine Wg rfl ?_; intro _)|(refine Wh rfl ?_; intro _)|refine Wi ?_|refine Wj ?_|refine Wk ?_|refine Wl ?_|refine Wm ?_|refine Wn ?_|refine Wo ?_|refine Wp ?_|refine Wq rfl ?_|refine Wr ?_|refine Ws ?_|refine Wt ?_|refine Wu ?_|refine Wv rfl rfl ?_|(refine Ww rfl ⟨rfl, by decide, by decide, by decide⟩ ?_; intro _))
      refine JC.openID (.slice a L.length c) k0 hlt' ?_
      intro b1 o1
      refine JC.openID (.slice b M.length k) k0 (by omega) ?_
      intro b2 o2
      refine JC.quiet mixed (by kernel_rfl) ?_
      repeat (first|refine Wy rfl (by first|exact Va|exact Vb|exact Vc|exact Vd|exact Ve|exact Vf|exact Vg|exact Vh|exact Vi|exact Vj|exact Vk (by omega)|exact Vl|exact Vm|exact Vn|exact Vo|exact Vp|exact Vq|exact Vr|exact Vs (by omega)|exact Vt (by omega)|exact Vu (by omega)|exact Vv (by omega)|exact Vw|exact Vx|exact Vy|exact Vz|exact VA|exact VB|exact VC|exact VD|exact VE|exact VF) rfl ?_|refine Wz rfl rfl ?_|refine WB ?_)
      repeat (first|refine Wa ?_|refine Wb ?_|refine Wc ?_|refine Wd ?_|refine We rfl ?_|refine Wf (by first|exact Va|exact Vb|exact Vc|exact Vd|exact Ve|exact Vf|exact Vg|exact Vh|exact Vi|exact Vj|exact Vk (by omega)|exact Vl|exact Vm|exact Vn|exact Vo|exact Vp|exact Vq|exact Vr|exact Vs (by omega)|exact Vt (by omega)|exact Vu (by omega)|exact Vv (by omega)|exact Vw|exact Vx|exact Vy|exact Vz|exact VA|exact VB|exact VC|exact VD|exact VE|exact VF) rfl ?_|(refine Wg rfl ?_; intro _)|(refine Wh rfl ?_; intro _)|refine Wi ?_|refine Wj ?_|refine Wk ?_|refine Wl ?_|refine Wm ?_|refine Wn ?_|refine Wo ?_|refine Wp ?_|refine Wq rfl ?_|refine Wr ?_|refine Ws ?_|refine Wt ?_|refine Wu ?_|refine Wv rfl rfl ?_|(refine Ww rfl ⟨rfl, by decide, by decide, by decide⟩ ?_; intro _))
      refine JC.test (fun hne => ?_) (fun heq2 => ?_)
      · repeat (first|refine Wa ?_|refine Wb ?_|refine Wc ?_|refine Wd ?_|refine We rfl ?_|refine Wf (by first|exact Va|exact Vb|exact Vc|exact Vd|exact Ve|exact Vf|exact Vg|exact Vh|exact Vi|exact Vj|exact Vk (by omega)|exact Vl|exact Vm|exact Vn|exact Vo|exact Vp|exact Vq|exact Vr|exact Vs (by omega)|exact Vt (by omega)|exact Vu (by omega)|exact Vv (by omega)|exact Vw|exact Vx|exact Vy|exact Vz|exact VA|exact VB|exact VC|exact VD|exact VE|exact VF) rfl ?_|(refine Wg rfl ?_; intro _)|(refine Wh rfl ?_; intro _)|refine Wi ?_|refine Wj ?_|refine Wk ?_|refine Wl ?_|refine Wm ?_|refine Wn ?_|refine Wo ?_|refine Wp ?_|refine Wq rfl ?_|refine Wr ?_|refine Ws ?_|refine Wt ?_|refine Wu ?_|refine Wv rfl rfl ?_|(refine Ww rfl ⟨rfl, by decide, by decide, by decide⟩ ?_; intro _))
        refine CT.done () ?_ (fun w ho => ho.ent)
        have : ¬ L = M := fun h => by subst h; exact hne rfl
        simp [packed, this]
      · repeat (first|refine Wa ?_|refine Wb ?_|refine Wc ?_|refine Wd ?_|refine We rfl ?_|refine Wf (by first|exact Va|exact Vb|exact Vc|exact Vd|exact Ve|exact Vf|exact Vg|exact Vh|exact Vi|exact Vj|exact Vk (by omega)|exact Vl|exact Vm|exact Vn|exact Vo|exact Vp|exact Vq|exact Vr|exact Vs (by omega)|exact Vt (by omega)|exact Vu (by omega)|exact Vv (by omega)|exact Vw|exact Vx|exact Vy|exact Vz|exact VA|exact VB|exact VC|exact VD|exact VE|exact VF) rfl ?_|(refine Wg rfl ?_; intro _)|(refine Wh rfl ?_; intro _)|refine Wi ?_|refine Wj ?_|refine Wk ?_|refine Wl ?_|refine Wm ?_|refine Wn ?_|refine Wo ?_|refine Wp ?_|refine Wq rfl ?_|refine Wr ?_|refine Ws ?_|refine Wt ?_|refine Wu ?_|refine Wv rfl rfl ?_|(refine Ww rfl ⟨rfl, by decide, by decide, by decide⟩ ?_; intro _))
        refine ⟨k0 + 1, ⟨by omega, ?_⟩, by omega, inferInstance⟩
        have heq2 : L[k0] = M[k0] := by simpa using heq2
        rw [List.take_succ_eq_append_getElem hlt', List.take_succ_eq_append_getElem (by omega), heq, heq2]
    · have hk0 : k0 = L.length := by omega
      repeat (first|refine Wa ?_|refine Wb ?_|refine Wc ?_|refine Wd ?_|refine We rfl ?_|refine Wf (by first|exact Va|exact Vb|exact Vc|exact Vd|exact Ve|exact Vf|exact Vg|exact Vh|exact Vi|exact Vj|exact Vk (by omega)|exact Vl|exact Vm|exact Vn|exact Vo|exact Vp|exact Vq|exact Vr|exact Vs (by omega)|exact Vt (by omega)|exact Vu (by omega)|exact Vv (by omega)|exact Vw|exact Vx|exact Vy|exact Vz|exact VA|exact VB|exact VC|exact VD|exact VE|exact VF) rfl ?_|(refine Wg rfl ?_; intro _)|(refine Wh rfl ?_; intro _)|refine Wi ?_|refine Wj ?_|refine Wk ?_|refine Wl ?_|refine Wm ?_|refine Wn ?_|refine Wo ?_|refine Wp ?_|refine Wq rfl ?_|refine Wr ?_|refine Ws ?_|refine Wt ?_|refine Wu ?_|refine Wv rfl rfl ?_|(refine Ww rfl ⟨rfl, by decide, by decide, by decide⟩ ?_; intro _))
      refine CT.done () ?_ (fun w ho => ho.ent)
      have : L = M := by
        rw [List.take_of_length_le (by omega), List.take_of_length_le (by omega)] at heq
        exact heq
      simp [packed, this]

theorem op_eq (a b : Op_) : (decide (a.kind = b.kind) && (decide (a.key = b.key) && (decide (a.elem = b.elem) && decide (a.n = b.n)))) = decide (a = b) := by
  obtain ⟨a1, a2, a3, a4⟩ := a
  obtain ⟨b1, b2, b3, b4⟩ := b
  rw [Bool.eq_iff_iff]
  simp

theorem same_ref (w : World) (F : Nat → Prop) (c d : Commit) (a b : Option Addr) (k m : Nat) (h : (sl a k c.parents).holds F w) (h' : (sl b m d.parents).holds F w) :
    GivesV Tryz.prog 18 [commitV c a k, commitV d b m] w F (.bool (decide (c = d))) := by
  have key : ∀ (c d : Commit), c = d ↔ c.ev = d.ev ∧ c.gen = d.gen ∧ c.op = d.op ∧ c.parents = d.parents := by
    intro c d
    cases c; cases d
    simp only [Commit.mk.injEq]
    constructor
    · rintro ⟨h1, h2, h3, h4⟩; exact ⟨h1, h2, h4, h3⟩
    · rintro ⟨h1, h2, h3, h4⟩; exact ⟨h1, h2, h4, h3⟩
  refine gives_of Tryz.func18 rfl Tryz.ntmps18 rfl rfl [.st (sl a k c.parents), .st (sl b m d.parents)] (.start2 h h') ?_
  repeat (first|refine Wa ?_|refine Wb ?_|refine Wc ?_|refine Wd ?_|refine We rfl ?_|refine Wf (by first|exact Va|exact Vb|exact Vc|exact Vd|exact Ve|exact Vf|exact Vg|exact Vh|exact Vi|exact Vj|exact Vk (by omega)|exact Vl|exact Vm|exact Vn|exact Vo|exact Vp|exact Vq|exact Vr|exact Vs (by omega)|exact Vt (by omega)|exact Vu (by omega)|exact Vv (by omega)|exact Vw|exact Vx|exact Vy|exact Vz|exact VA|exact VB|exact VC|exact VD|exact VE|exact VF) rfl ?_|(refine Wg rfl ?_; intro _)|(refine Wh rfl ?_; intro _)|refine Wi ?_|refine Wj ?_|refine Wk ?_|refine Wl ?_|refine Wm ?_|refine Wn ?_|refine Wo ?_|refine Wp ?_|refine Wq rfl ?_|refine Wr ?_|refine Ws ?_|refine Wt ?_|refine Wu ?_|refine Wv rfl rfl ?_|(refine Ww rfl ⟨rfl, by decide, by decide, by decide⟩ ?_; intro _))
  refine JR.callV rfl (fun w1 hw => sameIds_ref w1 _ a b k m _ _ hw.get hw.get) ?_
  repeat (first|refine Wa ?_|refine Wb ?_|refine Wc ?_|refine Wd ?_|refine We rfl ?_|refine Wf (by first|exact Va|exact Vb|exact Vc|exact Vd|exact Ve|exact Vf|exact Vg|exact Vh|exact Vi|exact Vj|exact Vk (by omega)|exact Vl|exact Vm|exact Vn|exact Vo|exact Vp|exact Vq|exact Vr|exact Vs (by omega)|exact Vt (by omega)|exact Vu (by omega)|exact Vv (by omega)|exact Vw|exact Vx|exact Vy|exact Vz|exact VA|exact VB|exact VC|exact VD|exact VE|exact VF) rfl ?_|(refine Wg rfl ?_; intro _)|(refine Wh rfl ?_; intro _)|refine Wi ?_|refine Wj ?_|refine Wk ?_|refine Wl ?_|refine Wm ?_|refine Wn ?_|refine Wo ?_|refine Wp ?_|refine Wq rfl ?_|refine Wr ?_|refine Ws ?_|refine Wt ?_|refine Wu ?_|refine Wv rfl rfl ?_|(refine Ww rfl ⟨rfl, by decide, by decide, by decide⟩ ?_; intro _))
  refine JO.test 12 (fun h1 => ?_) (fun h1 => ?_)
  · repeat (first|refine Wa ?_|refine Wb ?_|refine Wc ?_|refine Wd ?_|refine We rfl ?_|refine Wf (by first|exact Va|exact Vb|exact Vc|exact Vd|exact Ve|exact Vf|exact Vg|exact Vh|exact Vi|exact Vj|exact Vk (by omega)|exact Vl|exact Vm|exact Vn|exact Vo|exact Vp|exact Vq|exact Vr|exact Vs (by omega)|exact Vt (by omega)|exact Vu (by omega)|exact Vv (by omega)|exact Vw|exact Vx|exact Vy|exact Vz|exact VA|exact VB|exact VC|exact VD|exact VE|exact VF) rfl ?_|(refine Wg rfl ?_; intro _)|(refine Wh rfl ?_; intro _)|refine Wi ?_|refine Wj ?_|refine Wk ?_|refine Wl ?_|refine Wm ?_|refine Wn ?_|refine Wo ?_|refine Wp ?_|refine Wq rfl ?_|refine Wr ?_|refine Ws ?_|refine Wt ?_|refine Wu ?_|refine Wv rfl rfl ?_|(refine Ww rfl ⟨rfl, by decide, by decide, by decide⟩ ?_; intro _))
    refine JO.test 19 (fun h2 => ?_) (fun h2 => ?_)
    · repeat (first|refine Wa ?_|refine Wb ?_|refine Wc ?_|refine Wd ?_|refine We rfl ?_|refine Wf (by first|exact Va|exact Vb|exact Vc|exact Vd|exact Ve|exact Vf|exact Vg|exact Vh|exact Vi|exact Vj|exact Vk (by omega)|exact Vl|exact Vm|exact Vn|exact Vo|exact Vp|exact Vq|exact Vr|exact Vs (by omega)|exact Vt (by omega)|exact Vu (by omega)|exact Vv (by omega)|exact Vw|exact Vx|exact Vy|exact Vz|exact VA|exact VB|exact VC|exact VD|exact VE|exact VF) rfl ?_|(refine Wg rfl ?_; intro _)|(refine Wh rfl ?_; intro _)|refine Wi ?_|refine Wj ?_|refine Wk ?_|refine Wl ?_|refine Wm ?_|refine Wn ?_|refine Wo ?_|refine Wp ?_|refine Wq rfl ?_|refine Wr ?_|refine Ws ?_|refine Wt ?_|refine Wu ?_|refine Wv rfl rfl ?_|(refine Ww rfl ⟨rfl, by decide, by decide, by decide⟩ ?_; intro _))
      refine JO.test 26 (fun h3 => ?_) (fun h3 => ?_)
      · repeat (first|refine Wa ?_|refine Wb ?_|refine Wc ?_|refine Wd ?_|refine We rfl ?_|refine Wf (by first|exact Va|exact Vb|exact Vc|exact Vd|exact Ve|exact Vf|exact Vg|exact Vh|exact Vi|exact Vj|exact Vk (by omega)|exact Vl|exact Vm|exact Vn|exact Vo|exact Vp|exact Vq|exact Vr|exact Vs (by omega)|exact Vt (by omega)|exact Vu (by omega)|exact Vv (by omega)|exact Vw|exact Vx|exact Vy|exact Vz|exact VA|exact VB|exact VC|exact VD|exact VE|exact VF) rfl ?_|(refine Wg rfl ?_; intro _)|(refine Wh rfl ?_; intro _)|refine Wi ?_|refine Wj ?_|refine Wk ?_|refine Wl ?_|refine Wm ?_|refine Wn ?_|refine Wo ?_|refine Wp ?_|refine Wq rfl ?_|refine Wr ?_|refine Ws ?_|refine Wt ?_|refine Wu ?_|refine Wv rfl rfl ?_|(refine Ww rfl ⟨rfl, by decide, by decide, by decide⟩ ?_; intro _))
        refine CT.done () ?_ (fun w ho => ho.ent)
        have h1 : c.parents = d.parents := by simpa using h1
        have h2 : c.ev = d.ev := h2
        simp [packed, key, h1, h2, h3]
        exact op_eq _ _
      · repeat (first|refine Wa ?_|refine Wb ?_|refine Wc ?_|refine Wd ?_|refine We rfl ?_|refine Wf (by first|exact Va|exact Vb|exact Vc|exact Vd|exact Ve|exact Vf|exact Vg|exact Vh|exact Vi|exact Vj|exact Vk (by omega)|exact Vl|exact Vm|exact Vn|exact Vo|exact Vp|exact Vq|exact Vr|exact Vs (by omega)|exact Vt (by omega)|exact Vu (by omega)|exact Vv (by omega)|exact Vw|exact Vx|exact Vy|exact Vz|exact VA|exact VB|exact VC|exact VD|exact VE|exact VF) rfl ?_|(refine Wg rfl ?_; intro _)|(refine Wh rfl ?_; intro _)|refine Wi ?_|refine Wj ?_|refine Wk ?_|refine Wl ?_|refine Wm ?_|refine Wn ?_|refine Wo ?_|refine Wp ?_|refine Wq rfl ?_|refine Wr ?_|refine Ws ?_|refine Wt ?_|refine Wu ?_|refine Wv rfl rfl ?_|(refine Ww rfl ⟨rfl, by decide, by decide, by decide⟩ ?_; intro _))
        refine CT.done () ?_ (fun w ho => ho.ent)
        simp [packed, key, h3]
    · repeat (first|refine Wa ?_|refine Wb ?_|refine Wc ?_|refine Wd ?_|refine We rfl ?_|refine Wf (by first|exact Va|exact Vb|exact Vc|exact Vd|exact Ve|exact Vf|exact Vg|exact Vh|exact Vi|exact Vj|exact Vk (by omega)|exact Vl|exact Vm|exact Vn|exact Vo|exact Vp|exact Vq|exact Vr|exact Vs (by omega)|exact Vt (by omega)|exact Vu (by omega)|exact Vv (by omega)|exact Vw|exact Vx|exact Vy|exact Vz|exact VA|exact VB|exact VC|exact VD|exact VE|exact VF) rfl ?_|(refine Wg rfl ?_; intro _)|(refine Wh rfl ?_; intro _)|refine Wi ?_|refine Wj ?_|refine Wk ?_|refine Wl ?_|refine Wm ?_|refine Wn ?_|refine Wo ?_|refine Wp ?_|refine Wq rfl ?_|refine Wr ?_|refine Ws ?_|refine Wt ?_|refine Wu ?_|refine Wv rfl rfl ?_|(refine Ww rfl ⟨rfl, by decide, by decide, by decide⟩ ?_; intro _))
      refine CT.done () ?_ (fun w ho => ho.ent)
      have h2 : ¬ c.ev = d.ev := h2
      simp [packed, key, h2]
  · repeat (first|refine Wa ?_|refine Wb ?_|refine Wc ?_|refine Wd ?_|refine We rfl ?_|refine Wf (by first|exact Va|exact Vb|exact Vc|exact Vd|exact Ve|exact Vf|exact Vg|exact Vh|exact Vi|exact Vj|exact Vk (by omega)|exact Vl|exact Vm|exact Vn|exact Vo|exact Vp|exact Vq|exact Vr|exact Vs (by omega)|exact Vt (by omega)|exact Vu (by omega)|exact Vv (by omega)|exact Vw|exact Vx|exact Vy|exact Vz|exact VA|exact VB|exact VC|exact VD|exact VE|exact VF) rfl ?_|(refine Wg rfl ?_; intro _)|(refine Wh rfl ?_; intro _)|refine Wi ?_|refine Wj ?_|refine Wk ?_|refine Wl ?_|refine Wm ?_|refine Wn ?_|refine Wo ?_|refine Wp ?_|refine Wq rfl ?_|refine Wr ?_|refine Ws ?_|refine Wt ?_|refine Wu ?_|refine Wv rfl rfl ?_|(refine Ww rfl ⟨rfl, by decide, by decide, by decide⟩ ?_; intro _))
    refine CT.done () ?_ (fun w ho => ho.ent)
    have h1 : ¬ c.parents = d.parents := by simpa using h1
    simp [packed, key, h1]
end Ab
end Go.Proofs.YtcmfemfndadfmaaGreat

/- Contracts: the document's List, the laws' Few. -/
namespace Go.Proofs.YtcmfemfndadfmaaGreat
namespace Ab
open Go Go.RowKit
set_option linter.unusedVariables false
set_option linter.unusedSimpArgs false
set_option synthInstance.maxSize 4000
set_option synthInstance.maxHeartbeats 400000
attribute [local irreducible] JC JO JR JQ andThen inBlock OpV Gives retTo JM JS

theorem list_ref (w : World) (F : Nat → Prop) (a b : Option Addr) (c k : Nat) (L M : List Commit) (h : (sl a c L).holds F w) (h' : (sl b k M).holds F w) :
    GivesV Tryz.prog 13 [.slice a L.length c, .slice b M.length k] w F (.bool (decide (L = M))) := by
  have hL : L.length < 9223372036854775807 := by have := h.2.2.1; simp only [lim] at this; omega
  refine gives_of Tryz.func13 rfl Tryz.ntmps13 rfl rfl [.st (sl a c L), .st (sl b k M)] (.start2 h h') ?_
  repeat (first|refine Wa ?_|refine Wb ?_|refine Wc ?_|refine Wd ?_|refine We rfl ?_|refine Wf (by first|exact Va|exact Vb|exact Vc|exact Vd|exact Ve|exact Vf|exact Vg|exact Vh|exact Vi|exact Vj|exact Vk (by omega)|exact Vl|exact Vm|exact Vn|exact Vo|exact Vp|exact Vq|exact Vr|exact Vs (by omega)|exact Vt (by omega)|exact Vu (by omega)|exact Vv (by omega)|exact Vw|exact Vx|exact Vy|exact Vz|exact VA|exact VB|exact VC|exact VD|exact VE|exact VF) rfl ?_|(refine Wg rfl ?_; intro _)|(refine Wh rfl ?_; intro _)|refine Wi ?_|refine Wj ?_|refine Wk ?_|refine Wl ?_|refine Wm ?_|refine Wn ?_|refine Wo ?_|refine Wp ?_|refine Wq rfl ?_|refine Wr ?_|refine Ws ?_|refine Wt ?_|refine Wu ?_|refine Wv rfl rfl ?_|(refine Ww rfl ⟨rfl, by decide, by decide, by decide⟩ ?_; intro _))
  refine JC.test (fun hne => ?_) (fun he => ?_)
  · repeat (first|refine Wa ?_|refine Wb ?_|refine Wc ?_|refine Wd ?_|refine We rfl ?_|refine Wf (by first|exact Va|exact Vb|exact Vc|exact Vd|exact Ve|exact Vf|exact Vg|exact Vh|exact Vi|exact Vj|exact Vk (by omega)|exact Vl|exact Vm|exact Vn|exact Vo|exact Vp|exact Vq|exact Vr|exact Vs (by omega)|exact Vt (by omega)|exact Vu (by omega)|exact Vv (by omega)|exact Vw|exact Vx|exact Vy|exact Vz|exact VA|exact VB|exact VC|exact VD|exact VE|exact VF) rfl ?_|(refine Wg rfl ?_; intro _)|(refine Wh rfl ?_; intro _)|refine Wi ?_|refine Wj ?_|refine Wk ?_|refine Wl ?_|refine Wm ?_|refine Wn ?_|refine Wo ?_|refine Wp ?_|refine Wq rfl ?_|refine Wr ?_|refine Ws ?_|refine Wt ?_|refine Wu ?_|refine Wv rfl rfl ?_|(refine Ww rfl ⟨rfl, by decide, by decide, by decide⟩ ?_; intro _))
    refine CT.done () ?_ (fun w ho => ho.ent)
    have : ¬ L = M := fun h => hne (by rw [h])
    simp [packed, this]
  · have hlen : L.length = M.length := by omega
    repeat (first|refine Wa ?_|refine Wb ?_|refine Wc ?_|refine Wd ?_|refine We rfl ?_|refine Wf (by first|exact Va|exact Vb|exact Vc|exact Vd|exact Ve|exact Vf|exact Vg|exact Vh|exact Vi|exact Vj|exact Vk (by omega)|exact Vl|exact Vm|exact Vn|exact Vo|exact Vp|exact Vq|exact Vr|exact Vs (by omega)|exact Vt (by omega)|exact Vu (by omega)|exact Vv (by omega)|exact Vw|exact Vx|exact Vy|exact Vz|exact VA|exact VB|exact VC|exact VD|exact VE|exact VF) rfl ?_|(refine Wg rfl ?_; intro _)|(refine Wh rfl ?_; intro _)|refine Wi ?_|refine Wj ?_|refine Wk ?_|refine Wl ?_|refine Wm ?_|refine Wn ?_|refine Wo ?_|refine Wp ?_|refine Wq rfl ?_|refine Wr ?_|refine Ws ?_|refine Wt ?_|refine Wu ?_|refine Wv rfl rfl ?_|(refine Ww rfl ⟨rfl, by decide, by decide, by decide⟩ ?_; intro _))
    refine JC.loop1 (fun k0 : Nat => [(0, .slice a L.length c), (1, .slice b M.length k), (5, .int .i64 (k0 : Int))]) (fun _ => [.st (sl a c L), .st (sl b k M)])
      (fun k0 => k0 ≤ L.length ∧ L.take k0 = M.take k0) (fun k0 => L.length - k0) 0 ⟨Nat.zero_le _, rfl⟩ inferInstance ?_
    intro k0 ⟨hk, heq⟩
    repeat (first|refine Wa ?_|refine Wb ?_|refine Wc ?_|refine Wd ?_|refine We rfl ?_|refine Wf (by first|exact Va|exact Vb|exact Vc|exact Vd|exact Ve|exact Vf|exact Vg|exact Vh|exact Vi|exact Vj|exact Vk (by omega)|exact Vl|exact Vm|exact Vn|exact Vo|exact Vp|exact Vq|exact Vr|exact Vs (by omega)|exact Vt (by omega)|exact Vu (by omega)|exact Vv (by omega)|exact Vw|exact Vx|exact Vy|exact Vz|exact VA|exact VB|exact VC|exact VD|exact VE|exact VF) rfl ?_|(refine Wg rfl ?_; intro _)|(refine Wh rfl ?_; intro _)|refine Wi ?_|refine Wj ?_|refine Wk ?_|refine Wl ?_|refine Wm ?_|refine Wn ?_|refine Wo ?_|refine Wp ?_|refine Wq rfl ?_|refine Wr ?_|refine Ws ?_|refine Wt ?_|refine Wu ?_|refine Wv rfl rfl ?_|(refine Ww rfl ⟨rfl, by decide, by decide, by decide⟩ ?_; intro _))
    refine JC.test (fun hlt => ?_) (fun hge => ?_)
    · have hlt' : k0 < L.length := by omega
      repeat (first|refine Wa ?_|refine Wb ?_|refine Wc ?_|refine Wd ?_|refine We rfl ?_|refine Wf (by first|exact Va|exact Vb|exact Vc|exact Vd|exact Ve|exact Vf|exact Vg|exact Vh|exact Vi|exact Vj|exact Vk (by omega)|exact Vl|exact Vm|exact Vn|exact Vo|exact Vp|exact Vq|exact Vr|exact Vs (by omega)|exact Vt (by omega)|exact Vu (by omega)|exact Vv (by omega)|exact Vw|exact Vx|exact Vy|exact Vz|exact VA|exact VB|exact VC|exact VD|exact VE|exact VF) rfl ?_|(refine Wg rfl ?_; intro _)|(refine Wh rfl ?_; intro _)|refine Wi ?_|refine Wj ?_|refine Wk ?_|refine Wl ?_|refine Wm ?_|refine Wn ?_|refine Wo ?_|refine Wp ?_|refine Wq rfl ?_|refine Wr ?_|refine Ws ?_|refine Wt ?_|refine Wu ?_|refine Wv rfl rfl ?_|(refine Ww rfl ⟨rfl, by decide, by decide, by decide⟩ ?_; intro _))
      refine JC.openCommit (.slice a L.length c) k0 hlt' ?_
      intro b1 o1 p1 q1
      refine JC.openCommit (.slice b M.length k) k0 (by omega) ?_
      intro b2 o2 p2 q2
      refine JC.quiet mixed (by kernel_rfl) ?_
      repeat (first|refine Wy rfl (by first|exact Va|exact Vb|exact Vc|exact Vd|exact Ve|exact Vf|exact Vg|exact Vh|exact Vi|exact Vj|exact Vk (by omega)|exact Vl|exact Vm|exact Vn|exact Vo|exact Vp|exact Vq|exact Vr|exact Vs (by omega)|exact Vt (by omega)|exact Vu (by omega)|exact Vv (by omega)|exact Vw|exact Vx|exact Vy|exact Vz|exact VA|exact VB|exact VC|exact VD|exact VE|exact VF) rfl ?_|refine Wz rfl rfl ?_|refine WB ?_)
      refine JQ.call rfl rfl (fun w1 hw => same_ref w1 _ L[k0] (M[k0]'(by omega)) p1 p2 q1 q2 hw.get hw.get) ?_
      repeat (first|refine Wy rfl (by first|exact Va|exact Vb|exact Vc|exact Vd|exact Ve|exact Vf|exact Vg|exact Vh|exact Vi|exact Vj|exact Vk (by omega)|exact Vl|exact Vm|exact Vn|exact Vo|exact Vp|exact Vq|exact Vr|exact Vs (by omega)|exact Vt (by omega)|exact Vu (by omega)|exact Vv (by omega)|exact Vw|exact Vx|exact Vy|exact Vz|exact VA|exact VB|exact VC|exact VD|exact VE|exact VF) rfl ?_|refine Wz rfl rfl ?_|refine WB ?_)
      repeat (first|refine Wa ?_|refine Wb ?_|refine Wc ?_|refine Wd ?_|refine We rfl ?_|refine Wf (by first|exact Va|exact Vb|exact Vc|exact Vd|exact Ve|exact Vf|exact Vg|exact Vh|exact Vi|exact Vj|exact Vk (by omega)|exact Vl|exact Vm|exact Vn|exact Vo|exact Vp|exact Vq|exact Vr|exact Vs (by omega)|exact Vt (by omega)|exact Vu (by omega)|exact Vv (by omega)|exact Vw|exact Vx|exact Vy|exact Vz|exact VA|exact VB|exact VC|exact VD|exact VE|exact VF) rfl ?_|(refine Wg rfl ?_; intro _)|(refine Wh rfl ?_; intro _)|refine Wi ?_|refine Wj ?_|refine Wk ?_|refine Wl ?_|refine Wm ?_|refine Wn ?_|refine Wo ?_|refine Wp ?_|refine Wq rfl ?_|refine Wr ?_|refine Ws ?_|refine Wt ?_|refine Wu ?_|refine Wv rfl rfl ?_|(refine Ww rfl ⟨rfl, by decide, by decide, by decide⟩ ?_; intro _))
      refine JC.test (fun hne => ?_) (fun heq2 => ?_)
      · repeat (first|refine Wa ?_|refine Wb ?_|refine Wc ?_|refine Wd ?_|refine We rfl ?_|refine Wf (by first|exact Va|exact Vb|exact Vc|exact Vd|exact Ve|exact Vf|exact Vg|exact Vh|exact Vi|exact Vj|exact Vk (by omega)|exact Vl|exact Vm|exact Vn|exact Vo|exact Vp|exact Vq|exact Vr|exact Vs (by omega)|exact Vt (by omega)|exact Vu (by omega)|exact Vv (by omega)|exact Vw|exact Vx|exact Vy|exact Vz|exact VA|exact VB|exact VC|exact VD|exact VE|exact VF) rfl ?_|(refine Wg rfl ?_; intro _)|(refine Wh rfl ?_; intro _)|refine Wi ?_|refine Wj ?_|refine Wk ?_|refine Wl ?_|refine Wm ?_|refine Wn ?_|refine Wo ?_|refine Wp ?_|refine Wq rfl ?_|refine Wr ?_|refine Ws ?_|refine Wt ?_|refine Wu ?_|refine Wv rfl rfl ?_|(refine Ww rfl ⟨rfl, by decide, by decide, by decide⟩ ?_; intro _))
        refine CT.done () ?_ (fun w ho => ho.ent)
        have : ¬ L = M := fun h => by subst h; simp at hne
        simp [packed, this]
      · repeat (first|refine Wa ?_|refine Wb ?_|refine Wc ?_|refine Wd ?_|refine We rfl ?_|refine Wf (by first|exact Va|exact Vb|exact Vc|exact Vd|exact Ve|exact Vf|exact Vg|exact Vh|exact Vi|exact Vj|exact Vk (by omega)|exact Vl|exact Vm|exact Vn|exact Vo|exact Vp|exact Vq|exact Vr|exact Vs (by omega)|exact Vt (by omega)|exact Vu (by omega)|exact Vv (by omega)|exact Vw|exact Vx|exact Vy|exact Vz|exact VA|exact VB|exact VC|exact VD|exact VE|exact VF) rfl ?_|(refine Wg rfl ?_; intro _)|(refine Wh rfl ?_; intro _)|refine Wi ?_|refine Wj ?_|refine Wk ?_|refine Wl ?_|refine Wm ?_|refine Wn ?_|refine Wo ?_|refine Wp ?_|refine Wq rfl ?_|refine Wr ?_|refine Ws ?_|refine Wt ?_|refine Wu ?_|refine Wv rfl rfl ?_|(refine Ww rfl ⟨rfl, by decide, by decide, by decide⟩ ?_; intro _))
        refine ⟨k0 + 1, ⟨by omega, ?_⟩, by omega, inferInstance⟩
        have heq2 : L[k0] = M[k0] := by simpa using heq2
        rw [List.take_succ_eq_append_getElem hlt', List.take_succ_eq_append_getElem (by omega), heq, heq2]
    · have hk0 : k0 = L.length := by omega
      repeat (first|refine Wa ?_|refine Wb ?_|refine Wc ?_|refine Wd ?_|refine We rfl ?_|refine Wf (by first|exact Va|exact Vb|exact Vc|exact Vd|exact Ve|exact Vf|exact Vg|exact Vh|exact Vi|exact Vj|exact Vk (by omega)|exact Vl|exact Vm|exact Vn|exact Vo|exact Vp|exact Vq|exact Vr|exact Vs (by omega)|exact Vt (by omega)|exact Vu (by omega)|exact Vv (by omega)|exact Vw|exact Vx|exact Vy|exact Vz|exact VA|exact VB|exact VC|exact VD|exact VE|exact VF) rfl ?_|(refine Wg rfl ?_; intro _)|(refine Wh rfl ?_; intro _)|refine Wi ?_|refine Wj ?_|refine Wk ?_|refine Wl ?_|refine Wm ?_|refine Wn ?_|refine Wo ?_|refine Wp ?_|refine Wq rfl ?_|refine Wr ?_|refine Ws ?_|refine Wt ?_|refine Wu ?_|refine Wv rfl rfl ?_|(refine Ww rfl ⟨rfl, by decide, by decide, by decide⟩ ?_; intro _))
      refine CT.done () ?_ (fun w ho => ho.ent)
      have : L = M := by
        rw [List.take_of_length_le (by omega), List.take_of_length_le (by omega)] at heq
        exact heq
      simp [packed, this]

/-- At most 20 parents, and texts of at most 100 bytes. -/
def fewC (c : Commit) : Bool := decide (c.parents.length ≤ 20) && decide (c.op.key.size ≤ 100) && decide (c.op.elem.size ≤ 100)
theorem few_one (w : World) (F : Nat → Prop) (c : Commit) (a : Option Addr) (k : Nat) : GivesV Tryz.prog 12 [commitV c a k] w F (.bool (fewC c)) := by
  refine gives_of Tryz.func12 rfl Tryz.ntmps12 rfl rfl [] (.start w F) ?_
  repeat (first|refine Wa ?_|refine Wb ?_|refine Wc ?_|refine Wd ?_|refine We rfl ?_|refine Wf (by first|exact Va|exact Vb|exact Vc|exact Vd|exact Ve|exact Vf|exact Vg|exact Vh|exact Vi|exact Vj|exact Vk (by omega)|exact Vl|exact Vm|exact Vn|exact Vo|exact Vp|exact Vq|exact Vr|exact Vs (by omega)|exact Vt (by omega)|exact Vu (by omega)|exact Vv (by omega)|exact Vw|exact Vx|exact Vy|exact Vz|exact VA|exact VB|exact VC|exact VD|exact VE|exact VF) rfl ?_|(refine Wg rfl ?_; intro _)|(refine Wh rfl ?_; intro _)|refine Wi ?_|refine Wj ?_|refine Wk ?_|refine Wl ?_|refine Wm ?_|refine Wn ?_|refine Wo ?_|refine Wp ?_|refine Wq rfl ?_|refine Wr ?_|refine Ws ?_|refine Wt ?_|refine Wu ?_|refine Wv rfl rfl ?_|(refine Ww rfl ⟨rfl, by decide, by decide, by decide⟩ ?_; intro _))
  refine JO.test 7 (fun h1 => ?_) (fun h1 => ?_)
  · repeat (first|refine Wa ?_|refine Wb ?_|refine Wc ?_|refine Wd ?_|refine We rfl ?_|refine Wf (by first|exact Va|exact Vb|exact Vc|exact Vd|exact Ve|exact Vf|exact Vg|exact Vh|exact Vi|exact Vj|exact Vk (by omega)|exact Vl|exact Vm|exact Vn|exact Vo|exact Vp|exact Vq|exact Vr|exact Vs (by omega)|exact Vt (by omega)|exact Vu (by omega)|exact Vv (by omega)|exact Vw|exact Vx|exact Vy|exact Vz|exact VA|exact VB|exact VC|exact VD|exact VE|exact VF) rfl ?_|(refine Wg rfl ?_; intro _)|(refine Wh rfl ?_; intro _)|refine Wi ?_|refine Wj ?_|refine Wk ?_|refine Wl ?_|refine Wm ?_|refine Wn ?_|refine Wo ?_|refine Wp ?_|refine Wq rfl ?_|refine Wr ?_|refine Ws ?_|refine Wt ?_|refine Wu ?_|refine Wv rfl rfl ?_|(refine Ww rfl ⟨rfl, by decide, by decide, by decide⟩ ?_; intro _))
    refine JO.test 14 (fun h2 => ?_) (fun h2 => ?_)
    · repeat (first|refine Wa ?_|refine Wb ?_|refine Wc ?_|refine Wd ?_|refine We rfl ?_|refine Wf (by first|exact Va|exact Vb|exact Vc|exact Vd|exact Ve|exact Vf|exact Vg|exact Vh|exact Vi|exact Vj|exact Vk (by omega)|exact Vl|exact Vm|exact Vn|exact Vo|exact Vp|exact Vq|exact Vr|exact Vs (by omega)|exact Vt (by omega)|exact Vu (by omega)|exact Vv (by omega)|exact Vw|exact Vx|exact Vy|exact Vz|exact VA|exact VB|exact VC|exact VD|exact VE|exact VF) rfl ?_|(refine Wg rfl ?_; intro _)|(refine Wh rfl ?_; intro _)|refine Wi ?_|refine Wj ?_|refine Wk ?_|refine Wl ?_|refine Wm ?_|refine Wn ?_|refine Wo ?_|refine Wp ?_|refine Wq rfl ?_|refine Wr ?_|refine Ws ?_|refine Wt ?_|refine Wu ?_|refine Wv rfl rfl ?_|(refine Ww rfl ⟨rfl, by decide, by decide, by decide⟩ ?_; intro _))
      refine CT.done () ?_ (fun w ho => ho.ent)
      have h1 : c.parents.length ≤ 20 := by omega
      have h2 : c.op.key.size ≤ 100 := by omega
      have h3 : ((c.op.elem.size : Int) ≤ 100) ↔ c.op.elem.size ≤ 100 := by omega
      simp [packed, fewC, h1, h2, h3]
    · repeat (first|refine Wa ?_|refine Wb ?_|refine Wc ?_|refine Wd ?_|refine We rfl ?_|refine Wf (by first|exact Va|exact Vb|exact Vc|exact Vd|exact Ve|exact Vf|exact Vg|exact Vh|exact Vi|exact Vj|exact Vk (by omega)|exact Vl|exact Vm|exact Vn|exact Vo|exact Vp|exact Vq|exact Vr|exact Vs (by omega)|exact Vt (by omega)|exact Vu (by omega)|exact Vv (by omega)|exact Vw|exact Vx|exact Vy|exact Vz|exact VA|exact VB|exact VC|exact VD|exact VE|exact VF) rfl ?_|(refine Wg rfl ?_; intro _)|(refine Wh rfl ?_; intro _)|refine Wi ?_|refine Wj ?_|refine Wk ?_|refine Wl ?_|refine Wm ?_|refine Wn ?_|refine Wo ?_|refine Wp ?_|refine Wq rfl ?_|refine Wr ?_|refine Ws ?_|refine Wt ?_|refine Wu ?_|refine Wv rfl rfl ?_|(refine Ww rfl ⟨rfl, by decide, by decide, by decide⟩ ?_; intro _))
      refine CT.done () ?_ (fun w ho => ho.ent)
      have h2 : ¬ c.op.key.size ≤ 100 := by omega
      simp [packed, fewC, h2]
  · repeat (first|refine Wa ?_|refine Wb ?_|refine Wc ?_|refine Wd ?_|refine We rfl ?_|refine Wf (by first|exact Va|exact Vb|exact Vc|exact Vd|exact Ve|exact Vf|exact Vg|exact Vh|exact Vi|exact Vj|exact Vk (by omega)|exact Vl|exact Vm|exact Vn|exact Vo|exact Vp|exact Vq|exact Vr|exact Vs (by omega)|exact Vt (by omega)|exact Vu (by omega)|exact Vv (by omega)|exact Vw|exact Vx|exact Vy|exact Vz|exact VA|exact VB|exact VC|exact VD|exact VE|exact VF) rfl ?_|(refine Wg rfl ?_; intro _)|(refine Wh rfl ?_; intro _)|refine Wi ?_|refine Wj ?_|refine Wk ?_|refine Wl ?_|refine Wm ?_|refine Wn ?_|refine Wo ?_|refine Wp ?_|refine Wq rfl ?_|refine Wr ?_|refine Ws ?_|refine Wt ?_|refine Wu ?_|refine Wv rfl rfl ?_|(refine Ww rfl ⟨rfl, by decide, by decide, by decide⟩ ?_; intro _))
    refine CT.done () ?_ (fun w ho => ho.ent)
    have h1 : ¬ c.parents.length ≤ 20 := by omega
    simp [packed, fewC, h1]

def fewL (L : List Commit) (m : Nat) : Bool := decide (L.length ≤ m) && L.all fewC
theorem few_all (w : World) (F : Nat → Prop) (a : Option Addr) (c : Nat) (L : List Commit) (m : Nat) (h : (sl a c L).holds F w) :
    GivesV Tryz.prog 11 [.slice a L.length c, .int .i64 (m : Int)] w F (.bool (fewL L m)) := by
  have hL : L.length < 9223372036854775807 := by have := h.2.2.1; simp only [lim] at this; omega
  refine gives_of Tryz.func11 rfl Tryz.ntmps11 rfl rfl [.st (sl a c L)] (.start1 h) ?_
  repeat (first|refine Wa ?_|refine Wb ?_|refine Wc ?_|refine Wd ?_|refine We rfl ?_|refine Wf (by first|exact Va|exact Vb|exact Vc|exact Vd|exact Ve|exact Vf|exact Vg|exact Vh|exact Vi|exact Vj|exact Vk (by omega)|exact Vl|exact Vm|exact Vn|exact Vo|exact Vp|exact Vq|exact Vr|exact Vs (by omega)|exact Vt (by omega)|exact Vu (by omega)|exact Vv (by omega)|exact Vw|exact Vx|exact Vy|exact Vz|exact VA|exact VB|exact VC|exact VD|exact VE|exact VF) rfl ?_|(refine Wg rfl ?_; intro _)|(refine Wh rfl ?_; intro _)|refine Wi ?_|refine Wj ?_|refine Wk ?_|refine Wl ?_|refine Wm ?_|refine Wn ?_|refine Wo ?_|refine Wp ?_|refine Wq rfl ?_|refine Wr ?_|refine Ws ?_|refine Wt ?_|refine Wu ?_|refine Wv rfl rfl ?_|(refine Ww rfl ⟨rfl, by decide, by decide, by decide⟩ ?_; intro _))
  refine JC.test (fun h1 => ?_) (fun h1 => ?_)
  · repeat (first|refine Wa ?_|refine Wb ?_|refine Wc ?_|refine Wd ?_|refine We rfl ?_|refine Wf (by first|exact Va|exact Vb|exact Vc|exact Vd|exact Ve|exact Vf|exact Vg|exact Vh|exact Vi|exact Vj|exact Vk (by omega)|exact Vl|exact Vm|exact Vn|exact Vo|exact Vp|exact Vq|exact Vr|exact Vs (by omega)|exact Vt (by omega)|exact Vu (by omega)|exact Vv (by omega)|exact Vw|exact Vx|exact Vy|exact Vz|exact VA|exact VB|exact VC|exact VD|exact VE|exact VF) rfl ?_|(refine Wg rfl ?_; intro _)|(refine Wh rfl ?_; intro _)|refine Wi ?_|refine Wj ?_|refine Wk ?_|refine Wl ?_|refine Wm ?_|refine Wn ?_|refine Wo ?_|refine Wp ?_|refine Wq rfl ?_|refine Wr ?_|refine Ws ?_|refine Wt ?_|refine Wu ?_|refine Wv rfl rfl ?_|(refine Ww rfl ⟨rfl, by decide, by decide, by decide⟩ ?_; intro _))
    refine CT.done () ?_ (fun w ho => ho.ent)
    have h1 : ¬ L.length ≤ m := by omega
    simp [packed, fewL, h1]
  · have h1 : L.length ≤ m := by omega
    repeat (first|refine Wa ?_|refine Wb ?_|refine Wc ?_|refine Wd ?_|refine We rfl ?_|refine Wf (by first|exact Va|exact Vb|exact Vc|exact Vd|exact Ve|exact Vf|exact Vg|exact Vh|exact Vi|exact Vj|exact Vk (by omega)|exact Vl|exact Vm|exact Vn|exact Vo|exact Vp|exact Vq|exact Vr|exact Vs (by omega)|exact Vt (by omega)|exact Vu (by omega)|exact Vv (by omega)|exact Vw|exact Vx|exact Vy|exact Vz|exact VA|exact VB|exact VC|exact VD|exact VE|exact VF) rfl ?_|(refine Wg rfl ?_; intro _)|(refine Wh rfl ?_; intro _)|refine Wi ?_|refine Wj ?_|refine Wk ?_|refine Wl ?_|refine Wm ?_|refine Wn ?_|refine Wo ?_|refine Wp ?_|refine Wq rfl ?_|refine Wr ?_|refine Ws ?_|refine Wt ?_|refine Wu ?_|refine Wv rfl rfl ?_|(refine Ww rfl ⟨rfl, by decide, by decide, by decide⟩ ?_; intro _))
    refine JC.loop1 (fun k0 : Nat => [(0, .slice a L.length c), (5, .int .i64 (k0 : Int))]) (fun _ => [.st (sl a c L)])
      (fun k0 => k0 ≤ L.length ∧ (L.take k0).all fewC = true) (fun k0 => L.length - k0) 0 ⟨Nat.zero_le _, rfl⟩ inferInstance ?_
    intro k0 ⟨hk, heq⟩
    repeat (first|refine Wa ?_|refine Wb ?_|refine Wc ?_|refine Wd ?_|refine We rfl ?_|refine Wf (by first|exact Va|exact Vb|exact Vc|exact Vd|exact Ve|exact Vf|exact Vg|exact Vh|exact Vi|exact Vj|exact Vk (by omega)|exact Vl|exact Vm|exact Vn|exact Vo|exact Vp|exact Vq|exact Vr|exact Vs (by omega)|exact Vt (by omega)|exact Vu (by omega)|exact Vv (by omega)|exact Vw|exact Vx|exact Vy|exact Vz|exact VA|exact VB|exact VC|exact VD|exact VE|exact VF) rfl ?_|(refine Wg rfl ?_; intro _)|(refine Wh rfl ?_; intro _)|refine Wi ?_|refine Wj ?_|refine Wk ?_|refine Wl ?_|refine Wm ?_|refine Wn ?_|refine Wo ?_|refine Wp ?_|refine Wq rfl ?_|refine Wr ?_|refine Ws ?_|refine Wt ?_|refine Wu ?_|refine Wv rfl rfl ?_|(refine Ww rfl ⟨rfl, by decide, by decide, by decide⟩ ?_; intro _))
    refine JC.test (fun hlt => ?_) (fun hge => ?_)
    · have hlt' : k0 < L.length := by omega
      repeat (first|refine Wa ?_|refine Wb ?_|refine Wc ?_|refine Wd ?_|refine We rfl ?_|refine Wf (by first|exact Va|exact Vb|exact Vc|exact Vd|exact Ve|exact Vf|exact Vg|exact Vh|exact Vi|exact Vj|exact Vk (by omega)|exact Vl|exact Vm|exact Vn|exact Vo|exact Vp|exact Vq|exact Vr|exact Vs (by omega)|exact Vt (by omega)|exact Vu (by omega)|exact Vv (by omega)|exact Vw|exact Vx|exact Vy|exact Vz|exact VA|exact VB|exact VC|exact VD|exact VE|exact VF) rfl ?_|(refine Wg rfl ?_; intro _)|(refine Wh rfl ?_; intro _)|refine Wi ?_|refine Wj ?_|refine Wk ?_|refine Wl ?_|refine Wm ?_|refine Wn ?_|refine Wo ?_|refine Wp ?_|refine Wq rfl ?_|refine Wr ?_|refine Ws ?_|refine Wt ?_|refine Wu ?_|refine Wv rfl rfl ?_|(refine Ww rfl ⟨rfl, by decide, by decide, by decide⟩ ?_; intro _))
      refine JR.indexCommit rfl hlt' ?_
      intro b1 o1 p1 q1
      repeat (first|refine Wa ?_|refine Wb ?_|refine Wc ?_|refine Wd ?_|refine We rfl ?_|refine Wf (by first|exact Va|exact Vb|exact Vc|exact Vd|exact Ve|exact Vf|exact Vg|exact Vh|exact Vi|exact Vj|exact Vk (by omega)|exact Vl|exact Vm|exact Vn|exact Vo|exact Vp|exact Vq|exact Vr|exact Vs (by omega)|exact Vt (by omega)|exact Vu (by omega)|exact Vv (by omega)|exact Vw|exact Vx|exact Vy|exact Vz|exact VA|exact VB|exact VC|exact VD|exact VE|exact VF) rfl ?_|(refine Wg rfl ?_; intro _)|(refine Wh rfl ?_; intro _)|refine Wi ?_|refine Wj ?_|refine Wk ?_|refine Wl ?_|refine Wm ?_|refine Wn ?_|refine Wo ?_|refine Wp ?_|refine Wq rfl ?_|refine Wr ?_|refine Ws ?_|refine Wt ?_|refine Wu ?_|refine Wv rfl rfl ?_|(refine Ww rfl ⟨rfl, by decide, by decide, by decide⟩ ?_; intro _))
      refine JR.callV rfl (fun w1 hw => few_one w1 _ L[k0] p1 q1) ?_
      repeat (first|refine Wa ?_|refine Wb ?_|refine Wc ?_|refine Wd ?_|refine We rfl ?_|refine Wf (by first|exact Va|exact Vb|exact Vc|exact Vd|exact Ve|exact Vf|exact Vg|exact Vh|exact Vi|exact Vj|exact Vk (by omega)|exact Vl|exact Vm|exact Vn|exact Vo|exact Vp|exact Vq|exact Vr|exact Vs (by omega)|exact Vt (by omega)|exact Vu (by omega)|exact Vv (by omega)|exact Vw|exact Vx|exact Vy|exact Vz|exact VA|exact VB|exact VC|exact VD|exact VE|exact VF) rfl ?_|(refine Wg rfl ?_; intro _)|(refine Wh rfl ?_; intro _)|refine Wi ?_|refine Wj ?_|refine Wk ?_|refine Wl ?_|refine Wm ?_|refine Wn ?_|refine Wo ?_|refine Wp ?_|refine Wq rfl ?_|refine Wr ?_|refine Ws ?_|refine Wt ?_|refine Wu ?_|refine Wv rfl rfl ?_|(refine Ww rfl ⟨rfl, by decide, by decide, by decide⟩ ?_; intro _))
      refine JC.test (fun hne => ?_) (fun heq2 => ?_)
      · repeat (first|refine Wa ?_|refine Wb ?_|refine Wc ?_|refine Wd ?_|refine We rfl ?_|refine Wf (by first|exact Va|exact Vb|exact Vc|exact Vd|exact Ve|exact Vf|exact Vg|exact Vh|exact Vi|exact Vj|exact Vk (by omega)|exact Vl|exact Vm|exact Vn|exact Vo|exact Vp|exact Vq|exact Vr|exact Vs (by omega)|exact Vt (by omega)|exact Vu (by omega)|exact Vv (by omega)|exact Vw|exact Vx|exact Vy|exact Vz|exact VA|exact VB|exact VC|exact VD|exact VE|exact VF) rfl ?_|(refine Wg rfl ?_; intro _)|(refine Wh rfl ?_; intro _)|refine Wi ?_|refine Wj ?_|refine Wk ?_|refine Wl ?_|refine Wm ?_|refine Wn ?_|refine Wo ?_|refine Wp ?_|refine Wq rfl ?_|refine Wr ?_|refine Ws ?_|refine Wt ?_|refine Wu ?_|refine Wv rfl rfl ?_|(refine Ww rfl ⟨rfl, by decide, by decide, by decide⟩ ?_; intro _))
        refine CT.done () ?_ (fun w ho => ho.ent)
        have h3 : L.all fewC = false := by
          rw [← Bool.not_eq_true]
          intro h4
          exact hne (List.all_eq_true.1 h4 _ (List.getElem_mem hlt'))
        simp only [packed, fewL, h3, Bool.and_false]
      · repeat (first|refine Wa ?_|refine Wb ?_|refine Wc ?_|refine Wd ?_|refine We rfl ?_|refine Wf (by first|exact Va|exact Vb|exact Vc|exact Vd|exact Ve|exact Vf|exact Vg|exact Vh|exact Vi|exact Vj|exact Vk (by omega)|exact Vl|exact Vm|exact Vn|exact Vo|exact Vp|exact Vq|exact Vr|exact Vs (by omega)|exact Vt (by omega)|exact Vu (by omega)|exact Vv (by omega)|exact Vw|exact Vx|exact Vy|exact Vz|exact VA|exact VB|exact VC|exact VD|exact VE|exact VF) rfl ?_|(refine Wg rfl ?_; intro _)|(refine Wh rfl ?_; intro _)|refine Wi ?_|refine Wj ?_|refine Wk ?_|refine Wl ?_|refine Wm ?_|refine Wn ?_|refine Wo ?_|refine Wp ?_|refine Wq rfl ?_|refine Wr ?_|refine Ws ?_|refine Wt ?_|refine Wu ?_|refine Wv rfl rfl ?_|(refine Ww rfl ⟨rfl, by decide, by decide, by decide⟩ ?_; intro _))
        refine ⟨k0 + 1, ⟨by omega, ?_⟩, by omega, inferInstance⟩
        have heq2 : fewC L[k0] = true := by simpa using heq2
        rw [List.take_succ_eq_append_getElem hlt', List.all_append, heq]
        simp [heq2]
    · have hk0 : k0 = L.length := by omega
      subst hk0
      rw [List.take_length] at heq
      repeat (first|refine Wa ?_|refine Wb ?_|refine Wc ?_|refine Wd ?_|refine We rfl ?_|refine Wf (by first|exact Va|exact Vb|exact Vc|exact Vd|exact Ve|exact Vf|exact Vg|exact Vh|exact Vi|exact Vj|exact Vk (by omega)|exact Vl|exact Vm|exact Vn|exact Vo|exact Vp|exact Vq|exact Vr|exact Vs (by omega)|exact Vt (by omega)|exact Vu (by omega)|exact Vv (by omega)|exact Vw|exact Vx|exact Vy|exact Vz|exact VA|exact VB|exact VC|exact VD|exact VE|exact VF) rfl ?_|(refine Wg rfl ?_; intro _)|(refine Wh rfl ?_; intro _)|refine Wi ?_|refine Wj ?_|refine Wk ?_|refine Wl ?_|refine Wm ?_|refine Wn ?_|refine Wo ?_|refine Wp ?_|refine Wq rfl ?_|refine Wr ?_|refine Ws ?_|refine Wt ?_|refine Wu ?_|refine Wv rfl rfl ?_|(refine Ww rfl ⟨rfl, by decide, by decide, by decide⟩ ?_; intro _))
      refine CT.done () ?_ (fun w ho => ho.ent)
      simp only [packed, fewL, heq, h1, decide_true, Bool.and_self]
end Ab
end Go.Proofs.YtcmfemfndadfmaaGreat

/- Contracts: the laws' two commits. -/
namespace Go.Proofs.YtcmfemfndadfmaaGreat
namespace Ab
open Go Go.RowKit
set_option linter.unusedVariables false
set_option linter.unusedSimpArgs false
set_option synthInstance.maxSize 4000
set_option synthInstance.maxHeartbeats 400000
attribute [local irreducible] JC JO JR JQ andThen inBlock OpV Gives retTo JM JS

attribute [local irreducible] hashC
theorem Hold.pubRow {α : Type} [ic : Cell α] {w0 w : World} {F : Nat → Prop} {Γ : List Fact} {b : Nat} {t : TypeId} {vs : List Value} (r : List (α × Cell.Ix α)) (h : Hold w0 F (.own b t vs :: Γ) w) (hvs : vs = flat r)
    (hf : ∀ p ∈ r, ∀ A ∈ Cell.facts p.1 p.2, .st A ∈ Γ) (hl : r.length ≤ 1048576) : Hold w0 F (.st (sl (some ⟨b, 0, none⟩) r.length (r.map (·.1))) :: Γ) w := by
  have hw : w.heap[b]? = some (.cells vs.toArray t (0, 0)) := h.sat (.own b t _) (by simp)
  refine h.publish fun hk => ?_
  have hb := hk b (.inr rfl)
  refine ⟨by simp, by simp only [maxLen]; omega, by simp only [List.length_map, lim]; omega, fun hne => ⟨b, 0, rfl, hb, (Array.getElem?_eq_some_iff.1 hw).1, fun i hi => ?_⟩⟩
  have hi' : i < r.length := by simpa using hi
  refine ⟨(r[i]).2, ?_, fun A hA => ?_⟩
  · intro j v hv
    simp only [List.getElem_map] at hv
    have := flat_at r i hi' j v hv
    rw [cell_of_row w b _ _ _ _ hw, hvs]
    simpa using this
  · simp only [List.getElem_map] at hA
    exact h.tail.sat (.st A) (hf _ (List.getElem_mem hi') A hA)

def keyA : ByteArray := ⟨#[97]⟩
def l0 : Commit := ⟨⟨0, 1⟩, 1, [], ⟨0, keyA, .empty, 1⟩⟩
def idA : ID := (hashC l0).1
def l1 : Commit := ⟨⟨0, 2⟩, 2, [idA], ⟨0, keyA, .empty, 2⟩⟩

theorem some_law (w : World) (F : Nat → Prop) : GivesV Tryz.prog 76 [] w F (commitV l0 none 0) := by
  refine gives_of Tryz.func76 rfl Tryz.ntmps76 rfl rfl [] (.start w F) ?_
  repeat (first|refine Wa ?_|refine Wb ?_|refine Wc ?_|refine Wd ?_|refine We rfl ?_|refine Wf (by first|exact Va|exact Vb|exact Vc|exact Vd|exact Ve|exact Vf|exact Vg|exact Vh|exact Vi|exact Vj|exact Vk (by omega)|exact Vl|exact Vm|exact Vn|exact Vo|exact Vp|exact Vq|exact Vr|exact Vs (by omega)|exact Vt (by omega)|exact Vu (by omega)|exact Vv (by omega)|exact Vw|exact Vx|exact Vy|exact Vz|exact VA|exact VB|exact VC|exact VD|exact VE|exact VF) rfl ?_|(refine Wg rfl ?_; intro _)|(refine Wh rfl ?_; intro _)|refine Wi ?_|refine Wj ?_|refine Wk ?_|refine Wl ?_|refine Wm ?_|refine Wn ?_|refine Wo ?_|refine Wp ?_|refine Wq rfl ?_|refine Wr ?_|refine Ws ?_|refine Wt ?_|refine Wu ?_|refine Wv rfl rfl ?_|(refine Ww rfl ⟨rfl, by decide, by decide, by decide⟩ ?_; intro _))
  refine Wf (OpV.build [.int .i64 0, .int .i64 1] (by kernel_rfl)) rfl ?_
  repeat (first|refine Wa ?_|refine Wb ?_|refine Wc ?_|refine Wd ?_|refine We rfl ?_|refine Wf (by first|exact Va|exact Vb|exact Vc|exact Vd|exact Ve|exact Vf|exact Vg|exact Vh|exact Vi|exact Vj|exact Vk (by omega)|exact Vl|exact Vm|exact Vn|exact Vo|exact Vp|exact Vq|exact Vr|exact Vs (by omega)|exact Vt (by omega)|exact Vu (by omega)|exact Vv (by omega)|exact Vw|exact Vx|exact Vy|exact Vz|exact VA|exact VB|exact VC|exact VD|exact VE|exact VF) rfl ?_|(refine Wg rfl ?_; intro _)|(refine Wh rfl ?_; intro _)|refine Wi ?_|refine Wj ?_|refine Wk ?_|refine Wl ?_|refine Wm ?_|refine Wn ?_|refine Wo ?_|refine Wp ?_|refine Wq rfl ?_|refine Wr ?_|refine Ws ?_|refine Wt ?_|refine Wu ?_|refine Wv rfl rfl ?_|(refine Ww rfl ⟨rfl, by decide, by decide, by decide⟩ ?_; intro _))
  refine Wf (OpV.build [.int .i64 0, .string keyA, .string .empty, .int .i64 1] (by kernel_rfl)) rfl ?_
  repeat (first|refine Wa ?_|refine Wb ?_|refine Wc ?_|refine Wd ?_|refine We rfl ?_|refine Wf (by first|exact Va|exact Vb|exact Vc|exact Vd|exact Ve|exact Vf|exact Vg|exact Vh|exact Vi|exact Vj|exact Vk (by omega)|exact Vl|exact Vm|exact Vn|exact Vo|exact Vp|exact Vq|exact Vr|exact Vs (by omega)|exact Vt (by omega)|exact Vu (by omega)|exact Vv (by omega)|exact Vw|exact Vx|exact Vy|exact Vz|exact VA|exact VB|exact VC|exact VD|exact VE|exact VF) rfl ?_|(refine Wg rfl ?_; intro _)|(refine Wh rfl ?_; intro _)|refine Wi ?_|refine Wj ?_|refine Wk ?_|refine Wl ?_|refine Wm ?_|refine Wn ?_|refine Wo ?_|refine Wp ?_|refine Wq rfl ?_|refine Wr ?_|refine Ws ?_|refine Wt ?_|refine Wu ?_|refine Wv rfl rfl ?_|(refine Ww rfl ⟨rfl, by decide, by decide, by decide⟩ ?_; intro _))
  refine Wf (OpV.build [.int .i64 0, .int .i64 1, .int .i64 1, .slice none 0 0, .int .i64 0, .string keyA, .string .empty, .int .i64 1] (by kernel_rfl)) rfl ?_
  repeat (first|refine Wa ?_|refine Wb ?_|refine Wc ?_|refine Wd ?_|refine We rfl ?_|refine Wf (by first|exact Va|exact Vb|exact Vc|exact Vd|exact Ve|exact Vf|exact Vg|exact Vh|exact Vi|exact Vj|exact Vk (by omega)|exact Vl|exact Vm|exact Vn|exact Vo|exact Vp|exact Vq|exact Vr|exact Vs (by omega)|exact Vt (by omega)|exact Vu (by omega)|exact Vv (by omega)|exact Vw|exact Vx|exact Vy|exact Vz|exact VA|exact VB|exact VC|exact VD|exact VE|exact VF) rfl ?_|(refine Wg rfl ?_; intro _)|(refine Wh rfl ?_; intro _)|refine Wi ?_|refine Wj ?_|refine Wk ?_|refine Wl ?_|refine Wm ?_|refine Wn ?_|refine Wo ?_|refine Wp ?_|refine Wq rfl ?_|refine Wr ?_|refine Ws ?_|refine Wt ?_|refine Wu ?_|refine Wv rfl rfl ?_|(refine Ww rfl ⟨rfl, by decide, by decide, by decide⟩ ?_; intro _))
  exact CT.done () rfl (fun w ho => ho.ent)

set_option maxHeartbeats 1000000 in
theorem two_law (w : World) (F : Nat → Prop) : GivesSl Tryz.prog 41 [] w F [l0, l1] := by
  refine gives_of Tryz.func41 rfl Tryz.ntmps41 rfl rfl [] (.start w F) ?_
  repeat (first|refine Wa ?_|refine Wb ?_|refine Wc ?_|refine Wd ?_|refine We rfl ?_|refine Wf (by first|exact Va|exact Vb|exact Vc|exact Vd|exact Ve|exact Vf|exact Vg|exact Vh|exact Vi|exact Vj|exact Vk (by omega)|exact Vl|exact Vm|exact Vn|exact Vo|exact Vp|exact Vq|exact Vr|exact Vs (by omega)|exact Vt (by omega)|exact Vu (by omega)|exact Vv (by omega)|exact Vw|exact Vx|exact Vy|exact Vz|exact VA|exact VB|exact VC|exact VD|exact VE|exact VF) rfl ?_|(refine Wg rfl ?_; intro _)|(refine Wh rfl ?_; intro _)|refine Wi ?_|refine Wj ?_|refine Wk ?_|refine Wl ?_|refine Wm ?_|refine Wn ?_|refine Wo ?_|refine Wp ?_|refine Wq rfl ?_|refine Wr ?_|refine Ws ?_|refine Wt ?_|refine Wu ?_|refine Wv rfl rfl ?_|(refine Ww rfl ⟨rfl, by decide, by decide, by decide⟩ ?_; intro _))
  refine JR.callV rfl (fun w1 hw => some_law w1 _) ?_
  repeat (first|refine Wa ?_|refine Wb ?_|refine Wc ?_|refine Wd ?_|refine We rfl ?_|refine Wf (by first|exact Va|exact Vb|exact Vc|exact Vd|exact Ve|exact Vf|exact Vg|exact Vh|exact Vi|exact Vj|exact Vk (by omega)|exact Vl|exact Vm|exact Vn|exact Vo|exact Vp|exact Vq|exact Vr|exact Vs (by omega)|exact Vt (by omega)|exact Vu (by omega)|exact Vv (by omega)|exact Vw|exact Vx|exact Vy|exact Vz|exact VA|exact VB|exact VC|exact VD|exact VE|exact VF) rfl ?_|(refine Wg rfl ?_; intro _)|(refine Wh rfl ?_; intro _)|refine Wi ?_|refine Wj ?_|refine Wk ?_|refine Wl ?_|refine Wm ?_|refine Wn ?_|refine Wo ?_|refine Wp ?_|refine Wq rfl ?_|refine Wr ?_|refine Ws ?_|refine Wt ?_|refine Wu ?_|refine Wv rfl rfl ?_|(refine Ww rfl ⟨rfl, by decide, by decide, by decide⟩ ?_; intro _))
  rename_i b0
  refine JR.callV rfl (fun w1 hw => hash_commit w1 _ l0 none 0 sl_nil ⟨by decide, by decide⟩) ?_
  repeat (first|refine Wa ?_|refine Wb ?_|refine Wc ?_|refine Wd ?_|refine We rfl ?_|refine Wf (by first|exact Va|exact Vb|exact Vc|exact Vd|exact Ve|exact Vf|exact Vg|exact Vh|exact Vi|exact Vj|exact Vk (by omega)|exact Vl|exact Vm|exact Vn|exact Vo|exact Vp|exact Vq|exact Vr|exact Vs (by omega)|exact Vt (by omega)|exact Vu (by omega)|exact Vv (by omega)|exact Vw|exact Vx|exact Vy|exact Vz|exact VA|exact VB|exact VC|exact VD|exact VE|exact VF) rfl ?_|(refine Wg rfl ?_; intro _)|(refine Wh rfl ?_; intro _)|refine Wi ?_|refine Wj ?_|refine Wk ?_|refine Wl ?_|refine Wm ?_|refine Wn ?_|refine Wo ?_|refine Wp ?_|refine Wq rfl ?_|refine Wr ?_|refine Ws ?_|refine Wt ?_|refine Wu ?_|refine Wv rfl rfl ?_|(refine Ww rfl ⟨rfl, by decide, by decide, by decide⟩ ?_; intro _))
  refine Wf (OpV.build [.int .i64 0, .int .i64 2] (by kernel_rfl)) rfl ?_
  repeat (first|refine Wa ?_|refine Wb ?_|refine Wc ?_|refine Wd ?_|refine We rfl ?_|refine Wf (by first|exact Va|exact Vb|exact Vc|exact Vd|exact Ve|exact Vf|exact Vg|exact Vh|exact Vi|exact Vj|exact Vk (by omega)|exact Vl|exact Vm|exact Vn|exact Vo|exact Vp|exact Vq|exact Vr|exact Vs (by omega)|exact Vt (by omega)|exact Vu (by omega)|exact Vv (by omega)|exact Vw|exact Vx|exact Vy|exact Vz|exact VA|exact VB|exact VC|exact VD|exact VE|exact VF) rfl ?_|(refine Wg rfl ?_; intro _)|(refine Wh rfl ?_; intro _)|refine Wi ?_|refine Wj ?_|refine Wk ?_|refine Wl ?_|refine Wm ?_|refine Wn ?_|refine Wo ?_|refine Wp ?_|refine Wq rfl ?_|refine Wr ?_|refine Ws ?_|refine Wt ?_|refine Wu ?_|refine Wv rfl rfl ?_|(refine Ww rfl ⟨rfl, by decide, by decide, by decide⟩ ?_; intro _))
  rename_i bi bl
  refine Wf (OpV.build [.int .i64 0, .string keyA, .string .empty, .int .i64 2] (by kernel_rfl)) rfl ?_
  repeat (first|refine Wa ?_|refine Wb ?_|refine Wc ?_|refine Wd ?_|refine We rfl ?_|refine Wf (by first|exact Va|exact Vb|exact Vc|exact Vd|exact Ve|exact Vf|exact Vg|exact Vh|exact Vi|exact Vj|exact Vk (by omega)|exact Vl|exact Vm|exact Vn|exact Vo|exact Vp|exact Vq|exact Vr|exact Vs (by omega)|exact Vt (by omega)|exact Vu (by omega)|exact Vv (by omega)|exact Vw|exact Vx|exact Vy|exact Vz|exact VA|exact VB|exact VC|exact VD|exact VE|exact VF) rfl ?_|(refine Wg rfl ?_; intro _)|(refine Wh rfl ?_; intro _)|refine Wi ?_|refine Wj ?_|refine Wk ?_|refine Wl ?_|refine Wm ?_|refine Wn ?_|refine Wo ?_|refine Wp ?_|refine Wq rfl ?_|refine Wr ?_|refine Ws ?_|refine Wt ?_|refine Wu ?_|refine Wv rfl rfl ?_|(refine Ww rfl ⟨rfl, by decide, by decide, by decide⟩ ?_; intro _))
  refine Wf (OpV.build [.int .i64 0, .int .i64 2, .int .i64 2, .slice (some ⟨bl, 0, none⟩) 1 1, .int .i64 0, .string keyA, .string .empty, .int .i64 2] (by kernel_rfl)) rfl ?_
  repeat (first|refine Wa ?_|refine Wb ?_|refine Wc ?_|refine Wd ?_|refine We rfl ?_|refine Wf (by first|exact Va|exact Vb|exact Vc|exact Vd|exact Ve|exact Vf|exact Vg|exact Vh|exact Vi|exact Vj|exact Vk (by omega)|exact Vl|exact Vm|exact Vn|exact Vo|exact Vp|exact Vq|exact Vr|exact Vs (by omega)|exact Vt (by omega)|exact Vu (by omega)|exact Vv (by omega)|exact Vw|exact Vx|exact Vy|exact Vz|exact VA|exact VB|exact VC|exact VD|exact VE|exact VF) rfl ?_|(refine Wg rfl ?_; intro _)|(refine Wh rfl ?_; intro _)|refine Wi ?_|refine Wj ?_|refine Wk ?_|refine Wl ?_|refine Wm ?_|refine Wn ?_|refine Wo ?_|refine Wp ?_|refine Wq rfl ?_|refine Wr ?_|refine Ws ?_|refine Wt ?_|refine Wu ?_|refine Wv rfl rfl ?_|(refine Ww rfl ⟨rfl, by decide, by decide, by decide⟩ ?_; intro _))
  rename_i lb
  refine CT.done (some ⟨lb, 0, none⟩, 2) rfl (fun w ho => ?_)
  have h0 : Hold _ _ [.own bl 48 (idc (hashC l0).1), .own lb 29 [.int .i64 l0.ev.node, .int .i64 l0.ev.seq, .int .i64 l0.gen, .slice none l0.parents.length 0, .int .i64 l0.op.kind, .string l0.op.key, .string l0.op.elem, .int .i64 l0.op.n, .int .i64 0, .int .i64 2, .int .i64 2, .slice (some ⟨bl, 0, none⟩) 1 1, .int .i64 0, .string keyA, .string .empty, .int .i64 2]] w := ho.ent
  have h1 : Hold _ _ [.own bl 48 (idc idA), .own lb 29 (commitCells l0 none 0 ++ commitCells l1 (some ⟨bl, 0, none⟩) 1)] w := h0
  have h2 := Hold.pubRow [(idA, (() : Cell.Ix ID))] h1 (by simp [flat]; rfl) (by simp [Cell.facts]) (by decide)
  have h3 : Hold _ _ [.own lb 29 (commitCells l0 none 0 ++ commitCells l1 (some ⟨bl, 0, none⟩) 1), .st (sl (some ⟨bl, 0, none⟩) 1 [idA])] w := h2.perm (List.Perm.swap _ _ _)
  have h4 : Hold _ _ (.own lb 29 (commitCells l0 none 0 ++ commitCells l1 (some ⟨bl, 0, none⟩) 1) :: [.st (sl none 0 ([] : List ID)), .st (sl (some ⟨bl, 0, none⟩) 1 [idA])]) w :=
    (h3.add (A := sl none 0 ([] : List ID)) sl_nil).perm (List.Perm.swap _ _ _)
  have h5 := Hold.pubRow [(l0, ((none, 0) : Cell.Ix Commit)), (l1, ((some ⟨bl, 0, none⟩, 1) : Cell.Ix Commit))] h4 (by simp [flat]; rfl) (by simp [Cell.facts, l0, l1]) (by simp)
  exact Hold.left (Γ := [.st (sl (some ⟨lb, 0, none⟩) 2 [l0, l1])]) h5
end Ab
end Go.Proofs.YtcmfemfndadfmaaGreat

/- The laws' example: its two commits have two ids (evaluated by the kernel); awake returns true. -/
namespace Go.Proofs.YtcmfemfndadfmaaGreat
namespace Ab
open Go Go.RowKit
set_option linter.unusedVariables false
set_option linter.unusedSimpArgs false
set_option synthInstance.maxSize 4000
set_option synthInstance.maxHeartbeats 400000
attribute [local irreducible] JC JO JR JQ andThen inBlock OpV Gives retTo JM JS

theorem may_l0 : may l0 = true := by decide +kernel
theorem idA_eq : idA = sumI (commitPut l0) := by simp only [idA, hashC, may_l0, if_true]
theorem hash_l0 : hashC l0 = (idA, 0) := by
  have h : (hashC l0).2 = 0 := by simp only [hashC, may_l0, if_true]
  rw [← h]; rfl
set_option maxRecDepth 100000 in
theorem may_l1 : may l1 = true := by decide +kernel
def idB : ID := (hashC l1).1
theorem hash_l1 : hashC l1 = (idB, 0) := by
  have h : (hashC l1).2 = 0 := by simp only [hashC, may_l1, if_true]
  rw [← h]; rfl
set_option maxRecDepth 100000 in
theorem sums_differ : sumL (commitPut l0) ≠ sumL (commitPut l1) := by decide +kernel
theorem idA_ne : idA ≠ idB := by
  intro h
  have h1 : idB = sumI (commitPut l1) := by simp only [idB, hashC, may_l1, if_true]
  rw [idA_eq, h1] at h
  exact sums_differ (congrArg (·.1) h)
theorem some_one (x : ID) (M : List ID) (h : x ∉ M) : someIds [x] M false = [x] := by
  simp [someIds, pickIds, setOf, h, addK, sortL]
theorem some_none (x : ID) (M : List ID) (h : x ∈ M) : someIds [x] M false = [] := by
  simp [someIds, pickIds, setOf, h, addK, sortL]
theorem put_l1 : waitPut [] l1 = [l1] := by
  have h : merge l1 = false := by simp [merge, l1]
  simp [waitPut, may_l1, h]
theorem hashes_l1 : hashes [l1] = [idB] := by simp [hashes, hashO, hash_l1]
theorem miss_l1 : missL [l1] [] = [idA] := by
  rw [missL, hashes_l1]
  exact some_one idA _ (by simpa using idA_ne)
theorem ready_no : waitReady [l1] [] = (commit0, [l1], false) := by
  have h : isReady [] l1 = false := by
    have := some_one idA [] (by simp)
    simp [isReady, l1, this]
  simp [waitReady, List.findIdx?_cons, h]
theorem ready_yes : waitReady [l1] [idA] = (l1, [], true) := by
  have h : isReady [idA] l1 = true := by
    have := some_none idA [idA] (by simp)
    simp [isReady, l1, this]
  simp [waitReady, List.findIdx?_cons, h]
theorem texts_l0 : texts l0 := ⟨by decide, by decide⟩
theorem par_l1 : l1.parents.length = 1 := rfl
theorem fine_l1 : fine l1 := ⟨⟨by decide, by decide⟩, by simp [l1]⟩
attribute [local irreducible] hashC idA l0 l1

theorem put_1st (w : World) (F : Nat → Prop) (b : Option Addr) (m : Nat) (h : (sl b m l1.parents).holds F w) : GivesSl Tryz.prog 14 [.slice none 0 0, commitV l1 b m] w F [l1] := by
  have := put_wait w F none b 0 m [] l1 sl_nil h (by decide) (by simp) fine_l1
  rw [put_l1] at this
  exact this
theorem hash_1st (w : World) (F : Nat → Prop) (a : Option Addr) (k : Nat) (h : (sl a k l0.parents).holds F w) : GivesV Tryz.prog 39 [commitV l0 a k] w F (.tuple ⟨[.agg ⟨idc idA⟩, .int .i64 0]⟩) := by
  have := hash_commit w F l0 a k h texts_l0
  rw [hash_l0] at this
  exact this
theorem miss_1st (w : World) (F : Nat → Prop) (a : Option Addr) (k : Nat) (h : (sl a k [l1]).holds F w) : GivesBuf Tryz.prog 20 [.slice a [l1].length k, .slice none 0 0] w F 48 [idA] := by
  have := missing_wait w F a none k 0 [l1] [] h sl_nil (by decide) (by simp [parentsL, par_l1]) (by simp [fine_l1])
  rw [miss_l1] at this
  exact this
theorem ready_1st (w : World) (F : Nat → Prop) (a : Option Addr) (k : Nat) (h : (sl a k [l1]).holds F w) :
    Gives Tryz.prog 16 [.slice a [l1].length k, .slice none 0 0] w F
      (fun y : (Option Addr × Nat) × (Option Addr × Nat) => .tuple ⟨[commitV commit0 y.1.1 y.1.2, .slice y.2.1 [l1].length y.2.2, .bool false]⟩) (fun y => [.st (sl y.1.1 y.1.2 commit0.parents), .st (sl y.2.1 y.2.2 [l1])]) := by
  have := ready_wait w F a none k 0 [l1] [] h sl_nil (by simp) (by simp [fine_l1])
  rw [ready_no] at this
  exact this
theorem ready_2nd (w : World) (F : Nat → Prop) (a b : Option Addr) (k m : Nat) (h : (sl a k [l1]).holds F w) (h' : (sl b m [idA]).holds F w) :
    Gives Tryz.prog 16 [.slice a [l1].length k, .slice b [idA].length m] w F
      (fun y : (Option Addr × Nat) × (Option Addr × Nat) => .tuple ⟨[commitV l1 y.1.1 y.1.2, .slice y.2.1 ([] : List Commit).length y.2.2, .bool true]⟩) (fun y => [.st (sl y.1.1 y.1.2 l1.parents), .st (sl y.2.1 y.2.2 ([] : List Commit))]) := by
  have := ready_wait w F a b k m [l1] [idA] h h' (by simp) (by simp [fine_l1])
  rw [ready_yes] at this
  exact this

theorem sl_of_ro {F : Nat → Prop} {w : World} {b : Nat} {x : ID} (h : (ro b 0 (idc x)).holds F w) : (sl (some ⟨b, 0, none⟩) 1 [x]).holds F w := by
  refine ⟨by simp, by simp [maxLen], by simp [lim], fun _ => ⟨b, 0, rfl, h.1, h.2.1, fun i hi => ⟨(), ?_, by simp [Cell.facts]⟩⟩⟩
  have h0 : i = 0 := by simpa using hi
  subst h0
  rw [Nat.zero_mul, Nat.add_zero]
  exact h.2.2

set_option maxHeartbeats 4000000 in
theorem awake_wait (w : World) (F : Nat → Prop) : GivesV Tryz.prog 10 [] w F (.bool true) := by
  refine gives_of Tryz.func10 rfl Tryz.ntmps10 rfl rfl [] (.start w F) ?_
  repeat (first|refine Wa ?_|refine Wb ?_|refine Wc ?_|refine Wd ?_|refine We rfl ?_|refine Wf (by first|exact Va|exact Vb|exact Vc|exact Vd|exact Ve|exact Vf|exact Vg|exact Vh|exact Vi|exact Vj|exact Vk (by omega)|exact Vl|exact Vm|exact Vn|exact Vo|exact Vp|exact Vq|exact Vr|exact Vs (by omega)|exact Vt (by omega)|exact Vu (by omega)|exact Vv (by omega)|exact Vw|exact Vx|exact Vy|exact Vz|exact VA|exact VB|exact VC|exact VD|exact VE|exact VF) rfl ?_|(refine Wg rfl ?_; intro _)|(refine Wh rfl ?_; intro _)|refine Wi ?_|refine Wj ?_|refine Wk ?_|refine Wl ?_|refine Wm ?_|refine Wn ?_|refine Wo ?_|refine Wp ?_|refine Wq rfl ?_|refine Wr ?_|refine Ws ?_|refine Wt ?_|refine Wu ?_|refine Wv rfl rfl ?_|(refine Ww rfl ⟨rfl, by decide, by decide, by decide⟩ ?_; intro _))
  refine JR.callSl (L := [l0, l1]) rfl (fun w1 hw => two_law w1 _) ?_
  intro al cl
  repeat (first|refine Wa ?_|refine Wb ?_|refine Wc ?_|refine Wd ?_|refine We rfl ?_|refine Wf (by first|exact Va|exact Vb|exact Vc|exact Vd|exact Ve|exact Vf|exact Vg|exact Vh|exact Vi|exact Vj|exact Vk (by omega)|exact Vl|exact Vm|exact Vn|exact Vo|exact Vp|exact Vq|exact Vr|exact Vs (by omega)|exact Vt (by omega)|exact Vu (by omega)|exact Vv (by omega)|exact Vw|exact Vx|exact Vy|exact Vz|exact VA|exact VB|exact VC|exact VD|exact VE|exact VF) rfl ?_|(refine Wg rfl ?_; intro _)|(refine Wh rfl ?_; intro _)|refine Wi ?_|refine Wj ?_|refine Wk ?_|refine Wl ?_|refine Wm ?_|refine Wn ?_|refine Wo ?_|refine Wp ?_|refine Wq rfl ?_|refine Wr ?_|refine Ws ?_|refine Wt ?_|refine Wu ?_|refine Wv rfl rfl ?_|(refine Ww rfl ⟨rfl, by decide, by decide, by decide⟩ ?_; intro _))
  refine JR.indexCommit (L := [l0, l1]) (k := 1) rfl (by decide) ?_
  intro b1 o1 p1 q1
  simp only [List.getElem_cons_succ, List.getElem_cons_zero]
  repeat (first|refine Wa ?_|refine Wb ?_|refine Wc ?_|refine Wd ?_|refine We rfl ?_|refine Wf (by first|exact Va|exact Vb|exact Vc|exact Vd|exact Ve|exact Vf|exact Vg|exact Vh|exact Vi|exact Vj|exact Vk (by omega)|exact Vl|exact Vm|exact Vn|exact Vo|exact Vp|exact Vq|exact Vr|exact Vs (by omega)|exact Vt (by omega)|exact Vu (by omega)|exact Vv (by omega)|exact Vw|exact Vx|exact Vy|exact Vz|exact VA|exact VB|exact VC|exact VD|exact VE|exact VF) rfl ?_|(refine Wg rfl ?_; intro _)|(refine Wh rfl ?_; intro _)|refine Wi ?_|refine Wj ?_|refine Wk ?_|refine Wl ?_|refine Wm ?_|refine Wn ?_|refine Wo ?_|refine Wp ?_|refine Wq rfl ?_|refine Wr ?_|refine Ws ?_|refine Wt ?_|refine Wu ?_|refine Wv rfl rfl ?_|(refine Ww rfl ⟨rfl, by decide, by decide, by decide⟩ ?_; intro _))
  refine JR.callSl (L := [l1]) rfl (fun w1 hw => put_1st w1 _ p1 q1 hw.get) ?_
  intro aw cw
  repeat (first|refine Wa ?_|refine Wb ?_|refine Wc ?_|refine Wd ?_|refine We rfl ?_|refine Wf (by first|exact Va|exact Vb|exact Vc|exact Vd|exact Ve|exact Vf|exact Vg|exact Vh|exact Vi|exact Vj|exact Vk (by omega)|exact Vl|exact Vm|exact Vn|exact Vo|exact Vp|exact Vq|exact Vr|exact Vs (by omega)|exact Vt (by omega)|exact Vu (by omega)|exact Vv (by omega)|exact Vw|exact Vx|exact Vy|exact Vz|exact VA|exact VB|exact VC|exact VD|exact VE|exact VF) rfl ?_|(refine Wg rfl ?_; intro _)|(refine Wh rfl ?_; intro _)|refine Wi ?_|refine Wj ?_|refine Wk ?_|refine Wl ?_|refine Wm ?_|refine Wn ?_|refine Wo ?_|refine Wp ?_|refine Wq rfl ?_|refine Wr ?_|refine Ws ?_|refine Wt ?_|refine Wu ?_|refine Wv rfl rfl ?_|(refine Ww rfl ⟨rfl, by decide, by decide, by decide⟩ ?_; intro _))
  refine JR.indexCommit (L := [l0, l1]) (k := 0) rfl (by decide) ?_
  intro b2 o2 p2 q2
  simp only [List.getElem_cons_succ, List.getElem_cons_zero]
  repeat (first|refine Wa ?_|refine Wb ?_|refine Wc ?_|refine Wd ?_|refine We rfl ?_|refine Wf (by first|exact Va|exact Vb|exact Vc|exact Vd|exact Ve|exact Vf|exact Vg|exact Vh|exact Vi|exact Vj|exact Vk (by omega)|exact Vl|exact Vm|exact Vn|exact Vo|exact Vp|exact Vq|exact Vr|exact Vs (by omega)|exact Vt (by omega)|exact Vu (by omega)|exact Vv (by omega)|exact Vw|exact Vx|exact Vy|exact Vz|exact VA|exact VB|exact VC|exact VD|exact VE|exact VF) rfl ?_|(refine Wg rfl ?_; intro _)|(refine Wh rfl ?_; intro _)|refine Wi ?_|refine Wj ?_|refine Wk ?_|refine Wl ?_|refine Wm ?_|refine Wn ?_|refine Wo ?_|refine Wp ?_|refine Wq rfl ?_|refine Wr ?_|refine Ws ?_|refine Wt ?_|refine Wu ?_|refine Wv rfl rfl ?_|(refine Ww rfl ⟨rfl, by decide, by decide, by decide⟩ ?_; intro _))
  refine JR.callV rfl (fun w1 hw => hash_1st w1 _ p2 q2 hw.get) ?_
  repeat (first|refine Wa ?_|refine Wb ?_|refine Wc ?_|refine Wd ?_|refine We rfl ?_|refine Wf (by first|exact Va|exact Vb|exact Vc|exact Vd|exact Ve|exact Vf|exact Vg|exact Vh|exact Vi|exact Vj|exact Vk (by omega)|exact Vl|exact Vm|exact Vn|exact Vo|exact Vp|exact Vq|exact Vr|exact Vs (by omega)|exact Vt (by omega)|exact Vu (by omega)|exact Vv (by omega)|exact Vw|exact Vx|exact Vy|exact Vz|exact VA|exact VB|exact VC|exact VD|exact VE|exact VF) rfl ?_|(refine Wg rfl ?_; intro _)|(refine Wh rfl ?_; intro _)|refine Wi ?_|refine Wj ?_|refine Wk ?_|refine Wl ?_|refine Wm ?_|refine Wn ?_|refine Wo ?_|refine Wp ?_|refine Wq rfl ?_|refine Wr ?_|refine Ws ?_|refine Wt ?_|refine Wu ?_|refine Wv rfl rfl ?_|(refine Ww rfl ⟨rfl, by decide, by decide, by decide⟩ ?_; intro _))
  rename_i bh
  refine JR.callBuf (L := [idA]) rfl (fun w1 hw => miss_1st w1 _ aw cw hw.get) ?_
  intro am cm
  refine JO.more (fun w1 ho => ho.pub) ?_
  repeat (first|refine Wa ?_|refine Wb ?_|refine Wc ?_|refine Wd ?_|refine We rfl ?_|refine Wf (by first|exact Va|exact Vb|exact Vc|exact Vd|exact Ve|exact Vf|exact Vg|exact Vh|exact Vi|exact Vj|exact Vk (by omega)|exact Vl|exact Vm|exact Vn|exact Vo|exact Vp|exact Vq|exact Vr|exact Vs (by omega)|exact Vt (by omega)|exact Vu (by omega)|exact Vv (by omega)|exact Vw|exact Vx|exact Vy|exact Vz|exact VA|exact VB|exact VC|exact VD|exact VE|exact VF) rfl ?_|(refine Wg rfl ?_; intro _)|(refine Wh rfl ?_; intro _)|refine Wi ?_|refine Wj ?_|refine Wk ?_|refine Wl ?_|refine Wm ?_|refine Wn ?_|refine Wo ?_|refine Wp ?_|refine Wq rfl ?_|refine Wr ?_|refine Ws ?_|refine Wt ?_|refine Wu ?_|refine Wv rfl rfl ?_|(refine Ww rfl ⟨rfl, by decide, by decide, by decide⟩ ?_; intro _))
  refine JR.call2 (v := fun y : (Option Addr × Nat) × (Option Addr × Nat) => .tuple ⟨[commitV commit0 y.1.1 y.1.2, .slice y.2.1 [l1].length y.2.2, .bool false]⟩) rfl (fun w1 hw => ready_1st w1 _ aw cw hw.get) ?_
  rintro ⟨⟨ac0, kc0⟩, ⟨ar0, kr0⟩⟩
  repeat (first|refine Wa ?_|refine Wb ?_|refine Wc ?_|refine Wd ?_|refine We rfl ?_|refine Wf (by first|exact Va|exact Vb|exact Vc|exact Vd|exact Ve|exact Vf|exact Vg|exact Vh|exact Vi|exact Vj|exact Vk (by omega)|exact Vl|exact Vm|exact Vn|exact Vo|exact Vp|exact Vq|exact Vr|exact Vs (by omega)|exact Vt (by omega)|exact Vu (by omega)|exact Vv (by omega)|exact Vw|exact Vx|exact Vy|exact Vz|exact VA|exact VB|exact VC|exact VD|exact VE|exact VF) rfl ?_|(refine Wg rfl ?_; intro _)|(refine Wh rfl ?_; intro _)|refine Wi ?_|refine Wj ?_|refine Wk ?_|refine Wl ?_|refine Wm ?_|refine Wn ?_|refine Wo ?_|refine Wp ?_|refine Wq rfl ?_|refine Wr ?_|refine Ws ?_|refine Wt ?_|refine Wu ?_|refine Wv rfl rfl ?_|(refine Ww rfl ⟨rfl, by decide, by decide, by decide⟩ ?_; intro _))
  rename_i bc0 lb
  refine JR.pubOwn lb ?_
  refine JR.call2 (v := fun y : (Option Addr × Nat) × (Option Addr × Nat) => .tuple ⟨[commitV l1 y.1.1 y.1.2, .slice y.2.1 ([] : List Commit).length y.2.2, .bool true]⟩) rfl (fun w1 hw => ready_2nd w1 _ aw (some ⟨lb, 0, none⟩) cw 1 hw.get (sl_of_ro hw.get)) ?_
  rintro ⟨⟨ac1, kc1⟩, ⟨ar1, kr1⟩⟩
  repeat (first|refine Wa ?_|refine Wb ?_|refine Wc ?_|refine Wd ?_|refine We rfl ?_|refine Wf (by first|exact Va|exact Vb|exact Vc|exact Vd|exact Ve|exact Vf|exact Vg|exact Vh|exact Vi|exact Vj|exact Vk (by omega)|exact Vl|exact Vm|exact Vn|exact Vo|exact Vp|exact Vq|exact Vr|exact Vs (by omega)|exact Vt (by omega)|exact Vu (by omega)|exact Vv (by omega)|exact Vw|exact Vx|exact Vy|exact Vz|exact VA|exact VB|exact VC|exact VD|exact VE|exact VF) rfl ?_|(refine Wg rfl ?_; intro _)|(refine Wh rfl ?_; intro _)|refine Wi ?_|refine Wj ?_|refine Wk ?_|refine Wl ?_|refine Wm ?_|refine Wn ?_|refine Wo ?_|refine Wp ?_|refine Wq rfl ?_|refine Wr ?_|refine Ws ?_|refine Wt ?_|refine Wu ?_|refine Wv rfl rfl ?_|(refine Ww rfl ⟨rfl, by decide, by decide, by decide⟩ ?_; intro _))
  rename_i bc1
  refine JC.openID (L := [idA]) (.slice am [idA].length cm) 0 (by decide) ?_
  intro b3 o3
  refine JC.openCommit (L := [l0, l1]) (.slice al [l0, l1].length cl) 1 (by decide) ?_
  intro b4 o4 p4 q4
  simp only [List.getElem_cons_succ, List.getElem_cons_zero]
  refine JC.quiet mixed (by kernel_rfl) ?_
  repeat (first|refine Wy rfl (by first|exact Va|exact Vb|exact Vc|exact Vd|exact Ve|exact Vf|exact Vg|exact Vh|exact Vi|exact Vj|exact Vk (by omega)|exact Vl|exact Vm|exact Vn|exact Vo|exact Vp|exact Vq|exact Vr|exact Vs (by omega)|exact Vt (by omega)|exact Vu (by omega)|exact Vv (by omega)|exact Vw|exact Vx|exact Vy|exact Vz|exact VA|exact VB|exact VC|exact VD|exact VE|exact VF) rfl ?_|refine Wz rfl rfl ?_|refine WB ?_)
  refine JQ.reslot 55 (.bool true) (by simp) ?_
  repeat (first|refine Wy rfl (by first|exact Va|exact Vb|exact Vc|exact Vd|exact Ve|exact Vf|exact Vg|exact Vh|exact Vi|exact Vj|exact Vk (by omega)|exact Vl|exact Vm|exact Vn|exact Vo|exact Vp|exact Vq|exact Vr|exact Vs (by omega)|exact Vt (by omega)|exact Vu (by omega)|exact Vv (by omega)|exact Vw|exact Vx|exact Vy|exact Vz|exact VA|exact VB|exact VC|exact VD|exact VE|exact VF) rfl ?_|refine Wz rfl rfl ?_|refine WB ?_)
  refine JQ.call rfl rfl (fun w1 hw => same_commit w1 _ l1 l1 ac1 p4 kc1 q4 hw.get hw.get) ?_
  refine JQ.reslot 67 (.bool true) (by simp) ?_
  repeat (first|refine Wy rfl (by first|exact Va|exact Vb|exact Vc|exact Vd|exact Ve|exact Vf|exact Vg|exact Vh|exact Vi|exact Vj|exact Vk (by omega)|exact Vl|exact Vm|exact Vn|exact Vo|exact Vp|exact Vq|exact Vr|exact Vs (by omega)|exact Vt (by omega)|exact Vu (by omega)|exact Vv (by omega)|exact Vw|exact Vx|exact Vy|exact Vz|exact VA|exact VB|exact VC|exact VD|exact VE|exact VF) rfl ?_|refine Wz rfl rfl ?_|refine WB ?_)
  repeat (first|refine Wa ?_|refine Wb ?_|refine Wc ?_|refine Wd ?_|refine We rfl ?_|refine Wf (by first|exact Va|exact Vb|exact Vc|exact Vd|exact Ve|exact Vf|exact Vg|exact Vh|exact Vi|exact Vj|exact Vk (by omega)|exact Vl|exact Vm|exact Vn|exact Vo|exact Vp|exact Vq|exact Vr|exact Vs (by omega)|exact Vt (by omega)|exact Vu (by omega)|exact Vv (by omega)|exact Vw|exact Vx|exact Vy|exact Vz|exact VA|exact VB|exact VC|exact VD|exact VE|exact VF) rfl ?_|(refine Wg rfl ?_; intro _)|(refine Wh rfl ?_; intro _)|refine Wi ?_|refine Wj ?_|refine Wk ?_|refine Wl ?_|refine Wm ?_|refine Wn ?_|refine Wo ?_|refine Wp ?_|refine Wq rfl ?_|refine Wr ?_|refine Ws ?_|refine Wt ?_|refine Wu ?_|refine Wv rfl rfl ?_|(refine Ww rfl ⟨rfl, by decide, by decide, by decide⟩ ?_; intro _))
  exact CT.done () rfl (fun w ho => ho.ent)
end Ab
end Go.Proofs.YtcmfemfndadfmaaGreat

/- Few commits are fine; wait.Ready with its result named. -/
namespace Go.Proofs.YtcmfemfndadfmaaGreat
namespace Ab
open Go Go.RowKit
set_option linter.unusedVariables false
set_option linter.unusedSimpArgs false
set_option synthInstance.maxSize 4000
set_option synthInstance.maxHeartbeats 400000
attribute [local irreducible] JC JO JR JQ andThen inBlock OpV Gives retTo JM JS

attribute [local irreducible] hashC
theorem ready_to (w : World) (F : Nat → Prop) (a b : Option Addr) (k m : Nat) (L : List Commit) (H : List ID) (rc : Commit) (rl : List Commit) (rb : Bool) (hR : waitReady L H = (rc, rl, rb)) (h : (sl a k L).holds F w) (h' : (sl b m H).holds F w) (hl : L.length < 34359738368) (hf : ∀ x ∈ L, fine x) :
    Gives Tryz.prog 16 [.slice a L.length k, .slice b H.length m] w F
      (fun y : (Option Addr × Nat) × (Option Addr × Nat) => .tuple ⟨[commitV rc y.1.1 y.1.2, .slice y.2.1 rl.length y.2.2, .bool rb]⟩)
      (fun y => [.st (sl y.1.1 y.1.2 rc.parents), .st (sl y.2.1 y.2.2 rl)]) := by
  have := ready_wait w F a b k m L H h h' hl hf
  rw [hR] at this
  exact this
theorem fine_few {c : Commit} (h : fewC c = true) : fine c := by
  simp only [fewC, Bool.and_eq_true, decide_eq_true_eq] at h
  exact ⟨⟨by omega, by omega⟩, by omega⟩
theorem few_fine {L : List Commit} {m : Nat} (h : fewL L m = true) : L.length ≤ m ∧ ∀ x ∈ L, fine x := by
  simp only [fewL, Bool.and_eq_true, decide_eq_true_eq, List.all_eq_true] at h
  exact ⟨h.1, fun x hx => fine_few (h.2 x hx)⟩

theorem parents_fewL {L : List Commit} (h : ∀ c ∈ L, fewC c = true) : (parentsL L).length ≤ L.length * 20 := by
  induction L with
  | nil => simp [parentsL]
  | cons c L ih =>
    have h1 := ih (fun d hd => h d (List.mem_cons_of_mem _ hd))
    have h2 := h c (List.mem_cons_self ..)
    simp only [fewC, Bool.and_eq_true, decide_eq_true_eq] at h2
    simp only [parentsL, List.flatMap_cons, List.length_append, List.length_cons] at h1 ⊢
    omega
theorem few_parents {L : List Commit} {m : Nat} (h : fewL L m = true) : ∀ c ∈ L, c.parents.length ≤ 20 := by
  simp only [fewL, Bool.and_eq_true, decide_eq_true_eq, List.all_eq_true] at h
  intro c hc
  have := h.2 c hc
  simp only [fewC, Bool.and_eq_true, decide_eq_true_eq] at this
  omega
end Ab
end Go.Proofs.YtcmfemfndadfmaaGreat

/- x[l:] of a slice that is read, as a value. Program-independent. -/
namespace Go.Proofs.YtcmfemfndadfmaaGreat
namespace Ab
open Go Go.RowKit
set_option linter.unusedVariables false
set_option linter.unusedSimpArgs false
section
variable {P : Program} {n : Nat} {w0 : World} {F : Nat → Prop} {ops : Array Oper} {i d : Nat} {t : TypeId} {pos : String} {aft : Array Edge} {g : Option (Nat × Bool)} {os : List Oper} {Q : Cont} {e : E} {Γ : List Fact} [Dr]

/-- Where x[l:] begins. -/
def fromA (a0 : Option Addr) (c l s : Nat) : Option Addr := if c - l = 0 ∧ c = l then a0 else a0.map (·.add (l * s))
theorem OpV.sliceFromA {x lo : Operand} {a0 : Option Addr} {m c l s : Nat} {kk : IntKind} {j : Int} {ty el : TypeId} {ed : TypeDesc} {sz by_ es eb : Nat} {z ez : Value} {d : Option Nat}
    [hx : Ev e x (.slice a0 m c)] [hi : Ev e lo (.int kk j)] [hk : NatI j l] [hT : Ty P ty (.slice el) sz by_ z] [hE : Ty P el ed es eb ez] (hes : es = s) (h : ∀ w, Hold w0 F Γ w → l ≤ m ∧ m ≤ c) :
    OpV P n w0 F ⟨d, .slice ty x (some lo) none none, t, pos, aft, g⟩ e Γ (.slice (fromA a0 c l s) (m - l) (c - l)) :=
  fun a w fr ho => by
    have hlc := h w ho
    have h1 := run_und (P := P) (t := ty) w
    have h2 := run_size (P := P) (t := el) w
    have hj := hk.ok
    subst hj hes
    have hb : (Instr.sliceBound (.int kk (l : Int)) m .sliceB).run P w = .ok l w := by
      simp [Instr.sliceBound, asIntOf]
      omega
    simp [execOp, hx.ok n a fr, hi.ok n a fr, Instr.sliceAt, Instr.slice, h1, h2, Instr.sliceBounds, hb, fromA]
    by_cases hck : c = l
    · simp [hck]
    · rw [if_neg hck, if_neg (by omega)]
end
section
variable {P : Program} {n : Nat} {w0 : World} {F : Nat → Prop} {ops : Array Oper} {i d : Nat} {t : TypeId} {pos : String} {aft : Array Edge} {g : Option (Nat × Bool)} {os : List Oper} {Q : Cont} {e : E} {Γ : List Fact}
theorem sl_from {α : Type} [ic : Cell α] {G : Nat → Prop} {w : World} {a : Option Addr} {c : Nat} {L : List α} (h : (sl a c L).holds G w) {k : Nat} (hk : k ≤ L.length) : (sl (fromA a c k (Cell.sz α)) (c - k) (L.drop k)).holds G w := sl_drop h hk
end
section
variable {P : Program} {n : Nat} {w0 : World} {F : Nat → Prop} {ops : Array Oper} {i d : Nat} {t : TypeId} {pos : String} {aft : Array Edge} {g : Option (Nat × Bool)} {os : List Oper} {Q : Cont} {e : E} {Γ : List Fact} [Dr]

/-- append([]T(nil), y...), which leaves what was there. -/
theorem JS.appendNil {α : Type} [ic : Cell α] {x y : Operand} {u : Value} {L' : List α} {el ty : TypeId} {ed : TypeDesc} {sz by_ es eb : Nat} {z ez : Value} {ecs : List Value} {K : E → List Fact → Prop}
    [hx : Ev e x (.slice none 0 0)] [hy : Ev e y u] [hS : HasSl Γ u α ic L'] [hT : Ty P ty (.slice el) sz by_ z] [hE : Ty P el ed es eb ez] [hz : Cel ez ecs]
    (hd : Nat.blt d n = true) (hes : es = Cell.sz α ∧ ecs.length = es ∧ eb ≤ 4096) (hl : L'.length ≤ 34359738368)
    (k : ∀ a c, K ((d, .slice a L'.length c) :: e) (.res (buf a c el L') :: Γ)) :
    JS P n w0 F ⟨some d, .call ⟨.builtin .append, #[x, y], #[ty, ty]⟩, t, pos, aft, g⟩ e Γ K :=
  JS.value hd fun a w fr ho => by
    obtain ⟨a1, c1, rfl, hsl⟩ := hS.holds ho
    by_cases hL : L' = []
    · subst hL
      obtain ⟨ti, hti, hti1, hti2, hti3⟩ := hE.some
      refine ⟨.slice none 0 0, w, _, ?_, Bel.refl _ _, ho.res (R := buf (α := α) none 0 el []) (fun k hk => by obtain ⟨a, h, _⟩ := hk; cases h) buf_nil, k none 0⟩
      cases a1 <;> simp [execOp, resolve_builtin, invoke, builtin, hx.ok n a fr, hy.ok n a fr, Builtin.append_, run_underlying hT.und, sizeOf, typeInfo, hti, Builtin.lenOf, Builtin.firstCells, loadCells, loadCellsFrom]
    · obtain ⟨b, off, rfl, hF, hlt, hrow⟩ := hsl.2.2.2 hL
      obtain ⟨r, hr1, hr2, hr3⟩ := row_list L' off hrow
      have hm : r.length = L'.length := by rw [← hr1]; simp
      obtain ⟨ti, hti, hti1, hti2, hti3⟩ := hE.some
      have hfl : (flat r).length = L'.length * ti.size := by rw [flat_length, hm, hti1, hes.1]
      have h0 : 0 < L'.length := List.length_pos_iff.2 hL
      have hb48 : L'.length * ti.bytes ≤ 281474976710656 := by rw [hti2]; have := Nat.mul_le_mul hl hes.2.2; omega
      have hr := run_append_nil (P := P) w ty t el ti ez hT.und hti hti3 ⟨b, off, none⟩ L'.length c1 (flat r) hfl (fun j u hu => by rw [Addr.add_mid]; exact hr2 j u hu) (by omega) (by omega) hb48
      have hge := grownCap_ge w L'.length 0 el
      have hcm : grownCap w L'.length 0 el ≤ maxLen := grownCap_le_maxLen w L'.length 0 el (by simp only [maxLen]; omega)
      have hzs : ez.cells.size = ti.size := by rw [cells_eq (v := ez) (cs := ecs), hti1]; simpa using hes.2.1
      have hsz1 : ti.size = Cell.sz α := by rw [hti1, hes.1]
      have hbel : Bel w.heap.size w (w.drew.alloc (.cells ((flat r).toArray ++ Builtin.zeroCells ez.cells (grownCap w L'.length 0 el - L'.length)) el)) := ((Bel.refl _ _).drew).alloc (Nat.le_refl _) _
      refine ⟨_, _, _, ?_, hbel, ho.call (B := [.res (buf (some ⟨w.heap.size, 0, none⟩) (grownCap w L'.length 0 el) el L')]) hbel ⟨fun f hf => ?_, by simp, fun f hf k' hk => ?_⟩, k (some ⟨w.heap.size, 0, none⟩) (grownCap w L'.length 0 el)⟩
      · simp [execOp, resolve_builtin, invoke, builtin, hx.ok n a fr, hy.ok n a fr] at hr ⊢
        simp [hr]
      · simp only [List.mem_singleton] at hf; subst hf
        refine ⟨by simp only [lim]; omega, r, hr1, ⟨by rw [flat_length, hm], .inr ⟨w.heap.size, _, _, rfl, Nat.zero_le _, heap_alloc_new w.drew _, hge, hcm, ?_, ?_⟩⟩, fun p hp A hA => ?_⟩
        · simp only [Array.size_append, List.size_toArray, size_zeroCells, hzs, hfl, ← Nat.add_mul, ← hsz1]
          congr 1
          omega
        · simp only [Array.toList_append]
          exact List.take_left' (by rw [hfl, hsz1])
        · refine Fact.sat_keep (f := .st A) (hr3 p hp A hA) (fun k' hk hlt => ⟨.inl hk, fun f hf => ?_⟩) (fun k' hlt _ => hbel.block k' hlt)
          simp only [List.mem_singleton] at hf; subst hf
          rintro ⟨a', ha', rfl⟩
          injection ha' with ha'
          subst ha'
          simp at hlt
      · simp only [List.mem_singleton] at hf; subst hf
        obtain ⟨a', ha', rfl⟩ := hk
        injection ha' with ha'
        subst ha'
        exact Nat.le_refl _
end
end Ab
end Go.Proofs.YtcmfemfndadfmaaGreat

/- An operation that is passed over because the one it waits for was passed over. Program-independent. -/
namespace Go.Proofs.YtcmfemfndadfmaaGreat
namespace Ab
open Go Go.RowKit
set_option linter.unusedVariables false
set_option linter.unusedSimpArgs false
section
variable {P : Program} {n : Nat} {w0 : World} {F : Nat → Prop} {i d : Nat} {t : TypeId} {pos : String} {aft : Array Edge} {g : Option (Nat × Bool)} {Q : Cont} {e : E} {Γ : List Fact} [Dr]

/-- The guard's operation was itself passed over. -/
def gskip (ops : List Oper) (e : E) : Option (Nat × Bool) → Bool
  | none => false
  | some (j, _) =>
    match ops[j]? with
    | some o => match o.dst with
      | some d => match look e d with
        | some (.tuple _) => true
        | _ => false
      | none => false
    | none => false

end
section
variable {P : Program} {n : Nat} {w0 : World} {F : Nat → Prop} {i d : Nat} {t : TypeId} {pos : String} {aft : Array Edge} {g : Option (Nat × Bool)} {Q : Cont} {e : E} {Γ : List Fact}
theorem gskip_ok {ops : List Oper} {e : E} {o : Oper} {a : Act} (h : gskip ops e o.guard = true) (fr : Fr n e a) : Region.wanted o (yielded ⟨ops⟩ a.tmps) = false := by
  unfold gskip at h
  unfold Region.wanted
  split at h
  · cases h
  · rename_i j want hg
    rw [hg]
    split at h
    · rename_i o' ho'
      split at h
      · rename_i d hd
        split at h
        · rename_i b hb
          have := fr.slot _ _ hb
          simp only [yielded]
          have e1 : ((⟨ops⟩ : Array Oper)[j]?) = some o' := by simpa using ho'
          rw [e1]
          simp [hd, this]
        · cases h
      · cases h
    · cases h
end
section
variable {P : Program} {n : Nat} {w0 : World} {F : Nat → Prop} {i d : Nat} {t : TypeId} {pos : String} {aft : Array Edge} {g : Option (Nat × Bool)} {Q : Cont} {e : E} {Γ : List Fact} [Dr]

theorem Wx {ops : List Oper} {op : Op} {os : List Oper} (hg : gskip ops e g = true) (hd : Nat.blt d n = true)
    (h : JO P n w0 F ⟨ops⟩ (i + 1) os Q ((d, undef) :: e) Γ) : JO P n w0 F ⟨ops⟩ i (⟨some d, op, t, pos, aft, g⟩ :: os) Q e Γ := by
  intro hdr a w fr ho
  obtain ⟨h1, h2⟩ := drop_at hdr
  simp only [List.length_cons, List.range'_succ, wpOps]
  rw [h1]
  simp only [gskip_ok (o := ⟨some d, op, t, pos, aft, g⟩) hg fr, Bool.false_eq_true, if_false]
  exact h h2 _ w (fr.put hd _) ho

theorem WA {ops os : List Oper} {K : E → Prop} {op : Op} (hg : gskip ops e g = true) (hd : Nat.blt d n = true) (k : JQ P n w0 F ops os K ((d, undef) :: e) Γ) :
    JQ P n w0 F ops (⟨some d, op, t, pos, aft, g⟩ :: os) K e Γ := by
  intro a fr
  unfold wpQuiet
  rw [gskip_ok (o := ⟨some d, op, t, pos, aft, g⟩) hg fr, if_neg (by decide)]
  exact k _ (fr.put hd _)
end
end Ab
end Go.Proofs.YtcmfemfndadfmaaGreat

/- More arithmetic on words: products, differences, quotients, remainders. Program-independent. -/
namespace Go.Proofs.YtcmfemfndadfmaaGreat
namespace Ab
open Go Go.RowKit
set_option linter.unusedVariables false
set_option linter.unusedSimpArgs false
/-- A number that is a word's. -/
class W32 (p : Int) (a : outParam UInt32) : Prop where
  ok : p = (a.toNat : Int)
instance (priority := 1000) {a : UInt32} : W32 (a.toNat : Int) a := ⟨rfl⟩
instance : W32 (16777216 : Int) 16777216 := ⟨rfl⟩
instance : W32 (65536 : Int) 65536 := ⟨rfl⟩
instance : W32 (256 : Int) 256 := ⟨rfl⟩
instance : W32 (1024 : Int) 1024 := ⟨rfl⟩
instance : W32 (8 : Int) 8 := ⟨rfl⟩
class W64 (p : Int) (a : outParam UInt64) : Prop where
  ok : p = (a.toNat : Int)
instance (priority := 1000) {a : UInt64} : W64 (a.toNat : Int) a := ⟨rfl⟩
instance : W64 (256 : Int) 256 := ⟨rfl⟩
instance : W64 (128 : Int) 128 := ⟨rfl⟩
instance : W64 (127 : Int) 127 := ⟨rfl⟩
instance : W64 (8 : Int) 8 := ⟨rfl⟩
instance : W64 (2 : Int) 2 := ⟨rfl⟩
instance : W64 (1 : Int) 1 := ⟨rfl⟩
theorem JR.reslot [Dr] {P : Program} {n : Nat} {w0 : World} {F : Nat → Prop} {ops : Array Oper} {i : Nat} {o : Oper} {os : List Oper} {Q : Cont} {e : E} {Γ : List Fact} (s : Nat) {v : Value} (u : Value) [hs : Lk e s v] (h : v = u) (k : JR P n w0 F ops i o os Q ((s, u) :: e) Γ) : JR P n w0 F ops i o os Q e Γ :=
  fun hd a w fr ho => k hd a w (fr.again (by rw [← h]; exact hs.ok)) ho
theorem JR.reown [Dr] {P : Program} {n : Nat} {w0 : World} {F : Nat → Prop} {ops : Array Oper} {i : Nat} {o : Oper} {os : List Oper} {Q : Cont} {e : E} {Γ : List Fact} {bt : TypeId} {vs : List Value} {Δ : List Fact} (b : Nat) (us : List Value) [h : Own Γ b bt vs Δ] (he : vs = us) (k : JR P n w0 F ops i o os Q e (.own b bt us :: Δ)) : JR P n w0 F ops i o os Q e Γ :=
  JR.more (fun w ho => by subst he; exact ho.perm h.ok) k
/-- x[l:h] of a slice that is read, as a value. -/
theorem OpV.sliceMidA [Dr] {P : Program} {n : Nat} {w0 : World} {F : Nat → Prop} {t : TypeId} {pos : String} {aft : Array Edge} {g : Option (Nat × Bool)} {e : E} {Γ : List Fact} {x lo hi' : Operand} {a0 : Option Addr} {m c l h s : Nat} {kk k2 : IntKind} {j j2 : Int} {ty el : TypeId} {ed : TypeDesc} {sz by_ es eb : Nat} {z ez : Value} {d : Option Nat}
    [hx : Ev e x (.slice a0 m c)] [hi : Ev e lo (.int kk j)] [hk : NatI j l] [hi2 : Ev e hi' (.int k2 j2)] [hk2 : NatI j2 h] [hT : Ty P ty (.slice el) sz by_ z] [hE : Ty P el ed es eb ez] (hes : es = s) (hh : ∀ w, Hold w0 F Γ w → l ≤ h ∧ h ≤ c) :
    OpV P n w0 F ⟨d, .slice ty x (some lo) (some hi') none, t, pos, aft, g⟩ e Γ (.slice (fromA a0 c l s) (h - l) (c - l)) :=
  fun a w fr ho => by
    have hlc := hh w ho
    have h1 := run_und (P := P) (t := ty) w
    have h2 := run_size (P := P) (t := el) w
    have hj := hk.ok
    have hj2 := hk2.ok
    subst hj hj2 hes
    have hb : (Instr.sliceBound (.int k2 (h : Int)) c .sliceAcap).run P w = .ok h w := by
      simp [Instr.sliceBound, asIntOf]
      omega
    have hb2 : (Instr.sliceBound (.int kk (l : Int)) h .sliceB).run P w = .ok l w := by
      simp [Instr.sliceBound, asIntOf]
      omega
    simp [execOp, hx.ok n a fr, hi.ok n a fr, hi2.ok n a fr, Instr.sliceAt, Instr.slice, h1, h2, Instr.sliceBounds, hb, hb2, fromA]
    by_cases hck : c = l
    · simp [hck]
    · rw [if_neg hck, if_neg (by omega)]
section
variable {P : Program} {n : Nat} {w0 : World} {F : Nat → Prop} {d : Option Nat} {t : TypeId} {pos : String} {aft : Array Edge} {g : Option (Nat × Bool)} {e : E} {Γ : List Fact} [Dr]
  {x y : Operand} {ty yt : TypeId}
theorem OpV.mul32 {p q : Int} {a b : UInt32} [hx : Ev e x (.int .u32 p)] [hp : W32 p a] [hy : Ev e y (.int .u32 q)] [hq : W32 q b] : OpV P n w0 F ⟨d, .binOp .mul ty x y yt, t, pos, aft, g⟩ e Γ (w32 (a * b)) := by
  have := OpV.mulw (P := P) (n := n) (w0 := w0) (F := F) (d := d) (t := t) (pos := pos) (aft := aft) (g := g) (e := e) (Γ := Γ) (x := x) (y := y) (ty := ty) (yt := yt) (kk := .u32) (p := p) (q := q)
  rwa [hp.ok, hq.ok, ← Int.natCast_mul, wrap32, ← show (a * b).toNat = (a.toNat * b.toNat) % 4294967296 from UInt32.toNat_mul a b] at this
theorem OpV.sub32 {p q : Int} {a b : UInt32} [hx : Ev e x (.int .u32 p)] [hp : W32 p a] [hy : Ev e y (.int .u32 q)] [hq : W32 q b] : OpV P n w0 F ⟨d, .binOp .sub ty x y yt, t, pos, aft, g⟩ e Γ (w32 (a - b)) := by
  have := OpV.subw (P := P) (n := n) (w0 := w0) (F := F) (d := d) (t := t) (pos := pos) (aft := aft) (g := g) (e := e) (Γ := Γ) (x := x) (y := y) (ty := ty) (yt := yt) (kk := .u32) (p := p) (q := q)
  have h1 : IntKind.u32.wrap (p - q) = ((a - b).toNat : Int) := by
    rw [hp.ok, hq.ok]
    have e1 : IntKind.u32.wrap ((a.toNat : Int) - (b.toNat : Int)) = ((a.toNat : Int) - (b.toNat : Int)) % 4294967296 := by simp [IntKind.wrap, IntKind.bits, IntKind.signed]
    rw [e1, UInt32.toNat_sub]
    have := a.toNat_lt
    have := b.toNat_lt
    omega
  rwa [h1] at this
theorem OpV.quo32 {p q : Int} {a b : UInt32} [hx : Ev e x (.int .u32 p)] [hp : W32 p a] [hy : Ev e y (.int .u32 q)] [hq : W32 q b] (h : b ≠ 0) : OpV P n w0 F ⟨d, .binOp .quo ty x y yt, t, pos, aft, g⟩ e Γ (w32 (a / b)) := by
  have hb : b.toNat ≠ 0 := fun h0 => h (UInt32.toNat_inj.1 h0)
  have := OpV.quo (P := P) (n := n) (w0 := w0) (F := F) (d := d) (t := t) (pos := pos) (aft := aft) (g := g) (e := e) (Γ := Γ) (x := x) (y := y) (ty := ty) (yt := yt) (kk := .u32) (p := p) (q := q) (by rw [hq.ok]; omega)
  rwa [hp.ok, hq.ok, Int.tdiv_eq_ediv_of_nonneg (Int.natCast_nonneg _), ← Int.natCast_ediv, ← UInt32.toNat_div, wrapw32] at this
theorem OpV.rem32 {p q : Int} {a b : UInt32} [hx : Ev e x (.int .u32 p)] [hp : W32 p a] [hy : Ev e y (.int .u32 q)] [hq : W32 q b] (h : b ≠ 0) : OpV P n w0 F ⟨d, .binOp .rem ty x y yt, t, pos, aft, g⟩ e Γ (w32 (a % b)) := by
  have hb : b.toNat ≠ 0 := fun h0 => h (UInt32.toNat_inj.1 h0)
  have := OpV.rem (P := P) (n := n) (w0 := w0) (F := F) (d := d) (t := t) (pos := pos) (aft := aft) (g := g) (e := e) (Γ := Γ) (x := x) (y := y) (ty := ty) (yt := yt) (kk := .u32) (p := p) (q := q) (by rw [hq.ok]; omega)
  rwa [hp.ok, hq.ok, Int.tmod_eq_emod_of_nonneg (Int.natCast_nonneg _), ← Int.natCast_emod, ← UInt32.toNat_mod] at this
theorem OpV.mul64 {p q : Int} {a b : UInt64} [hx : Ev e x (.int .u64 p)] [hp : W64 p a] [hy : Ev e y (.int .u64 q)] [hq : W64 q b] : OpV P n w0 F ⟨d, .binOp .mul ty x y yt, t, pos, aft, g⟩ e Γ (w64 (a * b)) := by
  have := OpV.mulw (P := P) (n := n) (w0 := w0) (F := F) (d := d) (t := t) (pos := pos) (aft := aft) (g := g) (e := e) (Γ := Γ) (x := x) (y := y) (ty := ty) (yt := yt) (kk := .u64) (p := p) (q := q)
  rwa [hp.ok, hq.ok, ← Int.natCast_mul, wrap64, ← show (a * b).toNat = (a.toNat * b.toNat) % 18446744073709551616 from UInt64.toNat_mul a b] at this
theorem OpV.quo64 {p q : Int} {a b : UInt64} [hx : Ev e x (.int .u64 p)] [hp : W64 p a] [hy : Ev e y (.int .u64 q)] [hq : W64 q b] (h : b ≠ 0) : OpV P n w0 F ⟨d, .binOp .quo ty x y yt, t, pos, aft, g⟩ e Γ (w64 (a / b)) := by
  have hb : b.toNat ≠ 0 := fun h0 => h (UInt64.toNat_inj.1 h0)
  have := OpV.quo (P := P) (n := n) (w0 := w0) (F := F) (d := d) (t := t) (pos := pos) (aft := aft) (g := g) (e := e) (Γ := Γ) (x := x) (y := y) (ty := ty) (yt := yt) (kk := .u64) (p := p) (q := q) (by rw [hq.ok]; omega)
  rwa [hp.ok, hq.ok, Int.tdiv_eq_ediv_of_nonneg (Int.natCast_nonneg _), ← Int.natCast_ediv, ← UInt64.toNat_div, wrapw64] at this
theorem OpV.rem64 {p q : Int} {a b : UInt64} [hx : Ev e x (.int .u64 p)] [hp : W64 p a] [hy : Ev e y (.int .u64 q)] [hq : W64 q b] (h : b ≠ 0) : OpV P n w0 F ⟨d, .binOp .rem ty x y yt, t, pos, aft, g⟩ e Γ (w64 (a % b)) := by
  have hb : b.toNat ≠ 0 := fun h0 => h (UInt64.toNat_inj.1 h0)
  have := OpV.rem (P := P) (n := n) (w0 := w0) (F := F) (d := d) (t := t) (pos := pos) (aft := aft) (g := g) (e := e) (Γ := Γ) (x := x) (y := y) (ty := ty) (yt := yt) (kk := .u64) (p := p) (q := q) (by rw [hq.ok]; omega)
  rwa [hp.ok, hq.ok, Int.tmod_eq_emod_of_nonneg (Int.natCast_nonneg _), ← Int.natCast_emod, ← UInt64.toNat_mod] at this
end
end Ab
end Go.Proofs.YtcmfemfndadfmaaGreat

/- Contracts of the document's layer 1: Right, Word, Four, Long, Pick, Most say what the program's own do. -/
namespace Go.Proofs.YtcmfemfndadfmaaGreat
namespace Ab
open Go Go.RowKit
set_option linter.unusedVariables false
set_option linter.unusedSimpArgs false
set_option synthInstance.maxSize 4000
set_option synthInstance.maxHeartbeats 400000
attribute [local irreducible] JC JO JR JQ andThen inBlock OpV Gives retTo JM JS

theorem sub_and (b c : UInt32) : b - (c &&& b) = b &&& ~~~c := by
  have h : (c &&& b) + (b &&& ~~~c) = b := by
    apply UInt32.toBitVec_inj.1
    simp only [UInt32.toBitVec_add, UInt32.toBitVec_and, UInt32.toBitVec_not]
    rw [BitVec.add_eq_or_of_and_eq_zero]
    · ext i hi
      simp
      cases c.toBitVec[i] <;> simp
    · ext i hi
      simp
      cases c.toBitVec[i] <;> simp
  have h2 : b - (c &&& b) = (c &&& b) + (b &&& ~~~c) - (c &&& b) := by rw [h]
  rw [h2, UInt32.add_comm, UInt32.add_sub_cancel]
theorem pick_ref (w : World) (F : Nat → Prop) (c a b : UInt32) : GivesV Tryz.prog 154 [w32 c, w32 a, w32 b] w F (w32 (pick32 c a b)) := by
  refine gives_of Tryz.func154 rfl Tryz.ntmps154 rfl rfl [] (.start w F) ?_
  repeat (first | refine Wa ?_ | refine Wb ?_ | refine Wc ?_ | refine Wd ?_ | refine We rfl ?_ | refine Wf (by first | exact Va | exact Vb | exact OpV.and32 | exact OpV.or32 | exact OpV.xor32 | exact OpV.andNot32 | exact OpV.add32 | exact OpV.sub32 | exact OpV.mul32) rfl ?_ | refine Ws ?_ | refine Wt ?_)
  exact CT.done () (by simp only [packed, pick32, sub_and]) (fun w ho => ho.ent)
theorem most_or (a b c : UInt32) : ((a &&& b) ||| (a &&& c)) ||| (b &&& c) = most32 a b c := by
  apply UInt32.toBitVec_inj.1
  simp only [most32, UInt32.toBitVec_or, UInt32.toBitVec_and, UInt32.toBitVec_xor]
  ext i hi
  simp
  cases a.toBitVec[i] <;> cases b.toBitVec[i] <;> cases c.toBitVec[i] <;> rfl
theorem most_ref (w : World) (F : Nat → Prop) (a b c : UInt32) : GivesV Tryz.prog 155 [w32 a, w32 b, w32 c] w F (w32 (most32 a b c)) := by
  refine gives_of Tryz.func155 rfl Tryz.ntmps155 rfl rfl [] (.start w F) ?_
  repeat (first | refine Wa ?_ | refine Wb ?_ | refine Wc ?_ | refine Wd ?_ | refine We rfl ?_ | refine Wf (by first | exact Va | exact Vb | exact OpV.and32 | exact OpV.or32 | exact OpV.xor32 | exact OpV.andNot32 | exact OpV.add32 | exact OpV.sub32 | exact OpV.mul32) rfl ?_ | refine Ws ?_ | refine Wt ?_)
  exact CT.done () (by simp only [packed, most_or]) (fun w ho => ho.ent)
theorem right_ref (w : World) (F : Nat → Prop) (x : UInt32) (k : Nat) (hk : 1 ≤ k ∧ k ≤ 31) : GivesV Tryz.prog 153 [w32 x, .int .i64 (k : Int)] w F (w32 (rotR x k)) := by
  refine gives_of Tryz.func153 rfl Tryz.ntmps153 rfl rfl [] (.start w F) ?_
  repeat (first | refine Wa ?_ | refine Wb ?_ | refine Wc ?_ | refine Wd ?_ | refine We rfl ?_ | refine Wf (by first | exact Va | exact Vb | exact OpV.and32 | exact OpV.or32 | exact OpV.xor32 | exact OpV.andNot32 | exact OpV.add32 | exact OpV.sub32 | exact OpV.mul32) rfl ?_ | refine Ws ?_ | refine Wt ?_)
  refine Wf (OpV.rem (by decide)) rfl ?_
  refine JO.reslot 6 (.int .i64 (k : Int)) (by congr 1; rw [Int.tmod_eq_emod_of_nonneg (by omega)]; omega) ?_
  repeat (first | refine Wa ?_ | refine Wb ?_ | refine Wc ?_ | refine Wd ?_ | refine We rfl ?_ | refine Wf (by first | exact Va | exact Vb | exact OpV.and32 | exact OpV.or32 | exact OpV.xor32 | exact OpV.andNot32 | exact OpV.add32 | exact OpV.sub32 | exact OpV.mul32) rfl ?_ | refine Ws ?_ | refine Wt ?_)
  repeat (first|refine Wa ?_|refine Wb ?_|refine Wc ?_|refine Wd ?_|refine We rfl ?_|refine Wf (by first|exact Va|exact Vb|exact Vc|exact Vd|exact Ve|exact Vf|exact Vg|exact Vh|exact Vi|exact Vj|exact Vk (by omega)|exact Vl|exact Vm|exact Vn|exact Vo|exact Vp|exact Vq|exact Vr|exact Vs (by omega)|exact Vt (by omega)|exact Vu (by omega)|exact Vv (by omega)|exact Vw|exact Vx|exact Vy|exact Vz|exact VA|exact VB|exact VC|exact VD|exact VE|exact VF) rfl ?_|(refine Wg rfl ?_; intro _)|(refine Wh rfl ?_; intro _)|refine Wi ?_|refine Wj ?_|refine Wk ?_|refine Wl ?_|refine Wm ?_|refine Wn ?_|refine Wo ?_|refine Wp ?_|refine Wq rfl ?_|refine Wr ?_|refine Ws ?_|refine Wt ?_|refine Wu ?_|refine Wv rfl rfl ?_|(refine Ww rfl ⟨rfl, by decide, by decide, by decide⟩ ?_; intro _))
  refine Wf (OpV.convIn (by rw [wrap64]; omega)) rfl ?_
  refine We rfl ?_
  refine Wf (OpV.shr32 (k := k) (by omega)) rfl ?_
  repeat (first|refine Wa ?_|refine Wb ?_|refine Wc ?_|refine Wd ?_|refine We rfl ?_|refine Wf (by first|exact Va|exact Vb|exact Vc|exact Vd|exact Ve|exact Vf|exact Vg|exact Vh|exact Vi|exact Vj|exact Vk (by omega)|exact Vl|exact Vm|exact Vn|exact Vo|exact Vp|exact Vq|exact Vr|exact Vs (by omega)|exact Vt (by omega)|exact Vu (by omega)|exact Vv (by omega)|exact Vw|exact Vx|exact Vy|exact Vz|exact VA|exact VB|exact VC|exact VD|exact VE|exact VF) rfl ?_|(refine Wg rfl ?_; intro _)|(refine Wh rfl ?_; intro _)|refine Wi ?_|refine Wj ?_|refine Wk ?_|refine Wl ?_|refine Wm ?_|refine Wn ?_|refine Wo ?_|refine Wp ?_|refine Wq rfl ?_|refine Wr ?_|refine Ws ?_|refine Wt ?_|refine Wu ?_|refine Wv rfl rfl ?_|(refine Ww rfl ⟨rfl, by decide, by decide, by decide⟩ ?_; intro _))
  refine Wf (OpV.convIn (by rw [wrap64]; omega)) rfl ?_
  refine We rfl ?_
  refine Wf (OpV.shl32 (k := 32 - k) (by omega)) rfl ?_
  repeat (first | refine Wa ?_ | refine Wb ?_ | refine Wc ?_ | refine Wd ?_ | refine We rfl ?_ | refine Wf (by first | exact Va | exact Vb | exact OpV.and32 | exact OpV.or32 | exact OpV.xor32 | exact OpV.andNot32 | exact OpV.add32 | exact OpV.sub32 | exact OpV.mul32) rfl ?_ | refine Ws ?_ | refine Wt ?_)
  exact CT.done () rfl (fun w ho => ho.ent)
set_option maxRecDepth 20000 in
theorem word4_nat (a b c d : UInt8) : word4 a b c d = 16777216 * a.toUInt32 + 65536 * b.toUInt32 + 256 * c.toUInt32 + d.toUInt32 := by
  have ha := a.toNat_lt
  have hb := b.toNat_lt
  have hc := c.toNat_lt
  have hd := d.toNat_lt
  have e1 := Nat.shiftLeft_add_eq_or_of_lt (i := 8) (by omega : d.toNat < 2 ^ 8) c.toNat
  have e2 := Nat.shiftLeft_add_eq_or_of_lt (i := 16) (by omega : c.toNat * 256 + d.toNat < 2 ^ 16) b.toNat
  have e3 := Nat.shiftLeft_add_eq_or_of_lt (i := 24) (by omega : b.toNat * 65536 + (c.toNat * 256 + d.toNat) < 2 ^ 24) a.toNat
  simp only [Nat.shiftLeft_eq] at e1 e2 e3
  apply UInt32.toNat_inj.1
  simp only [word4, shlN32, UInt32.toNat_or, UInt32.toNat_ofNat', UInt8.toNat_toUInt32, UInt32.toNat_add, UInt32.toNat_mul]
  rw [Nat.mod_eq_of_lt (by omega : a.toNat * 2 ^ 24 < 2 ^ 32), Nat.mod_eq_of_lt (by omega : b.toNat * 2 ^ 16 < 2 ^ 32), Nat.mod_eq_of_lt (by omega : c.toNat * 2 ^ 8 < 2 ^ 32)]
  rw [Nat.or_assoc, Nat.or_assoc, ← e1, ← e2, ← e3]
  have l1 : (16777216 : UInt32).toNat = 16777216 := by decide
  have l2 : (65536 : UInt32).toNat = 65536 := by decide
  have l3 : (256 : UInt32).toNat = 256 := by decide
  rw [l1, l2, l3, Nat.mod_eq_of_lt (a := 16777216 * a.toNat) (by omega), Nat.mod_eq_of_lt (a := 65536 * b.toNat) (by omega), Nat.mod_eq_of_lt (a := 256 * c.toNat) (by omega), Nat.mod_eq_of_lt (a := 16777216 * a.toNat + 65536 * b.toNat) (by omega), Nat.mod_eq_of_lt (a := 16777216 * a.toNat + 65536 * b.toNat + 256 * c.toNat) (by omega), Nat.mod_eq_of_lt (by omega)]
  clear e1 e2 e3 l1 l2 l3
  omega
theorem convAt {L : List UInt8} {j : Nat} (h : j < L.length) : Value.int .u32 (IntKind.u32.wrap ((L[j]).toNat : Int)) = w32 (L.getD j 0).toUInt32 := by
  rw [conv832]; simp [List.getD_eq_getElem?_getD, h]
theorem word_ref (w : World) (F : Nat → Prop) (a : Option Addr) (c : Nat) (L : List UInt8) (k : Nat) (h : (sl a c L).holds F w) (hk : k + 4 ≤ L.length) :
    GivesV Tryz.prog 176 [.slice a L.length c, .int .i64 (k : Int)] w F (.tuple ⟨[w32 (wordAt L k), .bool true]⟩) := by
  have hL : L.length < 9223372036854775800 := by have := h.2.2.1; simp only [lim] at this; omega
  refine gives_of Tryz.func176 rfl Tryz.ntmps176 rfl rfl [.st (sl a c L)] (.start1 h) ?_
  repeat (first|refine Wa ?_|refine Wb ?_|refine Wc ?_|refine Wd ?_|refine We rfl ?_|refine Wf (by first|exact Va|exact Vb|exact Vc|exact Vd|exact Ve|exact Vf|exact Vg|exact Vh|exact Vi|exact Vj|exact Vk (by omega)|exact Vl|exact Vm|exact Vn|exact Vo|exact Vp|exact Vq|exact Vr|exact Vs (by omega)|exact Vt (by omega)|exact Vu (by omega)|exact Vv (by omega)|exact Vw|exact Vx|exact Vy|exact Vz|exact VA|exact VB|exact VC|exact VD|exact VE|exact VF) rfl ?_|(refine Wg rfl ?_; intro _)|(refine Wh rfl ?_; intro _)|refine Wi ?_|refine Wj ?_|refine Wk ?_|refine Wl ?_|refine Wm ?_|refine Wn ?_|refine Wo ?_|refine Wp ?_|refine Wq rfl ?_|refine Wr ?_|refine Ws ?_|refine Wt ?_|refine Wu ?_|refine Wv rfl rfl ?_|(refine Ww rfl ⟨rfl, by decide, by decide, by decide⟩ ?_; intro _))
  refine JC.reslot 14 (.bool false) (by congr 1; simp only [decide_eq_false_iff_not]; omega) ?_
  repeat (first|refine Wa ?_|refine Wb ?_|refine Wc ?_|refine Wd ?_|refine We rfl ?_|refine Wf (by first|exact Va|exact Vb|exact Vc|exact Vd|exact Ve|exact Vf|exact Vg|exact Vh|exact Vi|exact Vj|exact Vk (by omega)|exact Vl|exact Vm|exact Vn|exact Vo|exact Vp|exact Vq|exact Vr|exact Vs (by omega)|exact Vt (by omega)|exact Vu (by omega)|exact Vv (by omega)|exact Vw|exact Vx|exact Vy|exact Vz|exact VA|exact VB|exact VC|exact VD|exact VE|exact VF) rfl ?_|(refine Wg rfl ?_; intro _)|(refine Wh rfl ?_; intro _)|refine Wi ?_|refine Wj ?_|refine Wk ?_|refine Wl ?_|refine Wm ?_|refine Wn ?_|refine Wo ?_|refine Wp ?_|refine Wq rfl ?_|refine Wr ?_|refine Ws ?_|refine Wt ?_|refine Wu ?_|refine Wv rfl rfl ?_|(refine Ww rfl ⟨rfl, by decide, by decide, by decide⟩ ?_; intro _))
  refine JC.openByte (.slice a L.length c) k (by omega) ?_
  intro b0 o0
  refine JC.openByte (.slice a L.length c) (k + 1) (by omega) ?_
  intro b1 o1
  refine JC.openByte (.slice a L.length c) (k + 2) (by omega) ?_
  intro b2 o2
  refine JC.openByte (.slice a L.length c) (k + 3) (by omega) ?_
  intro b3 o3
  refine JC.quiet mixed (by kernel_rfl) ?_
  refine Wy rfl Va rfl ?_
  refine Wy rfl Va rfl ?_
  refine Wy rfl Ve rfl ?_
  refine Wy rfl Vc rfl ?_
  refine Wy rfl OpV.conv rfl ?_
  refine JQ.reslot 19 (w32 (L.getD k 0).toUInt32) (convAt _) ?_
  refine Wy rfl OpV.mul32 rfl ?_
  refine Wy rfl Va rfl ?_
  refine Wy rfl Va rfl ?_
  refine Wy rfl (Vs (by omega)) rfl ?_
  refine Wy rfl Ve rfl ?_
  refine Wy rfl Vc rfl ?_
  refine Wy rfl OpV.conv rfl ?_
  refine JQ.reslot 26 (w32 (L.getD (k + 1) 0).toUInt32) (convAt _) ?_
  refine Wy rfl OpV.mul32 rfl ?_
  refine Wy rfl OpV.add32 rfl ?_
  refine Wy rfl Va rfl ?_
  refine Wy rfl Va rfl ?_
  refine Wy rfl (Vs (by omega)) rfl ?_
  refine Wy rfl Ve rfl ?_
  refine Wy rfl Vc rfl ?_
  refine Wy rfl OpV.conv rfl ?_
  refine JQ.reslot 34 (w32 (L.getD (k + 2) 0).toUInt32) (convAt _) ?_
  refine Wy rfl OpV.mul32 rfl ?_
  refine Wy rfl OpV.add32 rfl ?_
  refine Wy rfl Va rfl ?_
  refine Wy rfl Va rfl ?_
  refine Wy rfl (Vs (by omega)) rfl ?_
  refine Wy rfl Ve rfl ?_
  refine Wy rfl Vc rfl ?_
  refine Wy rfl OpV.conv rfl ?_
  refine JQ.reslot 42 (w32 (L.getD (k + 3) 0).toUInt32) (convAt _) ?_
  refine Wy rfl OpV.add32 rfl ?_
  refine Wy rfl Vb rfl ?_
  refine Wy rfl Vb rfl ?_
  refine WB ?_
  repeat (first|refine Wa ?_|refine Wb ?_|refine Wc ?_|refine Wd ?_|refine We rfl ?_|refine Wf (by first|exact Va|exact Vb|exact Vc|exact Vd|exact Ve|exact Vf|exact Vg|exact Vh|exact Vi|exact Vj|exact Vk (by omega)|exact Vl|exact Vm|exact Vn|exact Vo|exact Vp|exact Vq|exact Vr|exact Vs (by omega)|exact Vt (by omega)|exact Vu (by omega)|exact Vv (by omega)|exact Vw|exact Vx|exact Vy|exact Vz|exact VA|exact VB|exact VC|exact VD|exact VE|exact VF) rfl ?_|(refine Wg rfl ?_; intro _)|(refine Wh rfl ?_; intro _)|refine Wi ?_|refine Wj ?_|refine Wk ?_|refine Wl ?_|refine Wm ?_|refine Wn ?_|refine Wo ?_|refine Wp ?_|refine Wq rfl ?_|refine Wr ?_|refine Ws ?_|refine Wt ?_|refine Wu ?_|refine Wv rfl rfl ?_|(refine Ww rfl ⟨rfl, by decide, by decide, by decide⟩ ?_; intro _))
  exact CT.done () (by simp only [packed, wordAt, word4_nat]) (fun w ho => ho.ent)
end Ab
end Go.Proofs.YtcmfemfndadfmaaGreat

/- Contracts of the document's layers 1 and 2: Four, Long, twist, Start, Constants, Pad. -/
namespace Go.Proofs.YtcmfemfndadfmaaGreat
namespace Ab
open Go Go.RowKit
set_option linter.unusedVariables false
set_option linter.unusedSimpArgs false
set_option synthInstance.maxSize 4000
set_option synthInstance.maxHeartbeats 400000
attribute [local irreducible] JC JO JR JQ andThen inBlock OpV Gives retTo JM JS

theorem conv8 (n : Nat) : Value.int .u8 (IntKind.u8.wrap (n : Int)) = byteV (UInt8.ofNat n) :=
  congrArg (Value.int .u8) (by rw [wrap8, UInt8.toNat_ofNat'])
theorem twist_ref (w : World) (F : Nat → Prop) (a b c : UInt32) : GivesV Tryz.prog 152 [w32 a, w32 b, w32 c] w F (w32 ((a ^^^ b) ^^^ c)) := by
  refine gives_of Tryz.func152 rfl Tryz.ntmps152 rfl rfl [] (.start w F) ?_
  repeat (first | refine Wa ?_ | refine Wb ?_ | refine Wc ?_ | refine Wd ?_ | refine We rfl ?_ | refine Wf (by first | exact Va | exact Vb | exact OpV.and32 | exact OpV.or32 | exact OpV.xor32 | exact OpV.andNot32 | exact OpV.add32 | exact OpV.sub32 | exact OpV.mul32 | exact OpV.quo32 (by decide) | exact OpV.rem32 (by decide) | exact OpV.quo64 (by decide) | exact OpV.rem64 (by decide)) rfl ?_ | refine Ws ?_ | refine Wt ?_)
  exact CT.done () rfl (fun w ho => ho.ent)
theorem start_ref (w : World) (F : Nat → Prop) : GivesV Tryz.prog 114 [] w F (.agg ⟨shaSV.1.map w32⟩) := by
  refine gives_of Tryz.func114 rfl Tryz.ntmps114 rfl rfl [] (.start w F) ?_
  repeat (first|refine Wa ?_|refine Wb ?_|refine Wc ?_|refine Wd ?_|refine We rfl ?_|refine Wf (by first|exact Va|exact Vb|exact Vc|exact Vd|exact Ve|exact Vf|exact Vg|exact Vh|exact Vi|exact Vj|exact Vk (by omega)|exact Vl|exact Vm|exact Vn|exact Vo|exact Vp|exact Vq|exact Vr|exact Vs (by omega)|exact Vt (by omega)|exact Vu (by omega)|exact Vv (by omega)|exact Vw|exact Vx|exact Vy|exact Vz|exact VA|exact VB|exact VC|exact VD|exact VE|exact VF) rfl ?_|(refine Wg rfl ?_; intro _)|(refine Wh rfl ?_; intro _)|refine Wi ?_|refine Wj ?_|refine Wk ?_|refine Wl ?_|refine Wm ?_|refine Wn ?_|refine Wo ?_|refine Wp ?_|refine Wq rfl ?_|refine Wr ?_|refine Ws ?_|refine Wt ?_|refine Wu ?_|refine Wv rfl rfl ?_|(refine Ww rfl ⟨rfl, by decide, by decide, by decide⟩ ?_; intro _))
  refine Wf (OpV.build [.int .u32 1779033703, .int .u32 3144134277, .int .u32 1013904242, .int .u32 2773480762, .int .u32 1359893119, .int .u32 2600822924, .int .u32 528734635, .int .u32 1541459225] (by kernel_rfl)) rfl ?_
  repeat (first|refine Wa ?_|refine Wb ?_|refine Wc ?_|refine Wd ?_|refine We rfl ?_|refine Wf (by first|exact Va|exact Vb|exact Vc|exact Vd|exact Ve|exact Vf|exact Vg|exact Vh|exact Vi|exact Vj|exact Vk (by omega)|exact Vl|exact Vm|exact Vn|exact Vo|exact Vp|exact Vq|exact Vr|exact Vs (by omega)|exact Vt (by omega)|exact Vu (by omega)|exact Vv (by omega)|exact Vw|exact Vx|exact Vy|exact Vz|exact VA|exact VB|exact VC|exact VD|exact VE|exact VF) rfl ?_|(refine Wg rfl ?_; intro _)|(refine Wh rfl ?_; intro _)|refine Wi ?_|refine Wj ?_|refine Wk ?_|refine Wl ?_|refine Wm ?_|refine Wn ?_|refine Wo ?_|refine Wp ?_|refine Wq rfl ?_|refine Wr ?_|refine Ws ?_|refine Wt ?_|refine Wu ?_|refine Wv rfl rfl ?_|(refine Ww rfl ⟨rfl, by decide, by decide, by decide⟩ ?_; intro _))
  refine CT.done () ?_ (fun w ho => ho.ent)
  exact congrArg (fun l => Value.agg ⟨l⟩) (show _ = shaS.map w32 by kernel_rfl)
set_option maxRecDepth 4000 in
theorem constants_ref (w : World) (F : Nat → Prop) : GivesV Tryz.prog 150 [] w F (.agg ⟨shaKV.1.map w32⟩) := by
  show GivesV Tryz.prog 150 [] w F (.agg ⟨shaK.map w32⟩)
  refine gives_of Tryz.func150 rfl Tryz.ntmps150 rfl rfl [] (.start w F) ?_
  repeat (first|refine Wa ?_|refine Wb ?_|refine Wc ?_|refine Wd ?_|refine We rfl ?_|refine Wf (by first|exact Va|exact Vb|exact Vc|exact Vd|exact Ve|exact Vf|exact Vg|exact Vh|exact Vi|exact Vj|exact Vk (by omega)|exact Vl|exact Vm|exact Vn|exact Vo|exact Vp|exact Vq|exact Vr|exact Vs (by omega)|exact Vt (by omega)|exact Vu (by omega)|exact Vv (by omega)|exact Vw|exact Vx|exact Vy|exact Vz|exact VA|exact VB|exact VC|exact VD|exact VE|exact VF) rfl ?_|(refine Wg rfl ?_; intro _)|(refine Wh rfl ?_; intro _)|refine Wi ?_|refine Wj ?_|refine Wk ?_|refine Wl ?_|refine Wm ?_|refine Wn ?_|refine Wo ?_|refine Wp ?_|refine Wq rfl ?_|refine Wr ?_|refine Ws ?_|refine Wt ?_|refine Wu ?_|refine Wv rfl rfl ?_|(refine Ww rfl ⟨rfl, by decide, by decide, by decide⟩ ?_; intro _))
  refine Wf (OpV.build [.int .u32 1116352408, .int .u32 1899447441, .int .u32 3049323471, .int .u32 3921009573, .int .u32 961987163, .int .u32 1508970993, .int .u32 2453635748, .int .u32 2870763221, .int .u32 3624381080, .int .u32 310598401, .int .u32 607225278, .int .u32 1426881987, .int .u32 1925078388, .int .u32 2162078206, .int .u32 2614888103, .int .u32 3248222580, .int .u32 3835390401, .int .u32 4022224774, .int .u32 264347078, .int .u32 604807628, .int .u32 770255983, .int .u32 1249150122, .int .u32 1555081692, .int .u32 1996064986, .int .u32 2554220882, .int .u32 2821834349, .int .u32 2952996808, .int .u32 3210313671, .int .u32 3336571891, .int .u32 3584528711, .int .u32 113926993, .int .u32 338241895, .int .u32 666307205, .int .u32 773529912, .int .u32 1294757372, .int .u32 1396182291, .int .u32 1695183700, .int .u32 1986661051, .int .u32 2177026350, .int .u32 2456956037, .int .u32 2730485921, .int .u32 2820302411, .int .u32 3259730800, .int .u32 3345764771, .int .u32 3516065817, .int .u32 3600352804, .int .u32 4094571909, .int .u32 275423344, .int .u32 430227734, .int .u32 506948616, .int .u32 659060556, .int .u32 883997877, .int .u32 958139571, .int .u32 1322822218, .int .u32 1537002063, .int .u32 1747873779, .int .u32 1955562222, .int .u32 2024104815, .int .u32 2227730452, .int .u32 2361852424, .int .u32 2428436474, .int .u32 2756734187, .int .u32 3204031479, .int .u32 3329325298] (by kernel_rfl)) rfl ?_
  repeat (first|refine Wa ?_|refine Wb ?_|refine Wc ?_|refine Wd ?_|refine We rfl ?_|refine Wf (by first|exact Va|exact Vb|exact Vc|exact Vd|exact Ve|exact Vf|exact Vg|exact Vh|exact Vi|exact Vj|exact Vk (by omega)|exact Vl|exact Vm|exact Vn|exact Vo|exact Vp|exact Vq|exact Vr|exact Vs (by omega)|exact Vt (by omega)|exact Vu (by omega)|exact Vv (by omega)|exact Vw|exact Vx|exact Vy|exact Vz|exact VA|exact VB|exact VC|exact VD|exact VE|exact VF) rfl ?_|(refine Wg rfl ?_; intro _)|(refine Wh rfl ?_; intro _)|refine Wi ?_|refine Wj ?_|refine Wk ?_|refine Wl ?_|refine Wm ?_|refine Wn ?_|refine Wo ?_|refine Wp ?_|refine Wq rfl ?_|refine Wr ?_|refine Ws ?_|refine Wt ?_|refine Wu ?_|refine Wv rfl rfl ?_|(refine Ww rfl ⟨rfl, by decide, by decide, by decide⟩ ?_; intro _))
  refine CT.done () ?_ (fun w ho => ho.ent)
  exact congrArg (fun l => Value.agg ⟨l⟩) (show _ = shaK.map w32 by kernel_rfl)
theorem four_0 (x : UInt32) : UInt8.ofNat (x / 16777216).toNat = fourB x 0 := by
  rw [fourB, UInt32.toNat_div]; rfl
theorem four_1 (x : UInt32) : UInt8.ofNat (x / 65536 % 256).toNat = fourB x 1 := by
  rw [fourB, UInt32.toNat_mod, UInt32.toNat_div]
  apply UInt8.toNat_inj.1
  rw [UInt8.toNat_ofNat', UInt8.toNat_ofNat', show (65536 : UInt32).toNat = 65536 by decide, show (256 : UInt32).toNat = 256 by decide]
  omega
theorem four_2 (x : UInt32) : UInt8.ofNat (x / 256 % 256).toNat = fourB x 2 := by
  rw [fourB, UInt32.toNat_mod, UInt32.toNat_div]
  apply UInt8.toNat_inj.1
  rw [UInt8.toNat_ofNat', UInt8.toNat_ofNat', show (256 : UInt32).toNat = 256 by decide]
  omega
theorem four_3 (x : UInt32) : UInt8.ofNat (x % 256).toNat = fourB x 3 := by
  rw [fourB, UInt32.toNat_mod]
  apply UInt8.toNat_inj.1
  rw [UInt8.toNat_ofNat', UInt8.toNat_ofNat', show (256 : UInt32).toNat = 256 by decide]
  omega
theorem four_ref (w : World) (F : Nat → Prop) (x : UInt32) : GivesV Tryz.prog 116 [w32 x] w F (.agg ⟨(fourL x).map byteV⟩) := by
  refine gives_of Tryz.func116 rfl Tryz.ntmps116 rfl rfl [] (.start w F) ?_
  repeat (first|refine Wa ?_|refine Wb ?_|refine Wc ?_|refine Wd ?_|refine We rfl ?_|refine Wf (by first|exact Va|exact Vb|exact Vc|exact Vd|exact Ve|exact Vf|exact Vg|exact Vh|exact Vi|exact Vj|exact Vk (by omega)|exact Vl|exact Vm|exact Vn|exact Vo|exact Vp|exact Vq|exact Vr|exact Vs (by omega)|exact Vt (by omega)|exact Vu (by omega)|exact Vv (by omega)|exact Vw|exact Vx|exact Vy|exact Vz|exact VA|exact VB|exact VC|exact VD|exact VE|exact VF) rfl ?_|(refine Wg rfl ?_; intro _)|(refine Wh rfl ?_; intro _)|refine Wi ?_|refine Wj ?_|refine Wk ?_|refine Wl ?_|refine Wm ?_|refine Wn ?_|refine Wo ?_|refine Wp ?_|refine Wq rfl ?_|refine Wr ?_|refine Ws ?_|refine Wt ?_|refine Wu ?_|refine Wv rfl rfl ?_|(refine Ww rfl ⟨rfl, by decide, by decide, by decide⟩ ?_; intro _))
  repeat (first | refine Wa ?_ | refine Wb ?_ | refine Wc ?_ | refine Wd ?_ | refine We rfl ?_ | refine Wf (by first | exact Va | exact Vb | exact OpV.and32 | exact OpV.or32 | exact OpV.xor32 | exact OpV.andNot32 | exact OpV.add32 | exact OpV.sub32 | exact OpV.mul32 | exact OpV.quo32 (by decide) | exact OpV.rem32 (by decide) | exact OpV.quo64 (by decide) | exact OpV.rem64 (by decide)) rfl ?_ | refine Ws ?_ | refine Wt ?_)
  refine Wf OpV.conv rfl ?_
  refine JO.reslot 5 (byteV (fourB x 0)) (by rw [conv8, four_0]) ?_
  repeat (first | refine Wa ?_ | refine Wb ?_ | refine Wc ?_ | refine Wd ?_ | refine We rfl ?_ | refine Wf (by first | exact Va | exact Vb | exact OpV.and32 | exact OpV.or32 | exact OpV.xor32 | exact OpV.andNot32 | exact OpV.add32 | exact OpV.sub32 | exact OpV.mul32 | exact OpV.quo32 (by decide) | exact OpV.rem32 (by decide) | exact OpV.quo64 (by decide) | exact OpV.rem64 (by decide)) rfl ?_ | refine Ws ?_ | refine Wt ?_)
  refine Wf OpV.conv rfl ?_
  refine JO.reslot 9 (byteV (fourB x 1)) (by rw [conv8, four_1]) ?_
  repeat (first | refine Wa ?_ | refine Wb ?_ | refine Wc ?_ | refine Wd ?_ | refine We rfl ?_ | refine Wf (by first | exact Va | exact Vb | exact OpV.and32 | exact OpV.or32 | exact OpV.xor32 | exact OpV.andNot32 | exact OpV.add32 | exact OpV.sub32 | exact OpV.mul32 | exact OpV.quo32 (by decide) | exact OpV.rem32 (by decide) | exact OpV.quo64 (by decide) | exact OpV.rem64 (by decide)) rfl ?_ | refine Ws ?_ | refine Wt ?_)
  refine Wf OpV.conv rfl ?_
  refine JO.reslot 13 (byteV (fourB x 2)) (by rw [conv8, four_2]) ?_
  repeat (first | refine Wa ?_ | refine Wb ?_ | refine Wc ?_ | refine Wd ?_ | refine We rfl ?_ | refine Wf (by first | exact Va | exact Vb | exact OpV.and32 | exact OpV.or32 | exact OpV.xor32 | exact OpV.andNot32 | exact OpV.add32 | exact OpV.sub32 | exact OpV.mul32 | exact OpV.quo32 (by decide) | exact OpV.rem32 (by decide) | exact OpV.quo64 (by decide) | exact OpV.rem64 (by decide)) rfl ?_ | refine Ws ?_ | refine Wt ?_)
  refine Wf OpV.conv rfl ?_
  refine JO.reslot 16 (byteV (fourB x 3)) (by rw [conv8, four_3]) ?_
  refine We rfl ?_
  refine Wf (OpV.build [byteV (fourB x 0), byteV (fourB x 1), byteV (fourB x 2), byteV (fourB x 3)] (by kernel_rfl)) rfl ?_
  repeat (first|refine Wa ?_|refine Wb ?_|refine Wc ?_|refine Wd ?_|refine We rfl ?_|refine Wf (by first|exact Va|exact Vb|exact Vc|exact Vd|exact Ve|exact Vf|exact Vg|exact Vh|exact Vi|exact Vj|exact Vk (by omega)|exact Vl|exact Vm|exact Vn|exact Vo|exact Vp|exact Vq|exact Vr|exact Vs (by omega)|exact Vt (by omega)|exact Vu (by omega)|exact Vv (by omega)|exact Vw|exact Vx|exact Vy|exact Vz|exact VA|exact VB|exact VC|exact VD|exact VE|exact VF) rfl ?_|(refine Wg rfl ?_; intro _)|(refine Wh rfl ?_; intro _)|refine Wi ?_|refine Wj ?_|refine Wk ?_|refine Wl ?_|refine Wm ?_|refine Wn ?_|refine Wo ?_|refine Wp ?_|refine Wq rfl ?_|refine Wr ?_|refine Ws ?_|refine Wt ?_|refine Wu ?_|refine Wv rfl rfl ?_|(refine Ww rfl ⟨rfl, by decide, by decide, by decide⟩ ?_; intro _))
  exact CT.done () rfl (fun w ho => ho.ent)
theorem longB_ref (x : UInt64) (k : Nat) (hk : k < 8) : UInt8.ofNat (shrN64 x (8 * k) % 256).toNat = longB x k := by
  have h1 : (shrN64 x (8 * k)).toNat = x.toNat / 2 ^ (8 * k) := by
    rw [shrN64, UInt64.toNat_ofNat', Nat.mod_eq_of_lt (Nat.lt_of_le_of_lt (Nat.div_le_self _ _) x.toNat_lt)]
  rw [longB, UInt64.toNat_mod, h1]
  apply UInt8.toNat_inj.1
  rw [UInt8.toNat_ofNat', UInt8.toNat_ofNat', show (256 : UInt64).toNat = 256 by decide]
  omega
theorem long_next (x : UInt64) (k : Nat) : shrN64 x (8 * k) / 256 = shrN64 x (8 * (k + 1)) := by
  have h1 : ∀ k, (shrN64 x k).toNat = x.toNat / 2 ^ k := fun k => by
    rw [shrN64, UInt64.toNat_ofNat', Nat.mod_eq_of_lt (Nat.lt_of_le_of_lt (Nat.div_le_self _ _) x.toNat_lt)]
  apply UInt64.toNat_inj.1
  rw [UInt64.toNat_div, h1, h1, Nat.div_div_eq_div_mul, show (256 : UInt64).toNat = 2 ^ 8 by decide, ← Nat.pow_add]; rfl
theorem long_ref (w : World) (F : Nat → Prop) (x : UInt64) : GivesV Tryz.prog 149 [w64 x] w F (.agg ⟨(longL x).map byteV⟩) := by
  refine gives_of Tryz.func149 rfl Tryz.ntmps149 rfl rfl [] (.start w F) ?_
  repeat (first|refine Wa ?_|refine Wb ?_|refine Wc ?_|refine Wd ?_|refine We rfl ?_|refine Wf (by first|exact Va|exact Vb|exact Vc|exact Vd|exact Ve|exact Vf|exact Vg|exact Vh|exact Vi|exact Vj|exact Vk (by omega)|exact Vl|exact Vm|exact Vn|exact Vo|exact Vp|exact Vq|exact Vr|exact Vs (by omega)|exact Vt (by omega)|exact Vu (by omega)|exact Vv (by omega)|exact Vw|exact Vx|exact Vy|exact Vz|exact VA|exact VB|exact VC|exact VD|exact VE|exact VF) rfl ?_|(refine Wg rfl ?_; intro _)|(refine Wh rfl ?_; intro _)|refine Wi ?_|refine Wj ?_|refine Wk ?_|refine Wl ?_|refine Wm ?_|refine Wn ?_|refine Wo ?_|refine Wp ?_|refine Wq rfl ?_|refine Wr ?_|refine Ws ?_|refine Wt ?_|refine Wu ?_|refine Wv rfl rfl ?_|(refine Ww rfl ⟨rfl, by decide, by decide, by decide⟩ ?_; intro _))
  refine Wf (OpV.build ((longK x 0).1.map byteV) (by kernel_rfl)) rfl ?_
  repeat (first|refine Wa ?_|refine Wb ?_|refine Wc ?_|refine Wd ?_|refine We rfl ?_|refine Wf (by first|exact Va|exact Vb|exact Vc|exact Vd|exact Ve|exact Vf|exact Vg|exact Vh|exact Vi|exact Vj|exact Vk (by omega)|exact Vl|exact Vm|exact Vn|exact Vo|exact Vp|exact Vq|exact Vr|exact Vs (by omega)|exact Vt (by omega)|exact Vu (by omega)|exact Vv (by omega)|exact Vw|exact Vx|exact Vy|exact Vz|exact VA|exact VB|exact VC|exact VD|exact VE|exact VF) rfl ?_|(refine Wg rfl ?_; intro _)|(refine Wh rfl ?_; intro _)|refine Wi ?_|refine Wj ?_|refine Wk ?_|refine Wl ?_|refine Wm ?_|refine Wn ?_|refine Wo ?_|refine Wp ?_|refine Wq rfl ?_|refine Wr ?_|refine Ws ?_|refine Wt ?_|refine Wu ?_|refine Wv rfl rfl ?_|(refine Ww rfl ⟨rfl, by decide, by decide, by decide⟩ ?_; intro _))
  rename_i bo br
  refine JC.reslot 4 (.int .i64 (7 - ((0 : Nat) : Int))) (by rfl) ?_
  refine JC.loop1 (fun k : Nat => [(0, w64 (shrN64 x (8 * k))), (2, .pointer (some ⟨bo, 0, none⟩)), (3, .pointer (some ⟨br, 0, none⟩)), (4, .int .i64 (7 - (k : Int)))]) (fun k => [.own br 144 ((longK x k).1.map byteV), .own bo 144 [.int .u8 0, .int .u8 0, .int .u8 0, .int .u8 0, .int .u8 0, .int .u8 0, .int .u8 0, .int .u8 0]])
    (fun k => k ≤ 8) (fun k => 8 - k) 0 (Nat.zero_le _) (by rw [show shrN64 x (8 * 0) = x by simp [shrN64]]; infer_instance) ?_
  intro k hk
  repeat (first|refine Wa ?_|refine Wb ?_|refine Wc ?_|refine Wd ?_|refine We rfl ?_|refine Wf (by first|exact Va|exact Vb|exact Vc|exact Vd|exact Ve|exact Vf|exact Vg|exact Vh|exact Vi|exact Vj|exact Vk (by omega)|exact Vl|exact Vm|exact Vn|exact Vo|exact Vp|exact Vq|exact Vr|exact Vs (by omega)|exact Vt (by omega)|exact Vu (by omega)|exact Vv (by omega)|exact Vw|exact Vx|exact Vy|exact Vz|exact VA|exact VB|exact VC|exact VD|exact VE|exact VF) rfl ?_|(refine Wg rfl ?_; intro _)|(refine Wh rfl ?_; intro _)|refine Wi ?_|refine Wj ?_|refine Wk ?_|refine Wl ?_|refine Wm ?_|refine Wn ?_|refine Wo ?_|refine Wp ?_|refine Wq rfl ?_|refine Wr ?_|refine Ws ?_|refine Wt ?_|refine Wu ?_|refine Wv rfl rfl ?_|(refine Ww rfl ⟨rfl, by decide, by decide, by decide⟩ ?_; intro _))
  refine JC.test (fun hlt => ?_) (fun hge => ?_)
  · have hlt' : k < 8 := by omega
    refine JC.reslot 4 (.int .i64 ((7 - k : Nat) : Int)) (by congr 1; omega) ?_
    repeat (first|refine Wa ?_|refine Wb ?_|refine Wc ?_|refine Wd ?_|refine We rfl ?_|refine Wf (by first|exact Va|exact Vb|exact Vc|exact Vd|exact Ve|exact Vf|exact Vg|exact Vh|exact Vi|exact Vj|exact Vk (by omega)|exact Vl|exact Vm|exact Vn|exact Vo|exact Vp|exact Vq|exact Vr|exact Vs (by omega)|exact Vt (by omega)|exact Vu (by omega)|exact Vv (by omega)|exact Vw|exact Vx|exact Vy|exact Vz|exact VA|exact VB|exact VC|exact VD|exact VE|exact VF) rfl ?_|(refine Wg rfl ?_; intro _)|(refine Wh rfl ?_; intro _)|refine Wi ?_|refine Wj ?_|refine Wk ?_|refine Wl ?_|refine Wm ?_|refine Wn ?_|refine Wo ?_|refine Wp ?_|refine Wq rfl ?_|refine Wr ?_|refine Ws ?_|refine Wt ?_|refine Wu ?_|refine Wv rfl rfl ?_|(refine Ww rfl ⟨rfl, by decide, by decide, by decide⟩ ?_; intro _))
    repeat (first | refine Wa ?_ | refine Wb ?_ | refine Wc ?_ | refine Wd ?_ | refine We rfl ?_ | refine Wf (by first | exact Va | exact Vb | exact OpV.and32 | exact OpV.or32 | exact OpV.xor32 | exact OpV.andNot32 | exact OpV.add32 | exact OpV.sub32 | exact OpV.mul32 | exact OpV.quo32 (by decide) | exact OpV.rem32 (by decide) | exact OpV.quo64 (by decide) | exact OpV.rem64 (by decide)) rfl ?_ | refine Ws ?_ | refine Wt ?_)
    refine Wf OpV.conv rfl ?_
    refine JO.reslot 13 (byteV (longB x k)) (by rw [conv8, longB_ref x k hlt']) ?_
    refine We rfl ?_
    refine Wf (OpV.indexArr (k := 7 - k) (by omega)) rfl ?_
    refine We rfl ?_
    refine JR.setW (7 - k) (longB x k) (by rw [(longK x k).2]; omega) (by omega) rfl ?_
    rw [longK_set x k hlt']
    repeat (first | refine Wa ?_ | refine Wb ?_ | refine Wc ?_ | refine Wd ?_ | refine We rfl ?_ | refine Wf (by first | exact Va | exact Vb | exact OpV.and32 | exact OpV.or32 | exact OpV.xor32 | exact OpV.andNot32 | exact OpV.add32 | exact OpV.sub32 | exact OpV.mul32 | exact OpV.quo32 (by decide) | exact OpV.rem32 (by decide) | exact OpV.quo64 (by decide) | exact OpV.rem64 (by decide)) rfl ?_ | refine Ws ?_ | refine Wt ?_)
    repeat (first|refine Wa ?_|refine Wb ?_|refine Wc ?_|refine Wd ?_|refine We rfl ?_|refine Wf (by first|exact Va|exact Vb|exact Vc|exact Vd|exact Ve|exact Vf|exact Vg|exact Vh|exact Vi|exact Vj|exact Vk (by omega)|exact Vl|exact Vm|exact Vn|exact Vo|exact Vp|exact Vq|exact Vr|exact Vs (by omega)|exact Vt (by omega)|exact Vu (by omega)|exact Vv (by omega)|exact Vw|exact Vx|exact Vy|exact Vz|exact VA|exact VB|exact VC|exact VD|exact VE|exact VF) rfl ?_|(refine Wg rfl ?_; intro _)|(refine Wh rfl ?_; intro _)|refine Wi ?_|refine Wj ?_|refine Wk ?_|refine Wl ?_|refine Wm ?_|refine Wn ?_|refine Wo ?_|refine Wp ?_|refine Wq rfl ?_|refine Wr ?_|refine Ws ?_|refine Wt ?_|refine Wu ?_|refine Wv rfl rfl ?_|(refine Ww rfl ⟨rfl, by decide, by decide, by decide⟩ ?_; intro _))
    exact ⟨k + 1, by omega, by omega, by rw [← long_next, show 7 - ((k + 1 : Nat) : Int) = ((7 - k : Nat) : Int) - 1 by omega]; infer_instance⟩
  · obtain rfl : k = 8 := by omega
    repeat (first|refine Wa ?_|refine Wb ?_|refine Wc ?_|refine Wd ?_|refine We rfl ?_|refine Wf (by first|exact Va|exact Vb|exact Vc|exact Vd|exact Ve|exact Vf|exact Vg|exact Vh|exact Vi|exact Vj|exact Vk (by omega)|exact Vl|exact Vm|exact Vn|exact Vo|exact Vp|exact Vq|exact Vr|exact Vs (by omega)|exact Vt (by omega)|exact Vu (by omega)|exact Vv (by omega)|exact Vw|exact Vx|exact Vy|exact Vz|exact VA|exact VB|exact VC|exact VD|exact VE|exact VF) rfl ?_|(refine Wg rfl ?_; intro _)|(refine Wh rfl ?_; intro _)|refine Wi ?_|refine Wj ?_|refine Wk ?_|refine Wl ?_|refine Wm ?_|refine Wn ?_|refine Wo ?_|refine Wp ?_|refine Wq rfl ?_|refine Wr ?_|refine Ws ?_|refine Wt ?_|refine Wu ?_|refine Wv rfl rfl ?_|(refine Ww rfl ⟨rfl, by decide, by decide, by decide⟩ ?_; intro _))
    exact CT.done () rfl (fun w ho => ho.ent)
end Ab
end Go.Proofs.YtcmfemfndadfmaaGreat

/- Contracts of the document's layer 2: Pad, words. -/
namespace Go.Proofs.YtcmfemfndadfmaaGreat
namespace Ab
open Go Go.RowKit
set_option linter.unusedVariables false
set_option linter.unusedSimpArgs false
set_option synthInstance.maxSize 4000
set_option synthInstance.maxHeartbeats 400000
attribute [local irreducible] JC JO JR JQ andThen inBlock OpV Gives retTo JM JS

attribute [local irreducible] spreadK
set_option maxHeartbeats 1000000 in
theorem pad_ref (w : World) (F : Nat → Prop) (a : Option Addr) (c : Nat) (L : List UInt8) (h : (sl a c L).holds F w) (hL : L.length ≤ 1048576) :
    GivesBuf Tryz.prog 113 [.slice a L.length c] w F 5 (padL L) := by
  refine gives_of Tryz.func113 rfl Tryz.ntmps113 rfl rfl [.st (sl a c L)] (.start1 h) ?_
  repeat (first|refine Wa ?_|refine Wb ?_|refine Wc ?_|refine Wd ?_|refine We rfl ?_|refine Wf (by first|exact Va|exact Vb|exact Vc|exact Vd|exact Ve|exact Vf|exact Vg|exact Vh|exact Vi|exact Vj|exact Vk (by omega)|exact Vl|exact Vm|exact Vn|exact Vo|exact Vp|exact Vq|exact Vr|exact Vs (by omega)|exact Vt (by omega)|exact Vu (by omega)|exact Vv (by omega)|exact Vw|exact Vx|exact Vy|exact Vz|exact VA|exact VB|exact VC|exact VD|exact VE|exact VF) rfl ?_|(refine Wg rfl ?_; intro _)|(refine Wh rfl ?_; intro _)|refine Wi ?_|refine Wj ?_|refine Wk ?_|refine Wl ?_|refine Wm ?_|refine Wn ?_|refine Wo ?_|refine Wp ?_|refine Wq rfl ?_|refine Wr ?_|refine Ws ?_|refine Wt ?_|refine Wu ?_|refine Wv rfl rfl ?_|(refine Ww rfl ⟨rfl, by decide, by decide, by decide⟩ ?_; intro _))
  refine JR.appendNil (L' := L) rfl (by exact ⟨rfl, rfl, by decide⟩) (by omega) ?_
  intro a1 c1
  repeat (first|refine Wa ?_|refine Wb ?_|refine Wc ?_|refine Wd ?_|refine We rfl ?_|refine Wf (by first|exact Va|exact Vb|exact Vc|exact Vd|exact Ve|exact Vf|exact Vg|exact Vh|exact Vi|exact Vj|exact Vk (by omega)|exact Vl|exact Vm|exact Vn|exact Vo|exact Vp|exact Vq|exact Vr|exact Vs (by omega)|exact Vt (by omega)|exact Vu (by omega)|exact Vv (by omega)|exact Vw|exact Vx|exact Vy|exact Vz|exact VA|exact VB|exact VC|exact VD|exact VE|exact VF) rfl ?_|(refine Wg rfl ?_; intro _)|(refine Wh rfl ?_; intro _)|refine Wi ?_|refine Wj ?_|refine Wk ?_|refine Wl ?_|refine Wm ?_|refine Wn ?_|refine Wo ?_|refine Wp ?_|refine Wq rfl ?_|refine Wr ?_|refine Ws ?_|refine Wt ?_|refine Wu ?_|refine Wv rfl rfl ?_|(refine Ww rfl ⟨rfl, by decide, by decide, by decide⟩ ?_; intro _))
  refine JR.append1 rfl (by exact ⟨rfl, rfl, by decide⟩) (by omega) ?_
  intro a2 c2
  repeat (first|refine Wa ?_|refine Wb ?_|refine Wc ?_|refine Wd ?_|refine We rfl ?_|refine Wf (by first|exact Va|exact Vb|exact Vc|exact Vd|exact Ve|exact Vf|exact Vg|exact Vh|exact Vi|exact Vj|exact Vk (by omega)|exact Vl|exact Vm|exact Vn|exact Vo|exact Vp|exact Vq|exact Vr|exact Vs (by omega)|exact Vt (by omega)|exact Vu (by omega)|exact Vv (by omega)|exact Vw|exact Vx|exact Vy|exact Vz|exact VA|exact VB|exact VC|exact VD|exact VE|exact VF) rfl ?_|(refine Wg rfl ?_; intro _)|(refine Wh rfl ?_; intro _)|refine Wi ?_|refine Wj ?_|refine Wk ?_|refine Wl ?_|refine Wm ?_|refine Wn ?_|refine Wo ?_|refine Wp ?_|refine Wq rfl ?_|refine Wr ?_|refine Ws ?_|refine Wt ?_|refine Wu ?_|refine Wv rfl rfl ?_|(refine Ww rfl ⟨rfl, by decide, by decide, by decide⟩ ?_; intro _))
  have hz : padZ L.length < 64 := Nat.mod_lt _ (by decide)
  refine JC.loop3 (fun (k : Nat) p q => [(0, .slice a L.length c), (3, .slice p ((L ++ [128]) ++ List.replicate k (0 : UInt8)).length q)]) (fun k p q => [.res (buf p q 5 ((L ++ [128]) ++ List.replicate k (0 : UInt8)))])
    (fun k _ _ => k ≤ padZ L.length) (fun k _ _ => padZ L.length - k) 0 a2 c2 (Nat.zero_le _) (by rw [List.replicate_zero, List.append_nil]; infer_instance) ?_
  intro k p q hk
  repeat (first|refine Wa ?_|refine Wb ?_|refine Wc ?_|refine Wd ?_|refine We rfl ?_|refine Wf (by first|exact Va|exact Vb|exact Vc|exact Vd|exact Ve|exact Vf|exact Vg|exact Vh|exact Vi|exact Vj|exact Vk (by omega)|exact Vl|exact Vm|exact Vn|exact Vo|exact Vp|exact Vq|exact Vr|exact Vs (by omega)|exact Vt (by omega)|exact Vu (by omega)|exact Vv (by omega)|exact Vw|exact Vx|exact Vy|exact Vz|exact VA|exact VB|exact VC|exact VD|exact VE|exact VF) rfl ?_|(refine Wg rfl ?_; intro _)|(refine Wh rfl ?_; intro _)|refine Wi ?_|refine Wj ?_|refine Wk ?_|refine Wl ?_|refine Wm ?_|refine Wn ?_|refine Wo ?_|refine Wp ?_|refine Wq rfl ?_|refine Wr ?_|refine Ws ?_|refine Wt ?_|refine Wu ?_|refine Wv rfl rfl ?_|(refine Ww rfl ⟨rfl, by decide, by decide, by decide⟩ ?_; intro _))
  have hlen : ((L ++ [128]) ++ List.replicate k (0 : UInt8)).length = L.length + 1 + k := by simp; omega
  refine Wf (OpV.rem (by decide)) rfl ?_
  refine JO.reslot 12 (.int .i64 (((L.length + 1 + k) % 64 : Nat) : Int)) (by rw [hlen, Int.tmod_eq_emod_of_nonneg (by omega)]; congr 1) ?_
  repeat (first|refine Wa ?_|refine Wb ?_|refine Wc ?_|refine Wd ?_|refine We rfl ?_|refine Wf (by first|exact Va|exact Vb|exact Vc|exact Vd|exact Ve|exact Vf|exact Vg|exact Vh|exact Vi|exact Vj|exact Vk (by omega)|exact Vl|exact Vm|exact Vn|exact Vo|exact Vp|exact Vq|exact Vr|exact Vs (by omega)|exact Vt (by omega)|exact Vu (by omega)|exact Vv (by omega)|exact Vw|exact Vx|exact Vy|exact Vz|exact VA|exact VB|exact VC|exact VD|exact VE|exact VF) rfl ?_|(refine Wg rfl ?_; intro _)|(refine Wh rfl ?_; intro _)|refine Wi ?_|refine Wj ?_|refine Wk ?_|refine Wl ?_|refine Wm ?_|refine Wn ?_|refine Wo ?_|refine Wp ?_|refine Wq rfl ?_|refine Wr ?_|refine Ws ?_|refine Wt ?_|refine Wu ?_|refine Wv rfl rfl ?_|(refine Ww rfl ⟨rfl, by decide, by decide, by decide⟩ ?_; intro _))
  refine JC.test (fun h1 => ?_) (fun h1 => ?_)
  · have h2 : k < padZ L.length := by simp only [padZ] at hk ⊢; omega
    repeat (first|refine Wa ?_|refine Wb ?_|refine Wc ?_|refine Wd ?_|refine We rfl ?_|refine Wf (by first|exact Va|exact Vb|exact Vc|exact Vd|exact Ve|exact Vf|exact Vg|exact Vh|exact Vi|exact Vj|exact Vk (by omega)|exact Vl|exact Vm|exact Vn|exact Vo|exact Vp|exact Vq|exact Vr|exact Vs (by omega)|exact Vt (by omega)|exact Vu (by omega)|exact Vv (by omega)|exact Vw|exact Vx|exact Vy|exact Vz|exact VA|exact VB|exact VC|exact VD|exact VE|exact VF) rfl ?_|(refine Wg rfl ?_; intro _)|(refine Wh rfl ?_; intro _)|refine Wi ?_|refine Wj ?_|refine Wk ?_|refine Wl ?_|refine Wm ?_|refine Wn ?_|refine Wo ?_|refine Wp ?_|refine Wq rfl ?_|refine Wr ?_|refine Ws ?_|refine Wt ?_|refine Wu ?_|refine Wv rfl rfl ?_|(refine Ww rfl ⟨rfl, by decide, by decide, by decide⟩ ?_; intro _))
    refine JR.append1 rfl (by exact ⟨rfl, rfl, by decide⟩) (by rw [hlen]; omega) ?_
    intro a3 c3
    repeat (first|refine Wa ?_|refine Wb ?_|refine Wc ?_|refine Wd ?_|refine We rfl ?_|refine Wf (by first|exact Va|exact Vb|exact Vc|exact Vd|exact Ve|exact Vf|exact Vg|exact Vh|exact Vi|exact Vj|exact Vk (by omega)|exact Vl|exact Vm|exact Vn|exact Vo|exact Vp|exact Vq|exact Vr|exact Vs (by omega)|exact Vt (by omega)|exact Vu (by omega)|exact Vv (by omega)|exact Vw|exact Vx|exact Vy|exact Vz|exact VA|exact VB|exact VC|exact VD|exact VE|exact VF) rfl ?_|(refine Wg rfl ?_; intro _)|(refine Wh rfl ?_; intro _)|refine Wi ?_|refine Wj ?_|refine Wk ?_|refine Wl ?_|refine Wm ?_|refine Wn ?_|refine Wo ?_|refine Wp ?_|refine Wq rfl ?_|refine Wr ?_|refine Ws ?_|refine Wt ?_|refine Wu ?_|refine Wv rfl rfl ?_|(refine Ww rfl ⟨rfl, by decide, by decide, by decide⟩ ?_; intro _))
    have hs : (L ++ [128]) ++ List.replicate (k + 1) (0 : UInt8) = (L ++ [128]) ++ List.replicate k (0 : UInt8) ++ [0] := by rw [List.replicate_succ', ← List.append_assoc]
    exact ⟨k + 1, a3, c3, by omega, by omega, by rw [hs]; infer_instance⟩
  · have h2 : k = padZ L.length := by simp only [padZ] at hk ⊢; omega
    subst h2
    repeat (first|refine Wa ?_|refine Wb ?_|refine Wc ?_|refine Wd ?_|refine We rfl ?_|refine Wf (by first|exact Va|exact Vb|exact Vc|exact Vd|exact Ve|exact Vf|exact Vg|exact Vh|exact Vi|exact Vj|exact Vk (by omega)|exact Vl|exact Vm|exact Vn|exact Vo|exact Vp|exact Vq|exact Vr|exact Vs (by omega)|exact Vt (by omega)|exact Vu (by omega)|exact Vv (by omega)|exact Vw|exact Vx|exact Vy|exact Vz|exact VA|exact VB|exact VC|exact VD|exact VE|exact VF) rfl ?_|(refine Wg rfl ?_; intro _)|(refine Wh rfl ?_; intro _)|refine Wi ?_|refine Wj ?_|refine Wk ?_|refine Wl ?_|refine Wm ?_|refine Wn ?_|refine Wo ?_|refine Wp ?_|refine Wq rfl ?_|refine Wr ?_|refine Ws ?_|refine Wt ?_|refine Wu ?_|refine Wv rfl rfl ?_|(refine Ww rfl ⟨rfl, by decide, by decide, by decide⟩ ?_; intro _))
    refine Wf OpV.conv rfl ?_
    refine JO.reslot 19 (w64 (UInt64.ofNat L.length)) (congrArg (Value.int .u64) (by rw [wrap64, UInt64.toNat_ofNat'])) ?_
    repeat (first | refine Wa ?_ | refine Wb ?_ | refine Wc ?_ | refine Wd ?_ | refine We rfl ?_ | refine Wf (by first | exact Va | exact Vb | exact OpV.and32 | exact OpV.or32 | exact OpV.xor32 | exact OpV.andNot32 | exact OpV.add32 | exact OpV.sub32 | exact OpV.mul32 | exact OpV.quo32 (by decide) | exact OpV.rem32 (by decide) | exact OpV.quo64 (by decide) | exact OpV.rem64 (by decide) | exact OpV.mul64) rfl ?_ | refine Ws ?_ | refine Wt ?_)
    refine JR.reslot 20 (w64 (UInt64.ofNat (L.length * 8))) (by rw [UInt64.ofNat_mul, UInt64.mul_comm]; rfl) ?_
    refine JR.callV rfl (fun w1 hw => long_ref w1 _ _) ?_
    repeat (first|refine Wa ?_|refine Wb ?_|refine Wc ?_|refine Wd ?_|refine We rfl ?_|refine Wf (by first|exact Va|exact Vb|exact Vc|exact Vd|exact Ve|exact Vf|exact Vg|exact Vh|exact Vi|exact Vj|exact Vk (by omega)|exact Vl|exact Vm|exact Vn|exact Vo|exact Vp|exact Vq|exact Vr|exact Vs (by omega)|exact Vt (by omega)|exact Vu (by omega)|exact Vv (by omega)|exact Vw|exact Vx|exact Vy|exact Vz|exact VA|exact VB|exact VC|exact VD|exact VE|exact VF) rfl ?_|(refine Wg rfl ?_; intro _)|(refine Wh rfl ?_; intro _)|refine Wi ?_|refine Wj ?_|refine Wk ?_|refine Wl ?_|refine Wm ?_|refine Wn ?_|refine Wo ?_|refine Wp ?_|refine Wq rfl ?_|refine Wr ?_|refine Ws ?_|refine Wt ?_|refine Wu ?_|refine Wv rfl rfl ?_|(refine Ww rfl ⟨rfl, by decide, by decide, by decide⟩ ?_; intro _))
    rename_i bn
    refine JR.reown bn [byteV (longB (UInt64.ofNat (L.length * 8)) 7), byteV (longB (UInt64.ofNat (L.length * 8)) 6), byteV (longB (UInt64.ofNat (L.length * 8)) 5), byteV (longB (UInt64.ofNat (L.length * 8)) 4), byteV (longB (UInt64.ofNat (L.length * 8)) 3), byteV (longB (UInt64.ofNat (L.length * 8)) 2), byteV (longB (UInt64.ofNat (L.length * 8)) 1), byteV (longB (UInt64.ofNat (L.length * 8)) 0)] rfl ?_
    repeat (refine Wf (OpV.indexArr (by decide)) rfl ?_; refine We rfl ?_; refine Wf Vc rfl ?_; refine We rfl ?_)
    refine Ww rfl ⟨rfl, by decide, by decide, by decide⟩ ?_
    intro bl
    refine We rfl ?_
    refine JR.appendBytes (M := longL (UInt64.ofNat (L.length * 8))) rfl rfl rfl (by simp [longL]) (by exact ⟨rfl, rfl, by decide⟩) (by rw [hlen]; omega) ?_
    intro a3 c3
    repeat (first|refine Wa ?_|refine Wb ?_|refine Wc ?_|refine Wd ?_|refine We rfl ?_|refine Wf (by first|exact Va|exact Vb|exact Vc|exact Vd|exact Ve|exact Vf|exact Vg|exact Vh|exact Vi|exact Vj|exact Vk (by omega)|exact Vl|exact Vm|exact Vn|exact Vo|exact Vp|exact Vq|exact Vr|exact Vs (by omega)|exact Vt (by omega)|exact Vu (by omega)|exact Vv (by omega)|exact Vw|exact Vx|exact Vy|exact Vz|exact VA|exact VB|exact VC|exact VD|exact VE|exact VF) rfl ?_|(refine Wg rfl ?_; intro _)|(refine Wh rfl ?_; intro _)|refine Wi ?_|refine Wj ?_|refine Wk ?_|refine Wl ?_|refine Wm ?_|refine Wn ?_|refine Wo ?_|refine Wp ?_|refine Wq rfl ?_|refine Wr ?_|refine Ws ?_|refine Wt ?_|refine Wu ?_|refine Wv rfl rfl ?_|(refine Ww rfl ⟨rfl, by decide, by decide, by decide⟩ ?_; intro _))
    exact CT.done (a3, c3) rfl (fun w ho => (ho.ent : Hold _ _ [.res (buf a3 c3 5 ((L ++ [128]) ++ List.replicate (padZ L.length) (0 : UInt8) ++ longL (UInt64.ofNat (L.length * 8))))] w))
theorem shr_div (x : UInt32) : x / 8 = shrN32 x 3 := by
  apply UInt32.toNat_inj.1
  rw [UInt32.toNat_div, shrN32, UInt32.toNat_ofNat', Nat.mod_eq_of_lt (Nat.lt_of_le_of_lt (Nat.div_le_self _ _) x.toNat_lt)]; rfl
theorem shr_div10 (x : UInt32) : x / 1024 = shrN32 x 10 := by
  apply UInt32.toNat_inj.1
  rw [UInt32.toNat_div, shrN32, UInt32.toNat_ofNat', Nat.mod_eq_of_lt (Nat.lt_of_le_of_lt (Nat.div_le_self _ _) x.toNat_lt)]; rfl
set_option maxHeartbeats 1000000 in
theorem words_ref (w : World) (F : Nat → Prop) (a : Option Addr) (c : Nat) (L : List UInt8) (h : (sl a c L).holds F w) (hL : L.length = 64) :
    GivesV Tryz.prog 151 [.slice a L.length c] w F (.agg ⟨(spreadV L 64).1.map w32⟩) := by
  refine gives_of Tryz.func151 rfl Tryz.ntmps151 rfl rfl [.st (sl a c L)] (.start1 h) ?_
  repeat (first|refine Wa ?_|refine Wb ?_|refine Wc ?_|refine Wd ?_|refine We rfl ?_|refine Wf (by first|exact Va|exact Vb|exact Vc|exact Vd|exact Ve|exact Vf|exact Vg|exact Vh|exact Vi|exact Vj|exact Vk (by omega)|exact Vl|exact Vm|exact Vn|exact Vo|exact Vp|exact Vq|exact Vr|exact Vs (by omega)|exact Vt (by omega)|exact Vu (by omega)|exact Vv (by omega)|exact Vw|exact Vx|exact Vy|exact Vz|exact VA|exact VB|exact VC|exact VD|exact VE|exact VF) rfl ?_|(refine Wg rfl ?_; intro _)|(refine Wh rfl ?_; intro _)|refine Wi ?_|refine Wj ?_|refine Wk ?_|refine Wl ?_|refine Wm ?_|refine Wn ?_|refine Wo ?_|refine Wp ?_|refine Wq rfl ?_|refine Wr ?_|refine Ws ?_|refine Wt ?_|refine Wu ?_|refine Wv rfl rfl ?_|(refine Ww rfl ⟨rfl, by decide, by decide, by decide⟩ ?_; intro _))
  refine Wf (OpV.build ((spreadV L 0).1.map w32) (by kernel_rfl)) rfl ?_
  repeat (first|refine Wa ?_|refine Wb ?_|refine Wc ?_|refine Wd ?_|refine We rfl ?_|refine Wf (by first|exact Va|exact Vb|exact Vc|exact Vd|exact Ve|exact Vf|exact Vg|exact Vh|exact Vi|exact Vj|exact Vk (by omega)|exact Vl|exact Vm|exact Vn|exact Vo|exact Vp|exact Vq|exact Vr|exact Vs (by omega)|exact Vt (by omega)|exact Vu (by omega)|exact Vv (by omega)|exact Vw|exact Vx|exact Vy|exact Vz|exact VA|exact VB|exact VC|exact VD|exact VE|exact VF) rfl ?_|(refine Wg rfl ?_; intro _)|(refine Wh rfl ?_; intro _)|refine Wi ?_|refine Wj ?_|refine Wk ?_|refine Wl ?_|refine Wm ?_|refine Wn ?_|refine Wo ?_|refine Wp ?_|refine Wq rfl ?_|refine Wr ?_|refine Ws ?_|refine Wt ?_|refine Wu ?_|refine Wv rfl rfl ?_|(refine Ww rfl ⟨rfl, by decide, by decide, by decide⟩ ?_; intro _))
  rename_i bo br
  refine JC.reown bo ((spreadV L 0).1.map w32) (by rw [spreadV_zero, List.map_replicate]; rfl) ?_
  refine JC.loop1 (fun k : Nat => [(0, .slice a L.length c), (2, .pointer (some ⟨bo, 0, none⟩)), (3, .pointer (some ⟨br, 0, none⟩)), (4, .int .i64 (k : Int))]) (fun k => [.own br 146 ((spreadV L k).1.map w32), .own bo 146 ((spreadV L 0).1.map w32), .st (sl a c L)])
    (fun k => k ≤ 64) (fun k => 64 - k) 0 (Nat.zero_le _) inferInstance ?_
  intro k hk
  repeat (first|refine Wa ?_|refine Wb ?_|refine Wc ?_|refine Wd ?_|refine We rfl ?_|refine Wf (by first|exact Va|exact Vb|exact Vc|exact Vd|exact Ve|exact Vf|exact Vg|exact Vh|exact Vi|exact Vj|exact Vk (by omega)|exact Vl|exact Vm|exact Vn|exact Vo|exact Vp|exact Vq|exact Vr|exact Vs (by omega)|exact Vt (by omega)|exact Vu (by omega)|exact Vv (by omega)|exact Vw|exact Vx|exact Vy|exact Vz|exact VA|exact VB|exact VC|exact VD|exact VE|exact VF) rfl ?_|(refine Wg rfl ?_; intro _)|(refine Wh rfl ?_; intro _)|refine Wi ?_|refine Wj ?_|refine Wk ?_|refine Wl ?_|refine Wm ?_|refine Wn ?_|refine Wo ?_|refine Wp ?_|refine Wq rfl ?_|refine Wr ?_|refine Ws ?_|refine Wt ?_|refine Wu ?_|refine Wv rfl rfl ?_|(refine Ww rfl ⟨rfl, by decide, by decide, by decide⟩ ?_; intro _))
  refine JC.test (fun hlt => ?_) (fun hge => ?_)
  · have hlt' : k < 64 := by omega
    have hv := (spreadV L k).2
    repeat (first|refine Wa ?_|refine Wb ?_|refine Wc ?_|refine Wd ?_|refine We rfl ?_|refine Wf (by first|exact Va|exact Vb|exact Vc|exact Vd|exact Ve|exact Vf|exact Vg|exact Vh|exact Vi|exact Vj|exact Vk (by omega)|exact Vl|exact Vm|exact Vn|exact Vo|exact Vp|exact Vq|exact Vr|exact Vs (by omega)|exact Vt (by omega)|exact Vu (by omega)|exact Vv (by omega)|exact Vw|exact Vx|exact Vy|exact Vz|exact VA|exact VB|exact VC|exact VD|exact VE|exact VF) rfl ?_|(refine Wg rfl ?_; intro _)|(refine Wh rfl ?_; intro _)|refine Wi ?_|refine Wj ?_|refine Wk ?_|refine Wl ?_|refine Wm ?_|refine Wn ?_|refine Wo ?_|refine Wp ?_|refine Wq rfl ?_|refine Wr ?_|refine Ws ?_|refine Wt ?_|refine Wu ?_|refine Wv rfl rfl ?_|(refine Ww rfl ⟨rfl, by decide, by decide, by decide⟩ ?_; intro _))
    refine JC.test (fun h16 => ?_) (fun h16 => ?_)
    · have h16' : k < 16 := by omega
      repeat (first|refine Wa ?_|refine Wb ?_|refine Wc ?_|refine Wd ?_|refine We rfl ?_|refine Wf (by first|exact Va|exact Vb|exact Vc|exact Vd|exact Ve|exact Vf|exact Vg|exact Vh|exact Vi|exact Vj|exact Vk (by omega)|exact Vl|exact Vm|exact Vn|exact Vo|exact Vp|exact Vq|exact Vr|exact Vs (by omega)|exact Vt (by omega)|exact Vu (by omega)|exact Vv (by omega)|exact Vw|exact Vx|exact Vy|exact Vz|exact VA|exact VB|exact VC|exact VD|exact VE|exact VF) rfl ?_|(refine Wg rfl ?_; intro _)|(refine Wh rfl ?_; intro _)|refine Wi ?_|refine Wj ?_|refine Wk ?_|refine Wl ?_|refine Wm ?_|refine Wn ?_|refine Wo ?_|refine Wp ?_|refine Wq rfl ?_|refine Wr ?_|refine Ws ?_|refine Wt ?_|refine Wu ?_|refine Wv rfl rfl ?_|(refine Ww rfl ⟨rfl, by decide, by decide, by decide⟩ ?_; intro _))
      refine Wf (OpV.mul (by omega)) rfl ?_
      refine JO.reslot 21 (.int .i64 ((4 * k : Nat) : Int)) (by congr 1) ?_
      refine We rfl ?_
      refine JR.callV rfl (fun w1 hw => word_ref w1 _ a c L (4 * k) hw.get (by omega)) ?_
      repeat (first|refine Wa ?_|refine Wb ?_|refine Wc ?_|refine Wd ?_|refine We rfl ?_|refine Wf (by first|exact Va|exact Vb|exact Vc|exact Vd|exact Ve|exact Vf|exact Vg|exact Vh|exact Vi|exact Vj|exact Vk (by omega)|exact Vl|exact Vm|exact Vn|exact Vo|exact Vp|exact Vq|exact Vr|exact Vs (by omega)|exact Vt (by omega)|exact Vu (by omega)|exact Vv (by omega)|exact Vw|exact Vx|exact Vy|exact Vz|exact VA|exact VB|exact VC|exact VD|exact VE|exact VF) rfl ?_|(refine Wg rfl ?_; intro _)|(refine Wh rfl ?_; intro _)|refine Wi ?_|refine Wj ?_|refine Wk ?_|refine Wl ?_|refine Wm ?_|refine Wn ?_|refine Wo ?_|refine Wp ?_|refine Wq rfl ?_|refine Wr ?_|refine Ws ?_|refine Wt ?_|refine Wu ?_|refine Wv rfl rfl ?_|(refine Ww rfl ⟨rfl, by decide, by decide, by decide⟩ ?_; intro _))
      refine Wf (OpV.indexArr hlt') rfl ?_
      refine We rfl ?_
      refine JR.setW k (wordAt L (4 * k)) (by omega) (by omega) rfl ?_
      refine JO.reown br ((spreadV L (k + 1)).1.map w32) (by rw [spreadV_succ, wordK, if_pos h16']) ?_
      repeat (first|refine Wa ?_|refine Wb ?_|refine Wc ?_|refine Wd ?_|refine We rfl ?_|refine Wf (by first|exact Va|exact Vb|exact Vc|exact Vd|exact Ve|exact Vf|exact Vg|exact Vh|exact Vi|exact Vj|exact Vk (by omega)|exact Vl|exact Vm|exact Vn|exact Vo|exact Vp|exact Vq|exact Vr|exact Vs (by omega)|exact Vt (by omega)|exact Vu (by omega)|exact Vv (by omega)|exact Vw|exact Vx|exact Vy|exact Vz|exact VA|exact VB|exact VC|exact VD|exact VE|exact VF) rfl ?_|(refine Wg rfl ?_; intro _)|(refine Wh rfl ?_; intro _)|refine Wi ?_|refine Wj ?_|refine Wk ?_|refine Wl ?_|refine Wm ?_|refine Wn ?_|refine Wo ?_|refine Wp ?_|refine Wq rfl ?_|refine Wr ?_|refine Ws ?_|refine Wt ?_|refine Wu ?_|refine Wv rfl rfl ?_|(refine Ww rfl ⟨rfl, by decide, by decide, by decide⟩ ?_; intro _))
      exact ⟨k + 1, by omega, by omega, inferInstance⟩
    · have h16' : ¬ k < 16 := by omega
      repeat (first|refine Wa ?_|refine Wb ?_|refine Wc ?_|refine Wd ?_|refine We rfl ?_|refine Wf (by first|exact Va|exact Vb|exact Vc|exact Vd|exact Ve|exact Vf|exact Vg|exact Vh|exact Vi|exact Vj|exact Vk (by omega)|exact Vl|exact Vm|exact Vn|exact Vo|exact Vp|exact Vq|exact Vr|exact Vs (by omega)|exact Vt (by omega)|exact Vu (by omega)|exact Vv (by omega)|exact Vw|exact Vx|exact Vy|exact Vz|exact VA|exact VB|exact VC|exact VD|exact VE|exact VF) rfl ?_|(refine Wg rfl ?_; intro _)|(refine Wh rfl ?_; intro _)|refine Wi ?_|refine Wj ?_|refine Wk ?_|refine Wl ?_|refine Wm ?_|refine Wn ?_|refine Wo ?_|refine Wp ?_|refine Wq rfl ?_|refine Wr ?_|refine Ws ?_|refine Wt ?_|refine Wu ?_|refine Wv rfl rfl ?_|(refine Ww rfl ⟨rfl, by decide, by decide, by decide⟩ ?_; intro _))
      refine Wf (OpV.indexArr (k := k - 15) (by omega)) rfl ?_
      refine We rfl ?_
      refine Wf (OpV.getW (k - 15) (by omega) (by omega) rfl) rfl ?_
      repeat (first|refine Wa ?_|refine Wb ?_|refine Wc ?_|refine Wd ?_|refine We rfl ?_|refine Wf (by first|exact Va|exact Vb|exact Vc|exact Vd|exact Ve|exact Vf|exact Vg|exact Vh|exact Vi|exact Vj|exact Vk (by omega)|exact Vl|exact Vm|exact Vn|exact Vo|exact Vp|exact Vq|exact Vr|exact Vs (by omega)|exact Vt (by omega)|exact Vu (by omega)|exact Vv (by omega)|exact Vw|exact Vx|exact Vy|exact Vz|exact VA|exact VB|exact VC|exact VD|exact VE|exact VF) rfl ?_|(refine Wg rfl ?_; intro _)|(refine Wh rfl ?_; intro _)|refine Wi ?_|refine Wj ?_|refine Wk ?_|refine Wl ?_|refine Wm ?_|refine Wn ?_|refine Wo ?_|refine Wp ?_|refine Wq rfl ?_|refine Wr ?_|refine Ws ?_|refine Wt ?_|refine Wu ?_|refine Wv rfl rfl ?_|(refine Ww rfl ⟨rfl, by decide, by decide, by decide⟩ ?_; intro _))
      refine Wf (OpV.indexArr (k := k - 2) (by omega)) rfl ?_
      refine We rfl ?_
      refine Wf (OpV.getW (k - 2) (by omega) (by omega) rfl) rfl ?_
      repeat (first|refine Wa ?_|refine Wb ?_|refine Wc ?_|refine Wd ?_|refine We rfl ?_|refine Wf (by first|exact Va|exact Vb|exact Vc|exact Vd|exact Ve|exact Vf|exact Vg|exact Vh|exact Vi|exact Vj|exact Vk (by omega)|exact Vl|exact Vm|exact Vn|exact Vo|exact Vp|exact Vq|exact Vr|exact Vs (by omega)|exact Vt (by omega)|exact Vu (by omega)|exact Vv (by omega)|exact Vw|exact Vx|exact Vy|exact Vz|exact VA|exact VB|exact VC|exact VD|exact VE|exact VF) rfl ?_|(refine Wg rfl ?_; intro _)|(refine Wh rfl ?_; intro _)|refine Wi ?_|refine Wj ?_|refine Wk ?_|refine Wl ?_|refine Wm ?_|refine Wn ?_|refine Wo ?_|refine Wp ?_|refine Wq rfl ?_|refine Wr ?_|refine Ws ?_|refine Wt ?_|refine Wu ?_|refine Wv rfl rfl ?_|(refine Ww rfl ⟨rfl, by decide, by decide, by decide⟩ ?_; intro _))
      refine JR.callV rfl (fun w1 hw => right_ref w1 _ _ 7 (by decide)) ?_
      repeat (first|refine Wa ?_|refine Wb ?_|refine Wc ?_|refine Wd ?_|refine We rfl ?_|refine Wf (by first|exact Va|exact Vb|exact Vc|exact Vd|exact Ve|exact Vf|exact Vg|exact Vh|exact Vi|exact Vj|exact Vk (by omega)|exact Vl|exact Vm|exact Vn|exact Vo|exact Vp|exact Vq|exact Vr|exact Vs (by omega)|exact Vt (by omega)|exact Vu (by omega)|exact Vv (by omega)|exact Vw|exact Vx|exact Vy|exact Vz|exact VA|exact VB|exact VC|exact VD|exact VE|exact VF) rfl ?_|(refine Wg rfl ?_; intro _)|(refine Wh rfl ?_; intro _)|refine Wi ?_|refine Wj ?_|refine Wk ?_|refine Wl ?_|refine Wm ?_|refine Wn ?_|refine Wo ?_|refine Wp ?_|refine Wq rfl ?_|refine Wr ?_|refine Ws ?_|refine Wt ?_|refine Wu ?_|refine Wv rfl rfl ?_|(refine Ww rfl ⟨rfl, by decide, by decide, by decide⟩ ?_; intro _))
      refine JR.callV rfl (fun w1 hw => right_ref w1 _ _ 18 (by decide)) ?_
      repeat (first | refine Wa ?_ | refine Wb ?_ | refine Wc ?_ | refine Wd ?_ | refine We rfl ?_ | refine Wf (by first | exact Va | exact Vb | exact OpV.and32 | exact OpV.or32 | exact OpV.xor32 | exact OpV.andNot32 | exact OpV.add32 | exact OpV.sub32 | exact OpV.mul32 | exact OpV.quo32 (by decide) | exact OpV.rem32 (by decide) | exact OpV.quo64 (by decide) | exact OpV.rem64 (by decide) | exact OpV.mul64) rfl ?_ | refine Ws ?_ | refine Wt ?_)
      refine JR.callV rfl (fun w1 hw => twist_ref w1 _ _ _ _) ?_
      repeat (first|refine Wa ?_|refine Wb ?_|refine Wc ?_|refine Wd ?_|refine We rfl ?_|refine Wf (by first|exact Va|exact Vb|exact Vc|exact Vd|exact Ve|exact Vf|exact Vg|exact Vh|exact Vi|exact Vj|exact Vk (by omega)|exact Vl|exact Vm|exact Vn|exact Vo|exact Vp|exact Vq|exact Vr|exact Vs (by omega)|exact Vt (by omega)|exact Vu (by omega)|exact Vv (by omega)|exact Vw|exact Vx|exact Vy|exact Vz|exact VA|exact VB|exact VC|exact VD|exact VE|exact VF) rfl ?_|(refine Wg rfl ?_; intro _)|(refine Wh rfl ?_; intro _)|refine Wi ?_|refine Wj ?_|refine Wk ?_|refine Wl ?_|refine Wm ?_|refine Wn ?_|refine Wo ?_|refine Wp ?_|refine Wq rfl ?_|refine Wr ?_|refine Ws ?_|refine Wt ?_|refine Wu ?_|refine Wv rfl rfl ?_|(refine Ww rfl ⟨rfl, by decide, by decide, by decide⟩ ?_; intro _))
      refine JR.callV rfl (fun w1 hw => right_ref w1 _ _ 17 (by decide)) ?_
      repeat (first|refine Wa ?_|refine Wb ?_|refine Wc ?_|refine Wd ?_|refine We rfl ?_|refine Wf (by first|exact Va|exact Vb|exact Vc|exact Vd|exact Ve|exact Vf|exact Vg|exact Vh|exact Vi|exact Vj|exact Vk (by omega)|exact Vl|exact Vm|exact Vn|exact Vo|exact Vp|exact Vq|exact Vr|exact Vs (by omega)|exact Vt (by omega)|exact Vu (by omega)|exact Vv (by omega)|exact Vw|exact Vx|exact Vy|exact Vz|exact VA|exact VB|exact VC|exact VD|exact VE|exact VF) rfl ?_|(refine Wg rfl ?_; intro _)|(refine Wh rfl ?_; intro _)|refine Wi ?_|refine Wj ?_|refine Wk ?_|refine Wl ?_|refine Wm ?_|refine Wn ?_|refine Wo ?_|refine Wp ?_|refine Wq rfl ?_|refine Wr ?_|refine Ws ?_|refine Wt ?_|refine Wu ?_|refine Wv rfl rfl ?_|(refine Ww rfl ⟨rfl, by decide, by decide, by decide⟩ ?_; intro _))
      refine JR.callV rfl (fun w1 hw => right_ref w1 _ _ 19 (by decide)) ?_
      repeat (first | refine Wa ?_ | refine Wb ?_ | refine Wc ?_ | refine Wd ?_ | refine We rfl ?_ | refine Wf (by first | exact Va | exact Vb | exact OpV.and32 | exact OpV.or32 | exact OpV.xor32 | exact OpV.andNot32 | exact OpV.add32 | exact OpV.sub32 | exact OpV.mul32 | exact OpV.quo32 (by decide) | exact OpV.rem32 (by decide) | exact OpV.quo64 (by decide) | exact OpV.rem64 (by decide) | exact OpV.mul64) rfl ?_ | refine Ws ?_ | refine Wt ?_)
      refine JR.callV rfl (fun w1 hw => twist_ref w1 _ _ _ _) ?_
      repeat (first|refine Wa ?_|refine Wb ?_|refine Wc ?_|refine Wd ?_|refine We rfl ?_|refine Wf (by first|exact Va|exact Vb|exact Vc|exact Vd|exact Ve|exact Vf|exact Vg|exact Vh|exact Vi|exact Vj|exact Vk (by omega)|exact Vl|exact Vm|exact Vn|exact Vo|exact Vp|exact Vq|exact Vr|exact Vs (by omega)|exact Vt (by omega)|exact Vu (by omega)|exact Vv (by omega)|exact Vw|exact Vx|exact Vy|exact Vz|exact VA|exact VB|exact VC|exact VD|exact VE|exact VF) rfl ?_|(refine Wg rfl ?_; intro _)|(refine Wh rfl ?_; intro _)|refine Wi ?_|refine Wj ?_|refine Wk ?_|refine Wl ?_|refine Wm ?_|refine Wn ?_|refine Wo ?_|refine Wp ?_|refine Wq rfl ?_|refine Wr ?_|refine Ws ?_|refine Wt ?_|refine Wu ?_|refine Wv rfl rfl ?_|(refine Ww rfl ⟨rfl, by decide, by decide, by decide⟩ ?_; intro _))
      refine JC.draw 15 mixed ?_
      refine JM.take 0 rfl (by kernel_rfl) rfl Va rfl rfl ?_
      refine JM.take 1 rfl (by kernel_rfl) rfl Va rfl rfl ?_
      refine JM.take 2 rfl (by kernel_rfl) rfl (Vv (by omega)) rfl rfl ?_
      refine JM.reslot 52 (.int .i64 ((k - 16 : Nat) : Int)) (by congr 1 <;> omega) ?_
      refine JM.take 3 rfl (by kernel_rfl) rfl (OpV.indexArr (k := k - 16) (by omega)) rfl rfl ?_
      refine JM.take 4 rfl (by kernel_rfl) rfl (OpV.getW (k - 16) (by omega) (by omega) rfl) rfl rfl ?_
      refine JM.take 5 rfl (by kernel_rfl) rfl Va rfl rfl ?_
      refine JM.take 6 rfl (by kernel_rfl) rfl (Vv (by omega)) rfl rfl ?_
      refine JM.reslot 56 (.int .i64 ((k - 7 : Nat) : Int)) (by congr 1 <;> omega) ?_
      refine JM.take 7 rfl (by kernel_rfl) rfl (OpV.indexArr (k := k - 7) (by omega)) rfl rfl ?_
      refine JM.take 8 rfl (by kernel_rfl) rfl (OpV.getW (k - 7) (by omega) (by omega) rfl) rfl rfl ?_
      refine JM.take 9 rfl (by kernel_rfl) rfl OpV.add32 rfl rfl ?_
      refine JM.take 10 rfl (by kernel_rfl) rfl Va rfl rfl ?_
      refine JM.take 11 rfl (by kernel_rfl) rfl OpV.add32 rfl rfl ?_
      refine JM.take 12 rfl (by kernel_rfl) rfl Va rfl rfl ?_
      refine JM.take 13 rfl (by kernel_rfl) rfl OpV.add32 rfl rfl ?_
      refine JM.take 14 rfl (by kernel_rfl) rfl (OpV.indexArr hlt') rfl rfl ?_
      refine JM.reslot 63 (w32 (wordK L (spreadV L k).1 k)) (by rw [wordK, if_neg h16', getD_at, getD_at, getD_at, getD_at, shr_div, shr_div10]; rfl) ?_
      refine JM.last 15 (by kernel_rfl) rfl rfl rfl (JR.setW k (wordK L (spreadV L k).1 k) (by omega) (by omega) rfl (JO.reown br ((spreadV L (k + 1)).1.map w32) (by rw [spreadV_succ]) (Wd ⟨rfl, ?_⟩)))
      refine JM.nil (by kernel_rfl) ?_
      repeat (first|refine Wa ?_|refine Wb ?_|refine Wc ?_|refine Wd ?_|refine We rfl ?_|refine Wf (by first|exact Va|exact Vb|exact Vc|exact Vd|exact Ve|exact Vf|exact Vg|exact Vh|exact Vi|exact Vj|exact Vk (by omega)|exact Vl|exact Vm|exact Vn|exact Vo|exact Vp|exact Vq|exact Vr|exact Vs (by omega)|exact Vt (by omega)|exact Vu (by omega)|exact Vv (by omega)|exact Vw|exact Vx|exact Vy|exact Vz|exact VA|exact VB|exact VC|exact VD|exact VE|exact VF) rfl ?_|(refine Wg rfl ?_; intro _)|(refine Wh rfl ?_; intro _)|refine Wi ?_|refine Wj ?_|refine Wk ?_|refine Wl ?_|refine Wm ?_|refine Wn ?_|refine Wo ?_|refine Wp ?_|refine Wq rfl ?_|refine Wr ?_|refine Ws ?_|refine Wt ?_|refine Wu ?_|refine Wv rfl rfl ?_|(refine Ww rfl ⟨rfl, by decide, by decide, by decide⟩ ?_; intro _))
      exact ⟨k + 1, by omega, by omega, inferInstance⟩
  · obtain rfl : k = 64 := by omega
    repeat (first|refine Wa ?_|refine Wb ?_|refine Wc ?_|refine Wd ?_|refine We rfl ?_|refine Wf (by first|exact Va|exact Vb|exact Vc|exact Vd|exact Ve|exact Vf|exact Vg|exact Vh|exact Vi|exact Vj|exact Vk (by omega)|exact Vl|exact Vm|exact Vn|exact Vo|exact Vp|exact Vq|exact Vr|exact Vs (by omega)|exact Vt (by omega)|exact Vu (by omega)|exact Vv (by omega)|exact Vw|exact Vx|exact Vy|exact Vz|exact VA|exact VB|exact VC|exact VD|exact VE|exact VF) rfl ?_|(refine Wg rfl ?_; intro _)|(refine Wh rfl ?_; intro _)|refine Wi ?_|refine Wj ?_|refine Wk ?_|refine Wl ?_|refine Wm ?_|refine Wn ?_|refine Wo ?_|refine Wp ?_|refine Wq rfl ?_|refine Wr ?_|refine Ws ?_|refine Wt ?_|refine Wu ?_|refine Wv rfl rfl ?_|(refine Ww rfl ⟨rfl, by decide, by decide, by decide⟩ ?_; intro _))
    exact CT.done () rfl (fun w ho => ho.ent)
end Ab
end Go.Proofs.YtcmfemfndadfmaaGreat
