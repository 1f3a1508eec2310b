/- Lemmas for the walks, part 3 of 6: WalkM, WalkN, WalkO, WalkP, WalkQ, WalkR, Lays2, WalkS, WalkT, WalkU, Get, GetW, Draw3, Rdr, Bytes, Dec, LogW, LogP, Scope, LogR, Dec2, Dec3, Def, ComG, WalkV. -/
import Derived.Test.YtdgeffphifgflaaGreatSj2
import Derived.Shelf.Bytes.SlJoin
import Derived.Test.YtdgeffphifgflaaGreatChecked
import Derived.KernelRfl
import Derived.Test.YtdgeffphifgflaaGreatSj1
import Derived.Laws.BytesArg
import Derived.ScopeJumps
import Derived.WideLaws
namespace Go.Proofs.YtdgeffphifgflaaGreat
namespace Ab
open Go Go.RowKit
set_option linter.unusedVariables false
set_option linter.unusedSimpArgs false
set_option synthInstance.maxSize 4000
set_option synthInstance.maxHeartbeats 400000
attribute [local irreducible] JC JO JR JQ andThen inBlock OpV Gives retTo JM JS
def word4 (a b c d : UInt8) : UInt32 := ((shlN32 a.toUInt32 24 ||| shlN32 b.toUInt32 16) ||| shlN32 c.toUInt32 8) ||| d.toUInt32
def wordAt (L : List UInt8) (k : Nat) : UInt32 := word4 (L.getD k 0) (L.getD (k + 1) 0) (L.getD (k + 2) 0) (L.getD (k + 3) 0)
instance : NatI (24 : Int) 24 := ⟨rfl⟩
theorem conv832 (b : UInt8) : Value.int .u32 (IntKind.u32.wrap (b.toNat : Int)) = w32 b.toUInt32 := by
  rw [wrap32, Nat.mod_eq_of_lt (by have := b.toNat_lt; omega)]; exact congrArg (fun n : Nat => Value.int .u32 (n : Int)) (UInt8.toNat_toUInt32 b).symm
theorem take4 (L : List UInt8) (k : Nat) (h : k + 4 ≤ L.length) : (L.drop k).take (k + 4 - k) = [L.getD k 0, L.getD (k + 1) 0, L.getD (k + 2) 0, L.getD (k + 3) 0] := by
  rw [show k + 4 - k = 4 by omega]
  apply List.ext_getElem?
  intro i
  rw [List.getElem?_take, List.getElem?_drop]
  match i with
  | 0 => simp [show k < L.length by omega]
  | 1 => simp [show k + 1 < L.length by omega]
  | 2 => simp [show k + 2 < L.length by omega]
  | 3 => simp [show k + 3 < L.length by omega]
  | i + 4 => simp; omega
theorem word_rot (w : World) (F : Nat → Prop) (a : Option Addr) (c : Nat) (L : List UInt8) (k : Nat) (h : (sl a c L).holds F w) (hk : k + 4 ≤ L.length) :
    GivesV Tryz.prog 254 [.slice a L.length c, .int .i64 (k : Int)] w F (.tuple ⟨[w32 (wordAt L k), .bool true]⟩) := by
  have hL : L.length < 9223372036854775800 := by have := h.2.2.1; simp only [lim] at this; omega
  refine gives_of Tryz.func254 rfl Tryz.ntmps254 rfl rfl [.st (sl a c L)] (.start1 h) ?_
  repeat (first|refine Wa ?_|refine Wb ?_|refine Wc ?_|refine Wd ?_|refine We rfl ?_|refine Wf (by first|exact Va|exact Vb|exact Vf|exact Vg|exact Vj|exact Vo|exact Vu (by omega)) rfl ?_)
  refine JC.test (fun h2 => ?_) (fun h2 => ?_)
  · omega
  repeat (first|refine Wa ?_|refine Wb ?_|refine Wc ?_|refine We rfl ?_|refine Wf (by first|exact Va|exact Vs (by omega)) rfl ?_|refine Wl ?_)
  refine JR.sliceMid (l := k) (k := k + 4) rfl rfl ⟨by omega, hk⟩ ?_
  intro a2 c2
  rw [take4 L k hk]
  repeat (refine We rfl ?_)
  refine JR.arrayPtr rfl ⟨rfl, by simp⟩ ?_
  intro b o
  simp only [List.map_cons, List.map_nil]
  repeat (first | refine Wa ?_ | refine Wb ?_ | refine Wc ?_ | refine Wd ?_ | refine We rfl ?_ | refine Wf (by first | exact Va | exact Vb | exact OpV.and32 | exact OpV.or32 | exact OpV.xor32 | exact OpV.andNot32 | exact OpV.add32 | exact Vc | exact OpV.indexArr (by decide)) rfl ?_ | refine Ws ?_ | refine Wt ?_)
  repeat (first|refine Wa ?_|refine Wb ?_|refine Wc ?_|refine Wd ?_|refine We rfl ?_|(refine Wg rfl ?_; intro _)|refine Wi ?_)
  rename_i bx
  refine Wf (OpV.indexArr (by decide)) rfl ?_
  refine JO.reslot 23 (.pointer (some ⟨bx, 0, none⟩)) rfl ?_
  refine We rfl ?_
  refine Wf Vc rfl ?_
  refine We rfl ?_
  refine Wf OpV.conv rfl ?_
  refine JO.reslot 25 (w32 (L.getD k 0).toUInt32) (conv832 _) ?_
  refine We rfl ?_
  refine Wf (OpV.shl32 (k := 24) (by decide)) rfl ?_
  refine We rfl ?_
  refine Wf (OpV.indexArr (by decide)) rfl ?_
  refine JO.reslot 27 (.pointer (some ⟨bx, 1, none⟩)) rfl ?_
  refine We rfl ?_
  refine Wf Vc rfl ?_
  refine We rfl ?_
  refine Wf OpV.conv rfl ?_
  refine JO.reslot 29 (w32 (L.getD (k + 1) 0).toUInt32) (conv832 _) ?_
  refine We rfl ?_
  refine Wf (OpV.shl32 (k := 16) (by decide)) rfl ?_
  refine We rfl ?_
  refine Wf OpV.or32 rfl ?_
  refine We rfl ?_
  refine Wf (OpV.indexArr (by decide)) rfl ?_
  refine JO.reslot 32 (.pointer (some ⟨bx, 2, none⟩)) rfl ?_
  refine We rfl ?_
  refine Wf Vc rfl ?_
  refine We rfl ?_
  refine Wf OpV.conv rfl ?_
  refine JO.reslot 34 (w32 (L.getD (k + 2) 0).toUInt32) (conv832 _) ?_
  refine We rfl ?_
  refine Wf (OpV.shl32 (k := 8) (by decide)) rfl ?_
  refine We rfl ?_
  refine Wf OpV.or32 rfl ?_
  refine We rfl ?_
  refine Wf (OpV.indexArr (by decide)) rfl ?_
  refine JO.reslot 37 (.pointer (some ⟨bx, 3, none⟩)) rfl ?_
  refine We rfl ?_
  refine Wf Vc rfl ?_
  refine We rfl ?_
  refine Wf OpV.conv rfl ?_
  refine JO.reslot 39 (w32 (L.getD (k + 3) 0).toUInt32) (conv832 _) ?_
  refine We rfl ?_
  refine Wf OpV.or32 rfl ?_
  repeat (first|refine Wa ?_|refine Wd ?_|refine We rfl ?_|refine Wf (by exact Vb) rfl ?_|refine Ws ?_)
  exact CT.done () rfl (fun w ho => ho.ent)
def wordK (L : List UInt8) (W : List UInt32) (k : Nat) : UInt32 :=
  if k < 16 then wordAt L (4 * k) else ((W.getD (k - 16) 0 + W.getD (k - 7) 0) + small32 (W.getD (k - 15) 0) 7 18 3) + small32 (W.getD (k - 2) 0) 17 19 10
def spreadK (L : List UInt8) : Nat → List UInt32
  | 0 => List.replicate 64 0
  | k + 1 => (spreadK L k).set k (wordK L (spreadK L k) k)
theorem spreadK_length (L : List UInt8) (k : Nat) : (spreadK L k).length = 64 := by
  induction k with
  | zero => simp [spreadK]
  | succ k ih => simp [spreadK, ih]
def spreadV (L : List UInt8) (k : Nat) : Vec UInt32 64 := ⟨spreadK L k, spreadK_length L k⟩
theorem spreadV_zero (L : List UInt8) : (spreadV L 0).1 = List.replicate 64 0 := rfl
theorem spreadV_succ (L : List UInt8) (k : Nat) : (spreadV L (k + 1)).1 = (spreadV L k).1.set k (wordK L (spreadV L k).1 k) := rfl
theorem getD_at {W : List UInt32} {k : Nat} (h : k < W.length) : W[k]'h = W.getD k 0 := by simp [List.getD_eq_getElem?_getD, h]
attribute [local irreducible] spreadK
set_option maxHeartbeats 1000000 in
theorem spread_sha (w : World) (F : Nat → Prop) (a : Option Addr) (c : Nat) (L : List UInt8) (h : (sl a c L).holds F w) (hL : L.length = 64) :
    GivesV Tryz.prog 211 [.slice a L.length c] w F (.agg ⟨(spreadV L 64).1.map w32⟩) := by
  refine gives_of Tryz.func211 rfl Tryz.ntmps211 rfl rfl [.st (sl a c L)] (.start1 h) ?_
  repeat (first|refine Wa ?_|refine Wb ?_|refine Wc ?_|refine Wd ?_|refine We rfl ?_|refine Wf (by exact Va) rfl ?_|(refine Wg rfl ?_; intro _)|refine Wn ?_)
  rename_i bo
  refine JC.reown bo ((spreadV L 0).1.map w32) (by rw [spreadV_zero, List.map_replicate]; rfl) ?_
  refine JC.loop1 (fun k : Nat => [(0, .slice a L.length c), (2, .pointer (some ⟨bo, 0, none⟩)), (4, .int .i64 (k : Int))]) (fun k => [.own bo 226 ((spreadV L k).1.map w32), .st (sl a c L)])
    (fun k => k ≤ 64) (fun k => 64 - k) 0 (Nat.zero_le _) inferInstance ?_
  intro k hk
  repeat (first|refine Wa ?_|refine Wb ?_|refine Wc ?_|refine Wd ?_|refine We rfl ?_|refine Wf (by exact Vg) rfl ?_)
  refine JC.test (fun hlt => ?_) (fun hge => ?_)
  · have hlt' : k < 64 := by omega
    have hv := (spreadV L k).2
    repeat (first|refine Wa ?_|refine Wb ?_|refine Wc ?_|refine Wd ?_|refine We rfl ?_|refine Wf (by first|exact Va|exact Vb|exact Vg) rfl ?_|refine Wl ?_|refine Wn ?_)
    refine JC.test (fun h16 => ?_) (fun h16 => ?_)
    · have h16' : k < 16 := by omega
      repeat (first|refine Wb ?_|refine Wc ?_|refine We rfl ?_|refine Wf (by exact Va) rfl ?_)
      refine Wf (OpV.shl (by decide)) rfl ?_
      refine JO.reslot 13 (.int .i64 ((4 * k : Nat) : Int)) (congrArg (Value.int .i64) (by show IntKind.i64.wrap ((k : Int) * 2 ^ 2) = _; rw [IntKind.wrap_i64]; omega)) ?_
      refine We rfl ?_
      refine JR.callV rfl (fun w1 hw => word_rot w1 _ a c L (4 * k) hw.get (by omega)) ?_
      repeat (first|refine We rfl ?_|refine Wf (by first|exact Va|exact Vq) rfl ?_)
      refine Wf (OpV.indexArr hlt') rfl ?_
      refine We rfl ?_
      refine JR.setW k (wordAt L (4 * k)) (by omega) (by omega) rfl ?_
      refine JO.reown bo ((spreadV L (k + 1)).1.map w32) (by rw [spreadV_succ, wordK, if_pos h16']) ?_
      repeat (first|refine Wa ?_|refine Wc ?_|refine Wd ?_|refine We rfl ?_|refine Wf (by first|exact Va|exact Vk (by omega)) rfl ?_|refine Wm ?_|refine Wo ?_|refine Wp ?_)
      exact ⟨k + 1, by omega, by omega, inferInstance⟩
    · have h16' : ¬ k < 16 := by omega
      repeat (first|refine Wa ?_|refine Wl ?_)
      refine JC.draw 23 mixed ?_
      refine JM.take 0 rfl (by kernel_rfl) rfl Va rfl rfl ?_
      refine JM.take 1 rfl (by kernel_rfl) rfl Va rfl rfl ?_
      refine JM.take 2 rfl (by kernel_rfl) rfl (Vv (by omega)) rfl rfl ?_
      refine JM.reslot 20 (.int .i64 ((k - 16 : Nat) : Int)) (by congr 1 <;> omega) ?_
      refine JM.take 3 rfl (by kernel_rfl) rfl (OpV.indexArr (k := k - 16) (by omega)) rfl rfl ?_
      refine JM.take 4 rfl (by kernel_rfl) rfl (OpV.getW (k - 16) (by omega) (by omega) rfl) rfl rfl ?_
      refine JM.take 5 rfl (by kernel_rfl) rfl Va rfl rfl ?_
      refine JM.take 6 rfl (by kernel_rfl) rfl (Vv (by omega)) rfl rfl ?_
      refine JM.reslot 24 (.int .i64 ((k - 7 : Nat) : Int)) (by congr 1 <;> omega) ?_
      refine JM.take 7 rfl (by kernel_rfl) rfl (OpV.indexArr (k := k - 7) (by omega)) rfl rfl ?_
      refine JM.take 8 rfl (by kernel_rfl) rfl (OpV.getW (k - 7) (by omega) (by omega) rfl) rfl rfl ?_
      refine JM.take 9 rfl (by kernel_rfl) rfl OpV.add32 rfl rfl ?_
      refine JM.take 10 rfl (by kernel_rfl) rfl Va rfl rfl ?_
      refine JM.take 11 rfl (by kernel_rfl) rfl (Vv (by omega)) rfl rfl ?_
      refine JM.reslot 29 (.int .i64 ((k - 15 : Nat) : Int)) (by congr 1 <;> omega) ?_
      refine JM.take 12 rfl (by kernel_rfl) rfl (OpV.indexArr (k := k - 15) (by omega)) rfl rfl ?_
      refine JM.take 13 rfl (by kernel_rfl) rfl (OpV.getW (k - 15) (by omega) (by omega) rfl) rfl rfl ?_
      refine JM.takeCall 14 rfl (by kernel_rfl) rfl (fun w1 hw => small_sha w1 _ _ 7 18 3 (by decide) (by decide) (by decide)) rfl rfl ?_
      refine JM.take 15 rfl (by kernel_rfl) rfl OpV.add32 rfl rfl ?_
      refine JM.take 16 rfl (by kernel_rfl) rfl Va rfl rfl ?_
      refine JM.take 17 rfl (by kernel_rfl) rfl (Vv (by omega)) rfl rfl ?_
      refine JM.reslot 35 (.int .i64 ((k - 2 : Nat) : Int)) (by congr 1 <;> omega) ?_
      refine JM.take 18 rfl (by kernel_rfl) rfl (OpV.indexArr (k := k - 2) (by omega)) rfl rfl ?_
      refine JM.take 19 rfl (by kernel_rfl) rfl (OpV.getW (k - 2) (by omega) (by omega) rfl) rfl rfl ?_
      refine JM.takeCall 20 rfl (by kernel_rfl) rfl (fun w1 hw => small_sha w1 _ _ 17 19 10 (by decide) (by decide) (by decide)) rfl rfl ?_
      refine JM.take 21 rfl (by kernel_rfl) rfl OpV.add32 rfl rfl ?_
      refine JM.take 22 rfl (by kernel_rfl) rfl (OpV.indexArr hlt') rfl rfl ?_
      refine JM.reslot 39 (w32 (wordK L (spreadV L k).1 k)) (by rw [wordK, if_neg h16', getD_at, getD_at, getD_at, getD_at]) ?_
      refine JM.last 23 (by kernel_rfl) rfl rfl rfl (JR.setW k (wordK L (spreadV L k).1 k) (by omega) (by omega) rfl (JO.reown bo ((spreadV L (k + 1)).1.map w32) (by rw [spreadV_succ]) (Wd ⟨rfl, ?_⟩)))
      refine JM.nil (by kernel_rfl) ?_
      repeat (first|refine Wa ?_|refine Wc ?_|refine Wd ?_|refine We rfl ?_|refine Wf (by first|exact Va|exact Vk (by omega)) rfl ?_|refine Wr ?_)
      exact ⟨k + 1, by omega, by omega, inferInstance⟩
  · obtain rfl : k = 64 := by omega
    repeat (first|refine Wa ?_|refine Wb ?_|refine Wc ?_|refine Wd ?_|refine We rfl ?_|refine Wf (by exact Vc) rfl ?_|refine Wi ?_|refine Wm ?_|refine Wo ?_|refine Wp ?_|refine Ws ?_)
    exact CT.done () rfl (fun w ho => ho.ent)
end Ab
end Go.Proofs.YtdgeffphifgflaaGreat
namespace Go.Proofs.YtdgeffphifgflaaGreat
namespace Ab
open Go Go.RowKit
set_option linter.unusedVariables false
set_option linter.unusedSimpArgs false
set_option synthInstance.maxSize 4000
set_option synthInstance.maxHeartbeats 400000
attribute [local irreducible] JC JO JR JQ andThen inBlock OpV Gives retTo JM JS
attribute [local irreducible] spreadK
def one32 (W s : List UInt32) (k : Nat) : UInt32 :=
  (((s.getD 7 0 + great32 (s.getD 4 0) 6 11 25) + pick32 (s.getD 4 0) (s.getD 5 0) (s.getD 6 0)) + shaK.getD k 0) + W.getD k 0
def two32 (s : List UInt32) : UInt32 := great32 (s.getD 0 0) 2 13 22 + most32 (s.getD 0 0) (s.getD 1 0) (s.getD 2 0)
def turnS (W s : List UInt32) (k : Nat) : List UInt32 :=
  [one32 W s k + two32 s, s.getD 0 0, s.getD 1 0, s.getD 2 0, s.getD 3 0 + one32 W s k, s.getD 4 0, s.getD 5 0, s.getD 6 0]
def turnK (W h : List UInt32) : Nat → List UInt32
  | 0 => h
  | k + 1 => turnS W (turnK W h k) k
theorem turnK_length (W : List UInt32) {h : List UInt32} (hh : h.length = 8) (k : Nat) : (turnK W h k).length = 8 := by
  cases k with
  | zero => exact hh
  | succ k => rfl
def turnV (W : List UInt32) (h : Vec UInt32 8) (k : Nat) : Vec UInt32 8 := ⟨turnK W h.1 k, turnK_length W h.2 k⟩
theorem turnV_zero (W : List UInt32) (h : Vec UInt32 8) : turnV W h 0 = h := rfl
theorem turnV_succ (W : List UInt32) (h : Vec UInt32 8) (k : Nat) : (turnV W h (k + 1)).1 = turnS W (turnV W h k).1 k := rfl
def plusK (h s : List UInt32) (k : Nat) : List UInt32 := (List.range 8).map (fun i => if i < k then h.getD i 0 + s.getD i 0 else h.getD i 0)
def plusV (h s : List UInt32) (k : Nat) : Vec UInt32 8 := ⟨plusK h s k, by simp [plusK]⟩
theorem plusV_set (h s : List UInt32) (k : Nat) (hk : k < 8) : (plusV h s k).1.set k (h.getD k 0 + s.getD k 0) = (plusV h s (k + 1)).1 := by
  match k, hk with
  | 0, _ => rfl
  | 1, _ => rfl
  | 2, _ => rfl
  | 3, _ => rfl
  | 4, _ => rfl
  | 5, _ => rfl
  | 6, _ => rfl
  | 7, _ => rfl
theorem plusV_at (h s : List UInt32) (k : Nat) (hk : k < 8) : (plusV h s k).1.getD k 0 = h.getD k 0 := by
  match k, hk with
  | 0, _ => rfl
  | 1, _ => rfl
  | 2, _ => rfl
  | 3, _ => rfl
  | 4, _ => rfl
  | 5, _ => rfl
  | 6, _ => rfl
  | 7, _ => rfl
theorem vec8 (v : Vec UInt32 8) : ∃ a b c d e f g h, v.1 = [a, b, c, d, e, f, g, h] := by
  obtain ⟨l, hl⟩ := v
  match l, hl with
  | [a, b, c, d, e, f, g, h], _ => exact ⟨a, b, c, d, e, f, g, h, rfl⟩
theorem plusV_zero (v : Vec UInt32 8) (s : List UInt32) : (plusV v.1 s 0).1 = v.1 := by
  obtain ⟨a, b, c, d, e, f, g, h, hv⟩ := vec8 v
  rw [hv]; rfl
def blockL (h : Vec UInt32 8) (L : List UInt8) : Vec UInt32 8 := plusV h.1 (turnV (spreadV L 64).1 h 64).1 8
def shaKV : Vec UInt32 64 := ⟨shaK, rfl⟩
theorem constants_shaV (w : World) (F : Nat → Prop) : GivesV Tryz.prog 210 [] w F (.agg ⟨shaKV.1.map w32⟩) := constants_sha w F
theorem shaKV_eq : shaKV.1 = shaK := rfl
attribute [local irreducible] shaKV spreadV turnV plusV
set_option maxHeartbeats 2000000 in
theorem block_sha (w : World) (F : Nat → Prop) (a : Option Addr) (c : Nat) (L : List UInt8) (h : Vec UInt32 8) (hs : (sl a c L).holds F w) (hL : L.length = 64) :
    GivesV Tryz.prog 169 [.agg ⟨h.1.map w32⟩, .slice a L.length c] w F (.tuple ⟨[.agg ⟨(blockL h L).1.map w32⟩, .bool true]⟩) := by
  refine gives_of Tryz.func169 rfl Tryz.ntmps169 rfl rfl [.st (sl a c L)] (.start1 hs) ?_
  repeat (first|refine Wa ?_|refine Wb ?_|refine Wc ?_|refine Wd ?_|refine We rfl ?_|refine Wf (by first|exact Va|exact Vb|exact Vf|exact Vm) rfl ?_|(refine Wg rfl ?_; intro _)|(refine Wh rfl ?_; intro _))
  rename_i bh br
  refine JC.test (fun h0 => ?_) (fun h0 => ?_)
  · simp [hL] at h0
  repeat (first|refine Wa ?_|refine Wb ?_|refine Wl ?_)
  refine JC.cut (fun q : Nat × Nat × Nat => [(2, .pointer (some ⟨bh, 0, none⟩)), (4, .pointer (some ⟨br, 0, none⟩)), (6, .pointer (some ⟨q.1, 0, none⟩)), (7, .pointer (some ⟨q.2.1, 0, none⟩)), (8, .pointer (some ⟨q.2.2, 0, none⟩))])
    (fun q => [.own bh 182 (h.1.map w32), .own br 182 [.int .u32 0, .int .u32 0, .int .u32 0, .int .u32 0, .int .u32 0, .int .u32 0, .int .u32 0, .int .u32 0], .own q.1 226 (shaKV.1.map w32), .own q.2.1 226 ((spreadV L 64).1.map w32), .own q.2.2 182 (h.1.map w32)]) ?_ ?_
  · refine JC.draw 7 mixed ?_
    refine JM.takeCall 0 rfl (by kernel_rfl) rfl (fun w1 hw => constants_shaV w1 _) rfl rfl ?_
    refine JM.take 1 rfl (by kernel_rfl) rfl Va rfl rfl ?_
    refine JM.takeCall 2 rfl (by kernel_rfl) rfl (fun w1 hw => spread_sha w1 _ a c L hw.get hL) rfl rfl ?_
    refine JM.allocsBut (i0 := 3) (i1 := 4) (i2 := 5) (i3 := 6) rfl Vc rfl rfl rfl (by kernel_rfl) rfl rfl rfl ?_ ?_
    · intro q1 q2 q3
      refine JM.last 7 (by kernel_rfl) rfl rfl rfl (Wi (Wd ⟨rfl, ?_⟩))
      refine JM.last 8 (by kernel_rfl) rfl rfl rfl (Wi (Wd ⟨rfl, ?_⟩))
      refine JM.last 9 (by kernel_rfl) rfl rfl rfl (Wi (Wd ⟨rfl, ?_⟩))
      refine JM.nil (by kernel_rfl) ?_
      exact ⟨rfl, (q1, q2, q3), inferInstance⟩
    · intro q1 q2 q3
      refine JM.mix 3 7 (by kernel_rfl) rfl rfl rfl rfl rfl rfl rfl (JS.val Vc rfl ?_) (Wi (Wd ⟨rfl, ?_⟩))
      · refine JM.last 7 (by kernel_rfl) rfl rfl rfl (Wi (Wd ⟨rfl, ?_⟩))
        refine JM.last 8 (by kernel_rfl) rfl rfl rfl (Wi (Wd ⟨rfl, ?_⟩))
        refine JM.last 9 (by kernel_rfl) rfl rfl rfl (Wi (Wd ⟨rfl, ?_⟩))
        refine JM.nil (by kernel_rfl) ?_
        exact ⟨rfl, (q1, q2, q3), inferInstance⟩
      · refine JM.mix 3 8 (by kernel_rfl) rfl rfl rfl rfl rfl rfl rfl (JS.val Vc rfl ?_) (Wi (Wd ⟨rfl, ?_⟩))
        · refine JM.last 8 (by kernel_rfl) rfl rfl rfl (Wi (Wd ⟨rfl, ?_⟩))
          refine JM.last 9 (by kernel_rfl) rfl rfl rfl (Wi (Wd ⟨rfl, ?_⟩))
          refine JM.nil (by kernel_rfl) ?_
          exact ⟨rfl, (q1, q2, q3), inferInstance⟩
        · refine JM.one 3 (by kernel_rfl) rfl rfl rfl rfl (JS.val Vc rfl ?_)
          refine JM.last 9 (by kernel_rfl) rfl rfl rfl (Wi (Wd ⟨rfl, ?_⟩))
          refine JM.nil (by kernel_rfl) ?_
          exact ⟨rfl, (q1, q2, q3), inferInstance⟩
  rintro ⟨q1, q2, q3⟩
  repeat (first|refine Wa ?_|refine Wb ?_|refine Wc ?_|refine Wd ?_|refine We rfl ?_|refine Wf (by exact Va) rfl ?_|refine Wn ?_)
  refine JC.loop1 (fun k : Nat => [(2, .pointer (some ⟨bh, 0, none⟩)), (4, .pointer (some ⟨br, 0, none⟩)), (6, .pointer (some ⟨q1, 0, none⟩)), (7, .pointer (some ⟨q2, 0, none⟩)), (8, .pointer (some ⟨q3, 0, none⟩)), (21, .int .i64 (k : Int))])
    (fun k => [.own bh 182 (h.1.map w32), .own br 182 [.int .u32 0, .int .u32 0, .int .u32 0, .int .u32 0, .int .u32 0, .int .u32 0, .int .u32 0, .int .u32 0], .own q1 226 (shaKV.1.map w32), .own q2 226 ((spreadV L 64).1.map w32), .own q3 182 ((turnV (spreadV L 64).1 h k).1.map w32)])
    (fun k => k ≤ 64) (fun k => 64 - k) 0 (Nat.zero_le _) (by rw [turnV_zero]; infer_instance) ?_
  intro k hk
  repeat (first|refine Wa ?_|refine Wb ?_|refine Wc ?_|refine Wd ?_|refine We rfl ?_|refine Wf (by exact Vg) rfl ?_)
  refine JC.test (fun hlt => ?_) (fun hge => ?_)
  · have hlt' : k < 64 := by omega
    have hkk : k < shaKV.1.length := by rw [shaKV.2]; exact hlt'
    have hkw : k < (spreadV L 64).1.length := by rw [(spreadV L 64).2]; exact hlt'
    obtain ⟨x0, x1, x2, x3, x4, x5, x6, x7, hx⟩ := vec8 (turnV (spreadV L 64).1 h k)
    have hnext := turnV_succ (spreadV L 64).1 h k
    rw [hx] at hnext ⊢
    repeat (first|refine Wa ?_|refine Wb ?_|refine Wc ?_|refine Wd ?_|refine We rfl ?_|refine Wf (by first|exact Va|exact Vb) rfl ?_|refine Wl ?_|refine Wn ?_)
    refine JC.quiet mixed (by kernel_rfl) ?_
    refine Wy rfl (OpV.indexArr (k := 7) (by decide)) rfl ?_
    refine Wy rfl (OpV.getW 7 (by simp) rfl rfl) rfl ?_
    refine Wy rfl (OpV.indexArr (k := 4) (by decide)) rfl ?_
    refine Wy rfl (OpV.getW 4 (by simp) rfl rfl) rfl ?_
    refine JQ.call rfl rfl (fun w1 hw => great_sha w1 _ _ 6 11 25 (by decide) (by decide) (by decide)) ?_
    refine Wy rfl OpV.add32 rfl ?_
    refine Wy rfl (OpV.indexArr (k := 4) (by decide)) rfl ?_
    refine Wy rfl (OpV.getW 4 (by simp) rfl rfl) rfl ?_
    refine Wy rfl (OpV.indexArr (k := 5) (by decide)) rfl ?_
    refine Wy rfl (OpV.getW 5 (by simp) rfl rfl) rfl ?_
    refine Wy rfl (OpV.indexArr (k := 6) (by decide)) rfl ?_
    refine Wy rfl (OpV.getW 6 (by simp) rfl rfl) rfl ?_
    refine JQ.call rfl rfl (fun w1 hw => pick_rot w1 _ _ _ _) ?_
    refine Wy rfl OpV.add32 rfl ?_
    refine Wy rfl Va rfl ?_
    refine Wy rfl (OpV.indexArr hlt') rfl ?_
    refine Wy rfl (OpV.getW k hkk (by omega) rfl) rfl ?_
    refine Wy rfl OpV.add32 rfl ?_
    refine Wy rfl Va rfl ?_
    refine Wy rfl (OpV.indexArr hlt') rfl ?_
    refine Wy rfl (OpV.getW k hkw (by omega) rfl) rfl ?_
    refine Wy rfl OpV.add32 rfl ?_
    refine JQ.reslot 45 (w32 (one32 (spreadV L 64).1 [x0, x1, x2, x3, x4, x5, x6, x7] k)) (by simp only [getD_at, shaKV_eq]; rfl) ?_
    refine Wy rfl Vb rfl ?_
    refine WB ?_
    repeat (first|refine Wa ?_|refine Wb ?_)
    refine JC.quiet mixed (by kernel_rfl) ?_
    refine Wy rfl (OpV.indexArr (k := 0) (by decide)) rfl ?_
    refine Wy rfl (OpV.getW 0 (by simp) rfl rfl) rfl ?_
    refine JQ.call rfl rfl (fun w1 hw => great_sha w1 _ _ 2 13 22 (by decide) (by decide) (by decide)) ?_
    refine Wy rfl (OpV.indexArr (k := 0) (by decide)) rfl ?_
    refine Wy rfl (OpV.getW 0 (by simp) rfl rfl) rfl ?_
    refine Wy rfl (OpV.indexArr (k := 1) (by decide)) rfl ?_
    refine Wy rfl (OpV.getW 1 (by simp) rfl rfl) rfl ?_
    refine Wy rfl (OpV.indexArr (k := 2) (by decide)) rfl ?_
    refine Wy rfl (OpV.getW 2 (by simp) rfl rfl) rfl ?_
    refine JQ.call rfl rfl (fun w1 hw => most_rot w1 _ _ _ _) ?_
    refine Wy rfl OpV.add32 rfl ?_
    refine JQ.reslot 56 (w32 (two32 [x0, x1, x2, x3, x4, x5, x6, x7])) rfl ?_
    refine Wy rfl Vb rfl ?_
    refine WB ?_
    repeat (first|refine Wa ?_|refine Wb ?_)
    refine JC.draw 2 mixed ?_
    refine JM.take 0 rfl (by kernel_rfl) rfl (OpV.sliceArrFrom (l := 1) (by decide) rfl) rfl rfl ?_
    refine JM.take 1 rfl (by kernel_rfl) rfl (OpV.sliceArrTo (k := 7) (by decide)) rfl rfl ?_
    refine JM.last 2 (by kernel_rfl) rfl rfl rfl (JR.copyOwn (cs := [x0, x1, x2, x3, x4, x5, x6].map w32) rfl rfl (by decide) rfl (by simp) inferInstance ?_)
    refine JO.reown q3 ([x0, x0, x1, x2, x3, x4, x5, x6].map w32) rfl (Wd ⟨rfl, ?_⟩)
    refine JM.nil (by kernel_rfl) ?_
    repeat (first|refine Wa ?_|refine Wb ?_|refine Wc ?_|refine We rfl ?_)
    refine Wf (OpV.indexArr (k := 4) (by decide)) rfl ?_
    refine We rfl ?_
    refine Wf (OpV.getW 4 (by simp) rfl rfl) rfl ?_
    refine We rfl ?_
    refine Wf Va rfl ?_
    refine We rfl ?_
    refine Wf OpV.add32 rfl ?_
    refine We rfl ?_
    refine Wf (OpV.indexArr (k := 4) (by decide)) rfl ?_
    refine We rfl ?_
    refine JR.setW 4 (x3 + one32 (spreadV L 64).1 [x0, x1, x2, x3, x4, x5, x6, x7] k) (by simp) rfl rfl ?_
    repeat (first|refine Wa ?_|refine Wc ?_|refine Wd ?_|refine We rfl ?_|refine Wf (by exact Va) rfl ?_)
    refine Wf OpV.add32 rfl ?_
    refine We rfl ?_
    refine Wf (OpV.indexArr (k := 0) (by decide)) rfl ?_
    refine We rfl ?_
    refine JR.setW 0 (one32 (spreadV L 64).1 [x0, x1, x2, x3, x4, x5, x6, x7] k + two32 [x0, x1, x2, x3, x4, x5, x6, x7]) (by simp) rfl rfl ?_
    refine JO.reown q3 ((turnV (spreadV L 64).1 h (k + 1)).1.map w32) (by rw [hnext]; rfl) ?_
    repeat (first|refine Wa ?_|refine Wc ?_|refine Wd ?_|refine We rfl ?_|refine Wf (by first|exact Va|exact Vk (by omega)) rfl ?_|refine Wr ?_)
    exact ⟨k + 1, by omega, by omega, inferInstance⟩
  · obtain rfl : k = 64 := by omega
    obtain ⟨S, hS⟩ : ∃ S, S = turnV (spreadV L 64).1 h 64 := ⟨_, rfl⟩
    have hb : (blockL h L).1 = (plusV h.1 S.1 8).1 := by rw [hS]; rfl
    rw [← hS, hb]
    repeat (first|refine Wa ?_|refine Wb ?_|refine Wc ?_|refine Wd ?_|refine We rfl ?_|refine Wf (by exact Va) rfl ?_|refine Wm ?_|refine Wn ?_|refine Wo ?_|refine Wp ?_)
    refine JC.loop1 (fun k : Nat => [(2, .pointer (some ⟨bh, 0, none⟩)), (4, .pointer (some ⟨br, 0, none⟩)), (8, .pointer (some ⟨q3, 0, none⟩)), (70, .int .i64 (k : Int))])
      (fun k => [.own bh 182 ((plusV h.1 S.1 k).1.map w32), .own br 182 [.int .u32 0, .int .u32 0, .int .u32 0, .int .u32 0, .int .u32 0, .int .u32 0, .int .u32 0, .int .u32 0], .own q3 182 (S.1.map w32)])
      (fun k => k ≤ 8) (fun k => 8 - k) 0 (Nat.zero_le _) (by rw [plusV_zero]; infer_instance) ?_
    intro k hk
    repeat (first|refine Wa ?_|refine Wb ?_|refine Wc ?_|refine Wd ?_|refine We rfl ?_|refine Wf (by exact Vg) rfl ?_)
    refine JC.test (fun hlt => ?_) (fun hge => ?_)
    · have hlt' : k < 8 := by omega
      have hk1 : k < (plusV h.1 S.1 k).1.length := by rw [(plusV h.1 S.1 k).2]; exact hlt'
      have hk2 : k < S.1.length := by rw [S.2]; exact hlt'
      repeat (first|refine Wa ?_|refine Wb ?_|refine Wc ?_|refine Wd ?_|refine We rfl ?_|refine Wf (by first|exact Va|exact Vb) rfl ?_|refine Wl ?_|refine Wn ?_)
      refine JC.draw 8 mixed ?_
      refine JM.take 0 rfl (by kernel_rfl) rfl Va rfl rfl ?_
      refine JM.take 1 rfl (by kernel_rfl) rfl (OpV.indexArr hlt') rfl rfl ?_
      refine JM.take 2 rfl (by kernel_rfl) rfl (OpV.getW k hk1 (by omega) rfl) rfl rfl ?_
      refine JM.take 3 rfl (by kernel_rfl) rfl Va rfl rfl ?_
      refine JM.take 4 rfl (by kernel_rfl) rfl (OpV.indexArr hlt') rfl rfl ?_
      refine JM.take 5 rfl (by kernel_rfl) rfl (OpV.getW k hk2 (by omega) rfl) rfl rfl ?_
      refine JM.take 6 rfl (by kernel_rfl) rfl OpV.add32 rfl rfl ?_
      refine JM.take 7 rfl (by kernel_rfl) rfl (OpV.indexArr hlt') rfl rfl ?_
      refine JM.reslot 79 (w32 (h.1.getD k 0 + S.1.getD k 0)) (by simp only [getD_at]; rw [plusV_at _ _ _ hlt']) ?_
      refine JM.last 8 (by kernel_rfl) rfl rfl rfl (JR.setW k (h.1.getD k 0 + S.1.getD k 0) hk1 (by omega) rfl (JO.reown bh ((plusV h.1 S.1 (k + 1)).1.map w32) (by rw [plusV_set _ _ _ hlt']) (Wd ⟨rfl, ?_⟩)))
      refine JM.nil (by kernel_rfl) ?_
      repeat (first|refine Wa ?_|refine Wc ?_|refine Wd ?_|refine We rfl ?_|refine Wf (by first|exact Va|exact Vk (by omega)) rfl ?_|refine Wr ?_)
      exact ⟨k + 1, by omega, by omega, inferInstance⟩
    · obtain rfl : k = 8 := by omega
      repeat (first|refine Wa ?_|refine Wb ?_|refine Wc ?_|refine Wd ?_|refine We rfl ?_|refine Wf (by first|exact Vb|exact Vc) rfl ?_|refine Wi ?_|refine Wm ?_|refine Wo ?_|refine Wp ?_|refine Ws ?_)
      exact CT.done () rfl (fun w ho => ho.ent)
end Ab
end Go.Proofs.YtdgeffphifgflaaGreat
namespace Go.Proofs.YtdgeffphifgflaaGreat
namespace Ab
open Go Go.RowKit
set_option linter.unusedVariables false
set_option linter.unusedSimpArgs false
set_option synthInstance.maxSize 4000
set_option synthInstance.maxHeartbeats 400000
attribute [local irreducible] JC JO JR JQ andThen inBlock OpV Gives retTo JM JS
def padZ (n : Nat) : Nat := (119 - n % 64) % 64
def padL (L : List UInt8) : List UInt8 := (L ++ [128]) ++ List.replicate (padZ L.length) 0 ++ longL (UInt64.ofNat (L.length * 8))
instance {x : UInt64} : Len ((longL x).map byteV) 8 := ⟨by simp [longL]⟩
instance {x : UInt32} : Len ((fourL x).map byteV) 4 := ⟨by simp [fourL]⟩
instance {Γ : List Fact} : Typed Γ [.int .u8 128] (128 : UInt8) := ⟨(), rfl, by simp [Cell.facts]⟩
instance {Γ : List Fact} : Typed Γ [.int .u8 0] (0 : UInt8) := ⟨(), rfl, by simp [Cell.facts]⟩
set_option maxHeartbeats 1000000 in
theorem pad_sha (w : World) (F : Nat → Prop) (a : Option Addr) (c : Nat) (L : List UInt8) (h : (sl a c L).holds F w) (hL : L.length ≤ 1048576) :
    GivesBuf Tryz.prog 168 [.slice a L.length c] w F 5 (padL L) := by
  refine gives_of Tryz.func168 rfl Tryz.ntmps168 rfl rfl [.st (sl a c L)] (.start1 h) ?_
  repeat (first|refine Wa ?_|refine Wb ?_|refine Wc ?_|refine Wd ?_|refine We rfl ?_|refine Wf (by first|exact Va|exact Vb|exact Vf|exact Vt (by omega)) rfl ?_)
  have hn128 : NatI ((L.length : Int) + 128) (L.length + 128) := ⟨by omega⟩
  refine JR.makeBytes (l := L.length) (c := L.length + 128) rfl ⟨by omega, by omega⟩ ?_
  intro b
  repeat (first|refine Wa ?_|refine Wb ?_|refine Wc ?_|refine Wd ?_|refine We rfl ?_|refine Wf (by first|exact Va|exact Vb) rfl ?_)
  refine JR.copyBuf (M := L) rfl (by simp) ?_
  intro a1 c1 e1
  injection e1 with e1 e2 e3
  subst e1 e3
  refine JO.reslot 3 (.slice (some ⟨b, 0, none⟩) L.length (L.length + 128)) (by simp) ?_
  repeat (first|refine Wa ?_|refine Wb ?_|refine Wc ?_|refine Wd ?_|refine We rfl ?_|refine Wf (by exact Va) rfl ?_|(refine Ww rfl ⟨rfl, by decide, by decide, by decide⟩ ?_; intro _))
  refine JR.append1 rfl (by exact ⟨rfl, rfl, by decide⟩) (by omega) ?_
  intro a2 c2
  repeat (first|refine Wa ?_|refine Wb ?_|refine Wd ?_|refine We rfl ?_|refine Wf (by exact Vb) rfl ?_|refine Wn ?_)
  have hz : padZ L.length < 64 := Nat.mod_lt _ (by decide)
  refine JC.loop3 (fun (k : Nat) p q => [(0, .slice a L.length c), (3, .slice p ((L ++ [128]) ++ List.replicate k (0 : UInt8)).length q)]) (fun k p q => [.res (buf p q 5 ((L ++ [128]) ++ List.replicate k (0 : UInt8)))])
    (fun k _ _ => k ≤ padZ L.length) (fun k _ _ => padZ L.length - k) 0 a2 c2 (Nat.zero_le _) (by rw [List.replicate_zero, List.append_nil]; infer_instance) ?_
  intro k p q hk
  repeat (first|refine Wb ?_|refine Wc ?_|refine We rfl ?_|refine Wf (by first|exact Va|exact Vf) rfl ?_)
  have hlen : ((L ++ [128]) ++ List.replicate k (0 : UInt8)).length = L.length + 1 + k := by simp; omega
  refine Wf (OpV.rem (by decide)) rfl ?_
  refine JO.reslot 19 (.int .i64 (((L.length + 1 + k) % 64 : Nat) : Int)) (by rw [hlen, Int.tmod_eq_emod_of_nonneg (by omega)]; congr 1) ?_
  repeat (first|refine Wa ?_|refine Wd ?_|refine We rfl ?_|refine Wf (by exact Vm) rfl ?_)
  refine JC.test (fun h1 => ?_) (fun h1 => ?_)
  · have h2 : k < padZ L.length := by simp only [padZ] at hk ⊢; omega
    repeat (first|refine Wa ?_|refine Wc ?_|refine We rfl ?_|refine Wf (by exact Va) rfl ?_|refine Wl ?_|refine Wn ?_|(refine Ww rfl ⟨rfl, by decide, by decide, by decide⟩ ?_; intro _))
    refine JR.append1 rfl (by exact ⟨rfl, rfl, by decide⟩) (by rw [hlen]; omega) ?_
    intro a3 c3
    repeat (first|refine Wa ?_|refine Wd ?_|refine We rfl ?_|refine Wf (by exact Vb) rfl ?_|refine Wr ?_)
    have hs : (L ++ [128]) ++ List.replicate (k + 1) (0 : UInt8) = (L ++ [128]) ++ List.replicate k (0 : UInt8) ++ [0] := by rw [List.replicate_succ', ← List.append_assoc]
    exact ⟨k + 1, a3, c3, by omega, by omega, by rw [hs]; infer_instance⟩
  · have h2 : k = padZ L.length := by simp only [padZ] at hk ⊢; omega
    subst h2
    repeat (first|refine Wa ?_|refine Wb ?_|refine Wc ?_|refine We rfl ?_|refine Wf (by first|exact Va|exact Vf) rfl ?_|refine Wm ?_|refine Wo ?_|refine Wp ?_)
    refine Wf OpV.conv rfl ?_
    refine JO.reslot 26 (.int .u64 (L.length : Int)) (congrArg (Value.int .u64) (by rw [wrap64]; omega)) ?_
    repeat (refine We rfl ?_)
    refine Wf (OpV.shl (by decide)) rfl ?_
    refine JO.reslot 27 (w64 (UInt64.ofNat (L.length * 8))) (congrArg (Value.int .u64) (by
      show IntKind.u64.wrap ((L.length : Int) * 2 ^ 3) = _
      rw [show ((L.length : Int) * 2 ^ 3) = ((L.length * 8 : Nat) : Int) by omega, wrap64, UInt64.toNat_ofNat'])) ?_
    repeat (refine We rfl ?_)
    refine JR.callV rfl (fun w1 hw => long_rot w1 _ _) ?_
    repeat (first|refine Wa ?_|refine Wb ?_|refine Wc ?_|refine Wd ?_|refine We rfl ?_|refine Wf (by exact Va) rfl ?_|(refine Wg rfl ?_; intro _)|refine Wi ?_)
    refine Wf (OpV.sliceArr (by decide)) rfl ?_
    refine We rfl ?_
    refine JR.appendBytes (M := longL (UInt64.ofNat (L.length * 8))) rfl rfl rfl (by simp [longL]) (by exact ⟨rfl, rfl, by decide⟩) (by rw [hlen]; omega) ?_
    intro a3 c3
    repeat (first|refine Wa ?_|refine Wd ?_|refine We rfl ?_|refine Wf (by exact Vb) rfl ?_|refine Ws ?_)
    exact CT.done (a3, c3) rfl (fun w ho => (ho.ent : Hold _ _ [.res (buf a3 c3 5 ((L ++ [128]) ++ List.replicate (padZ L.length) (0 : UInt8) ++ longL (UInt64.ofNat (L.length * 8))))] w))
end Ab
end Go.Proofs.YtdgeffphifgflaaGreat
namespace Go.Proofs.YtdgeffphifgflaaGreat
namespace Ab
open Go Go.RowKit
set_option linter.unusedVariables false
set_option linter.unusedSimpArgs false
set_option synthInstance.maxSize 4000
set_option synthInstance.maxHeartbeats 400000
attribute [local irreducible] JC JO JR JQ andThen inBlock OpV Gives retTo JM JS
attribute [local irreducible] spreadK shaKV spreadV turnV plusV blockL
theorem padL_length (L : List UInt8) : (padL L).length = 64 * ((L.length + 72) / 64) := by
  simp only [padL, List.length_append, List.length_replicate, longL, List.length_map, List.length_range, List.length_singleton, padZ]
  omega
def blocksV : Nat → Vec UInt32 8 → List UInt8 → Vec UInt32 8
  | 0, h, _ => h
  | n + 1, h, p => blocksV n (blockL h (p.take 64)) (p.drop 64)
def shaSV : Vec UInt32 8 := ⟨shaS, rfl⟩
theorem start_shaV (w : World) (F : Nat → Prop) : GivesV Tryz.prog 167 [] w F (.agg ⟨shaSV.1.map w32⟩) := start_sha w F
def sumV (L : List UInt8) : Vec UInt32 8 := blocksV ((padL L).length / 64) shaSV (padL L)
def outK (h : List UInt32) (k : Nat) : List UInt8 := (h.take k).flatMap fourL ++ List.replicate (32 - 4 * k) 0
theorem flat4 (h : List UInt32) : (h.flatMap fourL).length = 4 * h.length := by
  induction h with
  | nil => rfl
  | cons x h ih => simp only [List.flatMap_cons, List.length_append, ih, List.length_cons]; simp [fourL]; omega
theorem outK_length (h : Vec UInt32 8) (k : Nat) (hk : k ≤ 8) : (outK h.1 k).length = 32 := by
  have := h.2
  simp only [outK, List.length_append, flat4, List.length_take, List.length_replicate]
  omega
theorem outK_zero (h : List UInt32) : outK h 0 = List.replicate 32 0 := by simp [outK]
theorem outK_next (h : Vec UInt32 8) (k : Nat) (hk : k < 8) : (outK h.1 k).take (4 * k) ++ fourL (h.1.getD k 0) ++ (outK h.1 k).drop (4 * k + 4) = outK h.1 (k + 1) := by
  have h8 := h.2
  have h4 : ((h.1.take k).flatMap fourL).length = 4 * k := by rw [flat4, List.length_take]; omega
  rw [outK, outK, List.take_left' h4, List.drop_append, h4, List.drop_eq_nil_of_le (by omega), List.nil_append, List.drop_replicate, List.take_succ_eq_append_getElem (by omega), List.flatMap_append]
  have hg : h.1[k]'(by omega) = h.1.getD k 0 := by simp [List.getD_eq_getElem?_getD, h8, hk]
  simp only [List.flatMap_cons, List.flatMap_nil, List.append_nil, hg]
  congr 2
  omega
def sumL (L : List UInt8) : List UInt8 := (sumV L).1.flatMap fourL
theorem sumL_length (L : List UInt8) : (sumL L).length = 32 := by rw [sumL, flat4, (sumV L).2]
def idOfS (S : Vec UInt32 8) : ID := ⟨S.1.flatMap fourL, by rw [flat4, S.2]⟩
def sumI (L : List UInt8) : ID := idOfS (sumV L)
theorem sumI_val (L : List UInt8) : (sumI L).1 = sumL L := rfl
theorem part_word {S : List UInt32} {k : Nat} (h : k < S.length) (w : World) : (part 62 ⟨S.map w32⟩ (k * 1)).run Tryz.prog w = .ok (w32 (S.getD k 0)) w := by
  have hagg : (isAgg 62).run Tryz.prog w = .ok false w := by
    unfold isAgg
    rw [Sem.run_bind, run_und (P := Tryz.prog) (t := 62) w]
    rfl
  have hv : (⟨S.map w32⟩ : Array Value)[k * 1]? = some (w32 (S.getD k 0)) := by
    rw [Nat.mul_one]
    simp [List.getD_eq_getElem?_getD, h]
  unfold part
  rw [Sem.run_bind, hagg]
  simp only [Result.andThen_ok, Bool.false_eq_true, if_false, hv]
  rfl
set_option maxHeartbeats 1000000 in
theorem sum_sha (w : World) (F : Nat → Prop) (a : Option Addr) (c : Nat) (L : List UInt8) (h : (sl a c L).holds F w) (hL : L.length ≤ 1048576) :
    GivesV Tryz.prog 110 [.slice a L.length c] w F (.agg ⟨idc (sumI L)⟩) := by
  have hpl := padL_length L
  refine gives_of Tryz.func110 rfl Tryz.ntmps110 rfl rfl [.st (sl a c L)] (.start1 h) ?_
  repeat (first|refine Wa ?_|refine Wb ?_|refine Wc ?_|refine Wd ?_|refine We rfl ?_|(refine Wg rfl ?_; intro _))
  refine JR.callV rfl (fun w1 hw => start_shaV w1 _) ?_
  repeat (first|refine Wa ?_|refine Wb ?_|refine Wc ?_|refine Wd ?_|refine We rfl ?_|refine Wf (by exact Va) rfl ?_|(refine Wg rfl ?_; intro _)|refine Wi ?_)
  refine JR.callBuf rfl (fun w1 hw => pad_sha w1 _ a c L hw.get hL) ?_
  intro a1 c1
  refine JO.more (fun w1 ho => ho.pub) ?_
  repeat (first|refine Wa ?_|refine Wd ?_|refine We rfl ?_|refine Wf (by exact Vb) rfl ?_|refine Wn ?_)
  rename_i bi bh
  refine JC.reown bi ((List.replicate 32 (0 : UInt8)).map byteV) (by rw [List.map_replicate]; rfl) ?_
  refine JC.loop4 (fun (k : Nat) (H : Vec UInt32 8) p q => [(2, .pointer (some ⟨bi, 0, none⟩)), (3, .pointer (some ⟨bh, 0, none⟩)), (4, .slice p ((padL L).drop (64 * k)).length q)])
    (fun k H p q => [.own bi 81 ((List.replicate 32 (0 : UInt8)).map byteV), .own bh 182 (H.1.map w32), .st (sl p q ((padL L).drop (64 * k)))])
    (fun k H p q => 64 * k ≤ (padL L).length ∧ blocksV ((padL L).length / 64 - k) H ((padL L).drop (64 * k)) = sumV L) (fun k _ _ _ => (padL L).length - 64 * k) 0 shaSV a1 c1 ⟨Nat.zero_le _, rfl⟩ (by rw [show 64 * 0 = 0 from rfl, List.drop_zero]; infer_instance) ?_
  intro k H p q ⟨hk, hinv⟩
  repeat (first|refine Wa ?_|refine Wb ?_|refine Wc ?_|refine Wd ?_|refine We rfl ?_|refine Wf (by first|exact Va|exact Vf|exact Vo) rfl ?_)
  refine JC.test (fun h1 => ?_) (fun h1 => ?_)
  · have hk2 : 64 * k + 64 ≤ (padL L).length := by rw [List.length_drop] at h1; omega
    repeat (first|refine Wa ?_|refine Wb ?_|refine Wl ?_|refine Wn ?_)
    obtain ⟨pl, hpl2⟩ : ∃ pl, pl = (padL L).drop (64 * k) := ⟨_, rfl⟩
    have hp64 : (pl.take 64).length = 64 := by rw [hpl2, List.length_take, List.length_drop]; omega
    have hpl64 : 64 ≤ pl.length := by rw [hpl2, List.length_drop]; omega
    rw [← hpl2] at hinv ⊢
    refine JC.draw 7 mixed ?_
    refine JM.take 0 rfl (by kernel_rfl) rfl Vc rfl rfl ?_
    refine JM.take 1 rfl (by kernel_rfl) rfl Va rfl rfl ?_
    refine JM.take 2 rfl (by kernel_rfl) rfl (OpV.sliceToV (k := 64) (fun w1 ho => by have := (Hold.get (A := sl p q pl) ho).1; omega)) rfl rfl ?_
    refine JM.reslot 19 (.slice p (pl.take 64).length q) (by rw [hp64]) ?_
    refine JM.takeCall 3 rfl (by kernel_rfl) rfl (fun w1 hw => block_sha w1 _ p q (pl.take 64) H (sl_take (hw.get (A := sl p q pl)) hpl64 ⟨Nat.le_trans hpl64 (hw.get (A := sl p q pl)).1, Nat.le_refl _⟩) hp64) rfl rfl ?_
    refine JM.take 4 rfl (by kernel_rfl) rfl Va rfl rfl ?_
    refine JM.take 5 rfl (by kernel_rfl) rfl Vq rfl rfl ?_
    refine JM.mix 6 7 (by kernel_rfl) rfl rfl rfl rfl rfl rfl rfl (JS.val Vq rfl ?_) (Wi (Wd ⟨rfl, ?_⟩))
    · refine JM.last 7 (by kernel_rfl) rfl rfl rfl (Wi (Wd ⟨rfl, ?_⟩))
      refine JM.nil (by kernel_rfl) ?_
      repeat (first|refine Wa ?_|refine Wc ?_|refine We rfl ?_|refine Wf (by exact Va) rfl ?_|refine Wr ?_)
      refine JR.sliceFrom (L := pl) (k := 64) rfl rfl (by omega) ?_
      intro p2 q2
      repeat (first|refine Wa ?_|refine Wd ?_|refine We rfl ?_|refine Wf (by exact Vb) rfl ?_)
      have hd : pl.drop 64 = (padL L).drop (64 * (k + 1)) := by rw [hpl2, List.drop_drop]; congr 1
      have hn : (padL L).length / 64 - k = ((padL L).length / 64 - (k + 1)) + 1 := by omega
      refine ⟨k + 1, blockL H (pl.take 64), p2, q2, ⟨by omega, ?_⟩, by omega, by rw [← hd]; infer_instance⟩
      rw [← hd, ← hinv, hn]
      rfl
    · refine JM.one 6 (by kernel_rfl) rfl rfl rfl rfl (JS.val Vq rfl ?_)
      refine JM.nil (by kernel_rfl) ?_
      repeat (first|refine Wa ?_|refine Wc ?_|refine We rfl ?_|refine Wf (by exact Va) rfl ?_|refine Wr ?_)
      refine JR.sliceFrom (L := pl) (k := 64) rfl rfl (by omega) ?_
      intro p2 q2
      repeat (first|refine Wa ?_|refine Wd ?_|refine We rfl ?_|refine Wf (by exact Vb) rfl ?_)
      have hd : pl.drop 64 = (padL L).drop (64 * (k + 1)) := by rw [hpl2, List.drop_drop]; congr 1
      have hn : (padL L).length / 64 - k = ((padL L).length / 64 - (k + 1)) + 1 := by omega
      refine ⟨k + 1, blockL H (pl.take 64), p2, q2, ⟨by omega, ?_⟩, by omega, by rw [← hd]; infer_instance⟩
      rw [← hd, ← hinv, hn]
      rfl
  · have hk2 : 64 * k = (padL L).length := by rw [List.length_drop] at h1; omega
    have hk3 : (padL L).length / 64 - k = 0 := by omega
    rw [hk3] at hinv
    have hinv : H = sumV L := hinv
    subst hinv
    repeat (first|refine Wa ?_|refine Wb ?_|refine Wc ?_|refine Wd ?_|refine We rfl ?_|refine Wf (by first|exact Va|exact Vc) rfl ?_|refine Wm ?_|refine Wn ?_|refine Wo ?_|refine Wp ?_)
    obtain ⟨S, hS⟩ : ∃ S, S = sumV L := ⟨_, rfl⟩
    have hsum : sumI L = idOfS S := by subst hS; rfl
    rw [← hS, hsum]
    clear hS hinv hsum
    refine JC.loop1 (fun k : Nat => [(2, .pointer (some ⟨bi, 0, none⟩)), (23, .agg ⟨S.1.map w32⟩), (24, .int .i64 (k : Int))]) (fun k => [.own bi 81 ((outK S.1 k).map byteV)])
      (fun k => k ≤ 8) (fun k => 8 - k) 0 (Nat.zero_le _) (by rw [outK_zero]; infer_instance) ?_
    intro k hk
    repeat (first|refine Wa ?_|refine Wb ?_|refine Wc ?_|refine Wd ?_|refine We rfl ?_|refine Wf (by exact Vg) rfl ?_)
    refine JC.test (fun hlt => ?_) (fun hge => ?_)
    · have hlt' : k < 8 := by omega
      have hkS : k < S.1.length := by rw [S.2]; exact hlt'
      repeat (first|refine Wa ?_|refine Wb ?_|refine Wc ?_|refine We rfl ?_|refine Wf (by exact Va) rfl ?_|refine Wl ?_|refine Wn ?_)
      refine Wf (OpV.indexAgg (r := []) (v := w32 (S.1.getD k 0)) hlt' (fun w1 => part_word hkS w1)) rfl ?_
      repeat (first|refine Wa ?_|refine Wb ?_|refine Wc ?_|refine Wd ?_|refine We rfl ?_|refine Wf (by first|exact Va|exact Vb) rfl ?_)
      refine JR.callV rfl (fun w1 hw => four_rot w1 _ _) ?_
      repeat (first|refine Wa ?_|refine Wd ?_|refine We rfl ?_|(refine Wg rfl ?_; intro _)|refine Wi ?_)
      refine JC.draw 4 mixed ?_
      refine JM.take 0 rfl (by kernel_rfl) rfl Va rfl rfl ?_
      refine JM.take 1 rfl (by kernel_rfl) rfl (OpV.shl (by decide)) rfl rfl ?_
      refine JM.reslot 31 (.int .i64 ((4 * k : Nat) : Int)) (congrArg (Value.int .i64) (by show IntKind.i64.wrap ((k : Int) * 2 ^ 2) = _; rw [IntKind.wrap_i64]; omega)) ?_
      refine JM.take 2 rfl (by kernel_rfl) rfl (OpV.sliceArrFrom (l := 4 * k) (by omega) rfl) rfl rfl ?_
      refine JM.take 3 rfl (by kernel_rfl) rfl (OpV.sliceArr (by decide)) rfl rfl ?_
      have hmin : Nat.min 4 (32 - 4 * k) = 4 := Nat.min_eq_left (by omega)
      have h4 : (fourL (S.1.getD k 0)).length = 4 := by simp [fourL]
      have hout : (outK S.1 k).length = 32 := outK_length S k (by omega)
      refine JM.last 4 (by kernel_rfl) rfl rfl rfl (JR.copyOwn (cs := (fourL (S.1.getD k 0)).map byteV) rfl (by rw [hmin]; exact List.take_of_length_le (by rw [show (0 : Nat) - 0 = 0 from rfl, List.drop_zero, List.length_map, h4]; exact Nat.le_refl _)) (Nat.le_refl _) (by rw [hmin, List.length_map, h4]) (by simp only [List.length_map, h4, hout]; omega) inferInstance ?_)
      refine JO.reown bi ((outK S.1 (k + 1)).map byteV) (by rw [← outK_next S k hlt']; simp only [List.length_map, h4, List.map_append, List.map_take, List.map_drop, Nat.zero_add]) (Wd ⟨rfl, ?_⟩)
      refine JM.nil (by kernel_rfl) ?_
      repeat (first|refine Wa ?_|refine Wc ?_|refine Wd ?_|refine We rfl ?_|refine Wf (by first|exact Va|exact Vk (by omega)) rfl ?_|refine Wr ?_)
      exact ⟨k + 1, by omega, by omega, inferInstance⟩
    · obtain rfl : k = 8 := by omega
      have h8 : outK S.1 8 = S.1.flatMap fourL := by
        rw [outK, List.take_of_length_le (by rw [S.2]; exact Nat.le_refl _)]
        simp
      repeat (first | refine Wa ?_ | refine Wo ?_ | refine Wp ?_ | refine Wq rfl ?_ | refine Wr ?_ | refine Wm ?_)
      refine JC.reown bi (idc (idOfS S)) (by rw [h8]; rfl) ?_
      repeat (first|refine Wa ?_|refine Wb ?_|refine Wc ?_|refine Wd ?_|refine We rfl ?_|refine Wf (by exact Vc) rfl ?_|refine Wi ?_|refine Ws ?_)
      exact CT.done () rfl (fun w ho => ho.ent)
end Ab
end Go.Proofs.YtdgeffphifgflaaGreat
namespace Go.Proofs.YtdgeffphifgflaaGreat
namespace Ab
open Go Go.RowKit
set_option linter.unusedVariables false
set_option linter.unusedSimpArgs false
set_option synthInstance.maxSize 4000
set_option synthInstance.maxHeartbeats 400000
attribute [local irreducible] JC JO JR JQ andThen inBlock OpV Gives retTo JM JS
theorem num_enc (n : Nat) (hn : n < 18446744073709551616) (w : World) (F : Nat → Prop) : GivesBuf Tryz.prog 113 [.int .u64 (n : Int)] w F 5 (numL n) := by
  unfold GivesBuf Gives
  refine Calls.mono (callsIn_wide.1 (num_in n hn w)) ?_
  rintro e w' ⟨v, rfl, hrow, hB⟩
  have hlen := numL_length n
  rcases hrow.2 with ⟨_, h0⟩ | ⟨g, cap, cur, rfl, hg, hgb, h1, h2, h3, h4⟩
  · exfalso
    have : numL n ≠ [] := by unfold numL; simp only [numF]; split <;> simp
    exact this (List.eq_nil_of_length_eq_zero h0)
  · refine ⟨(some ⟨g, 0, none⟩, cap), rfl, Bel.of hB (fun h => False.elim h), ⟨fun f hf => ?_, by simp, fun f hf k hk => ?_⟩⟩
    · simp only [List.mem_singleton] at hf; subst hf
      refine ⟨by simp only [lim]; omega, bytesIx (numL n), map_bytes _, ⟨by rw [flat_bytes]; simp [Cell.sz], .inr ⟨g, cap, cur, rfl, Nat.zero_le _, hgb, h1, h2, h3, ?_⟩⟩, fun p hp A hA => by simp [Cell.facts] at hA⟩
      rw [flat_bytes]; exact h4
    · simp only [List.mem_singleton] at hf; subst hf
      obtain ⟨a', ha', rfl⟩ := hk
      injection ha' with ha'
      subst ha'
      exact hg
def textL (s : ByteArray) : List UInt8 := numL s.size ++ bytesOf s
theorem text_enc (s : ByteArray) (hs : s.size ≤ 1048576) (w : World) (F : Nat → Prop) : GivesBuf Tryz.prog 175 [.string s] w F 5 (textL s) := by
  have hnl := numL_length s.size
  refine gives_of Tryz.func175 rfl Tryz.ntmps175 rfl rfl [] (.start w F) ?_
  repeat (first|refine Wa ?_|refine Wb ?_|refine Wc ?_|refine Wd ?_|refine We rfl ?_|refine Wf (by first|exact Va|exact Vb|exact Vw) rfl ?_)
  refine Wf (OpV.convIn (by rw [wrap64]; omega)) rfl ?_
  repeat (refine We rfl ?_)
  refine JR.callBuf rfl (fun w1 hw => num_enc s.size (by omega) w1 _) ?_
  intro a1 c1
  repeat (first|refine We rfl ?_|refine Wf (by exact Va) rfl ?_)
  refine JR.appendStr rfl (by exact ⟨rfl, rfl, by decide⟩) (by omega) ?_
  intro a2 c2
  repeat (first|refine Wa ?_|refine Wd ?_|refine We rfl ?_|refine Wf (by exact Vb) rfl ?_|refine Ws ?_)
  exact CT.done (a2, c2) rfl (fun w ho => (ho.ent : Hold _ _ [.res (buf a2 c2 5 (numL s.size ++ bytesOf s))] w))
theorem foldN_lt {n : Int} (h : -1099511627776 ≤ n ∧ n ≤ 1099511627776) : foldN n < 18446744073709551616 := by
  unfold foldN; split <;> omega
theorem kinds2 (w : World) (F : Nat → Prop) (o : Op_) (h : -1099511627776 ≤ o.n ∧ o.n ≤ 1099511627776) : GivesBuf Tryz.prog 218 [opV o] w F 5 (numL (foldN o.n)) := by
  refine gives_of Tryz.func218 rfl Tryz.ntmps218 rfl rfl [] (.start w F) ?_
  repeat (first|refine Wa ?_|refine Wb ?_|refine Wc ?_|refine Wd ?_|refine We rfl ?_|refine Wf (by first|exact Vb|exact Vc|exact Vd) rfl ?_|(refine Wh rfl ?_; intro _))
  refine JR.callV rfl (fun w1 hw => fold_enc w1 _ o.n h) ?_
  repeat (refine We rfl ?_)
  refine JR.callBuf rfl (fun w1 hw => num_enc _ (foldN_lt h) w1 _) ?_
  intro a1 c1
  repeat (first|refine Wa ?_|refine Wd ?_|refine We rfl ?_|refine Wf (by exact Vb) rfl ?_|refine Ws ?_)
  exact CT.done (a1, c1) rfl (fun w ho => ho.ent)
theorem kinds5 (w : World) (F : Nat → Prop) (o : Op_) (h : o.elem.size ≤ 1048576) : GivesBuf Tryz.prog 222 [opV o] w F 5 (textL o.elem) := by
  refine gives_of Tryz.func222 rfl Tryz.ntmps222 rfl rfl [] (.start w F) ?_
  repeat (first|refine Wa ?_|refine Wb ?_|refine Wc ?_|refine Wd ?_|refine We rfl ?_|refine Wf (by first|exact Vb|exact Vc|exact Vd) rfl ?_|(refine Wh rfl ?_; intro _))
  refine JR.callBuf rfl (fun w1 hw => text_enc _ h w1 _) ?_
  intro a1 c1
  repeat (first|refine Wa ?_|refine Wd ?_|refine We rfl ?_|refine Wf (by exact Vb) rfl ?_|refine Ws ?_)
  exact CT.done (a1, c1) rfl (fun w ho => ho.ent)
end Ab
end Go.Proofs.YtdgeffphifgflaaGreat
namespace Go.Proofs.YtdgeffphifgflaaGreat
namespace Ab
open Go
def joinB_ren : Go.Shelf.Ren := ⟨fun | 14 => 174 | 15 => 216 | n => n, fun | 26 => 91 | n => n, fun | n => n⟩
open Go.Shelf Go.Proofs in
theorem joinB : SlLaysJ.n14 Tryz.prog joinB_ren where
  mixed := by kernel_rfl
  f14 := Tryz.func174.trans (congrArg some (by kernel_rfl))
  f15 := Tryz.func216.trans (congrArg some (by kernel_rfl))
  t0 := Tryz.underlying0
  a0 := Tryz.isAgg0
  z0 := Tryz.sizeOf0
  v0 := Tryz.zeroValue0
  t3 := Tryz.underlying3
  a3 := Tryz.isAgg3
  z3 := Tryz.sizeOf3
  v3 := Tryz.zeroValue3
  t4 := Tryz.underlying4
  a4 := Tryz.isAgg4
  z4 := Tryz.sizeOf4
  v4 := Tryz.zeroValue4
  t9 := Tryz.underlying9
  a9 := Tryz.isAgg9
  z9 := Tryz.sizeOf9
  v9 := Tryz.zeroValue9
  t20 := Tryz.underlying20
  a20 := Tryz.isAgg20
  z20 := Tryz.sizeOf20
  v20 := Tryz.zeroValue20
  t22 := Tryz.underlying22
  a22 := Tryz.isAgg22
  z22 := Tryz.sizeOf22
  v22 := Tryz.zeroValue22
  t26 := Tryz.underlying91
  a26 := Tryz.isAgg91
  z26 := Tryz.sizeOf91
  v26 := Tryz.zeroValue91
  t5 := Tryz.underlying5
  z5 := Tryz.sizeOf5
  i5 := by kernel_rfl
end Ab
end Go.Proofs.YtdgeffphifgflaaGreat
namespace Go.Proofs.YtdgeffphifgflaaGreat
namespace Ab
open Go Go.RowKit
set_option linter.unusedVariables false
set_option linter.unusedSimpArgs false
set_option synthInstance.maxSize 4000
set_option synthInstance.maxHeartbeats 400000
attribute [local irreducible] JC JO JR JQ andThen inBlock OpV Gives retTo JM JS
open Go.Proofs in
instance : Cell (List UInt8) where
  Ix := Option Addr × Nat
  sz := 1
  cells l y := [.slice y.1 l.length y.2]
  facts l y := [sl y.1 y.2 l]
  len _ _ := rfl
  one l y := by simp [Value.oneCell']
  pos := by decide
section
variable {P : Program} {n : Nn} {w0 : World} {F : Nat → Prop} {ops : Array Oper} {i d : Nat} {t : TypeId} {pos : String} {aft : Array Edge} {g : Option (Nat × Bool)} {os : List Oper} {Q : Cont} {e : E} {Γ : List Fact}
theorem JR.indexBytes {x ix : Operand} {v : Value} {L : List (List UInt8)} {kk : IntKind} {j : Int} {k : Nat} {ty el : TypeId} {sz by_ eb : Nat} {z ez : Value} {ed : TypeDesc}
    [hx : Ev e x v] [hL : HasSl Γ v (List UInt8) inferInstance L] [hi : Ev e ix (.int kk j)] [hk : NatI j k] [hT : Ty P ty (.slice el) sz by_ z] [hE : Ty P el ed 1 eb ez] (hd : Nat.blt d n.s = true) (h : k < L.length)
    (K : ∀ b o p q, JO P n w0 F ops (i + 1) os Q ((d, .pointer (some ⟨b, o, none⟩)) :: e) (.st (ro b o [.slice p (L[k]'h).length q]) :: .st (sl p q (L[k]'h)) :: Γ)) :
    JR P n w0 F ops i ⟨some d, .indexAddr ty x ix, t, pos, aft, g⟩ os Q e Γ := JR.index hd rfl h fun b o (y : Option Addr × Nat) => K b o y.1 y.2
end
theorem holdsBytes_of_sl {F : Nat → Prop} {w : World} {a : Option Addr} {c : Nat} {l : List UInt8} (h : (sl a c l).holds F w) : Lib.HoldsBytes w (.slice a l.length c) l := by
  refine ⟨a, c, rfl, fun h0 => ?_, fun ad hd i x hx => ?_⟩
  · rw [← Classical.not_not (a := l = [])]
    intro hne
    obtain ⟨b, off, h1, _⟩ := h.2.2.2 hne
    rw [h0] at h1; cases h1
  · obtain ⟨hi, hxi⟩ := List.getElem?_eq_some_iff.1 hx
    have hne : l ≠ [] := by intro h0; subst h0; simp at hi
    obtain ⟨b, off, h1, _⟩ := h.2.2.2 hne
    rw [hd] at h1
    injection h1 with h1
    subst h1 hd
    rw [Addr.add_mid]
    have := sl_byte h i hi
    rw [hxi] at this
    exact this
theorem fresh_sl {n : Nat} {F : Nat → Prop} {w : World} {v : Value} {l : List UInt8} (h : Lib.FreshBytes n w v l) (hl : l.length ≤ 1048576) : ∃ a c, v = .slice a l.length c ∧ Fresh n F [.st (sl a c l)] w := by
  obtain ⟨g, cap, zs, rfl, hB, h1, h2, hz, hb, hzs, hc, _⟩ := h
  refine ⟨some ⟨g, 0, none⟩, cap, rfl, ⟨fun f hf => ?_, by simp, fun f hf k hk => ?_⟩⟩
  · simp only [List.mem_singleton] at hf; subst hf
    refine ⟨h1, h2, by simp only [lim]; omega, fun hne => ⟨g, 0, rfl, ⟨.inr hB, ?_⟩, ?_, fun i hi => ⟨(), ?_, by simp [Cell.facts]⟩⟩⟩
    · intro f hf
      simp only [List.mem_singleton] at hf; subst hf
      exact fun h => h
    · have h0 := hc 0 (by have := List.length_pos_iff.2 hne; omega)
      rcases Nat.lt_or_ge g w.heap.size with h | h
      · exact h
      · unfold World.cell? at h0; simp [Array.getElem?_eq_none h] at h0
    · intro j v hj
      simp only [Cell.cells, List.getElem?_singleton] at hj
      split at hj
      · rename_i h0; subst h0
        injection hj with hj
        subst hj
        have h3 := hc i (by omega)
        simp only [Cell.sz, Nat.mul_one, Nat.zero_add, Nat.add_zero]
        rw [h3]
        have hi2 : i < zs.length := by omega
        have h4 : l[i] = UInt8.ofNat (zs[i]).toNat := by
          have : l[i]? = some (UInt8.ofNat (zs[i]).toNat) := by
            rw [← hzs, Lib.bytesOf, List.getElem?_map, List.getElem?_take, if_pos hi]
            simp [hi2]
          rw [List.getElem?_eq_getElem hi] at this
          injection this
        have h5 := hb zs[i] (List.getElem_mem hi2)
        rw [h4]
        simp only [byteV, List.getD_eq_getElem?_getD, List.getElem?_eq_getElem hi2, Option.getD_some]
        congr 2
        rw [UInt8.toNat_ofNat']
        omega
      · cases hj
  · simp only [List.mem_singleton] at hf; subst hf
    exact hk.elim
theorem join_bytes (w : World) (F : Nat → Prop) (a : Option Addr) (c : Nat) (ls : List (List UInt8)) (h2 : 2 ≤ ls.length) (h : (sl a c ls).holds F w) (hl : ls.flatten.length ≤ 1048576) (hl2 : ls.length ≤ 1048576) :
    GivesSl Tryz.prog 174 [.slice a ls.length c, .slice none 0 0] w F ls.flatten := by
  have hne : ls ≠ [] := by intro h0; subst h0; simp at h2
  obtain ⟨b, off, rfl, hF, hlt, hrow⟩ := h.2.2.2 hne
  obtain ⟨r, hr1, hr2, hr3⟩ := row_list ls off hrow
  have hflat : ∀ r : List (List UInt8 × Cell.Ix (List UInt8)), flat r = r.map (fun p => Value.slice (p.2 : Option Addr × Nat).1 p.1.length (p.2 : Option Addr × Nat).2) := by
    intro r
    induction r with
    | nil => rfl
    | cons p r ih => obtain ⟨x, y⟩ := p; simp only [flat, List.map_cons, ih]; rfl
  have hsum : Lib.lens ls = ls.flatten.length := by simp [Lib.lens, List.length_flatten]
  have hP : Lib.PartsAt w ⟨b, off, none⟩ (flat r) ls := by
    refine ⟨by rw [hflat, List.length_map, ← hr1, List.length_map], fun i v hv => by rw [Addr.add_mid]; exact hr2 i v hv, fun i v l hv hll => ?_⟩
    rw [hflat, List.getElem?_map] at hv
    rw [← hr1, List.getElem?_map] at hll
    cases hri : r[i]? with
    | none => rw [hri] at hv; cases hv
    | some p =>
      rw [hri] at hv hll
      injection hv with hv
      injection hll with hll
      subst hv hll
      exact holdsBytes_of_sl (hr3 p (List.mem_of_getElem? hri) _ (by simp [Cell.facts]))
  have hj := Go.Proofs.Any.bytes_Join_many joinB b off ls.length c (flat r) ls (.slice none 0 0) [] w rfl h2 hP h.1 ⟨none, 0, rfl, fun _ => rfl, nofun⟩ (by omega) (by rw [hsum, List.length_nil, Nat.zero_mul]; omega)
  unfold GivesSl Gives
  refine Calls.mono hj ?_
  rintro e w' ⟨v, rfl, hfr, hB⟩
  have hjoin : Lib.join ls [] = ls.flatten := by
    cases ls with
    | nil => rfl
    | cons x r => rw [Lib.join_cons]; simp [Lib.joinTail]
  rw [hjoin] at hfr
  obtain ⟨a', c', rfl, hf⟩ := fresh_sl (F := F) hfr hl
  exact ⟨(a', c'), rfl, Bel.of hB (fun h => False.elim h), hf⟩
theorem grow_bytes (w : World) (F : Nat → Prop) (k : Nat) (hk : k ≤ 1048576) : GivesBuf Tryz.prog 172 [.slice none 0 0, .int .i64 (k : Int)] w F 5 ([] : List UInt8) := by
  refine gives_of Tryz.func172 rfl Tryz.ntmps172 rfl rfl [] (.start w F) ?_
  repeat (first|refine Wa ?_|refine Wb ?_|refine Wc ?_|refine Wd ?_|refine We rfl ?_|refine Wf (by first|exact Va|exact Vb|exact Vc|exact Vd|exact Ve|exact Vf|exact Vg|exact Vh|exact Vi|exact Vj|exact Vk (by omega)|exact Vl|exact Vm|exact Vn|exact Vo|exact Vp|exact Vq|exact Vr|exact Vs (by omega)|exact Vt (by omega)|exact Vu (by omega)|exact Vv (by omega)|exact Vw|exact Vx|exact Vy|exact Vz|exact VA|exact VB|exact VC|exact VD|exact VE|exact VF) rfl ?_|(refine Wg rfl ?_; intro _)|(refine Wh rfl ?_; intro _)|refine Wi ?_|refine Wj ?_|refine Wk ?_|refine Wl ?_|refine Wm ?_|refine Wn ?_|refine Wo ?_|refine Wp ?_|refine Wq rfl ?_|refine Wr ?_|refine Ws ?_|refine Wt ?_|refine Wu ?_|refine Wv rfl rfl ?_|(refine Ww rfl ⟨rfl, by decide, by decide, by decide⟩ ?_; intro _))
  refine Wf OpV.cap rfl ?_
  repeat (first|refine Wa ?_|refine Wb ?_|refine Wc ?_|refine Wd ?_|refine We rfl ?_|refine Wf (by first|exact Va|exact Vb|exact Vc|exact Vd|exact Ve|exact Vf|exact Vg|exact Vh|exact Vi|exact Vj|exact Vk (by omega)|exact Vl|exact Vm|exact Vn|exact Vo|exact Vp|exact Vq|exact Vr|exact Vs (by omega)|exact Vt (by omega)|exact Vu (by omega)|exact Vv (by omega)|exact Vw|exact Vx|exact Vy|exact Vz|exact VA|exact VB|exact VC|exact VD|exact VE|exact VF) rfl ?_|(refine Wg rfl ?_; intro _)|(refine Wh rfl ?_; intro _)|refine Wi ?_|refine Wj ?_|refine Wk ?_|refine Wl ?_|refine Wm ?_|refine Wn ?_|refine Wo ?_|refine Wp ?_|refine Wq rfl ?_|refine Wr ?_|refine Ws ?_|refine Wt ?_|refine Wu ?_|refine Wv rfl rfl ?_|(refine Ww rfl ⟨rfl, by decide, by decide, by decide⟩ ?_; intro _))
  refine JC.reslot 1 (.int .i64 (k : Int)) (by first | rfl | (congr 1 <;> omega)) ?_
  refine JC.test (fun hlt => ?_) (fun hge => ?_)
  · repeat (first|refine Wa ?_|refine Wb ?_|refine Wc ?_|refine Wd ?_|refine We rfl ?_|refine Wf (by first|exact Va|exact Vb|exact Vc|exact Vd|exact Ve|exact Vf|exact Vg|exact Vh|exact Vi|exact Vj|exact Vk (by omega)|exact Vl|exact Vm|exact Vn|exact Vo|exact Vp|exact Vq|exact Vr|exact Vs (by omega)|exact Vt (by omega)|exact Vu (by omega)|exact Vv (by omega)|exact Vw|exact Vx|exact Vy|exact Vz|exact VA|exact VB|exact VC|exact VD|exact VE|exact VF) rfl ?_|(refine Wg rfl ?_; intro _)|(refine Wh rfl ?_; intro _)|refine Wi ?_|refine Wj ?_|refine Wk ?_|refine Wl ?_|refine Wm ?_|refine Wn ?_|refine Wo ?_|refine Wp ?_|refine Wq rfl ?_|refine Wr ?_|refine Ws ?_|refine Wt ?_|refine Wu ?_|refine Wv rfl rfl ?_|(refine Ww rfl ⟨rfl, by decide, by decide, by decide⟩ ?_; intro _))
    refine Wf OpV.cap rfl ?_
    refine We rfl ?_
    refine Wf (OpV.sliceToV (k := 0) (fun _ _ => Nat.zero_le _)) rfl ?_
    repeat (first|refine Wa ?_|refine Wb ?_|refine Wc ?_|refine Wd ?_|refine We rfl ?_|refine Wf (by first|exact Va|exact Vb|exact Vc|exact Vd|exact Ve|exact Vf|exact Vg|exact Vh|exact Vi|exact Vj|exact Vk (by omega)|exact Vl|exact Vm|exact Vn|exact Vo|exact Vp|exact Vq|exact Vr|exact Vs (by omega)|exact Vt (by omega)|exact Vu (by omega)|exact Vv (by omega)|exact Vw|exact Vx|exact Vy|exact Vz|exact VA|exact VB|exact VC|exact VD|exact VE|exact VF) rfl ?_|(refine Wg rfl ?_; intro _)|(refine Wh rfl ?_; intro _)|refine Wi ?_|refine Wj ?_|refine Wk ?_|refine Wl ?_|refine Wm ?_|refine Wn ?_|refine Wo ?_|refine Wp ?_|refine Wq rfl ?_|refine Wr ?_|refine Ws ?_|refine Wt ?_|refine Wu ?_|refine Wv rfl rfl ?_|(refine Ww rfl ⟨rfl, by decide, by decide, by decide⟩ ?_; intro _))
    refine JR.appendZeros (α := UInt8) (k := k) rfl (by exact ⟨rfl, rfl, by decide⟩) ⟨by omega, by omega⟩ ?_
    intro b c hc
    repeat (first|refine Wa ?_|refine Wb ?_|refine Wc ?_|refine Wd ?_|refine We rfl ?_|refine Wf (by first|exact Va|exact Vb|exact Vc|exact Vd|exact Ve|exact Vf|exact Vg|exact Vh|exact Vi|exact Vj|exact Vk (by omega)|exact Vl|exact Vm|exact Vn|exact Vo|exact Vp|exact Vq|exact Vr|exact Vs (by omega)|exact Vt (by omega)|exact Vu (by omega)|exact Vv (by omega)|exact Vw|exact Vx|exact Vy|exact Vz|exact VA|exact VB|exact VC|exact VD|exact VE|exact VF) rfl ?_|(refine Wg rfl ?_; intro _)|(refine Wh rfl ?_; intro _)|refine Wi ?_|refine Wj ?_|refine Wk ?_|refine Wl ?_|refine Wm ?_|refine Wn ?_|refine Wo ?_|refine Wp ?_|refine Wq rfl ?_|refine Wr ?_|refine Ws ?_|refine Wt ?_|refine Wu ?_|refine Wv rfl rfl ?_|(refine Ww rfl ⟨rfl, by decide, by decide, by decide⟩ ?_; intro _))
    refine Wf (OpV.sliceToV (k := 0) (fun _ _ => Nat.zero_le _)) rfl ?_
    repeat (first|refine Wa ?_|refine Wb ?_|refine Wc ?_|refine Wd ?_|refine We rfl ?_|refine Wf (by first|exact Va|exact Vb|exact Vc|exact Vd|exact Ve|exact Vf|exact Vg|exact Vh|exact Vi|exact Vj|exact Vk (by omega)|exact Vl|exact Vm|exact Vn|exact Vo|exact Vp|exact Vq|exact Vr|exact Vs (by omega)|exact Vt (by omega)|exact Vu (by omega)|exact Vv (by omega)|exact Vw|exact Vx|exact Vy|exact Vz|exact VA|exact VB|exact VC|exact VD|exact VE|exact VF) rfl ?_|(refine Wg rfl ?_; intro _)|(refine Wh rfl ?_; intro _)|refine Wi ?_|refine Wj ?_|refine Wk ?_|refine Wl ?_|refine Wm ?_|refine Wn ?_|refine Wo ?_|refine Wp ?_|refine Wq rfl ?_|refine Wr ?_|refine Ws ?_|refine Wt ?_|refine Wu ?_|refine Wv rfl rfl ?_|(refine Ww rfl ⟨rfl, by decide, by decide, by decide⟩ ?_; intro _))
    exact CT.done (some ⟨b, 0, none⟩, c) rfl (fun w ho => ho.ent)
  · refine JC.buf_nil (α := UInt8) 5 ?_
    repeat (first|refine Wa ?_|refine Wb ?_|refine Wc ?_|refine Wd ?_|refine We rfl ?_|refine Wf (by first|exact Va|exact Vb|exact Vc|exact Vd|exact Ve|exact Vf|exact Vg|exact Vh|exact Vi|exact Vj|exact Vk (by omega)|exact Vl|exact Vm|exact Vn|exact Vo|exact Vp|exact Vq|exact Vr|exact Vs (by omega)|exact Vt (by omega)|exact Vu (by omega)|exact Vv (by omega)|exact Vw|exact Vx|exact Vy|exact Vz|exact VA|exact VB|exact VC|exact VD|exact VE|exact VF) rfl ?_|(refine Wg rfl ?_; intro _)|(refine Wh rfl ?_; intro _)|refine Wi ?_|refine Wj ?_|refine Wk ?_|refine Wl ?_|refine Wm ?_|refine Wn ?_|refine Wo ?_|refine Wp ?_|refine Wq rfl ?_|refine Wr ?_|refine Ws ?_|refine Wt ?_|refine Wu ?_|refine Wv rfl rfl ?_|(refine Ww rfl ⟨rfl, by decide, by decide, by decide⟩ ?_; intro _))
    exact CT.done (none, 0) rfl (fun w ho => ho.ent)
set_option maxHeartbeats 1000000 in
theorem concat_bytes (w : World) (F : Nat → Prop) (a : Option Addr) (c : Nat) (ls : List (List UInt8)) (h : (sl a c ls).holds F w) (hl : ls.flatten.length ≤ 1048576) (hl2 : ls.length ≤ 1048576) :
    GivesBuf Tryz.prog 112 [.slice a ls.length c] w F 5 ls.flatten := by
  have hle : ∀ k, (ls.take k).flatten.length ≤ 1048576 := fun k => by
    have h1 := congrArg (fun l => l.flatten.length) (List.take_append_drop k ls)
    simp only [List.flatten_append, List.length_append] at h1
    omega
  have hnext : ∀ k (hk : k < ls.length), (ls.take (k + 1)).flatten = (ls.take k).flatten ++ ls[k] := fun k hk => by
    rw [List.take_succ_eq_append_getElem hk, List.flatten_append]; simp
  refine gives_of Tryz.func112 rfl Tryz.ntmps112 rfl rfl [.st (sl a c ls)] (.start1 h) ?_
  repeat (first|refine Wa ?_|refine Wb ?_|refine Wc ?_|refine Wd ?_|refine We rfl ?_|refine Wf (by first|exact Va|exact Vb|exact Vc|exact Vd|exact Ve|exact Vf|exact Vg|exact Vh|exact Vi|exact Vj|exact Vk (by omega)|exact Vl|exact Vm|exact Vn|exact Vo|exact Vp|exact Vq|exact Vr|exact Vs (by omega)|exact Vt (by omega)|exact Vu (by omega)|exact Vv (by omega)|exact Vw|exact Vx|exact Vy|exact Vz|exact VA|exact VB|exact VC|exact VD|exact VE|exact VF) rfl ?_|(refine Wg rfl ?_; intro _)|(refine Wh rfl ?_; intro _)|refine Wi ?_|refine Wj ?_|refine Wk ?_|refine Wl ?_|refine Wm ?_|refine Wn ?_|refine Wo ?_|refine Wp ?_|refine Wq rfl ?_|refine Wr ?_|refine Ws ?_|refine Wt ?_|refine Wu ?_|refine Wv rfl rfl ?_|(refine Ww rfl ⟨rfl, by decide, by decide, by decide⟩ ?_; intro _))
  refine JC.reslot 3 (.int .i64 (((ls.take 0).flatten.length : Nat) : Int)) rfl ?_
  refine JC.loop1 (fun k : Nat => [(0, .slice a ls.length c), (3, .int .i64 ((ls.take k).flatten.length : Int)), (9, .slice a ls.length c), (10, .int .i64 (ls.length : Int)), (11, .int .i64 (k : Int))]) (fun k => [.st (sl a c ls)])
    (fun k => k ≤ ls.length) (fun k => ls.length - k) 0 (Nat.zero_le _) inferInstance ?_
  intro k hk
  repeat (first|refine Wa ?_|refine Wb ?_|refine Wc ?_|refine Wd ?_|refine We rfl ?_|refine Wf (by first|exact Va|exact Vb|exact Vc|exact Vd|exact Ve|exact Vf|exact Vg|exact Vh|exact Vi|exact Vj|exact Vk (by omega)|exact Vl|exact Vm|exact Vn|exact Vo|exact Vp|exact Vq|exact Vr|exact Vs (by omega)|exact Vt (by omega)|exact Vu (by omega)|exact Vv (by omega)|exact Vw|exact Vx|exact Vy|exact Vz|exact VA|exact VB|exact VC|exact VD|exact VE|exact VF) rfl ?_|(refine Wg rfl ?_; intro _)|(refine Wh rfl ?_; intro _)|refine Wi ?_|refine Wj ?_|refine Wk ?_|refine Wl ?_|refine Wm ?_|refine Wn ?_|refine Wo ?_|refine Wp ?_|refine Wq rfl ?_|refine Wr ?_|refine Ws ?_|refine Wt ?_|refine Wu ?_|refine Wv rfl rfl ?_|(refine Ww rfl ⟨rfl, by decide, by decide, by decide⟩ ?_; intro _))
  refine JC.test (fun hlt => ?_) (fun hge => ?_)
  · have hlt' : k < ls.length := by omega
    have h1 := hle (k + 1)
    have h2 := hnext k hlt'
    have h3 : (ls.take (k + 1)).flatten.length = (ls.take k).flatten.length + (ls[k]).length := by rw [h2, List.length_append]
    repeat (first|refine Wa ?_|refine Wb ?_|refine Wc ?_|refine Wd ?_|refine We rfl ?_|refine Wf (by first|exact Va|exact Vb|exact Vc|exact Vd|exact Ve|exact Vf|exact Vg|exact Vh|exact Vi|exact Vj|exact Vk (by omega)|exact Vl|exact Vm|exact Vn|exact Vo|exact Vp|exact Vq|exact Vr|exact Vs (by omega)|exact Vt (by omega)|exact Vu (by omega)|exact Vv (by omega)|exact Vw|exact Vx|exact Vy|exact Vz|exact VA|exact VB|exact VC|exact VD|exact VE|exact VF) rfl ?_|(refine Wg rfl ?_; intro _)|(refine Wh rfl ?_; intro _)|refine Wi ?_|refine Wj ?_|refine Wk ?_|refine Wl ?_|refine Wm ?_|refine Wn ?_|refine Wo ?_|refine Wp ?_|refine Wq rfl ?_|refine Wr ?_|refine Ws ?_|refine Wt ?_|refine Wu ?_|refine Wv rfl rfl ?_|(refine Ww rfl ⟨rfl, by decide, by decide, by decide⟩ ?_; intro _))
    refine JR.indexBytes rfl hlt' ?_
    intro b o p q
    repeat (first|refine Wa ?_|refine Wb ?_|refine Wc ?_|refine Wd ?_|refine We rfl ?_|refine Wf (by first|exact Va|exact Vb|exact Vc|exact Vd|exact Ve|exact Vf|exact Vg|exact Vh|exact Vi|exact Vj|exact Vk (by omega)|exact Vl|exact Vm|exact Vn|exact Vo|exact Vp|exact Vq|exact Vr|exact Vs (by omega)|exact Vt (by omega)|exact Vu (by omega)|exact Vv (by omega)|exact Vw|exact Vx|exact Vy|exact Vz|exact VA|exact VB|exact VC|exact VD|exact VE|exact VF) rfl ?_|(refine Wg rfl ?_; intro _)|(refine Wh rfl ?_; intro _)|refine Wi ?_|refine Wj ?_|refine Wk ?_|refine Wl ?_|refine Wm ?_|refine Wn ?_|refine Wo ?_|refine Wp ?_|refine Wq rfl ?_|refine Wr ?_|refine Ws ?_|refine Wt ?_|refine Wu ?_|refine Wv rfl rfl ?_|(refine Ww rfl ⟨rfl, by decide, by decide, by decide⟩ ?_; intro _))
    exact ⟨k + 1, by omega, by omega, by rw [h3]; infer_instance⟩
  · obtain rfl : k = ls.length := by omega
    rw [List.take_length]
    repeat (first|refine Wa ?_|refine Wb ?_|refine Wc ?_|refine Wd ?_|refine We rfl ?_|refine Wf (by first|exact Va|exact Vb|exact Vc|exact Vd|exact Ve|exact Vf|exact Vg|exact Vh|exact Vi|exact Vj|exact Vk (by omega)|exact Vl|exact Vm|exact Vn|exact Vo|exact Vp|exact Vq|exact Vr|exact Vs (by omega)|exact Vt (by omega)|exact Vu (by omega)|exact Vv (by omega)|exact Vw|exact Vx|exact Vy|exact Vz|exact VA|exact VB|exact VC|exact VD|exact VE|exact VF) rfl ?_|(refine Wg rfl ?_; intro _)|(refine Wh rfl ?_; intro _)|refine Wi ?_|refine Wj ?_|refine Wk ?_|refine Wl ?_|refine Wm ?_|refine Wn ?_|refine Wo ?_|refine Wp ?_|refine Wq rfl ?_|refine Wr ?_|refine Ws ?_|refine Wt ?_|refine Wu ?_|refine Wv rfl rfl ?_|(refine Ww rfl ⟨rfl, by decide, by decide, by decide⟩ ?_; intro _))
    refine JR.callBuf rfl (fun w1 hw => grow_bytes w1 _ _ hl) ?_
    intro a1 c1
    repeat (first|refine Wa ?_|refine Wb ?_|refine Wc ?_|refine Wd ?_|refine We rfl ?_|refine Wf (by first|exact Va|exact Vb|exact Vc|exact Vd|exact Ve|exact Vf|exact Vg|exact Vh|exact Vi|exact Vj|exact Vk (by omega)|exact Vl|exact Vm|exact Vn|exact Vo|exact Vp|exact Vq|exact Vr|exact Vs (by omega)|exact Vt (by omega)|exact Vu (by omega)|exact Vv (by omega)|exact Vw|exact Vx|exact Vy|exact Vz|exact VA|exact VB|exact VC|exact VD|exact VE|exact VF) rfl ?_|(refine Wg rfl ?_; intro _)|(refine Wh rfl ?_; intro _)|refine Wi ?_|refine Wj ?_|refine Wk ?_|refine Wl ?_|refine Wm ?_|refine Wn ?_|refine Wo ?_|refine Wp ?_|refine Wq rfl ?_|refine Wr ?_|refine Ws ?_|refine Wt ?_|refine Wu ?_|refine Wv rfl rfl ?_|(refine Ww rfl ⟨rfl, by decide, by decide, by decide⟩ ?_; intro _))
    refine JC.loop3 (fun (k : Nat) p q => [(6, .slice p (ls.take k).flatten.length q), (25, .slice a ls.length c), (26, .int .i64 (ls.length : Int)), (27, .int .i64 (k : Int))]) (fun k p q => [.st (sl a c ls), .res (buf p q 5 (ls.take k).flatten)])
      (fun k _ _ => k ≤ ls.length) (fun k _ _ => ls.length - k) 0 a1 c1 (Nat.zero_le _) (by rw [List.take_zero, List.flatten_nil]; infer_instance) ?_
    intro k p q hk
    repeat (first|refine Wa ?_|refine Wb ?_|refine Wc ?_|refine Wd ?_|refine We rfl ?_|refine Wf (by first|exact Va|exact Vb|exact Vc|exact Vd|exact Ve|exact Vf|exact Vg|exact Vh|exact Vi|exact Vj|exact Vk (by omega)|exact Vl|exact Vm|exact Vn|exact Vo|exact Vp|exact Vq|exact Vr|exact Vs (by omega)|exact Vt (by omega)|exact Vu (by omega)|exact Vv (by omega)|exact Vw|exact Vx|exact Vy|exact Vz|exact VA|exact VB|exact VC|exact VD|exact VE|exact VF) rfl ?_|(refine Wg rfl ?_; intro _)|(refine Wh rfl ?_; intro _)|refine Wi ?_|refine Wj ?_|refine Wk ?_|refine Wl ?_|refine Wm ?_|refine Wn ?_|refine Wo ?_|refine Wp ?_|refine Wq rfl ?_|refine Wr ?_|refine Ws ?_|refine Wt ?_|refine Wu ?_|refine Wv rfl rfl ?_|(refine Ww rfl ⟨rfl, by decide, by decide, by decide⟩ ?_; intro _))
    refine JC.test (fun hlt => ?_) (fun hge => ?_)
    · have hlt' : k < ls.length := by omega
      have h1 := hle (k + 1)
      have h2 := hnext k hlt'
      have h3 : (ls.take (k + 1)).flatten.length = (ls.take k).flatten.length + (ls[k]).length := by rw [h2, List.length_append]
      repeat (first|refine Wa ?_|refine Wb ?_|refine Wc ?_|refine Wd ?_|refine We rfl ?_|refine Wf (by first|exact Va|exact Vb|exact Vc|exact Vd|exact Ve|exact Vf|exact Vg|exact Vh|exact Vi|exact Vj|exact Vk (by omega)|exact Vl|exact Vm|exact Vn|exact Vo|exact Vp|exact Vq|exact Vr|exact Vs (by omega)|exact Vt (by omega)|exact Vu (by omega)|exact Vv (by omega)|exact Vw|exact Vx|exact Vy|exact Vz|exact VA|exact VB|exact VC|exact VD|exact VE|exact VF) rfl ?_|(refine Wg rfl ?_; intro _)|(refine Wh rfl ?_; intro _)|refine Wi ?_|refine Wj ?_|refine Wk ?_|refine Wl ?_|refine Wm ?_|refine Wn ?_|refine Wo ?_|refine Wp ?_|refine Wq rfl ?_|refine Wr ?_|refine Ws ?_|refine Wt ?_|refine Wu ?_|refine Wv rfl rfl ?_|(refine Ww rfl ⟨rfl, by decide, by decide, by decide⟩ ?_; intro _))
      refine JR.indexBytes rfl hlt' ?_
      intro b o p2 q2
      repeat (first|refine Wa ?_|refine Wb ?_|refine Wc ?_|refine Wd ?_|refine We rfl ?_|refine Wf (by first|exact Va|exact Vb|exact Vc|exact Vd|exact Ve|exact Vf|exact Vg|exact Vh|exact Vi|exact Vj|exact Vk (by omega)|exact Vl|exact Vm|exact Vn|exact Vo|exact Vp|exact Vq|exact Vr|exact Vs (by omega)|exact Vt (by omega)|exact Vu (by omega)|exact Vv (by omega)|exact Vw|exact Vx|exact Vy|exact Vz|exact VA|exact VB|exact VC|exact VD|exact VE|exact VF) rfl ?_|(refine Wg rfl ?_; intro _)|(refine Wh rfl ?_; intro _)|refine Wi ?_|refine Wj ?_|refine Wk ?_|refine Wl ?_|refine Wm ?_|refine Wn ?_|refine Wo ?_|refine Wp ?_|refine Wq rfl ?_|refine Wr ?_|refine Ws ?_|refine Wt ?_|refine Wu ?_|refine Wv rfl rfl ?_|(refine Ww rfl ⟨rfl, by decide, by decide, by decide⟩ ?_; intro _))
      refine JR.appendSl rfl (by exact ⟨rfl, rfl, by decide⟩) (by omega) ?_
      intro p3 q3
      repeat (first|refine Wa ?_|refine Wb ?_|refine Wc ?_|refine Wd ?_|refine We rfl ?_|refine Wf (by first|exact Va|exact Vb|exact Vc|exact Vd|exact Ve|exact Vf|exact Vg|exact Vh|exact Vi|exact Vj|exact Vk (by omega)|exact Vl|exact Vm|exact Vn|exact Vo|exact Vp|exact Vq|exact Vr|exact Vs (by omega)|exact Vt (by omega)|exact Vu (by omega)|exact Vv (by omega)|exact Vw|exact Vx|exact Vy|exact Vz|exact VA|exact VB|exact VC|exact VD|exact VE|exact VF) rfl ?_|(refine Wg rfl ?_; intro _)|(refine Wh rfl ?_; intro _)|refine Wi ?_|refine Wj ?_|refine Wk ?_|refine Wl ?_|refine Wm ?_|refine Wn ?_|refine Wo ?_|refine Wp ?_|refine Wq rfl ?_|refine Wr ?_|refine Ws ?_|refine Wt ?_|refine Wu ?_|refine Wv rfl rfl ?_|(refine Ww rfl ⟨rfl, by decide, by decide, by decide⟩ ?_; intro _))
      exact ⟨k + 1, p3, q3, by omega, by omega, by rw [h2]; infer_instance⟩
    · obtain rfl : k = ls.length := by omega
      rw [List.take_length]
      repeat (first|refine Wa ?_|refine Wb ?_|refine Wc ?_|refine Wd ?_|refine We rfl ?_|refine Wf (by first|exact Va|exact Vb|exact Vc|exact Vd|exact Ve|exact Vf|exact Vg|exact Vh|exact Vi|exact Vj|exact Vk (by omega)|exact Vl|exact Vm|exact Vn|exact Vo|exact Vp|exact Vq|exact Vr|exact Vs (by omega)|exact Vt (by omega)|exact Vu (by omega)|exact Vv (by omega)|exact Vw|exact Vx|exact Vy|exact Vz|exact VA|exact VB|exact VC|exact VD|exact VE|exact VF) rfl ?_|(refine Wg rfl ?_; intro _)|(refine Wh rfl ?_; intro _)|refine Wi ?_|refine Wj ?_|refine Wk ?_|refine Wl ?_|refine Wm ?_|refine Wn ?_|refine Wo ?_|refine Wp ?_|refine Wq rfl ?_|refine Wr ?_|refine Ws ?_|refine Wt ?_|refine Wu ?_|refine Wv rfl rfl ?_|(refine Ww rfl ⟨rfl, by decide, by decide, by decide⟩ ?_; intro _))
      exact CT.done (p, q) rfl (fun w ho => ho.ent)
end Ab
end Go.Proofs.YtdgeffphifgflaaGreat
namespace Go.Proofs.YtdgeffphifgflaaGreat
namespace Ab
open Go Go.RowKit
set_option linter.unusedVariables false
set_option linter.unusedSimpArgs false
set_option synthInstance.maxSize 4000
set_option synthInstance.maxHeartbeats 400000
attribute [local irreducible] JC JO JR JQ andThen inBlock OpV Gives retTo JM JS
def opPut (o : Op_) : List UInt8 := (numL o.kind.toNat ++ textL o.key) ++ (if o.kind = 0 then numL (foldN o.n) else textL o.elem)
def putOp (o : Op_) : List UInt8 × Int := if opMay o then (opPut o, 0) else ([], 1)
theorem field_kind (f1 f2 f3 : FuncId) (w : World) : (Instr.field 197 (.agg ⟨[fnV f1, fnV f2, fnV f3]⟩) 1).run Tryz.prog w = .ok (fnV f2) w := by
  have h1 := run_und (P := Tryz.prog) (t := 197) w
  unfold Instr.field
  rw [Sem.run_bind, h1]
  simp [asAgg, part, isAgg, Sem.run_bind]
theorem Hold.pubLists {w0 w : World} {F : Nat → Prop} {Γ : List Fact} {b : Nat} {t : TypeId} (ys : List (List UInt8 × (Option Addr × Nat))) (h : Hold w0 F (.own b t (ys.map (fun p => .slice p.2.1 p.1.length p.2.2)) :: Γ) w)
    (hy : ∀ p ∈ ys, .st (sl p.2.1 p.2.2 p.1) ∈ Γ) (hl : ys.length ≤ 1048576) : Hold w0 F (.st (sl (some ⟨b, 0, none⟩) ys.length (ys.map (·.1))) :: Γ) w := by
  have hw : w.heap[b]? = some (.cells (ys.map (fun p => Value.slice p.2.1 p.1.length p.2.2)).toArray t (0, 0)) := h.sat (.own b t _) (by simp)
  refine h.publish fun hk => ?_
  have hb := hk b (.inr rfl)
  refine ⟨by simp, by simp only [maxLen]; omega, by simp only [List.length_map, lim]; omega, fun hne => ⟨b, 0, rfl, hb, (Array.getElem?_eq_some_iff.1 hw).1, fun i hi => ?_⟩⟩
  have hi' : i < ys.length := by simpa using hi
  refine ⟨(ys[i]).2, ?_, fun A hA => ?_⟩
  · intro j v hv
    simp only [Cell.cells, List.getElem?_singleton] at hv
    split at hv
    · rename_i h0; subst h0
      injection hv with hv
      subst hv
      rw [cell_of_row w b _ _ _ _ hw]
      simp [Cell.sz, hi']
    · cases hv
  · simp only [Cell.facts, List.mem_singleton] at hA
    subst hA
    have := h.tail.sat (.st (sl (ys[i]).2.1 (ys[i]).2.2 (ys[i]).1)) (hy _ (List.getElem_mem hi'))
    simp only [List.getElem_map]
    exact this
theorem pub3 {w0 w : World} {F : Nat → Prop} {b : Nat} {t u : TypeId} {N T C : List UInt8} {aN aT aC : Option Addr} {cN cT cC : Nat}
    (h : Hold w0 F [.own b t [.slice aN N.length cN, .slice aT T.length cT, .slice aC C.length cC], .res (buf aN cN u N), .res (buf aT cT u T), .res (buf aC cC u C)] w) : Hold w0 F [.st (sl (some ⟨b, 0, none⟩) 3 [N, T, C])] w := by
  have h1 : Hold w0 F [.res (buf aN cN u N), .own b t [.slice aN N.length cN, .slice aT T.length cT, .slice aC C.length cC], .res (buf aT cT u T), .res (buf aC cC u C)] w := h.ent
  have h1 := h1.pub
  have h2 : Hold w0 F [.res (buf aT cT u T), .st (sl aN cN N), .own b t [.slice aN N.length cN, .slice aT T.length cT, .slice aC C.length cC], .res (buf aC cC u C)] w := h1.ent
  have h2 := h2.pub
  have h3 : Hold w0 F [.res (buf aC cC u C), .st (sl aT cT T), .st (sl aN cN N), .own b t [.slice aN N.length cN, .slice aT T.length cT, .slice aC C.length cC]] w := h2.ent
  have h3 := h3.pub
  have h4 : Hold w0 F [.own b t [.slice aN N.length cN, .slice aT T.length cT, .slice aC C.length cC], .st (sl aC cC C), .st (sl aT cT T), .st (sl aN cN N)] w := h3.ent
  have h5 := Hold.pubLists [(N, aN, cN), (T, aT, cT), (C, aC, cC)] h4 (by simp) (by simp)
  have h5 : Hold w0 F [.st (sl (some ⟨b, 0, none⟩) 3 [N, T, C]), .st (sl aC cC C), .st (sl aT cT T), .st (sl aN cN N)] w := h5
  exact (h5.ent : Hold w0 F [.st (sl (some ⟨b, 0, none⟩) 3 [N, T, C])] w)
theorem join_to (w : World) (F : Nat → Prop) (a : Option Addr) (c : Nat) (ls : List (List UInt8)) (L : List UInt8) (h2 : 2 ≤ ls.length) (h : (sl a c ls).holds F w) (hL : ls.flatten = L) (hl : L.length ≤ 1048576) (hl2 : ls.length ≤ 1048576) :
    GivesSl Tryz.prog 174 [.slice a ls.length c, .slice none 0 0] w F L := by
  subst hL; exact join_bytes w F a c ls h2 h hl hl2
theorem textL_length (s : ByteArray) : (textL s).length ≤ 10 + s.size := by
  have := numL_length s.size
  rw [textL, List.length_append, bytesOf_length]; omega
theorem put_facts (o : Op_) (h : opMay o = true) : (o.kind = (o.kind.toNat : Int) ∧ o.kind.toNat < 4) ∧ o.key.size ≤ 1048576 ∧ ∃ (f1 f2 f3 : FuncId) (_ : Body Tryz.prog f2) (C : List UInt8), (gotten kindsM o.kind).getD noneV = .agg ⟨[fnV f1, fnV f2, fnV f3]⟩ ∧
    (∀ w F, GivesBuf Tryz.prog f2 [opV o] w F 5 C) ∧ [numL o.kind.toNat, textL o.key, C].flatten = opPut o ∧ (opPut o).length ≤ 100 := by
  have hnl := fun n => numL_length n
  unfold opMay at h
  by_cases h0 : o.kind = 0
  · rw [if_pos h0] at h
    simp only [keyOk, Bool.and_eq_true, decide_eq_true_eq] at h
    obtain ⟨⟨⟨_, _⟩, hk⟩, ⟨⟨_, hn1⟩, hn2⟩, _⟩ := h
    refine ⟨by rw [h0]; exact ⟨rfl, by decide⟩, by omega, _, _, _, inferInstance, numL (foldN o.n), by rw [h0]; rfl, fun w F => kinds2 w F o (by omega), ?_, ?_⟩
    · rw [opPut, if_pos h0]; simp
    · have h1 := hnl o.kind.toNat; have h2 := textL_length o.key; have h3 := hnl (foldN o.n)
      rw [opPut, if_pos h0, List.length_append, List.length_append]; omega
  · rw [if_neg h0] at h
    by_cases h1 : o.kind = 1 ∨ o.kind = 2 ∨ o.kind = 3
    · rw [if_pos h1] at h
      simp only [keyOk, Bool.and_eq_true, decide_eq_true_eq] at h
      obtain ⟨⟨⟨_, _⟩, hk⟩, _, ⟨_, _⟩, hk2⟩ := h
      refine ⟨by omega, by omega, 221, 222, 223, inferInstance, textL o.elem, ?_, fun w F => kinds5 w F o (by omega), ?_, ?_⟩
      · rcases h1 with h1 | h1 | h1 <;> rw [h1] <;> rfl
      · rw [opPut, if_neg h0]; simp
      · have h1 := hnl o.kind.toNat; have h2 := textL_length o.key; have h3 := textL_length o.elem
        rw [opPut, if_neg h0, List.length_append, List.length_append]; omega
    · rw [if_neg h1] at h; cases h
set_option maxHeartbeats 2000000 in
theorem put_ops (w : World) (F : Nat → Prop) (o : Op_) (hk : o.key.size < 4611686018427387904) (he : o.elem.size < 4611686018427387904) : GivesSlT Tryz.prog 115 [opV o] w F (putOp o).1 [.int .i64 (putOp o).2] := by
  refine gives_of Tryz.func115 rfl Tryz.ntmps115 rfl rfl [] (.start w F) ?_
  repeat (first|refine Wa ?_|refine Wb ?_|refine Wc ?_|refine Wd ?_|refine We rfl ?_|refine Wf (by first|exact Vb|exact Vc) rfl ?_|(refine Wh rfl ?_; intro _))
  rename_i bo
  refine JR.callV rfl (fun w1 hw => may_ops w1 _ o hk he) ?_
  repeat (first|refine Wa ?_|refine Wd ?_|refine We rfl ?_|refine Wf (by exact Vh) rfl ?_)
  refine JC.test (fun h1 => ?_) (fun h1 => ?_)
  · have h2 : putOp o = ([], 1) := by simp [putOp, h1]
    rw [h2]
    repeat (first|refine Wa ?_|refine Wb ?_|refine Wc ?_|refine Wd ?_|refine We rfl ?_|refine Wf (by exact Vb) rfl ?_|refine Ws ?_|refine Wt ?_)
    exact CT.done (none, 0) rfl (fun w ho => (ho.ent : Hold _ _ [] w).add sl_nil)
  have h1 : opMay o = true := by simpa using h1
  have h2 : putOp o = (opPut o, 0) := by simp [putOp, h1]
  obtain ⟨⟨hkk, hkn⟩, hks, f1, f2, f3, hbody, C, hlook, hput, hopp, hlen⟩ := put_facts o h1
  have hconv : IntKind.u64.wrap o.kind = o.kind := by rw [hkk, wrap64]; omega
  rw [h2]
  repeat (first|refine Wa ?_|refine Wb ?_|refine Wl ?_)
  refine JC.draw 18 mixed ?_
  refine JM.take 0 rfl (by kernel_rfl) rfl Vd rfl rfl ?_
  refine JM.take 1 rfl (by kernel_rfl) rfl Vc rfl rfl ?_
  refine JM.take 2 rfl (by kernel_rfl) rfl (OpV.convIn hconv) rfl rfl ?_
  refine JM.reslot 9 (.int .u64 ((o.kind.toNat : Nat) : Int)) (congrArg (Value.int .u64) hkk) ?_
  refine JM.take 4 rfl (by kernel_rfl) rfl Vd rfl rfl ?_
  refine JM.take 5 rfl (by kernel_rfl) rfl Vc rfl rfl ?_
  refine JM.take 8 rfl (by kernel_rfl) rfl Vd rfl rfl ?_
  refine JM.take 9 rfl (by kernel_rfl) rfl Vc rfl rfl ?_
  refine JM.take 12 rfl (by kernel_rfl) rfl Vc rfl rfl ?_
  refine JM.one 3 (by kernel_rfl) rfl rfl rfl rfl (JS.callBuf rfl (fun w1 hw => num_enc _ (by omega) w1 _) fun aN cN => ?_)
  refine JM.one 6 (by kernel_rfl) rfl rfl rfl rfl (JS.callBuf rfl (fun w1 hw => text_enc _ hks w1 _) fun aT cT => ?_)
  refine JM.one 7 (by kernel_rfl) rfl rfl rfl rfl (JS.call1 rfl (fun w1 hw => kinds_ops w1 _) fun mk => ?_)
  refine JM.take 10 rfl (by kernel_rfl) rfl (OpV.lookupNo o.kind kindsM_nodup hlook) rfl rfl ?_
  refine JM.take 11 rfl (by kernel_rfl) rfl (OpV.fieldV (field_kind f1 f2 f3)) rfl rfl ?_
  refine JM.one 13 (by kernel_rfl) rfl rfl rfl rfl (JS.callBuf rfl (fun w1 hw => hput w1 _) fun aC cC => ?_)
  refine JM.one 14 (by kernel_rfl) rfl rfl rfl rfl (JS.lit rfl ⟨rfl, by decide, by decide, by decide⟩ fun lb => ?_)
  refine JM.more (Γ' := [.st (sl (some ⟨lb, 0, none⟩) 3 [numL o.kind.toNat, textL o.key, C])]) (fun w1 ho => pub3 (b := lb) (t := 22) (u := 5) (N := numL o.kind.toNat) (T := textL o.key) (C := C) (aN := aN) (aT := aT) (aC := aC) (cN := cN) (cT := cT) (cC := cC) ho.ent) ?_
  refine JM.one 15 (by kernel_rfl) rfl rfl rfl rfl (JS.callSl rfl (fun w1 hw => join_to w1 _ (some ⟨lb, 0, none⟩) 3 [numL o.kind.toNat, textL o.key, C] (opPut o) (by simp) hw.get hopp (by omega) (by simp)) fun aJ cJ => ?_)
  refine JM.one 16 (by kernel_rfl) rfl rfl rfl rfl (JS.val Vb rfl ?_)
  refine JM.one 17 (by kernel_rfl) rfl rfl rfl rfl (JS.val Vb rfl ?_)
  refine JM.nil (by kernel_rfl) ?_
  repeat (first|refine Wa ?_|refine Ws ?_)
  exact CT.done (aJ, cJ) rfl (fun w ho => ho.ent)
end Ab
end Go.Proofs.YtdgeffphifgflaaGreat
namespace Go.Proofs.YtdgeffphifgflaaGreat
namespace Ab
open Go Go.RowKit
set_option linter.unusedVariables false
set_option linter.unusedSimpArgs false
set_option synthInstance.maxSize 4000
set_option synthInstance.maxHeartbeats 400000
attribute [local irreducible] JC JO JR JQ andThen inBlock OpV Gives retTo JM JS
attribute [local irreducible] sumI numL textL opPut
def headL (c : Commit) : List UInt8 := ((numL (foldN c.ev.node) ++ numL c.ev.seq.toNat) ++ numL c.gen.toNat) ++ numL c.parents.length
def idsL (L : List ID) : List UInt8 := (L.map (·.1)).flatten
def commitPut (c : Commit) : List UInt8 := if c.ev.node = -1 then headL c ++ idsL c.parents else headL c ++ idsL c.parents ++ opPut c.op
def putCommit (c : Commit) : List UInt8 × Int := if may c then (commitPut c, 0) else ([], 1)
theorem idsL_length (L : List ID) : (idsL L).length = 32 * L.length := by
  induction L with
  | nil => rfl
  | cons x L ih => simp only [idsL, List.map_cons, List.flatten_cons, List.length_append, List.length_cons] at ih ⊢; rw [ih, x.2]; omega
theorem idsL_next (L : List ID) (k : Nat) (hk : k < L.length) : idsL (L.take (k + 1)) = idsL (L.take k) ++ (L[k]).1 := by
  rw [idsL, idsL, List.take_succ_eq_append_getElem hk, List.map_append, List.flatten_append]; simp
theorem headL_length (c : Commit) : (headL c).length ≤ 40 := by
  have h1 := numL_length (foldN c.ev.node); have h2 := numL_length c.ev.seq.toNat; have h3 := numL_length c.gen.toNat; have h4 := numL_length c.parents.length
  simp only [headL, List.length_append]; omega
structure MayC (c : Commit) : Prop where
  node : -1 ≤ c.ev.node ∧ c.ev.node ≤ 7
  seq : 0 ≤ c.ev.seq ∧ c.ev.seq ≤ 1048576
  gen : 1 ≤ c.gen ∧ c.gen ≤ 1048576
  par : c.parents.length ≤ 8
  op : c.ev.node ≠ -1 → opMay c.op = true
theorem may_spec {c : Commit} (h : may c = true) : MayC c := by
  unfold may at h
  split at h
  · cases h
  · rename_i h1
    simp only [inB, Bool.or_eq_true, Bool.not_eq_true', not_or, Bool.not_eq_false, decide_eq_true_eq, Bool.and_eq_true, Nat.not_lt] at h1
    obtain ⟨⟨⟨hg, hp⟩, _⟩, _⟩ := h1
    split at h
    · rename_i h2
      simp only [Bool.and_eq_true, decide_eq_true_eq] at h
      exact ⟨by omega, by omega, hg, hp, fun hn => (hn h2).elim⟩
    · rename_i h2
      simp only [inB, Bool.and_eq_true, decide_eq_true_eq] at h
      exact ⟨by omega, by omega, hg, hp, fun _ => h.2⟩
theorem pub4 {w0 w : World} {F : Nat → Prop} {b : Nat} {t u : TypeId} {A B C D : List UInt8} {aA aB aC aD : Option Addr} {cA cB cC cD : Nat} {Γ : List Fact}
    (h : Hold w0 F (.res (buf aA cA u A) :: .res (buf aB cB u B) :: .res (buf aC cC u C) :: .res (buf aD cD u D) :: .own b t [.slice aA A.length cA, .slice aB B.length cB, .slice aC C.length cC, .slice aD D.length cD] :: Γ) w) :
    Hold w0 F (.st (sl (some ⟨b, 0, none⟩) 4 [A, B, C, D]) :: Γ) w := by
  have rot : ∀ {X : Fact} {Γ' : List Fact}, Hold w0 F (X :: Γ') w → Hold w0 F (Γ' ++ [X]) w := fun h => h.perm (by
    exact (List.perm_append_comm (l₁ := [_])))
  have h1 := h.pub
  have h2 : Hold w0 F (.res (buf aB cB u B) :: .st (sl aA cA A) :: .res (buf aC cC u C) :: .res (buf aD cD u D) :: .own b t [.slice aA A.length cA, .slice aB B.length cB, .slice aC C.length cC, .slice aD D.length cD] :: Γ) w := h1.perm (List.Perm.swap _ _ _)
  have h2 := h2.pub
  have h3 : Hold w0 F (.res (buf aC cC u C) :: .st (sl aB cB B) :: .st (sl aA cA A) :: .res (buf aD cD u D) :: .own b t [.slice aA A.length cA, .slice aB B.length cB, .slice aC C.length cC, .slice aD D.length cD] :: Γ) w :=
    h2.perm (((List.Perm.swap _ _ _).cons _).trans (List.Perm.swap _ _ _))
  have h3 := h3.pub
  have h4 : Hold w0 F (.res (buf aD cD u D) :: .st (sl aC cC C) :: .st (sl aB cB B) :: .st (sl aA cA A) :: .own b t [.slice aA A.length cA, .slice aB B.length cB, .slice aC C.length cC, .slice aD D.length cD] :: Γ) w :=
    h3.perm (((((List.Perm.swap _ _ _).cons _).trans (List.Perm.swap _ _ _)).cons _).trans (List.Perm.swap _ _ _))
  have h4 := h4.pub
  have h5 : Hold w0 F (.own b t [.slice aA A.length cA, .slice aB B.length cB, .slice aC C.length cC, .slice aD D.length cD] :: .st (sl aD cD D) :: .st (sl aC cC C) :: .st (sl aB cB B) :: .st (sl aA cA A) :: Γ) w :=
    h4.perm ((((((((List.Perm.swap _ _ _).cons _).trans (List.Perm.swap _ _ _)).cons _).trans (List.Perm.swap _ _ _)).cons _).trans (List.Perm.swap _ _ _)))
  have h6 := Hold.pubLists [(A, aA, cA), (B, aB, cB), (C, aC, cC), (D, aD, cD)] h5 (by simp) (by simp)
  have h6 : Hold w0 F (.st (sl (some ⟨b, 0, none⟩) 4 [A, B, C, D]) :: .st (sl aD cD D) :: .st (sl aC cC C) :: .st (sl aB cB B) :: .st (sl aA cA A) :: Γ) w := h6
  have h7 : Hold w0 F ((.st (sl (some ⟨b, 0, none⟩) 4 [A, B, C, D]) :: Γ) ++ [.st (sl aD cD D), .st (sl aC cC C), .st (sl aB cB B), .st (sl aA cA A)]) w :=
    h6.perm ((List.perm_append_comm (l₁ := [Fact.st (sl aD cD D), .st (sl aC cC C), .st (sl aB cB B), .st (sl aA cA A)]) (l₂ := Γ)).cons _)
  exact h7.left
theorem concat_to (w : World) (F : Nat → Prop) (a : Option Addr) (c : Nat) (ls : List (List UInt8)) (L : List UInt8) (h : (sl a c ls).holds F w) (hL : ls.flatten = L) (hl : L.length ≤ 1048576) (hl2 : ls.length ≤ 1048576) :
    GivesBuf Tryz.prog 112 [.slice a ls.length c] w F 5 L := by
  subst hL; exact concat_bytes w F a c ls h hl hl2
theorem put_ops_ok (w : World) (F : Nat → Prop) (o : Op_) (hk : o.key.size < 4611686018427387904) (he : o.elem.size < 4611686018427387904) (h : opMay o = true) : GivesSlT Tryz.prog 115 [opV o] w F (opPut o) [.int .i64 0] := by
  have h1 := put_ops w F o hk he
  have h2 : putOp o = (opPut o, 0) := by simp [putOp, h]
  rw [h2] at h1
  exact h1
set_option maxHeartbeats 2000000 in
theorem put_commit (w : World) (F : Nat → Prop) (c : Commit) (a : Option Addr) (k : Nat) (h : (sl a k c.parents).holds F w) (ht : texts c) :
    GivesSlT Tryz.prog 57 [commitV c a k] w F (putCommit c).1 [.int .i64 (putCommit c).2] := by
  refine gives_of Tryz.func57 rfl Tryz.ntmps57 rfl rfl [.st (sl a k c.parents)] (.start1 h) ?_
  repeat (first|refine Wa ?_|refine Wb ?_|refine Wc ?_|refine Wd ?_|refine We rfl ?_|refine Wf (by first|exact Vb|exact Vc) rfl ?_|(refine Wh rfl ?_; intro _))
  rename_i bc
  refine JR.callV rfl (fun w1 hw => may_commit w1 _ c a k hw.get ht) ?_
  repeat (first|refine Wa ?_|refine Wd ?_|refine We rfl ?_|refine Wf (by exact Vh) rfl ?_)
  refine JC.test (fun h1 => ?_) (fun h1 => ?_)
  · have h2 : putCommit c = ([], 1) := by simp [putCommit, h1]
    rw [h2]
    repeat (first|refine Wa ?_|refine Wb ?_|refine Wc ?_|refine Wd ?_|refine We rfl ?_|refine Wf (by exact Vb) rfl ?_|refine Ws ?_|refine Wt ?_)
    exact CT.done (none, 0) rfl (fun w ho => (ho.ent : Hold _ _ [] w).add sl_nil)
  have h1 : may c = true := by simpa using h1
  have h2 : putCommit c = (commitPut c, 0) := by simp [putCommit, h1]
  have hm := may_spec h1
  have hh := headL_length c
  rw [h2]
  have hn1 := hm.node
  have hn2 := hm.seq
  have hn3 := hm.gen
  have hn4 := hm.par
  have hs1 : IntKind.u64.wrap c.ev.seq = c.ev.seq := by rw [show c.ev.seq = ((c.ev.seq.toNat : Nat) : Int) by omega, wrap64]; omega
  have hs2 : IntKind.u64.wrap c.gen = c.gen := by rw [show c.gen = ((c.gen.toNat : Nat) : Int) by omega, wrap64]; omega
  repeat (first|refine Wa ?_|refine Wb ?_|refine Wl ?_)
  refine JC.draw 22 mixed ?_
  refine JM.take 0 rfl (by kernel_rfl) rfl Vd rfl rfl ?_
  refine JM.take 1 rfl (by kernel_rfl) rfl Vd rfl rfl ?_
  refine JM.take 2 rfl (by kernel_rfl) rfl Vc rfl rfl ?_
  refine JM.takeCall 3 rfl (by kernel_rfl) rfl (fun w1 hw => fold_enc w1 _ c.ev.node (by omega)) rfl rfl ?_
  refine JM.take 5 rfl (by kernel_rfl) rfl Vd rfl rfl ?_
  refine JM.take 6 rfl (by kernel_rfl) rfl Vd rfl rfl ?_
  refine JM.take 7 rfl (by kernel_rfl) rfl Vc rfl rfl ?_
  refine JM.take 8 rfl (by kernel_rfl) rfl (OpV.convIn hs1) rfl rfl ?_
  refine JM.reslot 20 (.int .u64 ((c.ev.seq.toNat : Nat) : Int)) (congrArg (Value.int .u64) (by omega)) ?_
  refine JM.take 10 rfl (by kernel_rfl) rfl Vd rfl rfl ?_
  refine JM.take 11 rfl (by kernel_rfl) rfl Vc rfl rfl ?_
  refine JM.take 12 rfl (by kernel_rfl) rfl (OpV.convIn hs2) rfl rfl ?_
  refine JM.reslot 24 (.int .u64 ((c.gen.toNat : Nat) : Int)) (congrArg (Value.int .u64) (by omega)) ?_
  refine JM.take 14 rfl (by kernel_rfl) rfl Vd rfl rfl ?_
  refine JM.take 15 rfl (by kernel_rfl) rfl Vc rfl rfl ?_
  refine JM.take 16 rfl (by kernel_rfl) rfl Vf rfl rfl ?_
  refine JM.take 17 rfl (by kernel_rfl) rfl (OpV.convIn (by rw [wrap64]; omega)) rfl rfl ?_
  refine JM.one 4 (by kernel_rfl) rfl rfl rfl rfl (JS.callBuf rfl (fun w1 hw => num_enc _ (foldN_lt (by omega)) w1 _) fun a1 c1 => ?_)
  refine JM.one 9 (by kernel_rfl) rfl rfl rfl rfl (JS.callBuf rfl (fun w1 hw => num_enc _ (by omega) w1 _) fun a2 c2 => ?_)
  refine JM.one 13 (by kernel_rfl) rfl rfl rfl rfl (JS.callBuf rfl (fun w1 hw => num_enc _ (by omega) w1 _) fun a3 c3 => ?_)
  refine JM.one 18 (by kernel_rfl) rfl rfl rfl rfl (JS.callBuf rfl (fun w1 hw => num_enc _ (by omega) w1 _) fun a4 c4 => ?_)
  refine JM.one 19 (by kernel_rfl) rfl rfl rfl rfl (JS.lit rfl ⟨rfl, by decide, by decide, by decide⟩ fun lb => ?_)
  refine JM.more (Γ' := [.st (sl (some ⟨lb, 0, none⟩) 4 [numL (foldN c.ev.node), numL c.ev.seq.toNat, numL c.gen.toNat, numL c.parents.length]), .own bc 29 [.int .i64 c.ev.node, .int .i64 c.ev.seq, .int .i64 c.gen, .slice a c.parents.length k, .int .i64 c.op.kind, .string c.op.key, .string c.op.elem, .int .i64 c.op.n], .st (sl a k c.parents)])
    (fun w1 ho => pub4 (b := lb) (t := 22) (u := 5) (aA := a1) (aB := a2) (aC := a3) (aD := a4) (cA := c1) (cB := c2) (cC := c3) (cD := c4) ho.ent) ?_
  refine JM.one 20 (by kernel_rfl) rfl rfl rfl rfl (JS.callBuf rfl (fun w1 hw => concat_to w1 _ (some ⟨lb, 0, none⟩) 4 [numL (foldN c.ev.node), numL c.ev.seq.toNat, numL c.gen.toNat, numL c.parents.length] (headL c) hw.get (by simp [headL]) (by omega) (by simp)) fun p0 q0 => ?_)
  refine JM.one 21 (by kernel_rfl) rfl rfl rfl rfl (JS.val Vb rfl ?_)
  refine JM.nil (by kernel_rfl) ?_
  repeat (first|refine Wa ?_|refine Wb ?_|refine Wc ?_|refine Wd ?_|refine We rfl ?_|refine Wf (by first|exact Va|exact Vc|exact Vd|exact Vf) rfl ?_|refine Wn ?_)
  refine JC.loop3 (fun (i : Nat) p q => [(1, .pointer (some ⟨bc, 0, none⟩)), (4, .slice p (headL c ++ idsL (c.parents.take i)).length q), (34, .slice a c.parents.length k), (35, .int .i64 (c.parents.length : Int)), (36, .int .i64 (i : Int))])
    (fun i p q => [.own bc 29 [.int .i64 c.ev.node, .int .i64 c.ev.seq, .int .i64 c.gen, .slice a c.parents.length k, .int .i64 c.op.kind, .string c.op.key, .string c.op.elem, .int .i64 c.op.n], .st (sl a k c.parents), .res (buf p q 5 (headL c ++ idsL (c.parents.take i)))])
    (fun i _ _ => i ≤ c.parents.length) (fun i _ _ => c.parents.length - i) 0 p0 q0 (Nat.zero_le _) (by rw [List.take_zero, show idsL [] = [] from rfl, List.append_nil]; infer_instance) ?_
  intro i p q hi
  repeat (first|refine Wa ?_|refine Wb ?_|refine Wc ?_|refine Wd ?_|refine We rfl ?_|refine Wf (by exact Vg) rfl ?_)
  refine JC.test (fun hlt => ?_) (fun hge => ?_)
  · have hlt' : i < c.parents.length := by omega
    have hil := idsL_length (c.parents.take i)
    rw [List.length_take] at hil
    repeat (first|refine Wa ?_|refine Wb ?_|refine Wc ?_|refine We rfl ?_|refine Wl ?_|refine Wn ?_)
    refine JR.indexID rfl hlt' ?_
    intro b o
    repeat (first|refine Wa ?_|refine Wc ?_|refine Wd ?_|refine We rfl ?_|refine Wf (by first|exact Va|exact Vc) rfl ?_|(refine Wg rfl ?_; intro _)|refine Wi ?_)
    refine Wf (OpV.sliceArr (by decide)) rfl ?_
    refine We rfl ?_
    refine JR.appendBytes (M := (c.parents[i]).1) rfl rfl rfl (c.parents[i]).2 (by exact ⟨rfl, rfl, by decide⟩) (by rw [List.length_append]; omega) ?_
    intro p3 q3
    repeat (first|refine Wa ?_|refine Wc ?_|refine Wd ?_|refine We rfl ?_|refine Wf (by first|exact Va|exact Vb|exact Vk (by omega)) rfl ?_|refine Wr ?_)
    have hnx : headL c ++ idsL (c.parents.take (i + 1)) = headL c ++ idsL (c.parents.take i) ++ (c.parents[i]).1 := by rw [idsL_next _ _ hlt', List.append_assoc]
    exact ⟨i + 1, p3, q3, by omega, by omega, by rw [hnx]; infer_instance⟩
  · obtain rfl : i = c.parents.length := by omega
    have hil := idsL_length c.parents
    rw [List.take_length]
    repeat (first|refine Wa ?_|refine Wb ?_|refine Wc ?_|refine Wd ?_|refine We rfl ?_|refine Wf (by first|exact Vc|exact Vd|exact Vl) rfl ?_|refine Wm ?_|refine Wo ?_|refine Wp ?_)
    refine JC.test (fun hnode => ?_) (fun hnode => ?_)
    · have hb : commitPut c = headL c ++ idsL c.parents := by rw [commitPut, if_pos hnode]
      rw [hb]
      repeat (first|refine Wa ?_|refine Wb ?_|refine Wc ?_|refine Wd ?_|refine We rfl ?_|refine Wf (by first|exact Va|exact Vb) rfl ?_|refine Ws ?_|refine Wt ?_)
      exact CT.done (p, q) rfl (fun w ho => Hold.left (Γ := [.st (sl p q (headL c ++ idsL c.parents))]) (Hold.pub (ho.ent : Hold _ _ [.res (buf p q 5 (headL c ++ idsL c.parents))] w)))
    · have hb : commitPut c = headL c ++ idsL c.parents ++ opPut c.op := by rw [commitPut, if_neg hnode]
      have hop := hm.op hnode
      have hput : putOp c.op = (opPut c.op, 0) := by simp [putOp, hop]
      have hopl := (put_facts c.op hop).2.2
      obtain ⟨_, _, _, _, _, _, _, _, hopl⟩ := hopl
      rw [hb]
      repeat (first|refine Wa ?_|refine Wb ?_|refine Wc ?_|refine We rfl ?_|refine Wf (by first|exact Vc|exact Vd) rfl ?_|refine Wl ?_)
      refine JR.callSlT (L := opPut c.op) (us' := [.int .i64 0]) rfl (fun w1 hw => put_ops_ok w1 _ c.op ht.1 ht.2 hop) ?_
      intro p4 q4
      repeat (first|refine Wa ?_|refine Wb ?_|refine Wc ?_|refine Wd ?_|refine We rfl ?_|refine Wf (by first|exact Va|exact Vb|exact Vq) rfl ?_)
      refine JR.appendSl rfl (by exact ⟨rfl, rfl, by decide⟩) (by rw [List.length_append]; omega) ?_
      intro p5 q5
      repeat (first|refine Wa ?_|refine Wd ?_|refine We rfl ?_|refine Wf (by first|exact Va|exact Vb) rfl ?_|refine Ws ?_)
      exact CT.done (p5, q5) rfl (fun w ho => Hold.left (Γ := [.st (sl p5 q5 (headL c ++ idsL c.parents ++ opPut c.op))]) (Hold.pub (ho.ent : Hold _ _ [.res (buf p5 q5 5 (headL c ++ idsL c.parents ++ opPut c.op))] w)))
theorem commitPut_length {c : Commit} (h : may c = true) : (commitPut c).length ≤ 400 := by
  have hm := may_spec h
  have h1 := headL_length c
  have h2 := idsL_length c.parents
  have h3 := hm.par
  unfold commitPut
  split
  · rw [List.length_append]; omega
  · rename_i hn
    obtain ⟨_, _, _, _, _, _, _, _, h4⟩ := (put_facts c.op (hm.op hn)).2.2
    rw [List.length_append, List.length_append]; omega
def zeroID : ID := ⟨List.replicate 32 0, rfl⟩
def hashC (c : Commit) : ID × Int := if may c then (sumI (commitPut c), 0) else (zeroID, 1)
set_option maxHeartbeats 1000000 in
theorem hash_commit (w : World) (F : Nat → Prop) (c : Commit) (a : Option Addr) (k : Nat) (h : (sl a k c.parents).holds F w) (ht : texts c) :
    GivesV Tryz.prog 54 [commitV c a k] w F (.tuple ⟨[.agg ⟨idc (hashC c).1⟩, .int .i64 (hashC c).2]⟩) := by
  refine gives_of Tryz.func54 rfl Tryz.ntmps54 rfl rfl [.st (sl a k c.parents)] (.start1 h) ?_
  repeat (first|refine Wa ?_|refine Wb ?_|refine Wc ?_|refine Wd ?_|refine We rfl ?_|refine Wf (by first|exact Vb|exact Vc) rfl ?_|(refine Wg rfl ?_; intro _)|(refine Wh rfl ?_; intro _))
  rename_i bc bi
  refine JR.callSlT (L := (putCommit c).1) (us' := [.int .i64 (putCommit c).2]) rfl (fun w1 hw => put_commit w1 _ c a k hw.get ht) ?_
  intro p q
  repeat (first|refine Wa ?_|refine Wb ?_|refine Wc ?_|refine Wd ?_|refine We rfl ?_|refine Wf (by first|exact Va|exact Vb|exact Vm|exact Vq) rfl ?_)
  refine JC.test (fun h1 => ?_) (fun h1 => ?_)
  · have hm : may c = false := by
      rw [← Bool.not_eq_true]
      intro hm
      simp [putCommit, hm] at h1
    have h2 : hashC c = (zeroID, 1) := by simp [hashC, hm]
    have h3 : (putCommit c).2 = 1 := by simp [putCommit, hm]
    rw [h2, h3]
    repeat (first|refine Wb ?_|refine Wc ?_|refine We rfl ?_)
    refine Wf (OpV.build [.int .u8 0, .int .u8 0, .int .u8 0, .int .u8 0, .int .u8 0, .int .u8 0, .int .u8 0, .int .u8 0, .int .u8 0, .int .u8 0, .int .u8 0, .int .u8 0, .int .u8 0, .int .u8 0, .int .u8 0, .int .u8 0, .int .u8 0, .int .u8 0, .int .u8 0, .int .u8 0, .int .u8 0, .int .u8 0, .int .u8 0, .int .u8 0, .int .u8 0, .int .u8 0, .int .u8 0, .int .u8 0, .int .u8 0, .int .u8 0, .int .u8 0, .int .u8 0] (by kernel_rfl)) rfl ?_
    refine JO.reslot 13 (.agg ⟨idc zeroID⟩) rfl ?_
    repeat (first|refine Wa ?_|refine Wd ?_|refine We rfl ?_|refine Wf (by first|exact Va|exact Vb) rfl ?_|refine Wi ?_|refine Ws ?_|refine Wt ?_)
    exact CT.done () rfl (fun w ho => ho.ent)
  · have hm : may c = true := by
      rw [← Bool.not_eq_false]
      intro hm
      simp [putCommit, hm] at h1
    have h2 : hashC c = (sumI (commitPut c), 0) := by simp [hashC, hm]
    have h3 : putCommit c = (commitPut c, 0) := by simp [putCommit, hm]
    have hl := commitPut_length hm
    rw [h2, h3]
    repeat (first|refine Wa ?_|refine Wb ?_|refine Wc ?_|refine We rfl ?_|refine Wf (by exact Va) rfl ?_|refine Wl ?_)
    refine JR.callV rfl (fun w1 hw => sum_sha w1 _ p q (commitPut c) hw.get (by omega)) ?_
    repeat (first|refine Wa ?_|refine Wd ?_|refine We rfl ?_|refine Wf (by exact Vb) rfl ?_|refine Wi ?_|refine Ws ?_)
    exact CT.done () rfl (fun w ho => ho.ent)
end Ab
end Go.Proofs.YtdgeffphifgflaaGreat
namespace Go.Proofs.YtdgeffphifgflaaGreat
namespace Ab
open Go Go.RowKit
set_option linter.unusedVariables false
set_option linter.unusedSimpArgs false
def numV : List UInt8 → Nat
  | [] => 0
  | c :: l => c.toNat % 128 + 128 * numV l
theorem numV_append (a b : List UInt8) : numV (a ++ b) = numV a + 128 ^ a.length * numV b := by
  induction a with
  | nil => simp [numV]
  | cons c a ih =>
    simp only [List.cons_append, numV, ih, List.length_cons, Nat.pow_succ]
    rw [Nat.mul_add, Nat.add_assoc, ← Nat.mul_assoc, Nat.mul_comm 128 (128 ^ a.length)]
theorem numV_lt (a : List UInt8) : numV a < 128 ^ a.length := by
  induction a with
  | nil => simp [numV]
  | cons c a ih =>
    simp only [numV, List.length_cons, Nat.pow_succ]
    have : c.toNat % 128 < 128 := Nat.mod_lt _ (by decide)
    omega
theorem or_low (n : Nat) : (UInt8.ofNat n ||| 128).toNat = n % 128 + 128 := by
  have h1 := or_digit n
  have h2 := u8_or_nat (n % 256) 128 (by omega) (by omega)
  have h3 : ((n : Int) % 256) = ((n % 256 : Nat) : Int) := by omega
  rw [h3] at h1
  have h4 : (UInt8.ofNat n ||| 128).toNat = (n % 256 ||| 128) := Int.ofNat.inj (h1.trans h2)
  rw [h4]
  have key : ∀ k : Fin 256, (k.1 ||| 128) = k.1 % 128 + 128 := by decide +kernel
  have := key ⟨n % 256, Nat.mod_lt _ (by decide)⟩
  simp only at this
  rw [this]; omega
structure Digits (i : List UInt8) (l : UInt8) : Prop where
  great : ∀ c ∈ i, 128 ≤ c.toNat
  small : l.toNat < 128
  some : i ≠ [] → l.toNat ≠ 0
theorem numF_digits : ∀ (f n : Nat), n < 128 ^ (f + 1) → numV (numF f n) = n ∧ ∃ i l, numF f n = i ++ [l] ∧ Digits i l
  | 0, n, h => by
    have h : n < 128 := by simpa using h
    have e : (UInt8.ofNat n).toNat = n := by rw [UInt8.toNat_ofNat']; omega
    refine ⟨by simp [numF, numV, e]; omega, [], UInt8.ofNat n, by simp [numF], by simp, by rw [e]; exact h, by simp⟩
  | f + 1, n, h => by
    simp only [numF]
    split
    · rename_i hn
      obtain ⟨h1, i, l, h2, h3⟩ := numF_digits f (n / 128) (by rw [Nat.pow_succ] at h; omega)
      refine ⟨?_, (UInt8.ofNat n ||| 128) :: i, l, by rw [h2]; rfl, ?_, h3.small, fun _ => ?_⟩
      · simp only [numV, h1, or_low]; omega
      · intro c hc
        rcases List.mem_cons.1 hc with rfl | hc
        · rw [or_low]; omega
        · exact h3.great c hc
      · by_cases hi : i = []
        · subst hi
          rw [h2] at h1
          simp only [List.nil_append, numV] at h1
          have := h3.small
          omega
        · exact h3.some hi
    · rename_i hn
      have e : (UInt8.ofNat n).toNat = n := by rw [UInt8.toNat_ofNat']; omega
      refine ⟨by simp [numV, e]; omega, [], UInt8.ofNat n, by simp, by simp, by rw [e]; omega, by simp⟩
theorem numL_digits {n : Nat} (h : n < 18446744073709551616) : numV (numL n) = n ∧ ∃ i l, numL n = i ++ [l] ∧ Digits i l := numF_digits 9 n (by omega)
theorem digits_same : ∀ {i j : List UInt8} {l m : UInt8} {r s : List UInt8}, (∀ c ∈ i, 128 ≤ c.toNat) → (∀ c ∈ j, 128 ≤ c.toNat) → l.toNat < 128 → m.toNat < 128 → i ++ l :: r = j ++ m :: s → i = j ∧ l = m ∧ r = s
  | [], [], l, m, r, s, _, _, _, _, h => by
    simp only [List.nil_append, List.cons.injEq] at h; exact ⟨rfl, h.1, h.2⟩
  | [], d :: j, l, m, r, s, _, h2, h3, _, h => by
    simp only [List.nil_append, List.cons_append, List.cons.injEq] at h
    have := h2 d (by simp)
    rw [← h.1] at this; omega
  | c :: i, [], l, m, r, s, h1, _, _, h4, h => by
    simp only [List.nil_append, List.cons_append, List.cons.injEq] at h
    have := h1 c (by simp)
    rw [h.1] at this; omega
  | c :: i, d :: j, l, m, r, s, h1, h2, h3, h4, h => by
    simp only [List.cons_append, List.cons.injEq] at h
    obtain ⟨e1, e2, e3⟩ := digits_same (fun x hx => h1 x (by simp [hx])) (fun x hx => h2 x (by simp [hx])) h3 h4 h.2
    exact ⟨by rw [h.1, e1], e2, e3⟩
theorem numL_inj {n m : Nat} {r s : List UInt8} (hn : n < 18446744073709551616) (hm : m < 18446744073709551616) (h : numL n ++ r = numL m ++ s) : n = m ∧ r = s := by
  obtain ⟨h1, i, l, h2, h3⟩ := numL_digits hn
  obtain ⟨k1, j, k, k2, k3⟩ := numL_digits hm
  have h' := h
  rw [h2, k2, List.append_assoc, List.append_assoc, List.singleton_append, List.singleton_append] at h'
  obtain ⟨e1, e2, e3⟩ := digits_same h3.great k3.great h3.small k3.small h'
  refine ⟨?_, e3⟩
  rw [← h1, ← k1, h2, k2, e1, e2]
theorem numF_of : ∀ (i : List UInt8) (l : UInt8) (f : Nat), Digits i l → i.length ≤ f → numF f (numV (i ++ [l])) = i ++ [l]
  | [], l, f, h, _ => by
    have e : numV ([] ++ [l]) = l.toNat := by simp only [List.nil_append, numV]; have := h.small; omega
    rw [e]
    have e2 : UInt8.ofNat l.toNat = l := UInt8.ofNat_toNat
    cases f with
    | zero => simp [numF, e2]
    | succ f => simp only [numF]; rw [if_neg (by have := h.small; omega)]; simp [e2]
  | c :: i, l, f, h, hf => by
    have hd : Digits i l := ⟨fun x hx => h.great x (by simp [hx]), h.small, fun _ => h.some (by simp)⟩
    have hc := h.great c (by simp)
    have hl := h.some (by simp)
    have hv : 1 ≤ numV (i ++ [l]) := by
      rw [numV_append]
      have : numV [l] = l.toNat := by simp only [numV]; have := h.small; omega
      rw [this]
      have h1 : 1 ≤ 128 ^ i.length := Nat.one_le_pow _ _ (by decide)
      have := Nat.mul_le_mul h1 (show 1 ≤ l.toNat by omega)
      omega
    cases f with
    | zero => simp at hf
    | succ f =>
      simp only [List.cons_append, numV, numF]
      have hc2 : c.toNat < 256 := c.toNat_lt
      rw [if_pos (by omega)]
      have e1 : (c.toNat % 128 + 128 * numV (i ++ [l])) / 128 = numV (i ++ [l]) := by omega
      rw [e1, numF_of i l f hd (by simp at hf; omega)]
      congr 1
      apply UInt8.toNat_inj.1
      rw [or_low]; omega
theorem numL_of {i : List UInt8} {l : UInt8} (h : Digits i l) (hl : i.length ≤ 9) : numL (numV (i ++ [l])) = i ++ [l] := numF_of i l 9 h hl
open Classical in
noncomputable def getN (b : List UInt8) : Nat × Nat := if h : ∃ n, n < 18446744073709551616 ∧ numL n <+: b then (Classical.choose h, (numL (Classical.choose h)).length) else (0, 0)
theorem numL_pos (n : Nat) : 1 ≤ (numL n).length := by
  unfold numL
  simp only [numF]
  split <;> simp
theorem getN_of {b : List UInt8} {n : Nat} (hn : n < 18446744073709551616) (h : numL n <+: b) : getN b = (n, (numL n).length) := by
  have hex : ∃ n, n < 18446744073709551616 ∧ numL n <+: b := ⟨n, hn, h⟩
  have hs := Classical.choose_spec hex
  unfold getN
  rw [dif_pos hex]
  obtain ⟨r, hr⟩ := h
  obtain ⟨s, hs2⟩ := hs.2
  have := (numL_inj hs.1 hn (hs2.trans hr.symm)).1
  rw [this]
theorem getN_append {n : Nat} (hn : n < 18446744073709551616) (r : List UInt8) : getN (numL n ++ r) = (n, (numL n).length) := getN_of hn ⟨r, rfl⟩
theorem getN_none {b : List UInt8} (h : ¬ ∃ n, n < 18446744073709551616 ∧ numL n <+: b) : getN b = (0, 0) := by unfold getN; rw [dif_neg h]
theorem getN_some {b : List UInt8} (h : (getN b).2 ≠ 0) : (getN b).1 < 18446744073709551616 ∧ (getN b).2 = (numL (getN b).1).length ∧ b = numL (getN b).1 ++ b.drop (getN b).2 ∧ (getN b).2 ≤ b.length := by
  by_cases hex : ∃ n, n < 18446744073709551616 ∧ numL n <+: b
  · obtain ⟨n, hn, hp⟩ := hex
    rw [getN_of hn hp]
    obtain ⟨r, rfl⟩ := hp
    exact ⟨hn, rfl, by simp, by simp⟩
  · rw [getN_none hex] at h; exact (h rfl).elim
theorem getN_le (b : List UInt8) : (getN b).2 ≤ b.length ∧ (getN b).2 ≤ 10 := by
  by_cases h : (getN b).2 = 0
  · omega
  · obtain ⟨_, h2, _, h3⟩ := getN_some h
    exact ⟨h3, by rw [h2]; exact numL_length _⟩
theorem getN_lt (b : List UInt8) : (getN b).1 < 18446744073709551616 := by
  by_cases h : ∃ n, n < 18446744073709551616 ∧ numL n <+: b
  · obtain ⟨n, hn, hp⟩ := h; rw [getN_of hn hp]; exact hn
  · rw [getN_none h]; decide
theorem getN_at {b : List UInt8} {k : Nat} (hk : k < b.length) (hg : ∀ c ∈ b.take k, 128 ≤ c.toNat) (hs : b[k].toNat < 128) :
    getN b = if k ≤ 9 ∧ ¬ (0 < k ∧ b[k].toNat = 0) ∧ ¬ (k = 9 ∧ 1 < b[k].toNat) then (numV (b.take (k + 1)), k + 1) else (0, 0) := by
  have htk : b.take (k + 1) = b.take k ++ [b[k]] := List.take_succ_eq_append_getElem hk
  have hlen : (b.take k).length = k := by rw [List.length_take]; omega
  split
  · rename_i h
    obtain ⟨h1, h2, h3⟩ := h
    have hd : Digits (b.take k) b[k] := ⟨hg, hs, fun hne h0 => h2 ⟨by
      rcases Nat.eq_zero_or_pos k with e | e
      · subst e; exact (hne (by simp)).elim
      · exact e, h0⟩⟩
    have hv : numV (b.take (k + 1)) < 18446744073709551616 := by
      rw [htk, numV_append, hlen]
      have h4 := numV_lt (b.take k)
      rw [hlen] at h4
      have h5 : numV [b[k]] = b[k].toNat := by simp only [numV]; omega
      rw [h5]
      by_cases h9 : k = 9
      · subst h9
        have : b[9].toNat ≤ 1 := by omega
        have h6 : (128 : Nat) ^ 9 = 9223372036854775808 := by decide
        rw [h6] at h4 ⊢
        have := Nat.mul_le_mul_left 9223372036854775808 this
        omega
      · have h6 : 128 ^ (k + 1) ≤ 128 ^ 9 := Nat.pow_le_pow_right (by decide) (by omega)
        have h7 : (128 : Nat) ^ 9 = 9223372036854775808 := by decide
        rw [h7, Nat.pow_succ] at h6
        have := Nat.mul_le_mul_left (128 ^ k) (show b[k].toNat ≤ 127 by omega)
        omega
    have hn := numL_of hd (by omega)
    rw [← htk] at hn
    rw [getN_of hv (by rw [hn]; exact List.take_prefix _ _), hn, List.length_take]
    congr 1; omega
  · rename_i h
    refine getN_none ?_
    rintro ⟨n, hn, r, hr⟩
    obtain ⟨h1, i, l, h2, h3⟩ := numL_digits hn
    have hb : b.take k ++ b[k] :: b.drop (k + 1) = b := by
      have := List.take_append_drop k b
      rwa [List.drop_eq_getElem_cons hk] at this
    rw [h2, List.append_assoc, List.singleton_append] at hr
    obtain ⟨e1, e2, _⟩ := digits_same h3.great hg h3.small hs (hr.trans hb.symm)
    have hil : i.length = k := by rw [e1, hlen]
    have h10 := numL_length n
    rw [h2, List.length_append, List.length_singleton, hil] at h10
    apply h
    refine ⟨by omega, fun ⟨h4, h5⟩ => ?_, fun ⟨h4, h5⟩ => ?_⟩
    · exact h3.some (fun e => by rw [e] at hil; simp at hil; omega) (by rw [e2]; exact h5)
    · rw [h2, numV_append, hil, h4] at h1
      have h6 : numV [l] = l.toNat := by simp only [numV]; have := h3.small; omega
      rw [h6, e2] at h1
      have h7 : (128 : Nat) ^ 9 = 9223372036854775808 := by decide
      rw [h7] at h1
      have := Nat.mul_le_mul_left 9223372036854775808 h5
      omega
theorem getN_great {b : List UInt8} (h : ∀ c ∈ b.take 10, 128 ≤ c.toNat) : getN b = (0, 0) := by
  refine getN_none ?_
  rintro ⟨n, hn, r, hr⟩
  obtain ⟨_, i, l, h2, h3⟩ := numL_digits hn
  have h10 := numL_length n
  have : l ∈ b.take 10 := by
    rw [h2] at h10 hr
    rw [← hr, List.take_append, List.take_of_length_le h10]
    simp
  have := h l this
  have := h3.small
  omega
end Ab
end Go.Proofs.YtdgeffphifgflaaGreat
namespace Go.Proofs.YtdgeffphifgflaaGreat
namespace Ab
open Go Go.RowKit
set_option linter.unusedVariables false
set_option linter.unusedSimpArgs false
set_option synthInstance.maxSize 4000
set_option synthInstance.maxHeartbeats 400000
attribute [local irreducible] JC JO JR JQ andThen inBlock OpV Gives retTo JM JS
theorem low7 (c : UInt8) : (c &&& 127).toNat = c.toNat % 128 := by
  have key : ∀ k : Fin 256, (k.1 &&& 127) = k.1 % 128 := by decide +kernel
  rw [UInt8.toNat_and]; exact key ⟨c.toNat, c.toNat_lt⟩
theorem top1 (c : UInt8) : (c &&& 128).toNat = 0 ↔ c.toNat < 128 := by
  have key : ∀ k : Fin 256, (k.1 &&& 128) = 0 ↔ k.1 < 128 := by decide +kernel
  rw [UInt8.toNat_and]; exact key ⟨c.toNat, c.toNat_lt⟩
theorem get_step (N : UInt64) (m i : Nat) (h : N.toNat < 2 ^ (7 * i)) (hm : m * 2 ^ (7 * i) < 18446744073709551616) (hm' : m < 256) : (N ||| shlN64 (UInt64.ofNat m) (7 * i)).toNat = N.toNat + m * 2 ^ (7 * i) := by
  have e1 : (UInt64.ofNat m).toNat = m := by rw [UInt64.toNat_ofNat']; omega
  have e2 : (shlN64 (UInt64.ofNat m) (7 * i)).toNat = m * 2 ^ (7 * i) := by
    rw [shlN64, e1, UInt64.toNat_ofNat']; exact Nat.mod_eq_of_lt hm
  rw [UInt64.toNat_or, e2, Nat.or_comm, ← Nat.shiftLeft_eq, ← Nat.shiftLeft_add_eq_or_of_lt h, Nat.add_comm]
theorem pow7 (i : Nat) : 128 ^ i = 2 ^ (7 * i) := by rw [Nat.pow_mul]
theorem numV_next {B : List UInt8} {i : Nat} (h : i < B.length) : numV (B.take (i + 1)) = numV (B.take i) + B[i].toNat % 128 * 2 ^ (7 * i) := by
  rw [List.take_succ_eq_append_getElem h, numV_append, List.length_take, Nat.min_eq_left (by omega), pow7, Nat.mul_comm]
  simp [numV]
theorem get_next {N : UInt64} {B : List UInt8} {i : Nat} (h : i < B.length) (hN : N.toNat = numV (B.take i)) (h9 : i ≤ 8 ∨ (i = 9 ∧ B[i].toNat ≤ 1)) :
    (N ||| shlN64 (UInt64.ofNat (B[i].toNat % 128)) (7 * i)).toNat = numV (B.take (i + 1)) := by
  have h1 := numV_lt (B.take i)
  rw [List.length_take, Nat.min_eq_left (by omega), pow7] at h1
  rw [get_step N _ i (by rw [hN]; exact h1) ?_ (by omega), hN, numV_next h]
  rcases h9 with h9 | ⟨h9, hc⟩
  · have h3 : 2 ^ (7 * i) ≤ 2 ^ 56 := Nat.pow_le_pow_right (by decide) (by omega)
    have h4 : B[i].toNat % 128 ≤ 127 := by omega
    have := Nat.mul_le_mul h4 h3
    have : (2 : Nat) ^ 56 = 72057594037927936 := by decide
    omega
  · have h4 : B[i].toNat % 128 ≤ 1 := by omega
    have := Nat.mul_le_mul_right (2 ^ (7 * i)) h4
    have e : 2 ^ (7 * i) = 9223372036854775808 := by rw [h9]
    rw [e] at this ⊢
    omega
set_option maxHeartbeats 2000000 in
theorem get_enc (w : World) (F : Nat → Prop) (a : Option Addr) (c : Nat) (b : List UInt8) (h : (sl a c b).holds F w) :
    GivesV Tryz.prog 181 [.slice a b.length c] w F (.tuple ⟨[.int .u64 ((getN b).1 : Int), .int .i64 ((getN b).2 : Int)]⟩) := by
  have hL : b.length < 9223372036854775807 := by have := h.2.2.1; simp only [lim] at this; omega
  refine gives_of Tryz.func181 rfl Tryz.ntmps181 rfl rfl [.st (sl a c b)] (.start1 h) ?_
  repeat (first|refine Wa ?_|refine Wb ?_|refine Wc ?_|refine Wd ?_|refine We rfl ?_|refine Wf (by first|exact Va|exact Vb|exact Vf) rfl ?_)
  refine Wf OpV.min rfl ?_
  refine JO.reslot 10 (.int .i64 ((min b.length 10 : Nat) : Int)) (by congr 1; omega) ?_
  repeat (refine We rfl ?_)
  refine JR.sliceTo (L := b) (k := min b.length 10) rfl rfl (by omega) ?_
  intro a1 c1
  obtain ⟨B, hB⟩ : ∃ B, B = b.take (min b.length 10) := ⟨_, rfl⟩
  have hBl : B.length = min b.length 10 := by rw [hB, List.length_take]; omega
  rw [← hB]
  repeat (first|refine Wa ?_|refine Wd ?_|refine We rfl ?_|refine Wf (by first|exact Va|exact Vf) rfl ?_|refine Wn ?_)
  refine JC.reslot 4 (w64 0) rfl ?_
  refine JC.loop2 (fun (i : Nat) (N : UInt64) => [(4, w64 N), (11, .slice a1 B.length c1), (12, .int .i64 (B.length : Int)), (13, .int .i64 (i : Int))]) (fun i N => [.st (sl a1 c1 B)])
    (fun i N => i ≤ B.length ∧ (∀ c ∈ B.take i, 128 ≤ c.toNat) ∧ (i ≤ 9 → N.toNat = numV (B.take i))) (fun i _ => B.length - i) 0 0 ⟨Nat.zero_le _, by simp, fun _ => by simp [numV]⟩ inferInstance ?_
  intro i N ⟨hi, hg, hN⟩
  repeat (first|refine Wa ?_|refine Wb ?_|refine Wc ?_|refine Wd ?_|refine We rfl ?_|refine Wf (by exact Vg) rfl ?_)
  refine JC.test (fun hlt => ?_) (fun hge => ?_)
  · have hi' : i < B.length := by omega
    have hib : i < b.length := by omega
    have hBi : B[i] = b[i] := by simp only [hB, List.getElem_take]
    have htk : B.take i = b.take i := by rw [hB, List.take_take]; congr 1; omega
    repeat (first|refine Wa ?_|refine Wb ?_|refine Wc ?_|refine We rfl ?_|refine Wf (by exact Va) rfl ?_|refine Wl ?_|refine Wn ?_)
    refine JR.indexByte (L := B) rfl hi' ?_
    intro bb ob
    obtain ⟨x, hx⟩ : ∃ x, x = B[i] := ⟨_, rfl⟩
    have hxl := x.toNat_lt
    rw [← hx]
    repeat (first|refine Wa ?_|refine Wb ?_|refine Wc ?_|refine Wd ?_|refine We rfl ?_|refine Wf (by first|exact Va|exact Vb|exact Vc) rfl ?_)
    refine Wf (OpV.and8 (a := x) (b := 127) (hy := ⟨fun _ _ _ => rfl⟩)) rfl ?_
    repeat (refine We rfl ?_)
    refine Wf OpV.conv rfl ?_
    refine JO.reslot 21 (w64 (UInt64.ofNat (x.toNat % 128))) (by
      have e1 : (UInt64.ofNat (x.toNat % 128)).toNat = x.toNat % 128 := by rw [UInt64.toNat_ofNat']; omega
      rw [w64, e1, low7, wrap64]; congr 2 <;> omega) ?_
    repeat (first|refine We rfl ?_|refine Wf (by exact Va) rfl ?_)
    refine Wf (OpV.mul (by omega)) rfl ?_
    refine JO.reslot 23 (.int .i64 ((7 * i : Nat) : Int)) (by congr 1) ?_
    repeat (refine We rfl ?_)
    refine Wf (OpV.shl64 (by omega)) rfl ?_
    repeat (refine We rfl ?_)
    refine Wf OpV.or64 rfl ?_
    repeat (first|refine Wa ?_|refine Wb ?_|refine Wc ?_|refine Wd ?_|refine We rfl ?_|refine Wf (by first|exact Va|exact Vb) rfl ?_)
    refine Wf (OpV.and8 (a := x) (b := 128) (hy := ⟨fun _ _ _ => rfl⟩)) rfl ?_
    repeat (first|refine Wa ?_|refine Wd ?_|refine We rfl ?_|refine Wf (by exact Vm) rfl ?_)
    refine JC.test (fun hc => ?_) (fun hc => ?_)
    · have hx128 : 128 ≤ x.toNat := by
        apply Classical.byContradiction
        intro hn
        have := (top1 x).2 (by omega)
        exact hc (by rw [this]; rfl)
      repeat (first|refine Wa ?_|refine Wc ?_|refine Wd ?_|refine We rfl ?_|refine Wf (by first|exact Va|exact Vk (by omega)) rfl ?_|refine Wm ?_|refine Wo ?_|refine Wp ?_)
      refine ⟨i + 1, N ||| shlN64 (UInt64.ofNat (x.toNat % 128)) (7 * i), ⟨by omega, fun d hd => ?_, fun h9 => by rw [hx]; exact get_next hi' (hN (by omega)) (.inl (by omega))⟩, by omega, inferInstance⟩
      rw [List.take_succ_eq_append_getElem hi', List.mem_append, List.mem_singleton] at hd
      rcases hd with hd | rfl
      · exact hg d hd
      · rw [← hx]; exact hx128
    · have hx128 : x.toNat < 128 := (top1 x).1 (by
        have : ((x &&& 128).toNat : Int) = 0 := by simpa using hc
        omega)
      have hat := getN_at hib (by rw [← htk]; exact hg) (by rw [← hBi, ← hx]; exact hx128)
      rw [← hBi, ← hx] at hat
      by_cases h0 : i = 0
      · rw [if_pos ⟨by omega, by omega, by omega⟩] at hat
        have hv := get_next hi' (hN (by omega)) (.inl (by omega))
        rw [← hx] at hv
        have htk1 : B.take (i + 1) = b.take (i + 1) := by rw [hB, List.take_take]; congr 1; omega
        rw [htk1] at hv
        rw [hat]
        dsimp only
        repeat (first|refine Wa ?_|refine Wb ?_|refine Wc ?_|refine We rfl ?_|refine Wf (by first|exact Va|exact Vo) rfl ?_|refine Wl ?_)
        refine JO.reslot 31 (.bool false) (by simp [h0]) ?_
        repeat (first|refine We rfl ?_|refine Wf (by first|exact Va|exact Vj|exact Vl) rfl ?_|refine Wv rfl rfl ?_)
        refine JO.reslot 38 (.bool false) (by simp [h0]) ?_
        repeat (first|refine Wa ?_|refine Wb ?_|refine Wc ?_|refine Wd ?_|refine We rfl ?_|refine Wf (by first|exact Va|exact Vb|exact Vj|exact Vk (by omega)) rfl ?_|refine Wk ?_|refine Wl ?_|refine Ws ?_|refine Wt ?_|refine Wu ?_|refine Wv rfl rfl ?_)
        refine CT.done () ?_ (fun w ho => ho.ent)
        rw [w64, hv]; rfl
      by_cases hx0 : x.toNat = 0
      · rw [if_neg (fun h => h.2.1 ⟨by omega, hx0⟩)] at hat
        rw [hat]
        repeat (first|refine Wa ?_|refine Wb ?_|refine Wc ?_|refine We rfl ?_|refine Wf (by first|exact Va|exact Vo) rfl ?_|refine Wl ?_)
        refine JO.reslot 31 (.bool true) (by simp; omega) ?_
        repeat (first|refine We rfl ?_|refine Wf (by first|exact Va|exact Vi|exact Vl) rfl ?_)
        refine JO.reslot 35 (.bool true) (by simp [hx0]) ?_
        repeat (first|refine Wa ?_|refine Wb ?_|refine Wc ?_|refine Wd ?_|refine We rfl ?_|refine Wf (by first|exact Vb|exact Vi) rfl ?_|refine Wj ?_|refine Wm ?_|refine Wo ?_|refine Wp ?_|refine Wq rfl ?_|refine Ws ?_|refine Wv rfl rfl ?_|refine Wx rfl rfl ?_)
        exact CT.done () rfl (fun w ho => ho.ent)
      by_cases h9 : i = 9
      · by_cases hx1 : 1 < x.toNat
        · rw [if_neg (fun h => h.2.2 ⟨h9, hx1⟩)] at hat
          rw [hat]
          repeat (first|refine Wa ?_|refine Wb ?_|refine Wc ?_|refine We rfl ?_|refine Wf (by first|exact Va|exact Vo) rfl ?_|refine Wl ?_)
          refine JO.reslot 31 (.bool true) (by simp; omega) ?_
          repeat (first|refine We rfl ?_|refine Wf (by first|exact Va|exact Vi|exact Vl) rfl ?_)
          refine JO.reslot 35 (.bool false) (by simp [hx0]) ?_
          repeat (first|refine We rfl ?_|refine Wf (by first|exact Va|exact Vl) rfl ?_)
          refine JO.reslot 38 (.bool true) (by simp [h9]) ?_
          repeat (first|refine Wa ?_|refine Wd ?_|refine We rfl ?_|refine Wf (by first|exact Va|exact Vi|exact Vj|exact Vo) rfl ?_)
          refine JC.reslot 42 (.bool true) (by simp; omega) ?_
          repeat (first|refine Wa ?_|refine Wb ?_|refine Wc ?_|refine Wd ?_|refine We rfl ?_|refine Wf (by exact Vb) rfl ?_|refine Wj ?_|refine Wm ?_|refine Wo ?_|refine Wp ?_|refine Wq rfl ?_|refine Ws ?_)
          exact CT.done () rfl (fun w ho => ho.ent)
        · rw [if_pos ⟨by omega, by omega, by omega⟩] at hat
          have hv := get_next hi' (hN (by omega)) (.inr ⟨h9, by rw [← hx]; omega⟩)
          rw [← hx] at hv
          have htk1 : B.take (i + 1) = b.take (i + 1) := by rw [hB, List.take_take]; congr 1; omega
          rw [htk1] at hv
          rw [hat]
          dsimp only
          repeat (first|refine Wa ?_|refine Wb ?_|refine Wc ?_|refine We rfl ?_|refine Wf (by first|exact Va|exact Vo) rfl ?_|refine Wl ?_)
          refine JO.reslot 31 (.bool true) (by simp; omega) ?_
          repeat (first|refine We rfl ?_|refine Wf (by first|exact Va|exact Vi|exact Vl) rfl ?_)
          refine JO.reslot 35 (.bool false) (by simp [hx0]) ?_
          repeat (first|refine We rfl ?_|refine Wf (by first|exact Va|exact Vl) rfl ?_)
          refine JO.reslot 38 (.bool true) (by simp [h9]) ?_
          repeat (first|refine Wa ?_|refine Wd ?_|refine We rfl ?_|refine Wf (by first|exact Va|exact Vi|exact Vj|exact Vo) rfl ?_)
          refine JC.reslot 42 (.bool false) (by simp; omega) ?_
          repeat (first|refine Wa ?_|refine Wb ?_|refine Wc ?_|refine Wd ?_|refine We rfl ?_|refine Wf (by first|exact Va|exact Vb|exact Vk (by omega)) rfl ?_|refine Wk ?_|refine Wl ?_|refine Ws ?_|refine Wt ?_|refine Wu ?_)
          refine CT.done () ?_ (fun w ho => ho.ent)
          rw [w64, hv]; rfl
      · rw [if_pos ⟨by omega, by omega, by omega⟩] at hat
        have hv := get_next hi' (hN (by omega)) (.inl (by omega))
        rw [← hx] at hv
        have htk1 : B.take (i + 1) = b.take (i + 1) := by rw [hB, List.take_take]; congr 1; omega
        rw [htk1] at hv
        rw [hat]
        dsimp only
        repeat (first|refine Wa ?_|refine Wb ?_|refine Wc ?_|refine We rfl ?_|refine Wf (by first|exact Va|exact Vo) rfl ?_|refine Wl ?_)
        refine JO.reslot 31 (.bool true) (by simp; omega) ?_
        repeat (first|refine We rfl ?_|refine Wf (by first|exact Va|exact Vi|exact Vl) rfl ?_)
        refine JO.reslot 35 (.bool false) (by simp [hx0]) ?_
        repeat (first|refine We rfl ?_|refine Wf (by first|exact Va|exact Vl) rfl ?_)
        refine JO.reslot 38 (.bool false) (by simp; omega) ?_
        repeat (first|refine Wa ?_|refine Wb ?_|refine Wc ?_|refine Wd ?_|refine We rfl ?_|refine Wf (by first|exact Va|exact Vb|exact Vj|exact Vk (by omega)) rfl ?_|refine Wk ?_|refine Wl ?_|refine Ws ?_|refine Wt ?_|refine Wu ?_|refine Wv rfl rfl ?_)
        refine CT.done () ?_ (fun w ho => ho.ent)
        rw [w64, hv]; rfl
  · obtain rfl : i = B.length := by omega
    rw [List.take_length] at hg
    have hnone : getN b = (0, 0) := by
      by_cases h10 : 10 ≤ b.length
      · exact getN_great (by rw [hB, Nat.min_eq_right h10] at hg; exact hg)
      · refine getN_none ?_
        rintro ⟨n, hn, r, hr⟩
        obtain ⟨_, i, l, h2, h3⟩ := numL_digits hn
        have hl : l ∈ B := by
          rw [hB, Nat.min_eq_left (by omega), List.take_length, ← hr, h2]; simp
        have := hg l hl
        have := h3.small
        omega
    rw [hnone]
    repeat (first|refine Wa ?_|refine Wb ?_|refine Wc ?_|refine Wd ?_|refine We rfl ?_|refine Wf (by exact Vb) rfl ?_|refine Wm ?_|refine Wo ?_|refine Wp ?_|refine Ws ?_)
    exact CT.done () rfl (fun w ho => ho.ent)
end Ab
end Go.Proofs.YtdgeffphifgflaaGreat
namespace Go.Proofs.YtdgeffphifgflaaGreat
namespace Ab
open Go Go.RowKit
set_option linter.unusedVariables false
set_option linter.unusedSimpArgs false
section
variable {P : Program} {ops : Array Oper} {C : World → Prop} {R X : Exit → Act → World → Prop}
def pOp (P : Program) (ops : Array Oper) (X : Exit → Act → World → Prop) (Rel : World → World → Prop) (i : Nat) (K : Act → World → Prop) (a : Act) (w : World) : Prop :=
  match ops[i]? with
  | none => K a w
  | some o => if Region.wanted o (yielded ops a.tmps) then o.wp P a w (fun a' w' => Rel w w' ∧ K a' w') X else K (a.put o.dst undef) w
theorem wp_exits {o : Oper} {a : Act} {w : World} {K K' : Act → World → Prop} {Q Q' : Exit → Act → World → Prop} (hk : ∀ a w, K a w → K' a w) (hq : ∀ c w, Q (.panic c) a w → Q' (.panic c) a w) (hl : LetsOut Q → LetsOut Q') (h : o.wp P a w K Q) : o.wp P a w K' Q' := by
  have h' := Oper.wp_mono (P := P) hk h
  clear h
  unfold Oper.wp at *
  generalize (execOp a.eval o).run P w = r at *
  cases r with
  | ok n w' =>
    cases n <;> simp only [Oper.upon] at h' ⊢ <;> first | exact h' | skip
    refine Calls.mono h' fun e w'' he => ?_
    cases e with
    | returned v => exact he
    | panicked c => exact hq _ _ he
    | outgrown => exact hl he
  | halt x w' => cases x <;> simp only [Oper.upon] at h' ⊢ <;> first | exact h' | exact hq _ _ h'
theorem pOp_wp {Rel : World → World → Prop} {i : Nat} {K K' : Act → World → Prop} {a : Act} {w : World} (hx : ∀ x a w, X x a w → R x a w) (hk : ∀ a w, K a w → K' a w) (h : pOp P ops X Rel i K a w) : wpOp P ops R i K' a w := by
  unfold pOp at h
  unfold wpOp
  split
  · rename_i ho; simp only [ho] at h; exact hk _ _ h
  · rename_i o ho
    simp only [ho] at h
    split
    · rename_i hw; simp only [hw, if_true] at h; exact .inl (wp_exits (fun a w h => hk a w h.2) (fun c w h => hx _ a w h) (fun ⟨a, w, h⟩ => ⟨a, w, hx _ _ _ h⟩) h)
    · rename_i hw; simp only [hw] at h; exact hk _ _ h
theorem pOp_mono {Rel Rel' : World → World → Prop} {i : Nat} {K K' : Act → World → Prop} {a : Act} {w : World} (hr : ∀ w w', Rel w w' → Rel' w w') (hk : ∀ a w, K a w → K' a w) (h : pOp P ops X Rel i K a w) : pOp P ops X Rel' i K' a w := by
  unfold pOp at *
  split
  · rename_i ho; simp only [ho] at h; exact hk _ _ h
  · rename_i o ho
    simp only [ho] at h
    split
    · rename_i hw; simp only [hw, if_true] at h; exact Oper.wp_mono (fun a w h => ⟨hr _ _ h.1, hk _ _ h.2⟩) h
    · rename_i hw; simp only [hw] at h; exact hk _ _ h
end
section
variable {P : Program} {ops : Array Oper} {C : World → Prop} {R X : Exit → Act → World → Prop} [Dr]
def pAny (P : Program) (ops : Array Oper) (X : Exit → Act → World → Prop) (Rel : Nat → World → World → Prop) (R : Exit → Act → World → Prop) : Nat → Array Bool → Act → World → Prop
  | 0, listed, a, w => Region.ready .any ops listed = [] ∧ R .normal a w
  | fuel + 1, listed, a, w =>
    (Region.ready .any ops listed = [] → R .normal a w) ∧
    ∀ i ∈ Region.ready .any ops listed, pOp P ops X (Rel i) i (fun a' w' => ∀ w'', Bel w'.heap.size w' w'' → pAny P ops X Rel R fuel (listed.setIfInBounds i true) a' w'') a w
theorem pAny_wp {Rel : Nat → World → World → Prop} (hx : ∀ x a w, X x a w → R x a w) : ∀ (fuel : Nat) (listed : Array Bool) (a : Act) (w : World), pAny P ops X Rel R fuel listed a w → wpAny P .any ops R fuel listed a w
  | 0, _, _, _, h => h
  | fuel + 1, listed, a, w, h => ⟨h.1, fun i hi => pOp_wp hx (fun a w h => pAny_wp hx fuel _ a w (h w (Bel.refl _ _))) (h.2 i hi)⟩
theorem pAny_mono {Rel Rel' : Nat → World → World → Prop} (hr : ∀ i w w', Rel i w w' → Rel' i w w') : ∀ (fuel : Nat) (listed : Array Bool) (a : Act) (w : World), pAny P ops X Rel R fuel listed a w → pAny P ops X Rel' R fuel listed a w
  | 0, _, _, _, h => h
  | fuel + 1, listed, a, w, h => ⟨h.1, fun i hi => pOp_mono (hr i) (fun a w h w'' hb => pAny_mono hr fuel _ a w'' (h w'' hb)) (h.2 i hi)⟩
theorem YieldsC.pOp {Rel : World → World → Prop} {i : Nat} {o : Oper} {v : Value} {a : Act} (hi : ops[i]? = some o) (hy : YieldsC P ops C o v a) {K : Act → World → Prop} {w : World} (hR : ∀ w', Bel w.heap.size w w' → Rel w w') (hC : C w)
    (h : ∀ w', Bel w.heap.size w w' → K (a.put o.dst v) w') : pOp P ops X Rel i K a w := by
  unfold Ab.pOp
  simp only [hi]
  rcases hy with ⟨hw, hv⟩ | ⟨hw, rfl⟩
  · simp only [hw, if_true]
    have h1 := hv w hC
    unfold YieldsAt at h1
    unfold Oper.wp
    generalize (execOp a.eval o).run P w = r at *
    cases r with
    | ok n w' =>
      cases n <;> simp only [Oper.upon] at h1 ⊢ <;> first | exact h1.elim | skip
      case value u =>
        obtain ⟨rfl, rfl⟩ := h1
        exact ⟨hR _ (Bel.refl _ _), h _ (Bel.refl _ _)⟩
      case enter f args =>
        refine Calls.mono h1 fun x w'' hx => ?_
        obtain ⟨rfl, hb⟩ := hx
        exact ⟨hR _ hb, h _ hb⟩
    | halt x w' => exact h1.elim
  · simp only [hw, Bool.false_eq_true, if_false]; exact h w (Bel.refl _ _)
theorem pOp_put {Rel : World → World → Prop} {j : Nat} {oi oj : Oper} {v : Value} (hj : ops[j]? = some oj) (hap : oi.apart ops oj = true)
    (hsi : ∀ cs b, oi.op ≠ .select cs b) (hsj : ∀ cs b, oj.op ≠ .select cs b) {K : Act → World → Prop} {a : Act} {w : World}
    (hX : ∀ x a d v w, X x (a.put d v) w → X x a w) (hw0 : C w) (hy : YieldsC P ops C oi v a) (h : pOp P ops X (fun w w' => Rel w w' ∧ (C w → C w')) j K (a.put oi.dst v) w) :
    pOp P ops X Rel j (fun a' w' => (C w' ∧ YieldsC P ops C oi v a') ∧ K (a'.put oi.dst v) w') a w := by
  obtain ⟨h1, h2, h3⟩ := Oper.apart_spec hap
  have keep : ∀ u, YieldsC P ops C oi v (a.put oj.dst u) := fun u => hy.same (execOp_put oi hsi a oj.dst u h3) (wanted_put oi a oj.dst u h3)
  unfold pOp at *
  simp only [hj] at *
  rw [wanted_put oj a oi.dst v h1] at h
  split
  · rename_i hw
    simp only [hw, if_true] at h
    unfold Oper.wp at *
    rw [execOp_put oj hsj a oi.dst v h1] at h
    generalize (execOp a.eval oj).run P w = r at *
    have put : ∀ u w', ((Rel w w' ∧ (C w → C w')) ∧ K ((a.put oi.dst v).put oj.dst u) w') → (Rel w w' ∧ (C w' ∧ YieldsC P ops C oi v (a.put oj.dst u)) ∧ K ((a.put oj.dst u).put oi.dst v) w') :=
      fun u w' hh => ⟨hh.1.1, ⟨hh.1.2 hw0, keep u⟩, by rw [← Act.put_comm a v u h2]; exact hh.2⟩
    cases r with
    | ok n w' =>
      cases n <;> simp only [Oper.upon] at h ⊢
      case value u => exact put u _ h
      case skip => exact put undef _ h
      case defer d =>
        have hd : YieldsC P ops C oi v ({ a with defers := d :: a.defers } : Act) := hy.same rfl rfl
        refine ⟨h.1.1, ⟨h.1.2 hw0, hd.same (execOp_put oi hsi _ oj.dst undef h3) (wanted_put oi _ oj.dst undef h3)⟩, ?_⟩
        rw [← Act.put_comm _ v undef h2, ← Act.put_defers]
        exact h.2
      case enter f args =>
        refine Calls.mono h fun e w'' he => ?_
        cases e with
        | returned u => exact put u _ he
        | panicked c => exact hX _ _ _ _ _ he
        | outgrown => exact he
      case row row args => exact Rows.mono h fun u w'' he => put u _ he
    | halt x w' =>
      cases x <;> simp only [Oper.upon] at h ⊢
      case panic u => exact hX _ _ _ _ _ h
  · rename_i hw
    simp only [hw] at h
    exact ⟨⟨hw0, keep _⟩, by rw [← Act.put_comm a v undef h2]; exact h⟩
theorem pAny_first {Rel : Nat → World → World → Prop} {i : Nat} {oi : Oper} {v : Value} (hX : ∀ x a d v w, X x (a.put d v) w → X x a w) (hi : ops[i]? = some oi) (hsel : ∀ (j : Nat) (o : Oper) cs b, ops[j]? = some o → o.op ≠ .select cs b)
    (hC : ∀ w w', C w → Bel w.heap.size w w' → C w') (hR : ∀ j w w', Bel w.heap.size w w' → Rel j w w') (dep : Nat → Bool) (hdep : ∀ k o, ops[k]? = some o → dep k = true → ∃ e ∈ o.after, Region.binds .any e = true ∧ (e.on = i ∨ dep e.on = true)) :
    ∀ (fuel : Nat) (listed : Array Bool) (a : Act) (w : World),
      (∀ j oj, ops[j]? = some oj → j ≠ i → listed.getD j true = false → (∀ e ∈ oj.after, Region.binds .any e = true → e.on ≠ i) → oi.apart ops oj = true) →
      (∀ k, dep k = true → listed.getD k false = false) → i ∈ Region.ready .any ops listed → C w → YieldsC P ops C oi v a →
      (∀ w', Bel w.heap.size w w' → pAny P ops X (fun j w w' => Rel j w w' ∧ (dep j = false → C w → C w')) R fuel (listed.setIfInBounds i true) (a.put oi.dst v) w') → pAny P ops X Rel R (fuel + 1) listed a w := by
  have hmono : ∀ fuel listed a w, pAny P ops X (fun j w w' => Rel j w w' ∧ (dep j = false → C w → C w')) R fuel listed a w → pAny P ops X Rel R fuel listed a w := pAny_mono fun _ _ _ h => h.1
  intro fuel
  induction fuel with
  | zero =>
    intro listed a w _ _ hr hw hy H
    refine ⟨fun h => (by rw [h] at hr; cases hr), fun j hj => ?_⟩
    by_cases hji : j = i
    · subst hji; exact hy.pOp hi (hR j w) hw (fun w' hb w'' hb' => hmono _ _ _ _ (H w'' (hb.trans (hb'.mono hb.size))))
    · have := ready_mono hj hji
      rw [(H w (Bel.refl _ _)).1] at this
      cases this
  | succ fuel ih =>
    intro listed a w hfree hcl hr hw hy H
    refine ⟨fun h => (by rw [h] at hr; cases hr), fun j hj => ?_⟩
    by_cases hji : j = i
    · subst hji; exact hy.pOp hi (hR j w) hw (fun w' hb w'' hb' => hmono _ _ _ _ (H w'' (hb.trans (hb'.mono hb.size))))
    · have h1 := (H w (Bel.refl _ _)).2 j (ready_mono hj hji)
      obtain ⟨hjun, oj, hoj, hall⟩ := mem_ready.1 hj
      have hnot : ∀ e ∈ oj.after, Region.binds .any e = true → e.on ≠ i := fun e he hb heq => by
        have h1 := hall e he hb
        have h0 := (mem_ready.1 hr).1
        rw [heq] at h1
        rcases Nat.lt_or_ge i listed.size with h' | h'
        · simp [h'] at h0 h1; rw [h0] at h1; cases h1
        · simp [Array.getElem?_eq_none h'] at h1
      have hjd : dep j = false := by
        rw [← Bool.not_eq_true]
        intro hd
        obtain ⟨e, he, hb, hon⟩ := hdep j oj hoj hd
        rcases hon with hon | hon
        · exact hnot e he hb hon
        · have := hall e he hb
          rw [hcl _ hon] at this
          cases this
      have hcl' : ∀ k, dep k = true → (listed.setIfInBounds j true).getD k false = false := fun k hk => by
        have hjk : j ≠ k := fun e => by subst e; rw [hk] at hjd; cases hjd
        rw [getD_set_ne false hjk]
        exact hcl k hk
      have h1' := pOp_mono (Rel' := fun w w' => Rel j w w' ∧ (C w → C w')) (fun w w' h => ⟨h.1, h.2 hjd⟩) (fun _ _ h => h) h1
      have h2 := pOp_put hoj (hfree j oj hoj hji hjun hnot) (fun cs b => hsel i oi cs b hi) (fun cs b => hsel j oj cs b hoj) hX hw hy h1'
      have hfree' : ∀ k ok, ops[k]? = some ok → k ≠ i → (listed.setIfInBounds j true).getD k true = false →
          (∀ e ∈ ok.after, Region.binds .any e = true → e.on ≠ i) → oi.apart ops ok = true := fun k ok hk hki hun hno => by
        refine hfree k ok hk hki ?_ hno
        by_cases hjk : j = k
        · subst hjk; exact hjun
        · rw [getD_set_ne true hjk] at hun; exact hun
      refine pOp_mono (fun _ _ h => h) (fun a' w' h3 w2 hb2 => ih (listed.setIfInBounds j true) a' w2 hfree' hcl' (ready_mono hr (Ne.symm hji)) (hC _ _ h3.1.1 hb2) h3.1.2 (fun w3 hb3 => ?_)) h2
      rw [Array.setIfInBounds_comm _ _ hji]
      exact h3.2 w3 (hb2.trans (hb3.mono hb2.size))
end
abbrev Obl := List (List Bool × List Fact)
def relOf [Dr] (w0 : World) (F : Nat → Prop) (Ob : Obl) (j : Nat) (w w' : World) : Prop := ∀ p ∈ Ob, p.1.getD j false = false → Hold w0 F p.2 w → Hold w0 F p.2 w'
def Obs (Ob : Obl) (j : Nat) (Γ : List Fact) : Prop := ∀ p ∈ Ob, p.1.getD j false = false → Sub Γ p.2
theorem Obs.nil {j : Nat} {Γ : List Fact} : Obs [] j Γ := fun p hp => by cases hp
theorem Obs.skip {j : Nat} {Γ : List Fact} {p : List Bool × List Fact} {Ob : Obl} (h : p.1.getD j false = true) (k : Obs Ob j Γ) : Obs (p :: Ob) j Γ := fun q hq => by
  rcases List.mem_cons.1 hq with rfl | hq
  · intro h'; rw [h] at h'; cases h'
  · exact k q hq
theorem Obs.keep {j : Nat} {Γ : List Fact} {p : List Bool × List Fact} {Ob : Obl} [h : Sub Γ p.2] (k : Obs Ob j Γ) : Obs (p :: Ob) j Γ := fun q hq => by
  rcases List.mem_cons.1 hq with rfl | hq
  · exact fun _ => h
  · exact k q hq
def exitP [Dr] (n : Nn) (w0 : World) (F : Nat → Prop) (Q : Cont) : Exit → Act → World → Prop := fun x a w => ∃ c Γ, x = .panic c ∧ Q (.panic c) [] Γ ∧ Fr n [] a ∧ Hold w0 F Γ w
theorem exitP_put [Dr] {n : Nn} {w0 : World} {F : Nat → Prop} {Q : Cont} (x : Exit) (a : Act) (d : Option Nat) (v : Value) (w : World) (h : exitP n w0 F Q x (a.put d v) w) : exitP n w0 F Q x a w := by
  obtain ⟨c, Γ, hx, hq, fr, ho⟩ := h
  refine ⟨c, Γ, hx, hq, ⟨?_, ?_, fun i u hu => by cases hu⟩, ho⟩
  · have := fr.defers; cases d <;> simpa [Act.put] using this
  · have := fr.size; cases d <;> simpa [Act.put] using this
theorem exitP_up [Dr] {n : Nn} {w0 : World} {F : Nat → Prop} {Q : Cont} (x : Exit) (a : Act) (w : World) (h : exitP n w0 F Q x a w) : up n w0 F Q x a w := by
  obtain ⟨c, Γ, rfl, hq, fr, ho⟩ := h
  exact ⟨[], Γ, hq, fr, ho⟩
def JP [Dr] (P : Program) (n : Nn) (w0 : World) (F : Nat → Prop) (ops : List Oper) (Ob : Obl) (fuel : Nat) (done : List Bool) (Q : Cont) (e : E) (Γ : List Fact) : Prop :=
  ∀ a w, Fr n e a → Hold w0 F Γ w → pAny P ⟨ops⟩ (exitP n w0 F Q) (relOf w0 F Ob) (up n w0 F Q) fuel ⟨done⟩ a w
def depsFit (ops : List Oper) (done : List Bool) (i : Nat) (dep : List Bool) : Bool :=
  (List.range ops.length).all fun k => (!dep.getD k false || (!done.getD k false && (match ops[k]? with | some o => o.after.any fun e => Region.binds .any e && (e.on == i || dep.getD e.on false) | none => false)))
def takeOkP (ops : List Oper) (done : List Bool) (i : Nat) : Bool :=
  Region.noSelect ⟨ops⟩ && Region.free .any ⟨ops⟩ ⟨done⟩ i && (Region.ready .any ⟨ops⟩ ⟨done⟩).contains i && (depsFit ops done i (depsOf ops i) && Nat.beq (depsOf ops i).length ops.length)
section
variable {P : Program} {n : Nn} {w0 : World} {F : Nat → Prop} {ops : List Oper} {Ob : Obl} {fuel i d : Nat} {done done' : List Bool} {t : TypeId} {pos : String} {aft : Array Edge} {g : Option (Nat × Bool)} {Q : Cont} {e : E} {Γ : List Fact} [Dr]
theorem JC.drawP {id : Nat} (hm : P.follows .mixedOrders = true) (h : JP P n w0 F ops [] ops.length (List.replicate ops.length false) Q e Γ) : JC P n w0 F (.region id ⟨ops⟩ true) Q e Γ := by
  intro a w fr ho
  refine wp_region_any hm ?_
  have := pAny_wp exitP_up _ _ _ _ (h a w.drew fr ho.drew)
  have e1 : (⟨List.replicate ops.length false⟩ : Array Bool) = Array.replicate (⟨ops⟩ : Array Oper).size false := by apply Array.ext'; simp
  rw [← e1]
  exact this
theorem JP.nil (hr : Region.ready .any ⟨ops⟩ ⟨done⟩ = []) (h : Q .normal e Γ) : JP P n w0 F ops Ob fuel done Q e Γ := by
  intro a w fr ho
  cases fuel with
  | zero => exact ⟨hr, e, Γ, h, fr, ho⟩
  | succ fuel => exact ⟨fun _ => ⟨e, Γ, h, fr, ho⟩, by rw [hr]; simp⟩
theorem relOf_bel {Ob : Obl} (j : Nat) (w w' : World) (hb : Bel w.heap.size w w') : relOf w0 F Ob j w w' := fun p _ _ h => h.of_below hb
theorem takeP_any {o : Oper} {v : Value} {C : World → Prop} (hi : ops[i]? = some o) (hok : takeOkP ops done i = true) (hC : ∀ w w', C w → Bel w.heap.size w w' → C w') (hCw : ∀ w, Hold w0 F Γ w → C w) (hy : ∀ a, Fr n e a → YieldsC P ⟨ops⟩ C o v a)
    (h : ∀ a w, Fr n e a → Hold w0 F Γ w → pAny P ⟨ops⟩ (exitP n w0 F Q) (fun j w w' => relOf w0 F Ob j w w' ∧ ((depsOf ops i).getD j false = false → C w → C w')) (up n w0 F Q) fuel ⟨done.set i true⟩ (a.put o.dst v) w) : JP P n w0 F ops Ob (fuel + 1) done Q e Γ := by
  intro a w fr ho
  simp only [takeOkP, Bool.and_eq_true] at hok
  obtain ⟨⟨⟨h2, h3⟩, h4⟩, h5⟩ := hok
  have hi' : (⟨ops⟩ : Array Oper)[i]? = some o := by simpa using hi
  have h6 : ∀ k, k < ops.length → (depsOf ops i).getD k false = true → done.getD k false = false ∧ ∃ o, ops[k]? = some o ∧ ∃ e ∈ o.after, Region.binds .any e = true ∧ (e.on = i ∨ (depsOf ops i).getD e.on false = true) := by
    intro k hk hd
    have h7 := List.all_eq_true.1 h5.1 k (List.mem_range.2 hk)
    simp only [Bool.and_eq_true, Bool.or_eq_true, Bool.not_eq_true'] at h7
    rcases h7 with h8 | h8
    · rw [hd] at h8; cases h8
    · refine ⟨h8.1, ops[k], List.getElem?_eq_getElem hk, ?_⟩
      have h9 := h8.2
      rw [List.getElem?_eq_getElem hk] at h9
      obtain ⟨e, he, hb⟩ := Array.any_eq_true'.1 h9
      simp only [Bool.and_eq_true, Bool.or_eq_true, beq_iff_eq] at hb
      exact ⟨e, he, hb.1, hb.2⟩
  have hlen : (depsOf ops i).length = ops.length := Nat.eq_of_beq_eq_true h5.2
  have hdl : ∀ k, (depsOf ops i).getD k false = true → k < ops.length := by
    intro k hk
    rcases Nat.lt_or_ge k ops.length with h | h
    · exact h
    · rw [List.getD_eq_getElem?_getD, List.getElem?_eq_none (by omega)] at hk; cases hk
  refine pAny_first (C := C) exitP_put hi' (Region.noSelect_spec h2) hC (fun j w w' hb => relOf_bel j w w' hb) (fun k => (depsOf ops i).getD k false) (fun k o' hk hd => ?_) fuel ⟨done⟩ a w (Region.free_spec hi' h3) (fun k hk => ?_) (by simpa using h4) (hCw w ho) (hy a fr) ?_
  · obtain ⟨o2, ho2, h⟩ := (h6 k (hdl k hd) hd).2
    have : ops[k]? = some o' := by simpa using hk
    rw [this] at ho2
    injection ho2 with ho2
    subst ho2
    exact h
  · have := (h6 k (hdl k hk) hk).1
    simpa using this
  · intro w' hb
    have := h a w' fr (ho.of_below hb)
    simpa using this
theorem JP.take {op : Op} {v : Value} (i : Nat) (Δ : List Fact) (hi : ops[i]? = some ⟨some d, op, t, pos, aft, g⟩) (hok : takeOkP ops done i = true) (hg : gtest ops e g = some true) [hs : Sub Γ Δ] (h : OpV P n w0 F ⟨some d, op, t, pos, aft, g⟩ e Δ v) (hd : Nat.blt d n.s = true)
    (hdone : done.set i true = done') (k : JP P n w0 F ops ((depsOf ops i, Δ) :: Ob) fuel done' Q ((d, v) :: e) Γ) : JP P n w0 F ops Ob (fuel + 1) done Q e Γ :=
  takeP_any (C := Hold w0 F Δ) hi hok (fun w w' h hb => h.of_below hb) (fun w ho => ho.sub hs) (fun a fr => .inl ⟨gtest_ok (o := ⟨some d, op, t, pos, aft, g⟩) hg fr, fun w ho => by unfold YieldsAt; rw [h a w fr ho]; exact ⟨rfl, rfl⟩⟩)
    (fun a w fr ho => by
      subst hdone
      exact pAny_mono (fun j w w' hr => ⟨fun p hp => hr p (List.mem_cons_of_mem _ hp), fun hdj => hr _ (List.mem_cons_self ..) hdj⟩) _ _ _ _ (k _ w (fr.put hd v) ho))
theorem JP.pure {op : Op} {v : Value} (i : Nat) (hi : ops[i]? = some ⟨some d, op, t, pos, aft, g⟩) (hok : takeOkP ops done i = true) (hg : gtest ops e g = some true) (h : ∀ w1, OpV P n w1 F ⟨some d, op, t, pos, aft, g⟩ e [] v) (hd : Nat.blt d n.s = true)
    (hdone : done.set i true = done') (k : JP P n w0 F ops Ob fuel done' Q ((d, v) :: e) Γ) : JP P n w0 F ops Ob (fuel + 1) done Q e Γ :=
  takeP_any (C := fun _ => True) hi hok (fun _ _ _ _ => trivial) (fun _ _ => trivial) (fun a fr => .inl ⟨gtest_ok (o := ⟨some d, op, t, pos, aft, g⟩) hg fr, fun w _ => by unfold YieldsAt; rw [h w a w fr (Hold.start w F)]; exact ⟨rfl, rfl⟩⟩)
    (fun a w fr ho => by
      subst hdone
      exact pAny_mono (fun j w w' hr => ⟨hr, fun _ h => h⟩) _ _ _ _ (k _ w (fr.put hd v) ho))
theorem JP.omit {op : Op} (i : Nat) (hi : ops[i]? = some ⟨some d, op, t, pos, aft, g⟩) (hok : takeOkP ops done i = true) (hg : gtest ops e g = some false) (hd : Nat.blt d n.s = true)
    (hdone : done.set i true = done') (k : JP P n w0 F ops Ob fuel done' Q ((d, undef) :: e) Γ) : JP P n w0 F ops Ob (fuel + 1) done Q e Γ :=
  takeP_any (C := fun _ => True) (v := undef) hi hok (fun _ _ _ _ => trivial) (fun _ _ => trivial) (fun a fr => .inr ⟨gtest_ok (o := ⟨some d, op, t, pos, aft, g⟩) hg fr, rfl⟩)
    (fun a w fr ho => by
      subst hdone
      exact pAny_mono (fun j w w' hr => ⟨hr, fun _ h => h⟩) _ _ _ _ (k _ w (fr.put hd undef) ho))
theorem JP.takeCall {v : Value} {f : Operand} {args : Array Operand} {ats : Array TypeId} {fid : FuncId} {caps vs us : List Value} (i : Nat) (Δ : List Fact) (hi : ops[i]? = some ⟨some d, .call ⟨.value f, args, ats⟩, t, pos, aft, g⟩) (hok : takeOkP ops done i = true) (hg : gtest ops e g = some true) [hs : Sub Γ Δ]
    [hf : Fun e f fid caps] [hv : ArgVs e args.toList vs] [hu : App vs caps us] [hb : Body P fid]
    (hc : ∀ w, Hold w0 F Δ w → GivesV P fid us w (fp w0 F Δ) v) (hd : Nat.blt d n.s = true)
    (hdone : done.set i true = done') (k : JP P n w0 F ops ((depsOf ops i, Δ) :: Ob) fuel done' Q ((d, v) :: e) Γ) : JP P n w0 F ops Ob (fuel + 1) done Q e Γ :=
  takeP_any (C := Hold w0 F Δ) (v := v) hi hok (fun w w' h hb => h.of_below hb) (fun w ho => ho.sub hs) (fun a fr => .inl ⟨gtest_ok (o := ⟨some d, .call ⟨.value f, args, ats⟩, t, pos, aft, g⟩) hg fr, fun w ho => by
      unfold YieldsAt
      rw [run_call fr hf hv hu hb]
      refine Calls.mono (hc w ho) ?_
      rintro x w' ⟨_, rfl, hbel, _⟩
      exact ⟨rfl, hbel⟩⟩)
    (fun a w fr ho => by
      subst hdone
      exact pAny_mono (fun j w w' hr => ⟨fun p hp => hr p (List.mem_cons_of_mem _ hp), fun hdj => hr _ (List.mem_cons_self ..) hdj⟩) _ _ _ _ (k _ w (fr.put hd v) ho))
theorem JP.reslot (s : Nat) {v : Value} (u : Value) [hs : Lk e s v] (h : v = u) (k : JP P n w0 F ops Ob fuel done Q ((s, u) :: e) Γ) : JP P n w0 F ops Ob fuel done Q e Γ :=
  fun a w fr ho => k a w (fr.again (by rw [← h]; exact hs.ok)) ho
theorem JP.more {Γ' : List Fact} (h : ∀ w, Hold w0 F Γ w → Hold w0 F Γ' w) (k : JP P n w0 F ops Ob fuel done Q e Γ') : JP P n w0 F ops Ob fuel done Q e Γ :=
  fun a w fr ho => k a w fr (h w ho)
theorem opP {o : Oper} (i : Nat) (hi : ops[i]? = some o) (hg : gtest ops e o.guard = some true)
    (h : JR P n w0 F ⟨[o]⟩ 0 o [] (fun x e' Γ' => (x = .normal ∧ Obs Ob i Γ' ∧ JP P n w0 F ops Ob fuel (done.set i true) Q e' Γ') ∨ (∃ c, x = .panic c ∧ Q (.panic c) [] Γ')) e Γ) (a : Act) (w : World) (fr : Fr n e a) (ho : Hold w0 F Γ w) :
    pOp P ⟨ops⟩ (exitP n w0 F Q) (relOf w0 F Ob i) i (fun a' w' => ∀ w'', Bel w'.heap.size w' w'' → pAny P ⟨ops⟩ (exitP n w0 F Q) (relOf w0 F Ob) (up n w0 F Q) fuel ((⟨done⟩ : Array Bool).setIfInBounds i true) a' w'') a w := by
  have hi' : (⟨ops⟩ : Array Oper)[i]? = some o := by simpa using hi
  unfold pOp
  simp only [hi']
  rw [if_pos (gtest_ok hg fr)]
  refine wp_exits (fun a' w' hk => ?_) (fun c w hx => ?_) (fun hx => ?_) (h rfl a w fr ho)
  · simp only [List.range'_zero, List.length_nil, wpOps] at hk
    obtain ⟨e', Γ', hk, fr', ho'⟩ := hk
    rcases hk with ⟨_, hs, hj⟩ | ⟨c, hc, _⟩
    · refine ⟨fun p hp hd _ => ho'.sub (hs p hp hd), fun w'' hb => ?_⟩
      have := hj a' w'' fr' (ho'.of_below hb)
      simpa using this
    · cases hc
  · obtain ⟨e', Γ', hk, fr', ho'⟩ := hx
    rcases hk with ⟨hn, hs, hj⟩ | ⟨c', hc, hq⟩
    · cases hn
    · injection hc with hc
      subst hc
      exact ⟨c, Γ', rfl, hq, ⟨fr'.defers, fr'.size, fun i u hu => by cases hu⟩, ho'⟩
  · obtain ⟨a, w, e', Γ', hk, _⟩ := hx
    rcases hk with ⟨hn, _⟩ | ⟨c, hc, _⟩
    · cases hn
    · cases hc
theorem JR.mono0 {o : Oper} {Q' : Cont} (h : JR P n w0 F ⟨[o]⟩ 0 o [] Q e Γ) (hq : ∀ x e Γ, Q x e Γ → Q' x e Γ) : JR P n w0 F ⟨[o]⟩ 0 o [] Q' e Γ := by
  intro hd a w fr ho
  refine wp_exits (fun a' w' hk => ?_) (fun c w hx => ?_) (fun hx => ?_) (h hd a w fr ho)
  · simp only [List.range'_zero, List.length_nil, wpOps] at hk ⊢
    obtain ⟨e', Γ', hk, r⟩ := hk
    exact ⟨e', Γ', hq _ _ _ hk, r⟩
  · obtain ⟨e', Γ', hk, r⟩ := hx
    exact ⟨e', Γ', hq _ _ _ hk, r⟩
  · obtain ⟨a, w, e', Γ', hk, r⟩ := hx
    exact ⟨a, w, e', Γ', hq _ _ _ hk, r⟩
theorem JP.op {o : Oper} (i : Nat) (hr : Region.ready .any ⟨ops⟩ ⟨done⟩ = [i]) (hi : ops[i]? = some o) (hg : gtest ops e o.guard = some true)
    (h : JR P n w0 F ⟨[o]⟩ 0 o [] (fun x e' Γ' => x = .normal ∧ Obs Ob i Γ' ∧ JP P n w0 F ops Ob fuel (done.set i true) Q e' Γ') e Γ) : JP P n w0 F ops Ob (fuel + 1) done Q e Γ := by
  intro a w fr ho
  refine ⟨fun h0 => ?_, fun j hj => ?_⟩
  · rw [h0] at hr; cases hr
  · rw [hr] at hj
    simp only [List.mem_singleton] at hj; subst hj
    exact opP j hi hg (h.mono0 fun _ _ _ h => .inl h) a w fr ho
theorem JP.gone {o : Oper} (i : Nat) (hr : Region.ready .any ⟨ops⟩ ⟨done⟩ = [i]) (hi : ops[i]? = some o) (hg : gtest ops e o.guard = some true)
    (h : JR P n w0 F ⟨[o]⟩ 0 o [] (fun x e' Γ' => ∃ c, x = .panic c ∧ Q (.panic c) [] Γ') e Γ) : JP P n w0 F ops Ob (fuel + 1) done Q e Γ := by
  intro a w fr ho
  refine ⟨fun h0 => ?_, fun j hj => ?_⟩
  · rw [h0] at hr; cases hr
  · rw [hr] at hj
    simp only [List.mem_singleton] at hj; subst hj
    exact opP j hi hg (h.mono0 fun _ _ _ h => .inr h) a w fr ho
theorem JP.both {o o' : Oper} (i j : Nat) (hr : Region.ready .any ⟨ops⟩ ⟨done⟩ = [i, j]) (hi : ops[i]? = some o) (hj : ops[j]? = some o') (hg : gtest ops e o.guard = some true) (hg' : gtest ops e o'.guard = some true)
    (h : JR P n w0 F ⟨[o]⟩ 0 o [] (fun x e' Γ' => x = .normal ∧ Obs Ob i Γ' ∧ JP P n w0 F ops Ob fuel (done.set i true) Q e' Γ') e Γ)
    (h' : JR P n w0 F ⟨[o']⟩ 0 o' [] (fun x e' Γ' => x = .normal ∧ Obs Ob j Γ' ∧ JP P n w0 F ops Ob fuel (done.set j true) Q e' Γ') e Γ) : JP P n w0 F ops Ob (fuel + 1) done Q e Γ := by
  intro a w fr ho
  refine ⟨fun h0 => ?_, fun k hk => ?_⟩
  · rw [h0] at hr; cases hr
  · rw [hr] at hk
    simp only [List.mem_cons, List.not_mem_nil, or_false] at hk
    rcases hk with rfl | rfl
    · exact opP k hi hg (h.mono0 fun _ _ _ h => .inl h) a w fr ho
    · exact opP k hj hg' (h'.mono0 fun _ _ _ h => .inl h) a w fr ho
end
end Ab
end Go.Proofs.YtdgeffphifgflaaGreat
namespace Go.Proofs.YtdgeffphifgflaaGreat
namespace Ab
open Go Go.RowKit
set_option linter.unusedVariables false
set_option linter.unusedSimpArgs false
set_option synthInstance.maxSize 4000
set_option synthInstance.maxHeartbeats 400000
attribute [local irreducible] JC JO JR JQ andThen inBlock OpV Gives retTo JM JS
abbrev wrongV : Value := .iface 203 (.agg ⟨[]⟩)
abbrev wrongP : List PanicEntry := pan wrongV
theorem unless_ok (w : World) (F : Nat → Prop) : GivesV Tryz.prog 230 [.bool true] w F (.tuple ⟨[]⟩) := by
  refine gives_of Tryz.func230 rfl Tryz.ntmps230 rfl rfl [] (.start w F) ?_
  repeat (first|refine Wa ?_|refine Wb ?_|refine Wc ?_|refine Wd ?_|refine We rfl ?_|refine Wf (by first|exact Va|exact Vh) rfl ?_|refine Wk ?_|refine Wl ?_)
  exact CT.doneN () rfl (fun w ho => ho.ent)
theorem unless_bad {w0 w : World} {F : Nat → Prop} {Γ : List Fact} (ho : Hold w0 F Γ w) : Calls Tryz.prog 230 ⟨[.bool false]⟩ w fun x w' => x = .panicked wrongP ∧ Hold w0 F Γ w' := by
  refine panics_of Tryz.func230 rfl Tryz.ntmps230 rfl _ ho ?_
  repeat (first|refine Wa ?_|refine Wb ?_|refine Wc ?_|refine Wd ?_|refine We rfl ?_|refine Wf (by first|exact Va|exact Vh) rfl ?_|refine Wj ?_)
  refine Wf (OpV.build [] (by kernel_rfl)) rfl ?_
  repeat (refine We rfl ?_)
  refine Wf (OpV.makeIface (by kernel_rfl)) rfl ?_
  repeat (refine We rfl ?_)
  refine JR.panic ?_
  repeat (first | refine CT.panic ?_ | refine CT.blockPanic ?_)
  exact CT.gone (fun w ho => ho)
section
variable {w0 w : World} {F : Nat → Prop} {Γ : List Fact} {br : Nat} {a : Option Addr} {c : Nat} {L : List UInt8}
set_option maxHeartbeats 1000000 in
theorem num_ok (hk : (getN L).2 ≠ 0) (ho : Hold w0 F (.own br 207 [.slice a L.length c] :: .st (sl a c L) :: Γ) w) :
    Calls Tryz.prog 226 ⟨[.pointer (some ⟨br, 0, none⟩)]⟩ w fun x w' => ∃ y : Option Addr × Nat, x = .returned (.int .u64 ((getN L).1 : Int)) ∧ Hold w0 F (.own br 207 [.slice y.1 (L.drop (getN L).2).length y.2] :: .st (sl y.1 y.2 (L.drop (getN L).2)) :: Γ) w' := by
  have hkl := (getN_le L).1
  refine calls_of (v := fun y : Option Addr × Nat => .int .u64 ((getN L).1 : Int)) (B := fun y => .own br 207 [.slice y.1 (L.drop (getN L).2).length y.2] :: .st (sl y.1 y.2 (L.drop (getN L).2)) :: Γ) Tryz.func226 rfl Tryz.ntmps226 rfl rfl _ ho ?_
  repeat (first|refine Wa ?_|refine Wb ?_|refine Wc ?_|refine Wd ?_|refine We rfl ?_|refine Wf (by first|exact Va|exact Vb) rfl ?_)
  refine Wf OpV.nilCheck rfl ?_
  repeat (first|refine We rfl ?_|refine Wf (by first|exact Vc|exact Vd) rfl ?_)
  refine JR.callV rfl (fun w1 hw => get_enc w1 _ a c L hw.get) ?_
  repeat (first|refine Wa ?_|refine Wb ?_|refine Wc ?_|refine Wd ?_|refine We rfl ?_|refine Wf (by first|exact Va|exact Vb|exact Vo|exact Vq) rfl ?_)
  refine JR.reslot 14 (.bool true) (by congr 1; exact decide_eq_true (by omega)) ?_
  refine JR.callV rfl (fun w1 hw => unless_ok w1 _) ?_
  repeat (first|refine Wa ?_|refine Wb ?_|refine Wc ?_|refine Wd ?_|refine We rfl ?_|refine Wf (by exact Va) rfl ?_)
  refine Wf OpV.nilCheck rfl ?_
  repeat (first|refine We rfl ?_|refine Wf (by first|exact Va|exact Vc|exact Vd) rfl ?_)
  refine JR.sliceFrom (L := L) (k := (getN L).2) rfl rfl hkl ?_
  intro a2 c2
  repeat (refine We rfl ?_)
  refine Wf OpV.nilCheck rfl ?_
  repeat (first|refine We rfl ?_|refine Wf (by exact Vd) rfl ?_)
  refine JR.reslot 24 (.pointer (some ⟨br, 0, none⟩)) rfl ?_
  refine Wi ?_
  repeat (first|refine Wa ?_|refine Wb ?_|refine Wc ?_|refine Wd ?_|refine We rfl ?_|refine Wf (by first|exact Va|exact Vb) rfl ?_|refine Ws ?_)
  exact CT.done (a2, c2) rfl (fun w ho => ho.ent)
theorem num_bad (hk : (getN L).2 = 0) (ho : Hold w0 F (.own br 207 [.slice a L.length c] :: .st (sl a c L) :: Γ) w) :
    Calls Tryz.prog 226 ⟨[.pointer (some ⟨br, 0, none⟩)]⟩ w fun x w' => x = .panicked wrongP ∧ Hold w0 F Γ w' := by
  refine panics_of Tryz.func226 rfl Tryz.ntmps226 rfl _ ho ?_
  repeat (first|refine Wa ?_|refine Wb ?_|refine Wc ?_|refine Wd ?_|refine We rfl ?_|refine Wf (by first|exact Va|exact Vb) rfl ?_)
  refine Wf OpV.nilCheck rfl ?_
  repeat (first|refine We rfl ?_|refine Wf (by first|exact Vc|exact Vd) rfl ?_)
  refine JR.callV rfl (fun w1 hw => get_enc w1 _ a c L hw.get) ?_
  repeat (first|refine Wa ?_|refine Wb ?_|refine Wc ?_|refine Wd ?_|refine We rfl ?_|refine Wf (by first|exact Va|exact Vb|exact Vo|exact Vq) rfl ?_)
  refine JR.reslot 14 (.bool false) (by congr 1; exact decide_eq_false (by omega)) ?_
  refine JR.callP (fun w1 hw => unless_bad hw) ?_
  repeat (first | refine CT.panic ?_ | refine CT.blockPanic ?_)
  exact CT.gone (fun w ho => ho.ent)
set_option maxHeartbeats 1000000 in
theorem upto_ok (m : Nat) (hm : m ≤ 1048576) (hk : (getN L).2 ≠ 0) (hn : (getN L).1 ≤ m) (ho : Hold w0 F (.own br 207 [.slice a L.length c] :: .st (sl a c L) :: Γ) w) :
    Calls Tryz.prog 227 ⟨[.pointer (some ⟨br, 0, none⟩), .int .i64 (m : Int)]⟩ w fun x w' => ∃ y : Option Addr × Nat, x = .returned (.int .i64 ((getN L).1 : Int)) ∧ Hold w0 F (.own br 207 [.slice y.1 (L.drop (getN L).2).length y.2] :: .st (sl y.1 y.2 (L.drop (getN L).2)) :: Γ) w' := by
  refine calls_of (v := fun y : Option Addr × Nat => .int .i64 ((getN L).1 : Int)) (B := fun y => .own br 207 [.slice y.1 (L.drop (getN L).2).length y.2] :: .st (sl y.1 y.2 (L.drop (getN L).2)) :: Γ) Tryz.func227 rfl Tryz.ntmps227 rfl rfl _ ho ?_
  repeat (first|refine Wa ?_|refine Wb ?_|refine Wc ?_|refine Wd ?_|refine We rfl ?_|refine Wf (by first|exact Va|exact Vb) rfl ?_)
  refine JR.callW (v := fun y : Option Addr × Nat => .int .u64 ((getN L).1 : Int)) (B := fun y => .own br 207 [.slice y.1 (L.drop (getN L).2).length y.2] :: .st (sl y.1 y.2 (L.drop (getN L).2)) :: Γ) rfl (fun w1 hw => num_ok hk hw) ?_
  rintro ⟨a2, c2⟩
  dsimp only
  repeat (first|refine Wa ?_|refine Wb ?_|refine Wc ?_|refine Wd ?_|refine We rfl ?_|refine Wf (by first|exact Va|exact Vb) rfl ?_)
  refine Wf OpV.conv rfl ?_
  refine JO.reslot 10 (.int .u64 (m : Int)) (by rw [wrap64]; congr 2; omega) ?_
  repeat (first|refine We rfl ?_|refine Wf (by exact Vn) rfl ?_)
  refine JR.reslot 11 (.bool true) (by congr 1; exact decide_eq_true (by omega)) ?_
  refine JR.callV rfl (fun w1 hw => unless_ok w1 _) ?_
  repeat (first|refine Wa ?_|refine Wb ?_|refine Wc ?_|refine Wd ?_|refine We rfl ?_|refine Wf (by exact Va) rfl ?_)
  refine Wf OpV.conv rfl ?_
  refine JO.reslot 14 (.int .i64 ((getN L).1 : Int)) (by rw [wrap_in (by omega)]) ?_
  repeat (first|refine Wa ?_|refine Wd ?_|refine We rfl ?_|refine Wf (by exact Vb) rfl ?_|refine Ws ?_)
  exact CT.done (a2, c2) rfl (fun w ho => ho.ent)
theorem upto_bad (m : Nat) (hm : m ≤ 1048576) (hk : (getN L).2 = 0 ∨ m < (getN L).1) (ho : Hold w0 F (.own br 207 [.slice a L.length c] :: .st (sl a c L) :: Γ) w) :
    Calls Tryz.prog 227 ⟨[.pointer (some ⟨br, 0, none⟩), .int .i64 (m : Int)]⟩ w fun x w' => x = .panicked wrongP ∧ Hold w0 F Γ w' := by
  refine panics_of Tryz.func227 rfl Tryz.ntmps227 rfl _ ho ?_
  repeat (first|refine Wa ?_|refine Wb ?_|refine Wc ?_|refine Wd ?_|refine We rfl ?_|refine Wf (by first|exact Va|exact Vb) rfl ?_)
  by_cases h0 : (getN L).2 = 0
  · refine JR.callP (fun w1 hw => num_bad h0 hw) ?_
    repeat (first | refine CT.panic ?_ | refine CT.blockPanic ?_)
    exact CT.gone (fun w ho => ho)
  refine JR.callW (v := fun y : Option Addr × Nat => .int .u64 ((getN L).1 : Int)) (B := fun y => .own br 207 [.slice y.1 (L.drop (getN L).2).length y.2] :: .st (sl y.1 y.2 (L.drop (getN L).2)) :: Γ) rfl (fun w1 hw => num_ok h0 hw) ?_
  rintro ⟨a2, c2⟩
  dsimp only
  repeat (first|refine Wa ?_|refine Wb ?_|refine Wc ?_|refine Wd ?_|refine We rfl ?_|refine Wf (by first|exact Va|exact Vb) rfl ?_)
  refine Wf OpV.conv rfl ?_
  refine JO.reslot 10 (.int .u64 (m : Int)) (by rw [wrap64]; congr 2; omega) ?_
  repeat (first|refine We rfl ?_|refine Wf (by exact Vn) rfl ?_)
  refine JR.reslot 11 (.bool false) (by congr 1; exact decide_eq_false (by omega)) ?_
  refine JR.callP (fun w1 hw => unless_bad hw) ?_
  repeat (first | refine CT.panic ?_ | refine CT.blockPanic ?_)
  exact CT.gone (fun w ho => ho.ent)
def takeID (L : List UInt8) (h : 32 ≤ L.length) : ID := ⟨L.take 32, by rw [List.length_take]; omega⟩
theorem cells_takeID (L : List UInt8) (h : 32 ≤ L.length) : (L.take 32).map byteV = idc (takeID L h) := rfl
set_option maxHeartbeats 1000000 in
theorem id_ok (h : 32 ≤ L.length) (ho : Hold w0 F (.own br 207 [.slice a L.length c] :: .st (sl a c L) :: Γ) w) :
    Calls Tryz.prog 228 ⟨[.pointer (some ⟨br, 0, none⟩)]⟩ w fun x w' => ∃ y : Option Addr × Nat, x = .returned (.agg ⟨idc (takeID L h)⟩) ∧ Hold w0 F (.own br 207 [.slice y.1 (L.drop 32).length y.2] :: .st (sl y.1 y.2 (L.drop 32)) :: Γ) w' := by
  refine calls_of (v := fun y : Option Addr × Nat => .agg ⟨idc (takeID L h)⟩) (B := fun y => .own br 207 [.slice y.1 (L.drop 32).length y.2] :: .st (sl y.1 y.2 (L.drop 32)) :: Γ) Tryz.func228 rfl Tryz.ntmps228 rfl rfl _ ho ?_
  repeat (first|refine Wa ?_|refine Wb ?_|refine Wc ?_|refine Wd ?_|refine We rfl ?_|refine Wf (by exact Va) rfl ?_|(refine Wg rfl ?_; intro _))
  rename_i b2
  refine Wf OpV.nilCheck rfl ?_
  repeat (first|refine We rfl ?_|refine Wf (by first|exact Vc|exact Vd|exact Vf|exact Vp) rfl ?_)
  refine JR.reslot 8 (.bool true) (by congr 1; exact decide_eq_true (by omega)) ?_
  refine JR.callV rfl (fun w1 hw => unless_ok w1 _) ?_
  repeat (first|refine Wa ?_|refine Wb ?_|refine Wd ?_)
  refine JC.drawP mixed ?_
  refine JP.pure 0 rfl (by kernel_rfl) rfl (fun _ => Va) rfl rfl ?_
  refine JP.pure 1 rfl (by kernel_rfl) rfl (fun _ => Va) rfl rfl ?_
  refine JP.pure 2 rfl (by kernel_rfl) rfl (fun _ => OpV.nilCheck) rfl rfl ?_
  refine JP.pure 3 rfl (by kernel_rfl) rfl (fun _ => Vd) rfl rfl ?_
  refine JP.take 4 [.own br 207 [.slice a L.length c]] rfl (by kernel_rfl) rfl Vc rfl rfl ?_
  refine JP.pure 5 rfl (by kernel_rfl) rfl (fun _ => OpV.sliceArrAll) rfl rfl ?_
  refine JP.pure 6 rfl (by kernel_rfl) rfl (fun _ => Va) rfl rfl ?_
  refine JP.pure 7 rfl (by kernel_rfl) rfl (fun _ => OpV.nilCheck) rfl rfl ?_
  refine JP.pure 8 rfl (by kernel_rfl) rfl (fun _ => Vd) rfl rfl ?_
  refine JP.take 9 [.own br 207 [.slice a L.length c]] rfl (by kernel_rfl) rfl Vc rfl rfl ?_
  refine JP.op 10 (by kernel_rfl) rfl rfl (JR.copyFrom (L := L) rfl h (by decide) (by simp) (Wd ⟨rfl, (by repeat (first|exact Obs.nil|refine Obs.keep ?_|refine Obs.skip (by kernel_rfl) ?_)), ?_⟩))
  refine JP.more (Γ' := .st (sl (fromA a c 32 1) (c - 32) (L.drop 32)) :: .own b2 81 ((L.take 32).map byteV) :: .own br 207 [.slice a L.length c] :: .st (sl a c L) :: Γ) (fun w1 ho => ?_) ?_
  · exact ((ho.ent : Hold _ _ (.own b2 81 ((L.take 32).map byteV) :: .own br 207 [.slice a L.length c] :: .st (sl a c L) :: Γ) w1).add (A := sl (fromA a c 32 1) (c - 32) (L.drop 32)) (sl_from (k := 32) (ho.get (A := sl a c L)) h))
  refine JP.take 11 [.st (sl a c L)] rfl (by kernel_rfl) rfl (OpV.sliceFromA (l := 32) (s := 1) rfl (fun w1 ho => ⟨h, (Hold.get (A := sl a c L) ho).1⟩)) rfl rfl ?_
  refine JP.reslot 21 (.slice (fromA a c 32 1) (L.drop 32).length (c - 32)) (by congr 1; simp) ?_
  refine JP.pure 12 rfl (by kernel_rfl) rfl (fun _ => OpV.nilCheck) rfl rfl ?_
  refine JP.pure 13 rfl (by kernel_rfl) rfl (fun _ => Vd) rfl rfl ?_
  refine JP.reslot 23 (.pointer (some ⟨br, 0, none⟩)) rfl ?_
  refine JP.op 14 (by kernel_rfl) rfl rfl (Wi (Wd ⟨rfl, (by repeat (first|exact Obs.nil|refine Obs.keep ?_|refine Obs.skip (by kernel_rfl) ?_)), ?_⟩))
  refine JP.nil (by kernel_rfl) ?_
  rw [cells_takeID L h]
  repeat (first|refine Wa ?_|refine Wb ?_|refine Wc ?_|refine Wd ?_|refine We rfl ?_|refine Wf (by exact Vc) rfl ?_|refine Wi ?_|refine Ws ?_)
  exact CT.done (fromA a c 32 1, c - 32) rfl (fun w ho => ho.ent)
theorem id_bad (h : L.length < 32) (ho : Hold w0 F (.own br 207 [.slice a L.length c] :: .st (sl a c L) :: Γ) w) :
    Calls Tryz.prog 228 ⟨[.pointer (some ⟨br, 0, none⟩)]⟩ w fun x w' => x = .panicked wrongP ∧ Hold w0 F Γ w' := by
  refine panics_of Tryz.func228 rfl Tryz.ntmps228 rfl _ ho ?_
  repeat (first|refine Wa ?_|refine Wb ?_|refine Wc ?_|refine Wd ?_|refine We rfl ?_|refine Wf (by exact Va) rfl ?_|(refine Wg rfl ?_; intro _))
  refine Wf OpV.nilCheck rfl ?_
  repeat (first|refine We rfl ?_|refine Wf (by first|exact Vc|exact Vd|exact Vf|exact Vp) rfl ?_)
  refine JR.reslot 8 (.bool false) (by congr 1; exact decide_eq_false (by omega)) ?_
  refine JR.callP (fun w1 hw => unless_bad hw) ?_
  repeat (first | refine CT.panic ?_ | refine CT.blockPanic ?_)
  exact CT.gone (fun w ho => ho.ent)
end
end Ab
end Go.Proofs.YtdgeffphifgflaaGreat
namespace Go.Proofs.YtdgeffphifgflaaGreat
namespace Ab
open Go Go.RowKit
set_option linter.unusedVariables false
set_option linter.unusedSimpArgs false
def strB (L : List UInt8) : ByteArray := ⟨L.toArray⟩
theorem strB_inj {L M : List UInt8} : strB L = strB M ↔ L = M := by
  constructor
  · intro h
    have h1 := congrArg ByteArray.data h
    have h2 : L.toArray = M.toArray := h1
    have := congrArg Array.toList h2
    simpa using this
  · rintro rfl; rfl
theorem strOf_bytes (L : List UInt8) : strOfNums (L.map fun b => (b.toNat : Int)) = strB L := by
  simp only [strOfNums, strB, List.map_map]
  congr 2
  conv => rhs; rw [← List.map_id L]
  apply List.map_congr_left
  intro b _
  simp
theorem OpV.bytesStr [Dr] {P : Program} {n : Nn} {w0 : World} {F : Nat → Prop} {d : Option Nat} {t : TypeId} {pos : String} {aft : Array Edge} {g : Option (Nat × Bool)} {e : E} {Γ : List Fact}
    {x : Operand} {src dst el : TypeId} {v : Value} {L : List UInt8} {s1 b1 s2 b2 s3 b3 : Nat} {z1 z2 z3 : Value} [hx : Ev e x v] [hL : HasSl Γ v UInt8 inferInstance L]
    [hs : Ty P src (.slice el) s1 b1 z1] [hE : Ty P el (.int .u8) s2 b2 z2] [hD : Ty P dst .string s3 b3 z3] : OpV P n w0 F ⟨d, .convert src dst x, t, pos, aft, g⟩ e Γ (.string (strB L)) :=
  fun a w fr ho => by
    obtain ⟨a0, c, rfl, hsl⟩ := hL.holds ho
    have key : (convert src dst (.slice a0 L.length c)).run P w = .ok (.string (strB L)) w := by
      by_cases hne : L = []
      · subst hne
        cases a0 with
        | none => exact run_convert_bytes_nil w src el hs.und hE.und _ _ dst hD.und
        | some a0 =>
          obtain ⟨b, off, sp⟩ := a0
          rw [run_convert_bytes_string w src dst el _ _ _ hs.und hE.und hD.und]
          have hl : (loadCells ⟨b, off, sp⟩ ([] : List UInt8).length).run P w = .ok (([] : List Int).map (Value.int .u8)).toArray w := by
            have := run_loadCells_list (P := P) w ⟨b, off, sp⟩ ([] : List Value) (fun j v hj => by simp at hj)
            simpa using this
          rw [run_bytesToString w _ _ c [] hl]; rfl
      · obtain ⟨b, off, rfl, _, _, hr⟩ := hsl.2.2.2 hne
        have := run_convert_bytes_arg w src el hs.und hE.und b off L.length c (L.map fun b => (b.toNat : Int)) (by simp) (fun i hi => by
          obtain ⟨y, h1, _⟩ := hr i hi
          have h2 := h1 0 (byteV L[i]) rfl
          have e : off + i * Cell.sz UInt8 + 0 = off + i := by show off + i * 1 + 0 = off + i; omega
          rw [e] at h2
          rw [h2]
          simp [byteV, List.getD_eq_getElem?_getD, hi]) dst hD.und
        rw [strOf_bytes] at this
        exact this
    simp [execOp, hx.ok n a fr, key]
end Ab
end Go.Proofs.YtdgeffphifgflaaGreat
namespace Go.Proofs.YtdgeffphifgflaaGreat
namespace Ab
open Go Go.RowKit
set_option linter.unusedVariables false
set_option linter.unusedSimpArgs false
set_option synthInstance.maxSize 4000
set_option synthInstance.maxHeartbeats 400000
attribute [local irreducible] JC JO JR JQ andThen inBlock OpV Gives retTo JM JS
def unfoldN (m : Nat) : Int := if m % 2 = 0 then ((m / 2 : Nat) : Int) else -1 - ((m / 2 : Nat) : Int)
theorem and_one (m : Nat) : (BitVec.ofInt 64 (m : Int) &&& BitVec.ofInt 64 1).toNat = m % 2 := by
  rw [BitVec.toNat_and]
  have e1 : (BitVec.ofInt 64 (m : Int)).toNat = m % 18446744073709551616 := by
    rw [BitVec.toNat_ofInt]; omega
  have e2 : (BitVec.ofInt 64 1).toNat = 1 := by decide
  rw [e1, e2, Nat.and_one_is_mod]; omega
theorem unfold_val (m : Nat) (h : m < 18446744073709551616) : IntKind.i64.wrap ((BitVec.ofInt 64 ((m / 2 : Nat) : Int) ^^^ BitVec.ofInt 64 (IntKind.i64.wrap (0 - ((m % 2 : Nat) : Int)))).toNat : Int) = unfoldN m := by
  have e1 : (BitVec.ofInt 64 ((m / 2 : Nat) : Int)).toNat = m / 2 := by rw [BitVec.toNat_ofInt]; omega
  rcases Nat.mod_two_eq_zero_or_one m with h0 | h0
  · rw [h0]
    have e2 : BitVec.ofInt 64 (IntKind.i64.wrap (0 - ((0 : Nat) : Int))) = 0#64 := by rw [wrap_in (by omega)]; decide
    rw [e2, BitVec.xor_zero, e1, wrap_in (by omega), unfoldN, if_pos h0]
  · rw [h0]
    have e2 : BitVec.ofInt 64 (IntKind.i64.wrap (0 - ((1 : Nat) : Int))) = BitVec.allOnes 64 := by rw [wrap_in (by omega)]; decide
    rw [e2, BitVec.xor_allOnes, BitVec.toNat_not, e1, unfoldN, if_neg (by omega)]
    have e3 : ((2 ^ 64 - 1 - m / 2 : Nat) : Int) = 18446744073709551615 - ((m / 2 : Nat) : Int) := by omega
    rw [e3, IntKind.wrap_i64]
    omega
set_option maxHeartbeats 1000000 in
theorem unfold_enc (w : World) (F : Nat → Prop) (m : Nat) (h : m < 18446744073709551616) : GivesV Tryz.prog 220 [.int .u64 (m : Int)] w F (.int .i64 (unfoldN m)) := by
  refine gives_of Tryz.func220 rfl Tryz.ntmps220 rfl rfl [] (.start w F) ?_
  repeat (first|refine Wa ?_|refine Wb ?_|refine Wc ?_|refine Wd ?_|refine We rfl ?_|refine Wf (by first|exact Va|exact Vb) rfl ?_)
  refine Wf (OpV.shr (by decide)) rfl ?_
  refine JO.reslot 4 (.int .u64 ((m / 2 : Nat) : Int)) (by
    congr 1
    show (m : Int).fdiv 2 = _
    rw [Int.fdiv_eq_ediv_of_nonneg _ (by decide)]; omega) ?_
  refine We rfl ?_
  refine Wf OpV.conv rfl ?_
  refine JO.reslot 5 (.int .i64 ((m / 2 : Nat) : Int)) (by rw [wrap_in (by omega)]) ?_
  repeat (first|refine We rfl ?_|refine Wf (by exact Va) rfl ?_)
  refine Wf OpV.and rfl ?_
  refine JO.reslot 7 (.int .u64 ((m % 2 : Nat) : Int)) (by
    show Value.int .u64 (IntKind.u64.wrap ((BitVec.ofInt 64 (m : Int) &&& BitVec.ofInt 64 1).toNat : Int)) = _
    rw [and_one, wrap64]; congr 2; omega) ?_
  refine We rfl ?_
  refine Wf OpV.conv rfl ?_
  refine JO.reslot 8 (.int .i64 ((m % 2 : Nat) : Int)) (by rw [wrap_in (by omega)]) ?_
  refine We rfl ?_
  refine Wf OpV.neg rfl ?_
  refine We rfl ?_
  refine Wf OpV.xor rfl ?_
  refine JO.reslot 10 (.int .i64 (unfoldN m)) (by rw [← unfold_val m h]; rfl) ?_
  repeat (first|refine Wa ?_|refine Wd ?_|refine We rfl ?_|refine Wf (by exact Vb) rfl ?_|refine Ws ?_)
  exact CT.done () rfl (fun w ho => ho.ent)
theorem clone_bytes (w : World) (F : Nat → Prop) (a : Option Addr) (c : Nat) (L : List UInt8) (h : (sl a c L).holds F w) (hl : L.length ≤ 34359738368) :
    GivesBuf Tryz.prog 67 [.slice a L.length c] w F 5 L := by
  refine gives_of Tryz.func67 rfl Tryz.ntmps67 rfl rfl [.st (sl a c L)] (.start1 h) ?_
  repeat (first|refine Wa ?_|refine Wb ?_|refine Wc ?_|refine Wd ?_|refine We rfl ?_|refine Wf (by first|exact Va|exact Vb|exact VD) rfl ?_)
  refine JC.test (fun ha => ?_) (fun ha => ?_)
  · cases a with
    | some a => cases ha
    | none =>
      obtain rfl := nil_of_none h
      repeat (first|refine Wa ?_|refine Wb ?_|refine Wc ?_|refine Wd ?_|refine We rfl ?_|refine Wf (by exact Vb) rfl ?_|refine Ws ?_|refine Wt ?_)
      exact CT.done (none, 0) rfl (fun w ho => ho.bufNil)
  · repeat (first|refine Wa ?_|refine Wb ?_|refine Wc ?_|refine We rfl ?_|refine Wl ?_)
    refine JR.lit0 (α := UInt8) rfl ?_
    intro a2
    repeat (first|refine We rfl ?_|refine Wf (by exact Va) rfl ?_)
    refine JR.appendSl rfl (by exact ⟨rfl, rfl, by decide⟩) (by simpa using hl) ?_
    intro a3 c3
    rw [List.nil_append]
    repeat (first|refine Wa ?_|refine Wd ?_|refine We rfl ?_|refine Wf (by exact Vb) rfl ?_|refine Ws ?_)
    exact CT.done (a3, c3) rfl (fun w ho => ho.ent)
noncomputable def cutT (b : List UInt8) (m : Nat) : ByteArray × List UInt8 × Bool :=
  if (getN b).2 = 0 ∨ m < (getN b).1 ∨ b.length - (getN b).2 < (getN b).1 then (.empty, [], false) else (strB ((b.drop (getN b).2).take (getN b).1), (b.drop (getN b).2).drop (getN b).1, true)
theorem cutT_size (b : List UInt8) (m : Nat) : (cutT b m).1.size ≤ m := by
  unfold cutT
  split
  · exact Nat.zero_le _
  · rename_i h
    simp only [strB, ByteArray.size, List.size_toArray, List.length_take]
    omega
set_option maxHeartbeats 2000000 in
theorem cut_enc (w : World) (F : Nat → Prop) (a : Option Addr) (c : Nat) (b : List UInt8) (m : Nat) (h : (sl a c b).holds F w) (hl : b.length ≤ 34359738368) (hm : m ≤ 1048576) :
    Gives Tryz.prog 224 [.slice a b.length c, .int .i64 (m : Int)] w F (fun y : Option Addr × Nat => .tuple ⟨[.string (cutT b m).1, .slice y.1 (cutT b m).2.1.length y.2, .bool (cutT b m).2.2]⟩) (fun y => [.st (sl y.1 y.2 (cutT b m).2.1)]) := by
  have hkl := (getN_le b).1
  have hn64 := getN_lt b
  refine gives_of Tryz.func224 rfl Tryz.ntmps224 rfl rfl [.st (sl a c b)] (.start1 h) ?_
  repeat (first|refine Wa ?_|refine Wb ?_|refine Wc ?_|refine Wd ?_|refine We rfl ?_|refine Wf (by first|exact Va|exact Vb) rfl ?_)
  refine JR.callV rfl (fun w1 hw => get_enc w1 _ a c b hw.get) ?_
  repeat (first|refine Wa ?_|refine Wb ?_|refine Wc ?_|refine Wd ?_|refine We rfl ?_|refine Wf (by first|exact Va|exact Vb|exact Vl|exact Vq) rfl ?_)
  refine JO.test 16 (fun h0 => ?_) (fun h0 => ?_)
  · have e : cutT b m = (.empty, [], false) := by unfold cutT; rw [if_pos (.inl (by omega))]
    rw [e]
    repeat (first|refine Wa ?_|refine Wb ?_|refine Wc ?_|refine Wd ?_|refine We rfl ?_|refine Wf (by first|exact Va|exact Vb|exact Vi) rfl ?_|refine Wj ?_|refine Ws ?_|refine Wt ?_|refine Wv rfl rfl ?_)
    exact CT.done (none, 0) rfl (fun w ho => (ho.ent : Hold _ _ [] w).add sl_nil)
  repeat (first|refine We rfl ?_|refine Wf (by first|exact Va|exact Vg|exact Vj) rfl ?_)
  refine Wf OpV.conv rfl ?_
  refine JO.reslot 23 (.int .u64 (m : Int)) (by rw [wrap64]; congr 2; omega) ?_
  repeat (first|refine We rfl ?_|refine Wf (by first|exact Va|exact Vj|exact Vo) rfl ?_)
  refine JO.test 26 (fun h1 => ?_) (fun h1 => ?_)
  · have e : cutT b m = (.empty, [], false) := by unfold cutT; rw [if_pos (.inr (.inl (by omega)))]
    rw [e]
    repeat (first|refine Wa ?_|refine Wb ?_|refine Wc ?_|refine Wd ?_|refine We rfl ?_|refine Wf (by first|exact Vb|exact Vi) rfl ?_|refine Wj ?_|refine Ws ?_|refine Wt ?_|refine Wv rfl rfl ?_)
    exact CT.done (none, 0) rfl (fun w ho => (ho.ent : Hold _ _ [] w).add sl_nil)
  repeat (first|refine We rfl ?_|refine Wf (by first|exact Va|exact Vf|exact Vu (by omega)) rfl ?_)
  refine Wf OpV.conv rfl ?_
  refine JO.reslot 32 (.int .u64 ((b.length - (getN b).2 : Nat) : Int)) (by
    rw [wrap64]; congr 2; omega) ?_
  repeat (first|refine Wa ?_|refine Wd ?_|refine We rfl ?_|refine Wf (by first|exact Vj|exact Vo) rfl ?_)
  refine JC.test (fun h2 => ?_) (fun h2 => ?_)
  · have e : cutT b m = (.empty, [], false) := by unfold cutT; rw [if_pos (.inr (.inr (by omega)))]
    rw [e]
    repeat (first|refine Wa ?_|refine Wb ?_|refine Wc ?_|refine Wd ?_|refine We rfl ?_|refine Wf (by exact Vb) rfl ?_|refine Ws ?_|refine Wt ?_)
    exact CT.done (none, 0) rfl (fun w ho => (ho.ent : Hold _ _ [] w).add sl_nil)
  obtain ⟨B, hB⟩ : ∃ B, B = b.drop (getN b).2 := ⟨_, rfl⟩
  have hBl : B.length = b.length - (getN b).2 := by rw [hB, List.length_drop]
  have e : cutT b m = (strB (B.take (getN b).1), B.drop (getN b).1, true) := by unfold cutT; rw [if_neg (by omega), hB]
  rw [e]
  obtain ⟨n, hn⟩ : ∃ n, n = (getN b).1 := ⟨_, rfl⟩
  rw [← hn] at h1 h2 ⊢
  repeat (first|refine Wa ?_|refine Wb ?_|refine Wc ?_|refine We rfl ?_|refine Wf (by exact Va) rfl ?_|refine Wl ?_)
  refine JR.sliceFrom (L := b) (k := (getN b).2) rfl rfl hkl ?_
  rw [← hB]
  intro a1 c1
  repeat (first|refine Wa ?_|refine Wb ?_|refine Wd ?_|refine We rfl ?_|refine Wf (by exact Vb) rfl ?_)
  refine JC.more (Γ' := [.st (sl a1 c1 (B.take n)), .st (sl (fromA a1 c1 n 1) (c1 - n) (B.drop n)), .st (sl a1 c1 B)]) (fun w1 ho => ?_) ?_
  · have h1 := ho.add (A := sl (fromA a1 c1 n 1) (c1 - n) (B.drop n)) (sl_from (k := n) (ho.get (A := sl a1 c1 B)) (by omega))
    have h2 := h1.add (A := sl a1 c1 (B.take n)) (sl_take (k := n) (c' := c1) (h1.get (A := sl a1 c1 B)) (by omega) ⟨by have := (h1.get (A := sl a1 c1 B)).1; omega, Nat.le_refl _⟩)
    exact h2.ent
  refine JC.draw 11 mixed ?_
  refine JM.take 0 rfl (by kernel_rfl) rfl Va rfl rfl ?_
  refine JM.take 1 rfl (by kernel_rfl) rfl Va rfl rfl ?_
  refine JM.take 2 rfl (by kernel_rfl) rfl (OpV.sliceToV (k := n) (fun w1 ho => by have := (Hold.get (A := sl a1 c1 B) ho).1; omega)) rfl rfl ?_
  refine JM.reslot 40 (.slice a1 (B.take n).length c1) (by congr 1; rw [List.length_take]; omega) ?_
  refine JM.take 3 rfl (by kernel_rfl) rfl (OpV.bytesStr (L := B.take n)) rfl rfl ?_
  refine JM.take 4 rfl (by kernel_rfl) rfl Va rfl rfl ?_
  refine JM.take 5 rfl (by kernel_rfl) rfl Va rfl rfl ?_
  refine JM.take 6 rfl (by kernel_rfl) rfl (OpV.sliceFromA (l := n) (s := 1) rfl (fun w1 ho => ⟨by omega, (Hold.get (A := sl a1 c1 B) ho).1⟩)) rfl rfl ?_
  refine JM.reslot 44 (.slice (fromA a1 c1 n 1) (B.drop n).length (c1 - n)) (by congr 1; rw [List.length_drop]) ?_
  refine JM.one 7 (by kernel_rfl) rfl rfl rfl rfl (JS.callBuf rfl (fun w1 hw => clone_bytes w1 _ (fromA a1 c1 n 1) (c1 - n) (B.drop n) hw.get (by rw [List.length_drop]; omega)) fun a2 c2 => ?_)
  refine JM.more (fun w1 ho => ho.pub) ?_
  refine JM.one 8 (by kernel_rfl) rfl rfl rfl rfl (JS.val Vb rfl ?_)
  refine JM.one 9 (by kernel_rfl) rfl rfl rfl rfl (JS.val Vb rfl ?_)
  refine JM.one 10 (by kernel_rfl) rfl rfl rfl rfl (JS.val Vb rfl ?_)
  refine JM.nil (by kernel_rfl) ?_
  repeat (first|refine Wa ?_|refine Ws ?_)
  exact CT.done (a2, c2) rfl (fun w ho => ho.ent)
def quadL (L : List UInt8) : List UInt8 := (sumL L).take 4
theorem quadL_length (L : List UInt8) : (quadL L).length = 4 := by unfold quadL; rw [List.length_take, sumL_length]; rfl
theorem four {L : List UInt8} (h : L.length = 32) : ∃ a b c d r, L = a :: b :: c :: d :: r ∧ L.take 4 = [a, b, c, d] := by
  match L, h with
  | a :: b :: c :: d :: r, _ => exact ⟨a, b, c, d, r, rfl, rfl⟩
set_option maxHeartbeats 1000000 in
theorem sum_log (w : World) (F : Nat → Prop) (a : Option Addr) (c : Nat) (L : List UInt8) (h : (sl a c L).holds F w) (hL : L.length ≤ 1048576) :
    GivesV Tryz.prog 177 [.slice a L.length c] w F (.agg ⟨(quadL L).map byteV⟩) := by
  obtain ⟨s0, s1, s2, s3, r, h1, h2⟩ := four (sumL_length L)
  have hq : quadL L = [s0, s1, s2, s3] := h2
  rw [hq]
  have hi : idc (sumI L) = byteV s0 :: byteV s1 :: byteV s2 :: byteV s3 :: r.map byteV := by
    show (sumI L).1.map byteV = _
    rw [sumI_val, h1]; rfl
  refine gives_of Tryz.func177 rfl Tryz.ntmps177 rfl rfl [.st (sl a c L)] (.start1 h) ?_
  repeat (first|refine Wa ?_|refine Wb ?_|refine Wc ?_|refine Wd ?_|refine We rfl ?_|refine Wf (by exact Va) rfl ?_|(refine Wg rfl ?_; intro _))
  refine JR.callV rfl (fun w1 hw => sum_sha w1 _ a c L hw.get hL) ?_
  repeat (first|refine Wa ?_|refine Wb ?_|refine Wc ?_|refine Wd ?_|refine We rfl ?_|(refine Wg rfl ?_; intro _)|refine Wi ?_)
  refine Wf (OpV.sliceArrTo (k := 4) (by decide)) rfl ?_
  repeat (refine We rfl ?_)
  refine Wf (OpV.arrayPtrV (by decide)) rfl ?_
  rw [hi]
  repeat (first|refine Wa ?_|refine Wd ?_|refine We rfl ?_|refine Wf (by exact Vc) rfl ?_|refine Wi ?_|refine Ws ?_)
  exact CT.done () rfl (fun w ho => ho.ent)
def frameL (L : List UInt8) : List UInt8 := numL L.length ++ L ++ quadL L
theorem frameL_length (L : List UInt8) : (frameL L).length = (numL L.length).length + L.length + 4 := by unfold frameL; rw [List.length_append, List.length_append, quadL_length]
def frameT (L : List UInt8) : List UInt8 × Int := if 4000 < L.length then ([], 5) else (frameL L, 0)
set_option maxHeartbeats 1000000 in
theorem frame_log (w : World) (F : Nat → Prop) (a : Option Addr) (c : Nat) (L : List UInt8) (h : (sl a c L).holds F w) :
    GivesSlT Tryz.prog 116 [.slice a L.length c] w F (frameT L).1 [.int .i64 (frameT L).2] := by
  obtain ⟨s0, s1, s2, s3, r, h1, h2⟩ := four (sumL_length L)
  have hq : quadL L = [s0, s1, s2, s3] := h2
  refine gives_of Tryz.func116 rfl Tryz.ntmps116 rfl rfl [.st (sl a c L)] (.start1 h) ?_
  repeat (first|refine Wa ?_|refine Wb ?_|refine Wc ?_|refine Wd ?_|refine We rfl ?_|refine Wf (by first|exact Va|exact Vb|exact Vf|exact Vo) rfl ?_)
  refine JC.test (fun h4 => ?_) (fun h4 => ?_)
  · have e : frameT L = ([], 5) := if_pos (by omega)
    rw [e]
    repeat (first|refine Wa ?_|refine Wb ?_|refine Wc ?_|refine Wd ?_|refine We rfl ?_|refine Wf (by exact Vb) rfl ?_|refine Ws ?_|refine Wt ?_)
    exact CT.done (none, 0) rfl (fun w ho => (ho.ent : Hold _ _ [] w).add sl_nil)
  · have e : frameT L = (frameL L, 0) := if_neg (by omega)
    rw [e]
    repeat (first|refine Wa ?_|refine Wb ?_|refine Wc ?_|refine We rfl ?_|refine Wf (by exact Va) rfl ?_|refine Wl ?_)
    refine JR.callV rfl (fun w1 hw => sum_log w1 _ a c L hw.get (by omega)) ?_
    rw [hq]
    repeat (first|refine We rfl ?_|(refine Wg rfl ?_; intro _))
    rename_i b4
    refine JR.reslot 9 (.agg ⟨[byteV s0, byteV s1, byteV s2, byteV s3]⟩) rfl ?_
    repeat (first|refine Wa ?_|refine Wb ?_|refine Wd ?_|refine Wi ?_)
    refine JC.drawP mixed ?_
    refine JP.pure 0 rfl (by kernel_rfl) rfl (fun _ => Va) rfl rfl ?_
    refine JP.pure 1 rfl (by kernel_rfl) rfl (fun _ => Vf) rfl rfl ?_
    refine JP.pure 2 rfl (by kernel_rfl) rfl (fun _ => OpV.conv) rfl rfl ?_
    refine JP.reslot 12 (.int .u64 (L.length : Int)) (by rw [wrap64]; congr 2; omega) ?_
    refine JP.pure 4 rfl (by kernel_rfl) rfl (fun _ => Va) rfl rfl ?_
    refine JP.pure 6 rfl (by kernel_rfl) rfl (fun _ => OpV.sliceArrAll) rfl rfl ?_
    refine JP.op 3 (by kernel_rfl) rfl rfl (JR.callBuf rfl (fun w1 hw => num_enc L.length (by omega) w1 _) fun a5 c5 => Wd ⟨rfl, (by repeat (first|exact Obs.nil|refine Obs.keep ?_|refine Obs.skip (by kernel_rfl) ?_)), ?_⟩)
    refine JP.op 5 (by kernel_rfl) rfl rfl (JR.appendSl (L' := L) rfl (by exact ⟨rfl, rfl, by decide⟩) (by have := numL_length L.length; omega) fun a6 c6 => Wd ⟨rfl, (by repeat (first|exact Obs.nil|refine Obs.keep ?_|refine Obs.skip (by kernel_rfl) ?_)), ?_⟩)
    refine JP.op 7 (by kernel_rfl) rfl rfl (JR.appendBytes (M := quadL L) rfl (by rw [hq]; rfl) rfl (quadL_length L) (by exact ⟨rfl, rfl, by decide⟩) (by have := numL_length L.length; rw [List.length_append]; omega) fun a7 c7 => Wd ⟨rfl, (by repeat (first|exact Obs.nil|refine Obs.keep ?_|refine Obs.skip (by kernel_rfl) ?_)), ?_⟩)
    refine JP.pure 8 rfl (by kernel_rfl) rfl (fun _ => Vb) rfl rfl ?_
    refine JP.pure 9 rfl (by kernel_rfl) rfl (fun _ => Vb) rfl rfl ?_
    refine JP.nil (by kernel_rfl) ?_
    refine Wa ?_
    refine JC.more (fun w ho => ho.pub) ?_
    repeat (refine Ws ?_)
    exact CT.done (a7, c7) rfl (fun w ho => (ho.ent : Hold _ _ [.st (sl a7 c7 (numL L.length ++ L ++ quadL L))] w))
def writeT (b : List UInt8) (room : Int) (L : List UInt8) : List UInt8 × Int :=
  if 4000 < L.length then ([], 5) else if room < (b.length + (frameL L).length : Nat) then ([], 4) else (b ++ frameL L, 0)
set_option maxHeartbeats 1000000 in
theorem write_log (w : World) (F : Nat → Prop) (a a2 : Option Addr) (c c2 : Nat) (b L : List UInt8) (room : Int) (h : (sl a c b).holds F w) (h2 : (sl a2 c2 L).holds F w) (hb : b.length ≤ 1048576) :
    Gives Tryz.prog 58 [.slice a b.length c, .int .i64 room, .slice a2 L.length c2] w F (fun y : Option Addr × Nat => .tuple ⟨[.slice y.1 (writeT b room L).1.length y.2, .int .i64 (writeT b room L).2]⟩) (fun y => [.res (buf y.1 y.2 5 (writeT b room L).1)]) := by
  refine gives_of Tryz.func58 rfl Tryz.ntmps58 rfl rfl [.st (sl a c b), .st (sl a2 c2 L)] (.start2 h h2) ?_
  repeat (first|refine Wa ?_|refine Wb ?_|refine Wc ?_|refine Wd ?_|refine We rfl ?_|refine Wf (by first|exact Va|exact Vb) rfl ?_)
  refine JR.callSlT rfl (fun w1 hw => frame_log w1 _ a2 c2 L (hw.get (A := sl a2 c2 L))) ?_
  intro a3 c3
  by_cases h4 : 4000 < L.length
  · have e : frameT L = ([], 5) := if_pos h4
    have e2 : writeT b room L = ([], 5) := if_pos h4
    rw [e, e2]
    repeat (first|refine Wa ?_|refine Wb ?_|refine Wc ?_|refine Wd ?_|refine We rfl ?_|refine Wf (by first|exact Va|exact Vb|exact Vm|exact Vq) rfl ?_|refine Wj ?_|refine Ws ?_|refine Wt ?_)
    exact CT.done (none, 0) rfl (fun w ho => ((ho.ent : Hold _ _ [] w).bufNil : Hold _ _ [.res (buf (α := UInt8) none 0 5 [])] w))
  have e : frameT L = (frameL L, 0) := if_neg h4
  rw [e]
  dsimp only
  have hfl := frameL_length L
  have hnl := numL_length L.length
  repeat (first|refine Wa ?_|refine Wb ?_|refine Wc ?_|refine Wd ?_|refine We rfl ?_|refine Wf (by first|exact Va|exact Vb|exact Vf|exact Vm|exact Vo|exact Vq|exact Vs (by omega)) rfl ?_|refine Wk ?_|refine Wl ?_)
  refine JC.test (fun h5 => ?_) (fun h5 => ?_)
  · have e2 : writeT b room L = ([], 4) := by unfold writeT; rw [if_neg h4, if_pos (by omega)]
    rw [e2]
    repeat (first|refine Wa ?_|refine Wb ?_|refine Wc ?_|refine Wd ?_|refine We rfl ?_|refine Wf (by exact Vb) rfl ?_|refine Ws ?_|refine Wt ?_)
    exact CT.done (none, 0) rfl (fun w ho => ((ho.ent : Hold _ _ [] w).bufNil : Hold _ _ [.res (buf (α := UInt8) none 0 5 [])] w))
  · have e2 : writeT b room L = (b ++ frameL L, 0) := by unfold writeT; rw [if_neg h4, if_neg (by omega)]
    rw [e2]
    repeat (first|refine Wa ?_|refine Wb ?_|refine Wc ?_|refine We rfl ?_|refine Wf (by exact Va) rfl ?_|refine Wl ?_)
    refine JR.callBuf rfl (fun w1 hw => clone_bytes w1 _ a c b (hw.get (A := sl a c b)) (by omega)) ?_
    intro a5 c5
    repeat (first|refine We rfl ?_|refine Wf (by exact Va) rfl ?_)
    refine JR.appendSl (L' := frameL L) rfl (by exact ⟨rfl, rfl, by decide⟩) (by omega) ?_
    intro a6 c6
    repeat (first|refine Wa ?_|refine Wd ?_|refine We rfl ?_|refine Wf (by exact Vb) rfl ?_|refine Ws ?_)
    exact CT.done (a6, c6) rfl (fun w ho => ho.ent)
noncomputable def storeT (b : List UInt8) (room : Int) (c : Commit) : List UInt8 × Int := if (putCommit c).2 = 0 then writeT b room (putCommit c).1 else ([], (putCommit c).2)
set_option maxHeartbeats 1000000 in
theorem put_store (w : World) (F : Nat → Prop) (a a2 : Option Addr) (k k2 : Nat) (b : List UInt8) (room : Int) (c : Commit) (h : (sl a k b).holds F w) (h2 : (sl a2 k2 c.parents).holds F w) (ht : texts c) (hb : b.length ≤ 1048576) :
    Gives Tryz.prog 15 [.slice a b.length k, .int .i64 room, commitV c a2 k2] w F (fun y : Option Addr × Nat => .tuple ⟨[.slice y.1 (storeT b room c).1.length y.2, .int .i64 (storeT b room c).2]⟩) (fun y => [.res (buf y.1 y.2 5 (storeT b room c).1)]) := by
  refine gives_of Tryz.func15 rfl Tryz.ntmps15 rfl rfl [.st (sl a k b), .st (sl a2 k2 c.parents)] (.start2 h h2) ?_
  repeat (first|refine Wa ?_|refine Wb ?_|refine Wc ?_|refine Wd ?_|refine We rfl ?_|refine Wf (by first|exact Vb|exact Vc) rfl ?_|(refine Wh rfl ?_; intro _))
  refine JR.callSlT rfl (fun w1 hw => put_commit w1 _ c a2 k2 (hw.get (A := sl a2 k2 c.parents)) ht) ?_
  intro a3 c3
  repeat (first|refine Wa ?_|refine Wb ?_|refine Wc ?_|refine Wd ?_|refine We rfl ?_|refine Wf (by first|exact Va|exact Vb|exact Vm|exact Vq) rfl ?_)
  refine JC.test (fun h5 => ?_) (fun h5 => ?_)
  · have e2 : storeT b room c = ([], (putCommit c).2) := if_neg h5
    rw [e2]
    repeat (first|refine Wa ?_|refine Wb ?_|refine Wc ?_|refine Wd ?_|refine We rfl ?_|refine Wf (by first|exact Va|exact Vb) rfl ?_|refine Ws ?_|refine Wt ?_)
    exact CT.done (none, 0) rfl (fun w ho => ((ho.ent : Hold _ _ [] w).bufNil : Hold _ _ [.res (buf (α := UInt8) none 0 5 [])] w))
  · have e2 : storeT b room c = writeT b room (putCommit c).1 := if_pos (by omega)
    rw [e2]
    repeat (first|refine Wa ?_|refine Wb ?_|refine Wc ?_|refine We rfl ?_|refine Wf (by exact Va) rfl ?_|refine Wl ?_)
    refine JR.call1 (B := fun y : Option Addr × Nat => .res (buf y.1 y.2 5 (writeT b room (putCommit c).1).1)) rfl (fun w1 hw => write_log w1 _ a a3 k c3 b (putCommit c).1 room (hw.get (A := sl a k b)) (hw.get (A := sl a3 c3 (putCommit c).1)) hb) ?_
    rintro ⟨a6, c6⟩
    dsimp only
    repeat (first|refine Wa ?_|refine Wd ?_|refine We rfl ?_|refine Wf (by first|exact Vb|exact Vq) rfl ?_|refine Ws ?_)
    exact CT.done (a6, c6) rfl (fun w ho => ho.ent)
noncomputable def readStep (b : List UInt8) : Option (List UInt8 × List UInt8) :=
  if (getN b).2 = 0 ∨ 4000 < (getN b).1 ∨ b.length < (getN b).2 + (getN b).1 + 4 then none
  else if quadL ((b.drop (getN b).2).take (getN b).1) = (b.drop ((getN b).2 + (getN b).1)).take 4 then some ((b.drop (getN b).2).take (getN b).1, b.drop ((getN b).2 + (getN b).1 + 4)) else none
theorem readStep_some {b x r : List UInt8} (h : readStep b = some (x, r)) : x.length ≤ 4000 ∧ b = frameL x ++ r := by
  unfold readStep at h
  split at h
  · cases h
  · rename_i h0
    split at h
    · rename_i hq
      cases h
      obtain ⟨h1, h2, h3, h4⟩ := getN_some (b := b) (by omega)
      have hl : ((b.drop (getN b).2).take (getN b).1).length = (getN b).1 := by rw [List.length_take, List.length_drop]; omega
      refine ⟨by rw [hl]; omega, ?_⟩
      unfold frameL
      rw [hl, hq]
      have e1 : b.drop ((getN b).2 + (getN b).1 + 4) = (b.drop ((getN b).2 + (getN b).1)).drop 4 := by rw [List.drop_drop]
      have e2 : b.drop ((getN b).2 + (getN b).1) = (b.drop (getN b).2).drop (getN b).1 := by rw [List.drop_drop]
      rw [e1, List.append_assoc _ (List.take 4 _), List.take_append_drop, e2, List.append_assoc, List.take_append_drop]
      exact h3
    · cases h
theorem readStep_frame {x : List UInt8} (h : x.length ≤ 4000) (r : List UInt8) : readStep (frameL x ++ r) = some (x, r) := by
  have hN : getN (frameL x ++ r) = (x.length, (numL x.length).length) := by
    unfold frameL
    rw [List.append_assoc, List.append_assoc]
    exact getN_append (by omega) _
  have hql := quadL_length x
  have d1 : (frameL x ++ r).drop (numL x.length).length = x ++ (quadL x ++ r) := by
    unfold frameL
    rw [List.append_assoc, List.append_assoc, List.drop_left']
    rfl
  have d2 : (frameL x ++ r).drop ((numL x.length).length + x.length) = quadL x ++ r := by
    rw [← List.drop_drop, d1, List.drop_left']
    rfl
  have d3 : (frameL x ++ r).drop ((numL x.length).length + x.length + 4) = r := by
    rw [← List.drop_drop, d2, List.drop_left' hql]
  have hp := numL_pos x.length
  unfold readStep
  rw [hN]
  dsimp only
  rw [if_neg (by rw [List.length_append, frameL_length]; omega), d1, d2, d3, List.take_left' rfl, List.take_left' hql, if_pos rfl]
theorem readStep_lt {b x r : List UInt8} (h : readStep b = some (x, r)) : r.length + 5 ≤ b.length := by
  obtain ⟨_, rfl⟩ := readStep_some h
  rw [List.length_append, frameL_length]
  have := numL_pos x.length
  omega
noncomputable def readF : Nat → List UInt8 → List (List UInt8)
  | 0, _ => []
  | f + 1, b => match readStep b with | none => [] | some q => q.1 :: readF f q.2
noncomputable def readL (b : List UInt8) : List (List UInt8) := readF b.length b
theorem readF_eq : ∀ (f g : Nat) (b : List UInt8), b.length ≤ f → b.length ≤ g → readF f b = readF g b
  | 0, 0, _, _, _ => rfl
  | 0, g + 1, b, h, _ => by
    have h0 : b = [] := List.eq_nil_of_length_eq_zero (by omega)
    subst h0
    unfold readF
    cases hs : readStep [] with
    | none => rfl
    | some q => have := readStep_lt (x := q.1) (r := q.2) hs; simp at this
  | f + 1, 0, b, _, h => by
    have h0 : b = [] := List.eq_nil_of_length_eq_zero (by omega)
    subst h0
    unfold readF
    cases hs : readStep [] with
    | none => rfl
    | some q => have := readStep_lt (x := q.1) (r := q.2) hs; simp at this
  | f + 1, g + 1, b, hf, hg => by
    unfold readF
    cases hs : readStep b with
    | none => rfl
    | some q =>
      have := readStep_lt (x := q.1) (r := q.2) hs
      dsimp only
      rw [readF_eq f g q.2 (by omega) (by omega)]
theorem readL_none {b : List UInt8} (h : readStep b = none) : readL b = [] := by
  unfold readL
  cases hl : b.length with
  | zero => rfl
  | succ f => unfold readF; rw [h]
theorem readL_some {b x r : List UInt8} (h : readStep b = some (x, r)) : readL b = x :: readL r := by
  have hlt := readStep_lt h
  unfold readL
  cases hl : b.length with
  | zero => omega
  | succ f =>
    rw [readF, h]
    dsimp only
    rw [readF_eq f r.length r (by omega) (Nat.le_refl _)]
def framesL (l : List (List UInt8)) : List UInt8 := (l.map frameL).flatten
theorem framesL_append (l m : List (List UInt8)) : framesL (l ++ m) = framesL l ++ framesL m := by simp [framesL]
theorem framesL_one (x : List UInt8) : framesL [x] = frameL x := by simp [framesL]
theorem framesL_cons (x : List UInt8) (l : List (List UInt8)) : framesL (x :: l) = frameL x ++ framesL l := by simp [framesL]
noncomputable def readEnd (b : List UInt8) : Nat := (framesL (readL b)).length
end Ab
end Go.Proofs.YtdgeffphifgflaaGreat
namespace Go.Proofs.YtdgeffphifgflaaGreat
namespace Ab
open Go Go.RowKit
set_option linter.unusedVariables false
set_option linter.unusedSimpArgs false
section
variable {Q : Cont} {e : E} {Γ : List Fact}
def jumpTo (l : Nat) (J : E → List Fact → Prop) (Q : Cont) : Cont
  | .goto l', e, Γ => l' = l ∧ J e Γ
  | x, e, Γ => Q x e Γ
theorem CT.jump {l : Nat} {J : E → List Fact → Prop} (h : J e Γ) : jumpTo l J Q (.goto l) e Γ := ⟨rfl, h⟩
theorem CT.jumpRet {l : Nat} {J : E → List Fact → Prop} (h : Q .ret e Γ) : jumpTo l J Q .ret e Γ := h
end
section
variable {P : Program} {n : Nn} {w0 : World} {F : Nat → Prop} {Q : Cont} {e : E} {Γ : List Fact} [Dr]
theorem JC.scope {A : Type} {c rest : Code} (l : Nat) (St : A → E) (Me : A → List Fact) (I : A → Prop) (μ : A → Nat) (x0 : A) (h0 : I x0) (hf : findLabel c l = some (.seq .skip rest))
    (round : ∀ x, I x → JC P n w0 F rest (jumpTo l (fun e Γ => ∃ y, I y ∧ μ y < μ x ∧ Ent e Γ (St y) (Me y)) Q) (St x) (Me x))
    (first : (∀ e Γ, Ent e Γ (St x0) (Me x0) → JC P n w0 F rest (jumpTo l (fun e Γ => ∃ y, I y ∧ Ent e Γ (St y) (Me y)) Q) e Γ) → JC P n w0 F c (jumpTo l (fun e Γ => ∃ y, I y ∧ Ent e Γ (St y) (Me y)) Q) e Γ) : JC P n w0 F (.scope c) Q e Γ := by
  classical
  intro a w fr ho
  let R : Nat → Act → World → Prop := fun m a w => ∃ x, I x ∧ μ x = m ∧ Fr n (St x) a ∧ Hold w0 F (Me x) w
  let μ' : Act → World → Nat := fun a w => if h : ∃ m, R m a w then Classical.choose (least _ h) else 0
  have hμ' : ∀ a w (h : ∃ m, R m a w), R (μ' a w) a w ∧ ∀ k, R k a w → μ' a w ≤ k := by
    intro a w h
    have : μ' a w = Classical.choose (least _ h) := dif_pos h
    rw [this]; exact Classical.choose_spec (least _ h)
  have go : ∀ x, I x → ∀ a w, Fr n (St x) a → Hold w0 F (Me x) w → rest.wp P (Exit.jump l (fun a w => (∃ m, R m a w) ∧ μ' a w < μ x) (up n w0 F Q)) a w := by
    intro x hx a w fr ho
    refine wp_mono (round x hx a w fr ho) ?_
    rintro z a1 w1 ⟨e1, Γ1, hq, fr1, ho1⟩
    cases z with
    | goto l' =>
      obtain ⟨rfl, y, hy, hm, hent⟩ := hq
      have hR : R (μ y) a1 w1 := ⟨y, hy, rfl, hent.slots n a1 fr1, hent.facts w0 F w1 ho1⟩
      refine ⟨rfl, ⟨_, hR⟩, ?_⟩
      have := (hμ' a1 w1 ⟨_, hR⟩).2 _ hR
      omega
    | _ => exact ⟨e1, Γ1, hq, fr1, ho1⟩
  refine wp_scope_jumps l (fun a w => ∃ m, R m a w) μ' hf ?_ ?_
  · refine wp_mono (first (fun e Γ hent => ?_) a w fr ho) ?_
    · refine ((round x0 h0).mono ?_).weaken (fun a fr => hent.slots n a fr) (fun w ho => hent.facts w0 F w ho)
      intro z e1 Γ1 hz
      cases z with
      | goto l' => exact ⟨hz.1, let ⟨y, hy, _, h⟩ := hz.2; ⟨y, hy, h⟩⟩
      | _ => exact hz
    · rintro z a1 w1 ⟨e1, Γ1, hq, fr1, ho1⟩
      cases z with
      | goto l' =>
        obtain ⟨rfl, y, hy, hent⟩ := hq
        exact ⟨rfl, _, y, hy, rfl, hent.slots n a1 fr1, hent.facts w0 F w1 ho1⟩
      | _ => exact ⟨e1, Γ1, hq, fr1, ho1⟩
  · intro a1 w1 hR
    obtain ⟨⟨x, hx, hxm, fr1, ho1⟩, _⟩ := hμ' a1 w1 hR
    refine wp_seq (wp_skip ?_)
    have := go x hx a1 w1 fr1 ho1
    rw [hxm] at this
    exact this
end
end Ab
end Go.Proofs.YtdgeffphifgflaaGreat
namespace Go.Proofs.YtdgeffphifgflaaGreat
namespace Ab
open Go Go.RowKit
set_option linter.unusedVariables false
set_option linter.unusedSimpArgs false
set_option synthInstance.maxSize 4000
set_option synthInstance.maxHeartbeats 400000
attribute [local irreducible] JC JO JR JQ andThen inBlock OpV Gives retTo JM JS
attribute [local irreducible] JX
instance {Γ : List Fact} {a : Option Addr} {c : Nat} {L : List UInt8} [h : Mem (sl a c L) Γ] : Typed Γ [.slice a L.length c] L := ⟨(a, c), rfl, fun A hA => by
  simp only [Cell.facts, List.mem_singleton] at hA
  subst hA; exact h.ok⟩
set_option maxHeartbeats 4000000 in
theorem read_log (w : World) (F : Nat → Prop) (a : Option Addr) (c : Nat) (b : List UInt8) (h : (sl a c b).holds F w) (hb : b.length ≤ 1048576) :
    GivesSlT Tryz.prog 122 [.slice a b.length c] w F (readL b) [.int .i64 (readEnd b : Int)] := by
  refine gives_of Tryz.func122 rfl Tryz.ntmps122 rfl rfl [.st (sl a c b)] (.start1 h) ?_
  repeat (first|refine Wa ?_|refine Wb ?_|refine Wc ?_|refine Wd ?_|refine We rfl ?_|refine Wf (by exact Vb) rfl ?_)
  refine JC.scope (A := List (List UInt8) × List UInt8 × Option Addr × Nat) 0 (fun x => [(0, .slice a b.length c), (4, .slice x.2.2.1 x.1.length x.2.2.2), (5, .int .i64 ((framesL x.1).length : Int))])
    (fun x => [.st (sl a c b), .res (buf x.2.2.1 x.2.2.2 22 x.1)]) (fun x => b = framesL x.1 ++ x.2.1 ∧ readL b = x.1 ++ readL x.2.1) (fun x => x.2.1.length) ([], b, none, 0) ⟨rfl, rfl⟩ (by rfl) ?_ ?_
  · rintro ⟨l, R, p, q⟩ ⟨hb1, hb2⟩
    dsimp only at hb1 hb2 ⊢
    have hbl : b.length = (framesL l).length + R.length := by rw [hb1, List.length_append]
    have hdrop : b.drop (framesL l).length = R := by rw [hb1]; exact List.drop_left' rfl
    repeat (first|refine Wb ?_|refine Wc ?_|refine We rfl ?_|refine Wf (by exact Va) rfl ?_)
    refine JR.sliceFrom (L := b) (k := (framesL l).length) rfl rfl (by omega) ?_
    rw [hdrop]
    intro a1 c1
    repeat (first|refine Wa ?_|refine Wb ?_|refine Wc ?_|refine Wd ?_|refine We rfl ?_|refine Wf (by first|exact Va|exact Vb) rfl ?_)
    refine JR.callV rfl (fun w1 hw => get_enc w1 _ a1 c1 R (hw.get (A := sl a1 c1 R))) ?_
    have hk10 := getN_le R
    have hn64 := getN_lt R
    repeat (first|refine Wa ?_|refine Wb ?_|refine Wc ?_|refine Wd ?_|refine We rfl ?_|refine Wf (by first|exact Va|exact Vb|exact Vl|exact Vq) rfl ?_)
    refine JO.test 21 (fun h0 => ?_) (fun h0 => ?_)
    · have hs : readStep R = none := if_pos (.inl (by omega))
      have hL : readL b = l := by rw [hb2, readL_none hs, List.append_nil]
      have hE : readEnd b = (framesL l).length := by unfold readEnd; rw [hL]
      rw [hL, hE]
      repeat (first|refine Wa ?_|refine Wb ?_|refine Wc ?_|refine Wd ?_|refine We rfl ?_|refine Wf (by first|exact Va|exact Vb|exact Vi) rfl ?_|refine Wj ?_|refine Ws ?_|refine Wt ?_|refine Wv rfl rfl ?_)
      refine CT.jumpRet ?_
      exact CT.done (p, q) rfl (fun w ho => (ho.ent : Hold _ _ [.res (buf p q 22 l)] w).pub)
    repeat (first|refine We rfl ?_|refine Wf (by first|exact Va|exact Vj|exact Vo) rfl ?_)
    refine JO.test 25 (fun h1 => ?_) (fun h1 => ?_)
    · have hs : readStep R = none := if_pos (.inr (.inl (by omega)))
      have hL : readL b = l := by rw [hb2, readL_none hs, List.append_nil]
      have hE : readEnd b = (framesL l).length := by unfold readEnd; rw [hL]
      rw [hL, hE]
      repeat (first|refine Wa ?_|refine Wb ?_|refine Wc ?_|refine Wd ?_|refine We rfl ?_|refine Wf (by first|exact Va|exact Vb|exact Vi) rfl ?_|refine Wj ?_|refine Ws ?_|refine Wt ?_|refine Wv rfl rfl ?_)
      refine CT.jumpRet ?_
      exact CT.done (p, q) rfl (fun w ho => (ho.ent : Hold _ _ [.res (buf p q 22 l)] w).pub)
    repeat (first|refine We rfl ?_|refine Wf (by first|exact Va|exact Vf) rfl ?_)
    refine Wf OpV.conv rfl ?_
    refine JO.reslot 30 (.int .i64 ((getN R).1 : Int)) (by rw [wrap_in (by omega)]) ?_
    repeat (first|refine Wa ?_|refine Wd ?_|refine We rfl ?_|refine Wf (by first|exact Vg|exact Vj|exact Vs (by omega)) rfl ?_)
    refine JC.test (fun h2 => ?_) (fun h2 => ?_)
    · have hs : readStep R = none := if_pos (.inr (.inr (by omega)))
      have hL : readL b = l := by rw [hb2, readL_none hs, List.append_nil]
      have hE : readEnd b = (framesL l).length := by unfold readEnd; rw [hL]
      rw [hL, hE]
      repeat (first|refine Wa ?_|refine Wb ?_|refine Wc ?_|refine Wd ?_|refine We rfl ?_|refine Wf (by first|exact Va|exact Vb) rfl ?_|refine Ws ?_|refine Wt ?_)
      refine CT.jumpRet ?_
      exact CT.done (p, q) rfl (fun w ho => (ho.ent : Hold _ _ [.res (buf p q 22 l)] w).pub)
    repeat (first|refine Wa ?_|refine Wb ?_|refine Wl ?_)
    generalize hk : (getN R).2 = k at *
    generalize hn : (getN R).1 = n at *
    have hkn : k + n + 4 ≤ R.length := by omega
    refine JC.drawP mixed ?_
    refine JP.pure 0 rfl (by kernel_rfl) rfl (fun _ => Va) rfl rfl ?_
    refine JP.pure 1 rfl (by kernel_rfl) rfl (fun _ => Va) rfl rfl ?_
    refine JP.pure 2 rfl (by kernel_rfl) rfl (fun _ => Va) rfl rfl ?_
    refine JP.pure 3 rfl (by kernel_rfl) rfl (fun _ => Va) rfl rfl ?_
    refine JP.pure 4 rfl (by kernel_rfl) rfl (fun _ => OpV.conv) rfl rfl ?_
    refine JP.reslot 41 (.int .i64 (n : Int)) (by rw [wrap_in (by omega)]) ?_
    refine JP.pure 5 rfl (by kernel_rfl) rfl (fun _ => Vs (k := k) (m := n) (by omega)) rfl rfl ?_
    refine JP.take 6 [.st (sl a1 c1 R)] rfl (by kernel_rfl) rfl (OpV.sliceMidA (l := k) (h := k + n) (s := 1) rfl (fun w1 ho => ⟨by omega, by have := (Hold.get (A := sl a1 c1 R) ho).1; omega⟩)) rfl rfl ?_
    refine JP.pure 7 rfl (by kernel_rfl) rfl (fun _ => Va) rfl rfl ?_
    refine JP.pure 8 rfl (by kernel_rfl) rfl (fun _ => Va) rfl rfl ?_
    refine JP.pure 9 rfl (by kernel_rfl) rfl (fun _ => Va) rfl rfl ?_
    refine JP.pure 10 rfl (by kernel_rfl) rfl (fun _ => OpV.conv) rfl rfl ?_
    refine JP.reslot 47 (.int .i64 (n : Int)) (by rw [wrap_in (by omega)]) ?_
    refine JP.pure 11 rfl (by kernel_rfl) rfl (fun _ => Vs (k := k) (m := n) (by omega)) rfl rfl ?_
    refine JP.take 12 [.st (sl a1 c1 R)] rfl (by kernel_rfl) rfl (OpV.sliceFromA (l := k + n) (s := 1) rfl (fun w1 ho => ⟨by omega, by have := (Hold.get (A := sl a1 c1 R) ho).1; omega⟩)) rfl rfl ?_
    have hxl : ((R.drop k).take n).length = n := by rw [List.length_take, List.length_drop]; omega
    have htl : (R.drop (k + n)).length = R.length - (k + n) := List.length_drop
    refine JP.reslot 43 (.slice (fromA a1 c1 k 1) ((R.drop k).take n).length (c1 - k)) (by rw [hxl]; congr 1; omega) ?_
    refine JP.reslot 49 (.slice (fromA a1 c1 (k + n) 1) (R.drop (k + n)).length (c1 - (k + n))) (by rw [htl]) ?_
    refine JP.pure 13 rfl (by kernel_rfl) rfl (fun _ => Vb) rfl rfl ?_
    refine JP.pure 14 rfl (by kernel_rfl) rfl (fun _ => Vb) rfl rfl ?_
    refine JP.nil (by kernel_rfl) ?_
    refine Wa ?_
    refine JC.more (Γ' := .st (sl (fromA a1 c1 k 1) (c1 - k) ((R.drop k).take n)) :: .st (sl (fromA a1 c1 (k + n) 1) (c1 - (k + n)) (R.drop (k + n))) :: [.st (sl a c b), .res (buf p q 22 l)]) (fun w1 ho => ?_) ?_
    · have e2 := ho.add (sl_from (k := k + n) (ho.get (A := sl a1 c1 R)) (by omega))
      exact (e2.add (sl_mid (l := k) (m := n) (e2.get (A := sl a1 c1 R)) (by omega))).ent
    generalize hx : (R.drop k).take n = x at hxl ⊢
    generalize htd : R.drop (k + n) = T at htl ⊢
    have h4 : 4 ≤ T.length := by omega
    generalize fromA a1 c1 k 1 = ax
    generalize fromA a1 c1 (k + n) 1 = at1
    generalize c1 - k = cx
    generalize c1 - (k + n) = ct
    refine JC.know (fun w1 ho => sl_some (ho.get (A := sl at1 ct T)) (by intro h; rw [h] at h4; simp at h4)) ?_
    rintro ⟨bt, ot, rfl⟩
    obtain ⟨t0, t1, t2, t3, T', hT⟩ : ∃ t0 t1 t2 t3 T', T = t0 :: t1 :: t2 :: t3 :: T' := by
      match T, h4 with
      | t0 :: t1 :: t2 :: t3 :: T', _ => exact ⟨t0, t1, t2, t3, T', rfl⟩
    have hT4 : T.take 4 = [t0, t1, t2, t3] := by rw [hT]; rfl
    refine JC.more (Γ' := .st (ro bt ot [byteV t0, byteV t1, byteV t2, byteV t3]) :: .st (sl (some ⟨bt, ot, none⟩) ct T) :: .st (sl ax cx x) :: [.st (sl a c b), .res (buf p q 22 l)]) (fun w1 ho => ?_) ?_
    · have e1 := sl_take (k := 4) (c' := ct) (ho.get (A := sl (some ⟨bt, ot, none⟩) ct T)) h4 ⟨by have := (ho.get (A := sl (some ⟨bt, ot, none⟩) ct T)).1; omega, Nat.le_refl _⟩
      have e2 := sl_ro e1 (by rw [hT4]; simp)
      rw [hT4] at e2
      exact (ho.add (A := ro bt ot [byteV t0, byteV t1, byteV t2, byteV t3]) e2).ent
    refine Wb ?_
    refine Wb ?_
    refine JC.drawP mixed ?_
    refine JP.pure 0 rfl (by kernel_rfl) rfl (fun _ => Va) rfl rfl ?_
    refine JP.takeCall 1 [.st (sl ax cx x)] rfl (by kernel_rfl) rfl (fun w1 hw => sum_log w1 _ ax cx x hw.get (by omega)) rfl rfl ?_
    refine JP.pure 2 rfl (by kernel_rfl) rfl (fun _ => Va) rfl rfl ?_
    refine JP.take 3 [.st (sl (some ⟨bt, ot, none⟩) ct T)] rfl (by kernel_rfl) rfl (OpV.sliceToV (k := 4) (fun w1 ho => by have := (Hold.get (A := sl (some ⟨bt, ot, none⟩) ct T) ho).1; omega)) rfl rfl ?_
    refine JP.pure 4 rfl (by kernel_rfl) rfl (fun _ => OpV.arrayPtrV (by decide)) rfl rfl ?_
    refine JP.take 5 [.st (ro bt ot [byteV t0, byteV t1, byteV t2, byteV t3])] rfl (by kernel_rfl) rfl Vc rfl rfl ?_
    refine JP.pure 6 rfl (by kernel_rfl) rfl (fun _ => OpV.neqArr (quadL x) [t0, t1, t2, t3] (quadL_length x) rfl rfl rfl) rfl rfl ?_
    refine JP.nil (by kernel_rfl) ?_
    repeat (refine Wa ?_)
    refine JC.test (fun h5 => ?_) (fun h5 => ?_)
    · have hs : readStep R = none := by
        unfold readStep
        rw [hk, hn, hx, htd, if_neg (by omega), if_neg (by rw [hT4]; simpa using h5)]
      have hL : readL b = l := by rw [hb2, readL_none hs, List.append_nil]
      have hE : readEnd b = (framesL l).length := by unfold readEnd; rw [hL]
      rw [hL, hE]
      repeat (first|refine Wa ?_|refine Wb ?_|refine Wc ?_|refine Wd ?_|refine We rfl ?_|refine Wf (by first|exact Va|exact Vb) rfl ?_|refine Ws ?_|refine Wt ?_)
      refine CT.jumpRet ?_
      exact CT.done (p, q) rfl (fun w ho => (ho.ent : Hold _ _ [.res (buf p q 22 l)] w).pub)
    · have hs : readStep R = some (x, R.drop (k + n + 4)) := by
        unfold readStep
        rw [hk, hn, hx, htd, if_neg (by omega), if_pos (by rw [hT4]; simpa using h5)]
      have hlt := readStep_lt hs
      have hL2 : readL b = (l ++ [x]) ++ readL (R.drop (k + n + 4)) := by rw [hb2, readL_some hs]; simp
      have hR2 : b = framesL (l ++ [x]) ++ R.drop (k + n + 4) := by rw [hb1, framesL_append, framesL_one, List.append_assoc, ← (readStep_some hs).2]
      have hfl : (framesL (l ++ [x])).length = (framesL l).length + (k + n + 4) := by
        have := congrArg List.length hR2
        rw [List.length_append, List.length_drop] at this
        omega
      have hll : l.length ≤ b.length := by
        have : ∀ l : List (List UInt8), l.length ≤ (framesL l).length := by
          intro l
          induction l with
          | nil => simp
          | cons y l ih => rw [framesL_cons, List.length_append, frameL_length, List.length_cons]; omega
        have := this l
        omega
      repeat (first|refine Wa ?_|refine Wb ?_|refine Wc ?_|refine We rfl ?_|refine Wf (by exact Va) rfl ?_|refine Wl ?_)
      refine JR.callBuf rfl (fun w1 hw => clone_bytes w1 _ ax cx x (hw.get (A := sl ax cx x)) (by omega)) ?_
      intro a5 c5
      refine JO.more (fun w ho => ho.pub) ?_
      repeat (first|refine We rfl ?_|(refine Ww rfl ⟨rfl, by decide, by decide, by decide⟩ ?_; intro _))
      rename_i bl
      refine JR.append1 (L := l) (u := x) rfl (by exact ⟨rfl, rfl, by decide⟩) (by omega) ?_
      intro a6 c6
      repeat (first|refine Wa ?_|refine Wb ?_|refine Wc ?_|refine Wd ?_|refine We rfl ?_|refine Wf (by first|exact Va|exact Vb) rfl ?_)
      refine Wf OpV.conv rfl ?_
      refine JO.reslot 67 (.int .i64 (n : Int)) (by rw [wrap_in (by omega)]) ?_
      repeat (first|refine Wa ?_|refine Wd ?_|refine We rfl ?_|refine Wf (by first|exact Vb|exact Vs (by omega)) rfl ?_)
      refine JC.goto ?_
      refine CT.jump ⟨(l ++ [x], R.drop (k + n + 4), a6, c6), ⟨hR2, hL2⟩, by show (R.drop (k + n + 4)).length < _; omega, ?_⟩
      show Ent _ _ [(0, .slice a b.length c), (4, .slice a6 (l ++ [x]).length c6), (5, .int .i64 ((framesL (l ++ [x])).length : Int))] [.st (sl a c b), .res (buf a6 c6 22 (l ++ [x]))]
      rw [hfl]
      exact inferInstance
  · intro hrest
    refine JC.more (Γ' := .res (buf (α := List UInt8) none 0 22 []) :: [.st (sl a c b)]) (fun w ho => ho.bufNil) ?_
    repeat (first|refine Wa ?_|refine Wb ?_|refine Wc ?_|refine Wd ?_|refine We rfl ?_|refine Wf (by exact Vb) rfl ?_)
    refine JC.label ?_
    refine Wa ?_
    exact hrest _ _ (show Ent _ _ [(0, .slice a b.length c), (4, .slice none 0 0), (5, .int .i64 0)] [.st (sl a c b), .res (buf (α := List UInt8) none 0 22 [])] from inferInstance)
end Ab
end Go.Proofs.YtdgeffphifgflaaGreat
namespace Go.Proofs.YtdgeffphifgflaaGreat
namespace Ab
open Go Go.RowKit
set_option linter.unusedVariables false
set_option linter.unusedSimpArgs false
set_option synthInstance.maxSize 4000
set_option synthInstance.maxHeartbeats 400000
attribute [local irreducible] JC JO JR JQ andThen inBlock OpV Gives retTo JM JS
theorem field_kind3 (f1 f2 f3 : FuncId) (w : World) : (Instr.field 197 (.agg ⟨[fnV f1, fnV f2, fnV f3]⟩) 2).run Tryz.prog w = .ok (fnV f3) w := by
  have h1 := run_und (P := Tryz.prog) (t := 197) w
  unfold Instr.field
  rw [Sem.run_bind, h1]
  simp [asAgg, part, isAgg, Sem.run_bind]
section
variable {w0 w : World} {F : Nat → Prop} {Γ : List Fact} {bo : Nat} {a : Option Addr} {c : Nat} {b : List UInt8} {o : Op_}
theorem kinds3 (ho : Hold w0 F (.own bo 27 [.int .i64 o.kind, .string o.key, .string o.elem, .int .i64 o.n] :: .st (sl a c b) :: Γ) w) :
    Calls Tryz.prog 219 ⟨[.pointer (some ⟨bo, 0, none⟩), .slice a b.length c]⟩ w fun x w' => ∃ y : Option Addr × Nat, x = .returned (.tuple ⟨[.slice y.1 (b.drop (getN b).2).length y.2, .bool (decide (0 < (getN b).2))]⟩) ∧ Hold w0 F (.own bo 27 [.int .i64 o.kind, .string o.key, .string o.elem, .int .i64 (unfoldN (getN b).1)] :: .st (sl y.1 y.2 (b.drop (getN b).2)) :: Γ) w' := by
  have hkl := (getN_le b).1
  have hn64 := getN_lt b
  refine calls_of (v := fun y : Option Addr × Nat => .tuple ⟨[.slice y.1 (b.drop (getN b).2).length y.2, .bool (decide (0 < (getN b).2))]⟩) (B := fun y => .own bo 27 [.int .i64 o.kind, .string o.key, .string o.elem, .int .i64 (unfoldN (getN b).1)] :: .st (sl y.1 y.2 (b.drop (getN b).2)) :: Γ) Tryz.func219 rfl Tryz.ntmps219 rfl rfl _ ho ?_
  repeat (first|refine Wa ?_|refine Wb ?_|refine Wc ?_|refine Wd ?_|refine We rfl ?_|refine Wf (by first|exact Va|exact Vb) rfl ?_)
  refine JR.callV rfl (fun w1 hw => get_enc w1 _ a c b hw.get) ?_
  repeat (first|refine Wa ?_|refine Wb ?_|refine Wc ?_|refine Wd ?_|refine We rfl ?_|refine Wf (by first|exact Va|exact Vb|exact Vq) rfl ?_)
  refine JR.callV rfl (fun w1 hw => unfold_enc w1 _ (getN b).1 hn64) ?_
  repeat (refine We rfl ?_)
  refine Wf OpV.nilCheck rfl ?_
  repeat (first|refine Wa ?_|refine Wb ?_|refine Wc ?_|refine Wd ?_|refine We rfl ?_|refine Wf (by first|exact Va|exact Vd) rfl ?_|refine Wi ?_)
  refine JR.sliceFrom (L := b) (k := (getN b).2) rfl rfl hkl ?_
  intro a2 c2
  repeat (first|refine Wa ?_|refine Wd ?_|refine We rfl ?_|refine Wf (by first|exact Va|exact Vb|exact Vo) rfl ?_|refine Ws ?_)
  refine CT.done (a2, c2) ?_ (fun w ho => ho.ent)
  simp [packed]
theorem kinds6 (hl : b.length ≤ 34359738368) (ho : Hold w0 F (.own bo 27 [.int .i64 o.kind, .string o.key, .string o.elem, .int .i64 o.n] :: .st (sl a c b) :: Γ) w) :
    Calls Tryz.prog 223 ⟨[.pointer (some ⟨bo, 0, none⟩), .slice a b.length c]⟩ w fun x w' => ∃ y : Option Addr × Nat, x = .returned (.tuple ⟨[.slice y.1 (cutT b 8).2.1.length y.2, .bool (cutT b 8).2.2]⟩) ∧ Hold w0 F (.own bo 27 [.int .i64 o.kind, .string o.key, .string (cutT b 8).1, .int .i64 o.n] :: .st (sl y.1 y.2 (cutT b 8).2.1) :: Γ) w' := by
  refine calls_of (v := fun y : Option Addr × Nat => .tuple ⟨[.slice y.1 (cutT b 8).2.1.length y.2, .bool (cutT b 8).2.2]⟩) (B := fun y => .own bo 27 [.int .i64 o.kind, .string o.key, .string (cutT b 8).1, .int .i64 o.n] :: .st (sl y.1 y.2 (cutT b 8).2.1) :: Γ) Tryz.func223 rfl Tryz.ntmps223 rfl rfl _ ho ?_
  repeat (first|refine Wa ?_|refine Wb ?_|refine Wc ?_|refine Wd ?_|refine We rfl ?_|refine Wf (by first|exact Va|exact Vb) rfl ?_)
  refine JR.call1 (B := fun y : Option Addr × Nat => .st (sl y.1 y.2 (cutT b 8).2.1)) rfl (fun w1 hw => cut_enc w1 _ a c b 8 hw.get hl (by decide)) ?_
  rintro ⟨a2, c2⟩
  dsimp only
  repeat (first|refine We rfl ?_|refine Wf (by first|exact Va|exact Vq) rfl ?_)
  refine Wf OpV.nilCheck rfl ?_
  repeat (first|refine Wa ?_|refine Wb ?_|refine Wc ?_|refine Wd ?_|refine We rfl ?_|refine Wf (by first|exact Va|exact Vb|exact Vd) rfl ?_|refine Wi ?_|refine Ws ?_)
  exact CT.done (a2, c2) rfl (fun w ho => ho.ent)
end
noncomputable def restOp (k : Nat) (key : ByteArray) (b : List UInt8) : Op_ × List UInt8 × Bool :=
  if k = 0 then (⟨0, key, .empty, unfoldN (getN b).1⟩, b.drop (getN b).2, decide (0 < (getN b).2)) else (⟨(k : Int), key, (cutT b 8).1, 0⟩, (cutT b 8).2.1, (cutT b 8).2.2)
noncomputable def getOp (b : List UInt8) : Op_ × List UInt8 × Int :=
  if (getN b).2 = 0 ∨ 4 ≤ (getN b).1 then (op0, [], 2) else
  if (cutT (b.drop (getN b).2) 8).2.2 = false then (op0, [], 2) else
  if (restOp (getN b).1 (cutT (b.drop (getN b).2) 8).1 (cutT (b.drop (getN b).2) 8).2.1).2.2 = true ∧ opMay (restOp (getN b).1 (cutT (b.drop (getN b).2) 8).1 (cutT (b.drop (getN b).2) 8).2.1).1 = true then
    ((restOp (getN b).1 (cutT (b.drop (getN b).2) 8).1 (cutT (b.drop (getN b).2) 8).2.1).1, (restOp (getN b).1 (cutT (b.drop (getN b).2) 8).1 (cutT (b.drop (getN b).2) 8).2.1).2.1, 0) else (op0, [], 2)
theorem cutT_len (b : List UInt8) (m : Nat) : (cutT b m).2.1.length ≤ b.length := by
  unfold cutT
  split
  · simp
  · simp only [List.length_drop]; omega
theorem restOp_len (k : Nat) (key : ByteArray) (b : List UInt8) : (restOp k key b).2.1.length ≤ b.length := by
  unfold restOp
  split
  · simp only [List.length_drop]; omega
  · exact cutT_len b 8
theorem restOp_texts (k : Nat) (key : ByteArray) (b : List UInt8) (h : key.size ≤ 8) : (restOp k key b).1.key.size < 4611686018427387904 ∧ (restOp k key b).1.elem.size < 4611686018427387904 := by
  have := cutT_size b 8
  unfold restOp
  split
  · exact ⟨by show key.size < _; omega, (by decide : ByteArray.empty.size < 4611686018427387904)⟩
  · exact ⟨by show key.size < _; omega, by show (cutT b 8).1.size < _; omega⟩
theorem kinds_get (k : Nat) (h : k < 4) : ∃ (f1 f2 f3 : FuncId) (_ : Body Tryz.prog f3), (gotten kindsM (k : Int)).getD noneV = .agg ⟨[fnV f1, fnV f2, fnV f3]⟩ ∧
    ∀ (key : ByteArray) (b : List UInt8), b.length ≤ 34359738368 → ∀ (w0 w : World) (F : Nat → Prop) (Γ : List Fact) (bo : Nat) (a : Option Addr) (c : Nat),
      Hold w0 F (.own bo 27 [.int .i64 (k : Int), .string key, .string .empty, .int .i64 0] :: .st (sl a c b) :: Γ) w →
      Calls Tryz.prog f3 ⟨[.pointer (some ⟨bo, 0, none⟩), .slice a b.length c]⟩ w fun x w' => ∃ y : Option Addr × Nat, x = .returned (.tuple ⟨[.slice y.1 (restOp k key b).2.1.length y.2, .bool (restOp k key b).2.2]⟩) ∧
        Hold w0 F (.own bo 27 [.int .i64 (restOp k key b).1.kind, .string (restOp k key b).1.key, .string (restOp k key b).1.elem, .int .i64 (restOp k key b).1.n] :: .st (sl y.1 y.2 (restOp k key b).2.1) :: Γ) w' := by
  by_cases h0 : k = 0
  · subst h0
    refine ⟨_, _, 219, inferInstance, rfl, fun key b hl w0 w F Γ bo a c ho => ?_⟩
    have := kinds3 (o := ⟨0, key, .empty, 0⟩) ho
    simp only [restOp, if_true]
    exact this
  · refine ⟨221, 222, 223, inferInstance, ?_, fun key b hl w0 w F Γ bo a c ho => ?_⟩
    · obtain h1 | h1 | h1 : k = 1 ∨ k = 2 ∨ k = 3 := by omega
      · subst h1; rfl
      · subst h1; rfl
      · subst h1; rfl
    · have := kinds6 (o := ⟨(k : Int), key, .empty, 0⟩) hl ho
      simp only [restOp, if_neg h0]
      exact this
set_option maxHeartbeats 4000000 in
theorem get_ops (w : World) (F : Nat → Prop) (a : Option Addr) (c : Nat) (b : List UInt8) (h : (sl a c b).holds F w) (hl : b.length ≤ 34359738368) :
    Gives Tryz.prog 229 [.slice a b.length c] w F (fun y : Option Addr × Nat => .tuple ⟨[opV (getOp b).1, .slice y.1 (getOp b).2.1.length y.2, .int .i64 (getOp b).2.2]⟩) (fun y => [.st (sl y.1 y.2 (getOp b).2.1)]) := by
  have hkl := (getN_le b).1
  have hn64 := getN_lt b
  refine gives_of Tryz.func229 rfl Tryz.ntmps229 rfl rfl [.st (sl a c b)] (.start1 h) ?_
  repeat (first|refine Wa ?_|refine Wb ?_|refine Wc ?_|refine Wd ?_|refine We rfl ?_|refine Wf (by first|exact Va|exact Vb) rfl ?_|(refine Wg rfl ?_; intro _))
  rename_i b2
  refine JR.callV rfl (fun w1 hw => get_enc w1 _ a c b hw.get) ?_
  repeat (first|refine Wa ?_|refine Wb ?_|refine Wc ?_|refine Wd ?_|refine We rfl ?_|refine Wf (by first|exact Va|exact Vb|exact Vl|exact Vq) rfl ?_)
  refine JO.test 18 (fun h0 => ?_) (fun h0 => ?_)
  · have e : getOp b = (op0, [], 2) := by unfold getOp; rw [if_pos (.inl (by omega))]
    rw [e]
    repeat (first|refine Wa ?_|refine Wb ?_|refine Wc ?_|refine Wd ?_|refine We rfl ?_|refine Wf (by exact Vi) rfl ?_|refine Wj ?_|refine Wv rfl rfl ?_)
    refine Wf (OpV.build [.int .i64 0, .string .empty, .string .empty, .int .i64 0] (by kernel_rfl)) rfl ?_
    repeat (first|refine Wa ?_|refine Wd ?_|refine We rfl ?_|refine Wf (by exact Vb) rfl ?_|refine Wi ?_|refine Ws ?_|refine Wt ?_)
    exact CT.done (none, 0) rfl (fun w ho => (ho.ent : Hold _ _ [] w).add sl_nil)
  repeat (first|refine Wa ?_|refine Wd ?_|refine We rfl ?_|refine Wf (by first|exact Va|exact Vj|exact Vp) rfl ?_)
  refine JC.test (fun h1 => ?_) (fun h1 => ?_)
  · have e : getOp b = (op0, [], 2) := by unfold getOp; rw [if_pos (.inr (by omega))]
    rw [e]
    repeat (first|refine Wb ?_|refine Wc ?_|refine We rfl ?_)
    refine Wf (OpV.build [.int .i64 0, .string .empty, .string .empty, .int .i64 0] (by kernel_rfl)) rfl ?_
    repeat (first|refine Wa ?_|refine Wd ?_|refine We rfl ?_|refine Wf (by exact Vb) rfl ?_|refine Wi ?_|refine Ws ?_|refine Wt ?_)
    exact CT.done (none, 0) rfl (fun w ho => (ho.ent : Hold _ _ [] w).add sl_nil)
  obtain ⟨k, hk⟩ : ∃ k, k = (getN b).1 := ⟨_, rfl⟩
  have hk4 : k < 4 := by omega
  obtain ⟨B, hB⟩ : ∃ B, B = b.drop (getN b).2 := ⟨_, rfl⟩
  have hBl : B.length ≤ b.length := by rw [hB, List.length_drop]; omega
  have hg : getOp b = if (cutT B 8).2.2 = false then (op0, [], 2) else if (restOp k (cutT B 8).1 (cutT B 8).2.1).2.2 = true ∧ opMay (restOp k (cutT B 8).1 (cutT B 8).2.1).1 = true then ((restOp k (cutT B 8).1 (cutT B 8).2.1).1, (restOp k (cutT B 8).1 (cutT B 8).2.1).2.1, 0) else (op0, [], 2) := by
    rw [hk, hB]; unfold getOp; rw [if_neg (by omega)]
  obtain ⟨f1, f2, f3, hbody, hlook, hget⟩ := kinds_get k hk4
  rw [← hk]
  repeat (first|refine Wa ?_|refine Wb ?_|refine Wc ?_|refine We rfl ?_|refine Wf (by exact Va) rfl ?_|refine Wl ?_)
  refine Wf OpV.conv rfl ?_
  refine JO.reslot 24 (.int .i64 (k : Int)) (by rw [wrap_in (by omega)]) ?_
  repeat (refine We rfl ?_)
  refine Wf (OpV.build [.int .i64 (k : Int), .string .empty, .string .empty, .int .i64 0] (by kernel_rfl)) rfl ?_
  repeat (first|refine Wa ?_|refine Wb ?_|refine Wc ?_|refine Wd ?_|refine We rfl ?_|refine Wf (by exact Va) rfl ?_|(refine Wg rfl ?_; intro _)|refine Wi ?_)
  rename_i b7
  refine JR.sliceFrom (L := b) (k := (getN b).2) rfl rfl hkl ?_
  rw [← hB]
  intro a1 c1
  repeat (refine We rfl ?_)
  refine JR.call1 (B := fun y : Option Addr × Nat => .st (sl y.1 y.2 (cutT B 8).2.1)) rfl (fun w1 hw => cut_enc w1 _ a1 c1 B 8 hw.get (by omega) (by decide)) ?_
  rintro ⟨a3, c3⟩
  dsimp only
  obtain ⟨key, T, is, hcut⟩ : ∃ key T is, cutT B 8 = (key, T, is) := ⟨_, _, _, rfl⟩
  have hks : key.size ≤ 8 := by have := cutT_size B 8; rw [hcut] at this; exact this
  have hTl : T.length ≤ B.length := by have := cutT_len B 8; rw [hcut] at this; exact this
  rw [hcut] at hg ⊢
  dsimp only at hg ⊢
  repeat (first|refine Wa ?_|refine Wb ?_|refine Wc ?_|refine Wd ?_|refine We rfl ?_|refine Wf (by first|exact Va|exact Vb|exact Vd|exact Vq) rfl ?_|refine Wi ?_)
  cases is with
  | false =>
    rw [if_pos rfl] at hg
    rw [hg]
    repeat (first|refine Wa ?_|refine Wb ?_|refine Wc ?_|refine Wd ?_|refine We rfl ?_|refine Wf (by first|exact Va|exact Vh|exact Vi) rfl ?_|refine Wj ?_|refine Wk ?_|refine Wl ?_|refine Wv rfl rfl ?_)
    skip
    refine Wf (OpV.build [.int .i64 0, .string .empty, .string .empty, .int .i64 0] (by kernel_rfl)) rfl ?_
    repeat (first|refine Wa ?_|refine Wd ?_|refine We rfl ?_|refine Wf (by exact Vb) rfl ?_|refine Wi ?_|refine Ws ?_|refine Wt ?_)
    exact CT.done (none, 0) rfl (fun w ho => (ho.ent : Hold _ _ [] w).add sl_nil)
  | true =>
    rw [if_neg (by simp)] at hg
    have hrt := restOp_texts k key T hks
    have hrl := restOp_len k key T
    have hget' := fun w0 w F Γ bo a c => hget key T (by omega) w0 w F Γ bo a c
    obtain ⟨o, R, ok, hro⟩ : ∃ o R ok, restOp k key T = (o, R, ok) := ⟨_, _, _, rfl⟩
    rw [hro] at hg hrt hrl hget'
    dsimp only at hg hrt hrl hget'
    repeat (refine Wj ?_)
    refine JC.drawP mixed ?_
    refine JP.pure 1 rfl (by kernel_rfl) rfl (fun _ => Vd) rfl rfl ?_
    refine JP.take 2 [.own b7 27 [.int .i64 (k : Int), .string key, .string .empty, .int .i64 0]] rfl (by kernel_rfl) rfl Vc rfl rfl ?_
    refine JP.pure 5 rfl (by kernel_rfl) rfl (fun _ => Va) rfl rfl ?_
    refine JP.op 0 (by kernel_rfl) rfl rfl (JR.call1 rfl (fun w1 hw => kinds_ops w1 _) fun mk => Wd ⟨rfl, (by repeat (first|exact Obs.nil|refine Obs.keep ?_|refine Obs.skip (by kernel_rfl) ?_)), ?_⟩)
    refine JP.take 3 [.omap mk (ents intV kindsM) kindsM.length] rfl (by kernel_rfl) rfl (OpV.lookupNo (k : Int) kindsM_nodup hlook) rfl rfl ?_
    refine JP.pure 4 rfl (by kernel_rfl) rfl (fun _ => OpV.fieldV (field_kind3 f1 f2 f3)) rfl rfl ?_
    refine JP.more (Γ' := .own b7 27 [.int .i64 (k : Int), .string key, .string .empty, .int .i64 0] :: .st (sl a3 c3 T) :: [.omap mk (ents intV kindsM) kindsM.length, .own b2 27 [.int .i64 0, .string .empty, .string .empty, .int .i64 0]]) (fun w1 ho => ho.ent) ?_
    refine JP.op 6 (by kernel_rfl) rfl rfl (JR.callW (v := fun y : Option Addr × Nat => .tuple ⟨[.slice y.1 R.length y.2, .bool ok]⟩) (B := fun y => .own b7 27 [.int .i64 o.kind, .string o.key, .string o.elem, .int .i64 o.n] :: .st (sl y.1 y.2 R) :: [.omap mk (ents intV kindsM) kindsM.length, .own b2 27 [.int .i64 0, .string .empty, .string .empty, .int .i64 0]]) rfl (fun w1 hw => hget' _ _ _ _ _ _ _ hw) fun y => Wd ⟨rfl, (by repeat (first|exact Obs.nil|refine Obs.keep ?_|refine Obs.skip (by kernel_rfl) ?_)), ?_⟩)
    refine JP.pure 7 rfl (by kernel_rfl) rfl (fun _ => Va) rfl rfl ?_
    refine JP.pure 8 rfl (by kernel_rfl) rfl (fun _ => Vq) rfl rfl ?_
    refine JP.pure 9 rfl (by kernel_rfl) rfl (fun _ => Vq) rfl rfl ?_
    refine JP.pure 10 rfl (by kernel_rfl) rfl (fun _ => Vb) rfl rfl ?_
    refine JP.pure 11 rfl (by kernel_rfl) rfl (fun _ => Vb) rfl rfl ?_
    refine JP.nil (by kernel_rfl) ?_
    cases ok with
    | false =>
      rw [if_neg (by simp)] at hg
      rw [hg]
      repeat (first|refine Wa ?_|refine Wb ?_|refine Wc ?_|refine Wd ?_|refine We rfl ?_|refine Wf (by first|exact Va|exact Vh|exact Vi) rfl ?_|refine Wj ?_|refine Wv rfl rfl ?_)
      skip
      refine Wf (OpV.build [.int .i64 0, .string .empty, .string .empty, .int .i64 0] (by kernel_rfl)) rfl ?_
      repeat (first|refine Wa ?_|refine Wd ?_|refine We rfl ?_|refine Wf (by exact Vb) rfl ?_|refine Wi ?_|refine Ws ?_|refine Wt ?_)
      exact CT.done (none, 0) rfl (fun w ho => (ho.ent : Hold _ _ [] w).add sl_nil)
    | true =>
      repeat (first|refine Wa ?_|refine Wb ?_|refine Wc ?_|refine We rfl ?_|refine Wf (by first|exact Va|exact Vc|exact Vh) rfl ?_)
      refine JR.callV rfl (fun w1 hw => may_ops w1 _ o hrt.1 hrt.2) ?_
      cases hm : opMay o with
      | false =>
        rw [if_neg (by simp [hm])] at hg
        rw [hg]
        repeat (first|refine Wa ?_|refine Wb ?_|refine Wc ?_|refine Wd ?_|refine We rfl ?_|refine Wf (by first|exact Vh|exact Vj) rfl ?_|refine Wj ?_)
        skip
        refine Wf (OpV.build [.int .i64 0, .string .empty, .string .empty, .int .i64 0] (by kernel_rfl)) rfl ?_
        repeat (first|refine Wa ?_|refine Wd ?_|refine We rfl ?_|refine Wf (by exact Vb) rfl ?_|refine Wi ?_|refine Ws ?_|refine Wt ?_)
        exact CT.done (none, 0) rfl (fun w ho => (ho.ent : Hold _ _ [] w).add sl_nil)
      | true =>
        rw [if_pos ⟨rfl, hm⟩] at hg
        rw [hg]
        repeat (first|refine Wa ?_|refine Wb ?_|refine Wd ?_|refine We rfl ?_|refine Wf (by first|exact Vh|exact Vj) rfl ?_|refine Wk ?_|refine Wl ?_)
        refine JC.drawP mixed ?_
        refine JP.take 0 [.own b7 27 [.int .i64 o.kind, .string o.key, .string o.elem, .int .i64 o.n]] rfl (by kernel_rfl) rfl Vc rfl rfl ?_
        refine JP.pure 1 rfl (by kernel_rfl) rfl (fun _ => Va) rfl rfl ?_
        refine JP.op 2 (by kernel_rfl) rfl rfl (JR.callBuf rfl (fun w1 hw => clone_bytes w1 _ y.1 y.2 R hw.get (by omega)) fun a5 c5 => Wd ⟨rfl, (by repeat (first|exact Obs.nil|refine Obs.keep ?_|refine Obs.skip (by kernel_rfl) ?_)), ?_⟩)
        refine JP.more (fun w1 ho => ho.pub) ?_
        refine JP.op 3 (by kernel_rfl) rfl rfl (Wi (Wd ⟨rfl, (by repeat (first|exact Obs.nil|refine Obs.keep ?_|refine Obs.skip (by kernel_rfl) ?_)), ?_⟩))
        refine JP.pure 4 rfl (by kernel_rfl) rfl (fun _ => Vb) rfl rfl ?_
        refine JP.pure 5 rfl (by kernel_rfl) rfl (fun _ => Vb) rfl rfl ?_
        refine JP.nil (by kernel_rfl) ?_
        repeat (first|refine Wa ?_|refine Ws ?_)
        exact CT.done (a5, c5) rfl (fun w ho => ho.ent)
noncomputable section
def numO (b : List UInt8) : Option (Nat × List UInt8) := if (getN b).2 = 0 then none else some ((getN b).1, b.drop (getN b).2)
def uptoO (m : Nat) (b : List UInt8) : Option (Nat × List UInt8) := if (getN b).2 = 0 ∨ m < (getN b).1 then none else some ((getN b).1, b.drop (getN b).2)
def getIds : Nat → List UInt8 → Option (List ID × List UInt8)
  | 0, b => some ([], b)
  | n + 1, b => if h : 32 ≤ b.length then (getIds n (b.drop 32)).map (fun q => (takeID b h :: q.1, q.2)) else none
def finC (c : Commit) (b : List UInt8) : Option (Commit × List UInt8) := if may c = true then some (c, b) else none
def opC (n0 : Int) (n1 n2 : Nat) (ps : List ID) (b : List UInt8) : Option (Commit × List UInt8) :=
  if n0 = -1 then finC ⟨⟨n0, n1⟩, n2, ps, op0⟩ b else if (getOp b).2.2 = 0 then finC ⟨⟨n0, n1⟩, n2, ps, (getOp b).1⟩ (getOp b).2.1 else none
def getC (b : List UInt8) : Option (Commit × List UInt8) :=
  (numO b).bind fun q0 => (uptoO 1048576 q0.2).bind fun q1 => (uptoO 1048576 q1.2).bind fun q2 => (uptoO 8 q2.2).bind fun q3 => (getIds q3.1 q3.2).bind fun q4 =>
    opC (unfoldN q0.1) q1.1 q2.1 q4.1 q4.2
end
theorem getOp_texts (b : List UInt8) : (getOp b).1.key.size < 4611686018427387904 ∧ (getOp b).1.elem.size < 4611686018427387904 := by
  have h0 : op0.key.size < 4611686018427387904 ∧ op0.elem.size < 4611686018427387904 := by constructor <;> decide
  unfold getOp
  split
  · exact h0
  · split
    · exact h0
    · split
      · exact restOp_texts _ _ _ (cutT_size _ 8)
      · exact h0
theorem getOp_len (b : List UInt8) : (getOp b).2.1.length ≤ b.length := by
  unfold getOp
  split
  · simp
  · split
    · simp
    · split
      · refine Nat.le_trans (restOp_len _ _ _) (Nat.le_trans (cutT_len _ 8) ?_)
        simp only [List.length_drop]; omega
      · simp
structure ReadY (L : List UInt8) where
  c : Commit
  r : List UInt8
  ok : getC L = some (c, r)
  pa : Option Addr
  pc : Nat
  ra : Option Addr
  rc : Nat
section
variable {w0 w : World} {F : Nat → Prop} {Γ : List Fact} {br : Nat} {a : Option Addr} {c : Nat} {L : List UInt8}
theorem numO_none {b : List UInt8} (h : (getN b).2 = 0) : numO b = none := if_pos h
theorem numO_some {b : List UInt8} (h : (getN b).2 ≠ 0) : numO b = some ((getN b).1, b.drop (getN b).2) := if_neg h
theorem uptoO_none {m : Nat} {b : List UInt8} (h : (getN b).2 = 0 ∨ m < (getN b).1) : uptoO m b = none := if_pos h
theorem uptoO_some {m : Nat} {b : List UInt8} (h : ¬ ((getN b).2 = 0 ∨ m < (getN b).1)) : uptoO m b = some ((getN b).1, b.drop (getN b).2) := if_neg h
set_option maxHeartbeats 4000000 in
theorem read_ends (hl : L.length ≤ 34359738368) (ho : Hold w0 F (.own br 207 [.slice a L.length c] :: .st (sl a c L) :: Γ) w) :
    Ends Tryz.prog 183 [.pointer (some ⟨br, 0, none⟩)] w w0 F (fun y : ReadY L => commitV y.c y.pa y.pc)
      (fun y => .own br 207 [.slice y.ra y.r.length y.rc] :: .st (sl y.ra y.rc y.r) :: .st (sl y.pa y.pc y.c.parents) :: Γ) (getC L = none) wrongP Γ := by
  refine ends_of Tryz.func183 rfl Tryz.ntmps183 rfl rfl _ ho ?_
  repeat (first|refine Wa ?_|refine Wb ?_|refine Wc ?_|refine Wd ?_|refine We rfl ?_|refine Wf (by exact Va) rfl ?_|(refine Wg rfl ?_; intro _))
  rename_i bp
  obtain ⟨T, hT⟩ : ∃ T : List Value, T = [.int .i64 0, .int .i64 0, .int .i64 0, .slice none 0 0, .int .i64 0, .string .empty, .string .empty, .int .i64 0] := ⟨_, rfl⟩
  have hg : getC L = (numO L).bind fun q0 => (uptoO 1048576 q0.2).bind fun q1 => (uptoO 1048576 q1.2).bind fun q2 => (uptoO 8 q2.2).bind fun q3 => (getIds q3.1 q3.2).bind fun q4 => opC (unfoldN q0.1) q1.1 q2.1 q4.1 q4.2 := rfl
  by_cases h0 : (getN L).2 = 0
  · rw [numO_none h0, Option.bind_none] at hg
    refine JR.more (Γ' := .own br 207 [.slice a L.length c] :: .st (sl a c L) :: Γ) (fun w ho => ho.ent) ?_
    refine JR.callP (fun w1 hw => num_bad h0 hw) ?_
    repeat (first | refine CT.panic ?_ | refine CT.blockPanic ?_)
    exact .inr ⟨hg, CT.gone (fun w ho => ho)⟩
  rw [numO_some h0, Option.bind_some] at hg
  dsimp only at hg
  have hn0 := getN_lt L
  refine JR.more (Γ' := .own br 207 [.slice a L.length c] :: .st (sl a c L) :: .own bp 29 [.int .i64 0, .int .i64 0, .int .i64 0, .slice none 0 0, .int .i64 0, .string .empty, .string .empty, .int .i64 0] :: Γ) (fun w ho => ho.ent) ?_
  refine JR.callW (v := fun y : Option Addr × Nat => .int .u64 ((getN L).1 : Int)) (B := fun y => .own br 207 [.slice y.1 (L.drop (getN L).2).length y.2] :: .st (sl y.1 y.2 (L.drop (getN L).2)) :: .own bp 29 [.int .i64 0, .int .i64 0, .int .i64 0, .slice none 0 0, .int .i64 0, .string .empty, .string .empty, .int .i64 0] :: Γ) rfl (fun w1 hw => num_ok h0 hw) ?_
  rintro ⟨a1, c1⟩
  dsimp only
  have hB : (L.drop (getN L).2).length ≤ 34359738368 := by rw [List.length_drop]; omega
  generalize L.drop (getN L).2 = B at hB hg ⊢
  generalize (getN L).1 = m0 at hn0 hg ⊢
  repeat (refine We rfl ?_)
  refine JR.callV rfl (fun w1 hw => unfold_enc w1 _ m0 hn0) ?_
  generalize unfoldN m0 = n0 at hg ⊢
  repeat (first|refine We rfl ?_|refine Wf (by exact Vd) rfl ?_)
  refine JR.reslot 10 (.pointer (some ⟨bp, 0, none⟩)) rfl ?_
  refine Wi ?_
  repeat (first|refine Wa ?_|refine Wb ?_|refine Wc ?_|refine Wd ?_|refine We rfl ?_|refine Wf (by exact Va) rfl ?_)
  by_cases h1 : (getN B).2 = 0 ∨ 1048576 < (getN B).1
  · rw [uptoO_none h1, Option.bind_none] at hg
    refine JR.more (Γ' := .own br 207 [.slice a1 B.length c1] :: .st (sl a1 c1 B) :: Γ) (fun w ho => ho.ent) ?_
    refine JR.callP (fun w1 hw => upto_bad 1048576 (by decide) h1 hw) ?_
    repeat (first | refine CT.panic ?_ | refine CT.blockPanic ?_)
    exact .inr ⟨hg, CT.gone (fun w ho => ho)⟩
  rw [uptoO_some h1, Option.bind_some] at hg
  dsimp only at hg
  have hn1 : (getN B).1 ≤ 1048576 := by omega
  refine JR.more (Γ' := .own br 207 [.slice a1 B.length c1] :: .st (sl a1 c1 B) :: .own bp 29 [.int .i64 n0, .int .i64 0, .int .i64 0, .slice none 0 0, .int .i64 0, .string .empty, .string .empty, .int .i64 0] :: Γ) (fun w ho => ho.ent) ?_
  refine JR.callW (v := fun y : Option Addr × Nat => .int .i64 ((getN B).1 : Int)) (B := fun y => .own br 207 [.slice y.1 (B.drop (getN B).2).length y.2] :: .st (sl y.1 y.2 (B.drop (getN B).2)) :: .own bp 29 [.int .i64 n0, .int .i64 0, .int .i64 0, .slice none 0 0, .int .i64 0, .string .empty, .string .empty, .int .i64 0] :: Γ) rfl (fun w1 hw => upto_ok 1048576 (by decide) (fun h => h1 (.inl h)) (by omega) hw) ?_
  rintro ⟨a2, c2⟩
  dsimp only
  replace hB : (B.drop (getN B).2).length ≤ 34359738368 := by rw [List.length_drop]; omega
  generalize B.drop (getN B).2 = B at hB hg ⊢
  generalize (getN _).1 = n1 at hn1 hg ⊢
  repeat (first|refine We rfl ?_|refine Wf (by exact Va) rfl ?_)
  by_cases h2 : (getN B).2 = 0 ∨ 1048576 < (getN B).1
  · rw [uptoO_none h2, Option.bind_none] at hg
    refine JR.more (Γ' := .own br 207 [.slice a2 B.length c2] :: .st (sl a2 c2 B) :: Γ) (fun w ho => ho.ent) ?_
    refine JR.callP (fun w1 hw => upto_bad 1048576 (by decide) h2 hw) ?_
    repeat (first | refine CT.panic ?_ | refine CT.blockPanic ?_)
    exact .inr ⟨hg, CT.gone (fun w ho => ho)⟩
  rw [uptoO_some h2, Option.bind_some] at hg
  dsimp only at hg
  have hn2 : (getN B).1 ≤ 1048576 := by omega
  refine JR.more (Γ' := .own br 207 [.slice a2 B.length c2] :: .st (sl a2 c2 B) :: .own bp 29 [.int .i64 n0, .int .i64 0, .int .i64 0, .slice none 0 0, .int .i64 0, .string .empty, .string .empty, .int .i64 0] :: Γ) (fun w ho => ho.ent) ?_
  refine JR.callW (v := fun y : Option Addr × Nat => .int .i64 ((getN B).1 : Int)) (B := fun y => .own br 207 [.slice y.1 (B.drop (getN B).2).length y.2] :: .st (sl y.1 y.2 (B.drop (getN B).2)) :: .own bp 29 [.int .i64 n0, .int .i64 0, .int .i64 0, .slice none 0 0, .int .i64 0, .string .empty, .string .empty, .int .i64 0] :: Γ) rfl (fun w1 hw => upto_ok 1048576 (by decide) (fun h => h2 (.inl h)) (by omega) hw) ?_
  rintro ⟨a3, c3⟩
  dsimp only
  replace hB : (B.drop (getN B).2).length ≤ 34359738368 := by rw [List.length_drop]; omega
  generalize B.drop (getN B).2 = B at hB hg ⊢
  generalize (getN _).1 = n2 at hn2 hg ⊢
  repeat (first|refine Wa ?_|refine Wb ?_|refine Wc ?_|refine Wd ?_|refine We rfl ?_|refine Wf (by first|exact Va|exact Vd) rfl ?_|refine Wi ?_)
  by_cases h3 : (getN B).2 = 0 ∨ 8 < (getN B).1
  · rw [uptoO_none h3, Option.bind_none] at hg
    refine JR.more (Γ' := .own br 207 [.slice a3 B.length c3] :: .st (sl a3 c3 B) :: Γ) (fun w ho => ho.ent) ?_
    refine JR.callP (fun w1 hw => upto_bad 8 (by decide) h3 hw) ?_
    repeat (first | refine CT.panic ?_ | refine CT.blockPanic ?_)
    exact .inr ⟨hg, CT.gone (fun w ho => ho)⟩
  rw [uptoO_some h3, Option.bind_some] at hg
  dsimp only at hg
  have hn3 : (getN B).1 ≤ 8 := by omega
  refine JR.more (Γ' := .own br 207 [.slice a3 B.length c3] :: .st (sl a3 c3 B) :: .own bp 29 [.int .i64 n0, .int .i64 (n1 : Int), .int .i64 (n2 : Int), .slice none 0 0, .int .i64 0, .string .empty, .string .empty, .int .i64 0] :: Γ) (fun w ho => ho.ent) ?_
  refine JR.callW (v := fun y : Option Addr × Nat => .int .i64 ((getN B).1 : Int)) (B := fun y => .own br 207 [.slice y.1 (B.drop (getN B).2).length y.2] :: .st (sl y.1 y.2 (B.drop (getN B).2)) :: .own bp 29 [.int .i64 n0, .int .i64 (n1 : Int), .int .i64 (n2 : Int), .slice none 0 0, .int .i64 0, .string .empty, .string .empty, .int .i64 0] :: Γ) rfl (fun w1 hw => upto_ok 8 (by decide) (fun h => h3 (.inl h)) (by omega) hw) ?_
  rintro ⟨a4, c4⟩
  dsimp only
  replace hB : (B.drop (getN B).2).length ≤ 34359738368 := by rw [List.length_drop]; omega
  generalize B.drop (getN B).2 = B at hB hg ⊢
  generalize (getN _).1 = n3 at hn3 hg ⊢
  repeat (first|refine Wa ?_|refine Wd ?_|refine We rfl ?_|refine Wf (by exact Va) rfl ?_|refine Wn ?_)
  generalize a4 = r1
  refine JC.more (Γ' := .res (buf (α := ID) none 0 81 []) :: .own br 207 [.slice r1 B.length c4] :: .st (sl r1 c4 B) :: .own bp 29 [.int .i64 n0, .int .i64 (n1 : Int), .int .i64 (n2 : Int), .slice none 0 0, .int .i64 0, .string .empty, .string .empty, .int .i64 0] :: Γ) (fun w ho => ho.bufNil) ?_
  refine JC.loop5 (fun (i : Nat) (ps : List ID) (p : Option Addr × Nat) (B : List UInt8) (r : Option Addr × Nat) => [(0, .pointer (some ⟨br, 0, none⟩)), (2, .pointer (some ⟨bp, 0, none⟩)), (19, .int .i64 (n3 : Int)), (20, .int .i64 (i : Int))])
    (fun i ps p B r => .own br 207 [.slice r.1 B.length r.2] :: .st (sl r.1 r.2 B) :: .res (buf p.1 p.2 81 ps) :: .own bp 29 [.int .i64 n0, .int .i64 (n1 : Int), .int .i64 (n2 : Int), .slice p.1 ps.length p.2, .int .i64 0, .string .empty, .string .empty, .int .i64 0] :: Γ)
    (fun i ps p B r => i ≤ n3 ∧ ps.length = i ∧ B.length ≤ 34359738368 ∧ getC L = (getIds (n3 - i) B).bind fun q => opC n0 n1 n2 (ps ++ q.1) q.2) (fun i _ _ _ _ => n3 - i) 0 [] (none, 0) B (r1, c4) ⟨Nat.zero_le _, rfl, hB, hg⟩ inferInstance ?_
  clear hg hB
  rintro i ps ⟨pa, pc⟩ B ⟨ra, rc⟩ ⟨hi, hlen, hB, hg⟩
  dsimp only
  repeat (first|refine Wa ?_|refine Wb ?_|refine Wc ?_|refine Wd ?_|refine We rfl ?_|refine Wf (by exact Vg) rfl ?_)
  refine JC.test (fun h4 => ?_) (fun h4 => ?_)
  · have hni : n3 - i = (n3 - (i + 1)) + 1 := by omega
    rw [hni] at hg
    repeat (first|refine Wa ?_|refine Wb ?_|refine Wl ?_|refine Wn ?_)
    refine JC.drawP mixed ?_
    refine JP.pure 0 rfl (by kernel_rfl) rfl (fun _ => Vd) rfl rfl ?_
    refine JP.take 1 [.own bp 29 [.int .i64 n0, .int .i64 (n1 : Int), .int .i64 (n2 : Int), .slice pa ps.length pc, .int .i64 0, .string .empty, .string .empty, .int .i64 0]] rfl (by kernel_rfl) rfl Vc rfl rfl ?_
    refine JP.pure 2 rfl (by kernel_rfl) rfl (fun _ => Va) rfl rfl ?_
    by_cases h32 : 32 ≤ B.length
    · have hgi : getIds (n3 - (i + 1) + 1) B = (getIds (n3 - (i + 1)) (B.drop 32)).map (fun q => (takeID B h32 :: q.1, q.2)) := dif_pos h32
      refine JP.op 3 (by kernel_rfl) rfl rfl (JR.callW (v := fun y : Option Addr × Nat => .agg ⟨idc (takeID B h32)⟩) (B := fun y => .own br 207 [.slice y.1 (B.drop 32).length y.2] :: .st (sl y.1 y.2 (B.drop 32)) :: .res (buf pa pc 81 ps) :: .own bp 29 [.int .i64 n0, .int .i64 (n1 : Int), .int .i64 (n2 : Int), .slice pa ps.length pc, .int .i64 0, .string .empty, .string .empty, .int .i64 0] :: Γ) rfl (fun w1 hw => id_ok h32 hw) fun y => Wd ⟨rfl, (by repeat (first|exact Obs.nil|refine Obs.keep ?_|refine Obs.skip (by kernel_rfl) ?_)), ?_⟩)
      refine JP.op 4 (by kernel_rfl) rfl rfl (Ww rfl ⟨rfl, by decide, by decide, by decide⟩ fun lb => Wd ⟨rfl, (by repeat (first|exact Obs.nil|refine Obs.keep ?_|refine Obs.skip (by kernel_rfl) ?_)), ?_⟩)
      refine JP.op 5 (by kernel_rfl) rfl rfl (JR.append1 (L := ps) (u := takeID B h32) rfl (by exact ⟨rfl, rfl, by decide⟩) (by omega) (fun pa2 pc2 => Wd ⟨rfl, (by repeat (first|exact Obs.nil|refine Obs.keep ?_|refine Obs.skip (by kernel_rfl) ?_)), ?_⟩))
      refine JP.pure 6 rfl (by kernel_rfl) rfl (fun _ => Vd) rfl rfl ?_
      refine JP.op 7 (by kernel_rfl) rfl rfl (Wi (Wd ⟨rfl, (by repeat (first|exact Obs.nil|refine Obs.keep ?_|refine Obs.skip (by kernel_rfl) ?_)), ?_⟩))
      refine JP.nil (by kernel_rfl) ?_
      repeat (first|refine Wa ?_|refine Wc ?_|refine Wd ?_|refine We rfl ?_|refine Wf (by first|exact Va|exact Vk (by omega)) rfl ?_|refine Wr ?_)
      refine ⟨i + 1, ps ++ [takeID B h32], (pa2, pc2), B.drop 32, y, ⟨by omega, by simp [hlen], by rw [List.length_drop]; omega, ?_⟩, by omega, inferInstance⟩
      rw [hg, hgi]
      cases getIds (n3 - (i + 1)) (B.drop 32) with
      | none => rfl
      | some q => simp
    · have hgi : getIds (n3 - (i + 1) + 1) B = none := dif_neg h32
      rw [hgi, Option.bind_none] at hg
      refine JP.more (Γ' := .own br 207 [.slice ra B.length rc] :: .st (sl ra rc B) :: Γ) (fun w ho => ho.ent) ?_
      refine JP.gone 3 (by kernel_rfl) rfl rfl (JR.callP (fun w1 hw => id_bad (by omega) hw) ⟨_, rfl, ?_⟩)
      repeat (first | refine CT.panic ?_ | refine CT.blockPanic ?_)
      exact .inr ⟨hg, CT.gone (fun w ho => ho)⟩
  · obtain rfl : i = n3 := by omega
    rw [Nat.sub_self] at hg
    have hg2 : getC L = opC n0 n1 n2 ps B := by rw [hg]; simp [getIds]
    repeat (first|refine Wa ?_|refine Wb ?_|refine Wc ?_|refine Wd ?_|refine We rfl ?_|refine Wf (by first|exact Vc|exact Vd|exact Vm) rfl ?_|refine Wm ?_|refine Wo ?_|refine Wp ?_)
    have hps : ps.length ≤ 8 := by omega
    refine JC.more (fun w ho => (ho.ent : Hold w0 F (.res (buf pa pc 81 ps) :: .own br 207 [.slice ra B.length rc] :: .st (sl ra rc B) :: .own bp 29 [.int .i64 n0, .int .i64 (n1 : Int), .int .i64 (n2 : Int), .slice pa ps.length pc, .int .i64 0, .string .empty, .string .empty, .int .i64 0] :: Γ) w).pub) ?_
    refine JC.test (fun h5 => ?_) (fun h5 => ?_)
    · have e5 : getC L = if (getOp B).2.2 = 0 then finC ⟨⟨n0, n1⟩, n2, ps, (getOp B).1⟩ (getOp B).2.1 else none := by rw [hg2]; exact if_neg h5
      have htx := getOp_texts B
      have hol := getOp_len B
      repeat (first|refine Wb ?_|refine Wc ?_|refine We rfl ?_|refine Wf (by exact Va) rfl ?_)
      refine Wf OpV.nilCheck rfl ?_
      repeat (first|refine We rfl ?_|refine Wf (by first|exact Vc|exact Vd) rfl ?_)
      refine JR.call1 (B := fun y : Option Addr × Nat => .st (sl y.1 y.2 (getOp B).2.1)) rfl (fun w1 hw => get_ops w1 _ ra rc B hw.get hB) ?_
      rintro ⟨ro, co⟩
      dsimp only
      obtain ⟨o, R, k, hk⟩ : ∃ o R k, getOp B = (o, R, k) := ⟨_, _, _, rfl⟩
      rw [hk] at e5 htx hol ⊢
      dsimp only at e5 htx hol ⊢
      repeat (first|refine Wa ?_|refine Wb ?_|refine Wc ?_|refine Wd ?_|refine We rfl ?_|refine Wf (by first|exact Va|exact Vb|exact Vl|exact Vq) rfl ?_|(refine Wg rfl ?_; intro _)|refine Wi ?_)
      by_cases hk0 : k = 0
      · rw [if_pos hk0] at e5
        refine JR.reslot 44 (.bool true) (by congr 1; exact decide_eq_true hk0) ?_
        refine JR.callV rfl (fun w1 hw => unless_ok w1 _) ?_
        repeat (first|refine Wa ?_|refine Wc ?_|refine Wd ?_|refine We rfl ?_|refine Wf (by first|exact Va|exact Vc|exact Vd) rfl ?_|refine Wi ?_)
        refine Wf OpV.nilCheck rfl ?_
        repeat (first|refine We rfl ?_|refine Wf (by exact Vd) rfl ?_)
        refine JR.reslot 51 (.pointer (some ⟨br, 0, none⟩)) rfl ?_
        refine Wi ?_
        repeat (first|refine Wa ?_|refine Wb ?_|refine Wc ?_|refine Wd ?_|refine We rfl ?_|refine Wf (by exact Vc) rfl ?_)
        refine JR.callV rfl (fun w1 hw => may_commit w1 _ ⟨⟨n0, n1⟩, n2, ps, o⟩ pa pc (hw.get (A := sl pa pc ps)) htx) ?_
        cases hmay : may ⟨⟨n0, n1⟩, n2, ps, o⟩ with
        | false =>
          have hg : getC L = none := by rw [e5]; unfold finC; rw [hmay]; rfl
          repeat (refine We rfl ?_)
          refine JR.more (Γ' := Γ) (fun w ho => ho.ent) ?_
          refine JR.callP (fun w1 hw => unless_bad hw) ?_
          repeat (first | refine CT.panic ?_ | refine CT.blockPanic ?_)
          exact .inr ⟨hg, CT.gone (fun w ho => ho)⟩
        | true =>
          have hg : getC L = some (⟨⟨n0, n1⟩, n2, ps, o⟩, R) := by rw [e5]; unfold finC; rw [hmay]; rfl
          repeat (refine We rfl ?_)
          refine JR.callV rfl (fun w1 hw => unless_ok w1 _) ?_
          repeat (first|refine Wa ?_|refine Wb ?_|refine Wc ?_|refine Wd ?_|refine We rfl ?_|refine Wf (by exact Vc) rfl ?_|refine Wi ?_|refine Ws ?_)
          exact .inl (CT.done (⟨⟨⟨n0, n1⟩, n2, ps, o⟩, R, hg, pa, pc, ro, co⟩ : ReadY L) rfl (fun w ho => ho.ent))
      · rw [if_neg hk0] at e5
        have hg := e5
        refine JR.reslot 44 (.bool false) (by congr 1; exact decide_eq_false hk0) ?_
        refine JR.more (Γ' := Γ) (fun w ho => ho.ent) ?_
        refine JR.callP (fun w1 hw => unless_bad hw) ?_
        repeat (first | refine CT.panic ?_ | refine CT.blockPanic ?_)
        exact .inr ⟨hg, CT.gone (fun w ho => ho)⟩
    · have e5 : getC L = finC ⟨⟨n0, n1⟩, n2, ps, op0⟩ B := by rw [hg2]; exact if_pos (by omega)
      repeat (first|refine Wa ?_|refine Wb ?_|refine Wc ?_|refine We rfl ?_|refine Wf (by exact Vc) rfl ?_|refine Wl ?_)
      refine JR.callV rfl (fun w1 hw => may_commit w1 _ ⟨⟨n0, n1⟩, n2, ps, op0⟩ pa pc (hw.get (A := sl pa pc ps)) (by unfold texts; exact (by decide : op0.key.size < 4611686018427387904 ∧ op0.elem.size < 4611686018427387904))) ?_
      cases hmay : may ⟨⟨n0, n1⟩, n2, ps, op0⟩ with
      | false =>
        have hg : getC L = none := by rw [e5]; unfold finC; rw [hmay]; rfl
        repeat (refine We rfl ?_)
        refine JR.more (Γ' := Γ) (fun w ho => ho.ent) ?_
        refine JR.callP (fun w1 hw => unless_bad hw) ?_
        repeat (first | refine CT.panic ?_ | refine CT.blockPanic ?_)
        exact .inr ⟨hg, CT.gone (fun w ho => ho)⟩
      | true =>
        have hg : getC L = some (⟨⟨n0, n1⟩, n2, ps, op0⟩, B) := by rw [e5]; unfold finC; rw [hmay]; rfl
        repeat (refine We rfl ?_)
        refine JR.callV rfl (fun w1 hw => unless_ok w1 _) ?_
        repeat (first|refine Wa ?_|refine Wb ?_|refine Wc ?_|refine Wd ?_|refine We rfl ?_|refine Wf (by exact Vc) rfl ?_|refine Wi ?_|refine Ws ?_)
        exact .inl (CT.done (⟨⟨⟨n0, n1⟩, n2, ps, op0⟩, B, hg, pa, pc, ra, rc⟩ : ReadY L) rfl (fun w ho => ho.ent))
end
end Ab
end Go.Proofs.YtdgeffphifgflaaGreat
namespace Go.Proofs.YtdgeffphifgflaaGreat
namespace Ab
open Go Go.RowKit
set_option linter.unusedVariables false
set_option linter.unusedSimpArgs false
section
variable {P : Program}
theorem wpOpsS_recover {ops : Array Oper} {R : Exit → Act → List Frame → World → Prop} {i : Nat} {rest : List Nat} {a : Act} {cs cs' : List Frame} {w : World} {o : Oper} {v : Value} (ho : ops[i]? = some o) (hw : Region.wanted o (yielded ops a.tmps) = true)
    (hr : (execOp a.eval o).run P w = .ok .recover w) (h4 : (match recoverD cs with | some (v, cs') => (v, cs') | none => (Value.nilIface, cs)) = (v, cs')) (h : wpOpsS P ops R rest (a.put o.dst v) cs' w) : wpOpsS P ops R (i :: rest) a cs w := by
  unfold wpOpsS
  rw [ho]
  dsimp only
  rw [if_pos hw, hr]
  dsimp only
  cases hd : recoverD cs with
  | none => rw [hd] at h4; cases h4; exact h
  | some p => rw [hd] at h4; cases h4; exact h
theorem wpOpsS_value {ops : Array Oper} {R : Exit → Act → List Frame → World → Prop} {i : Nat} {rest : List Nat} {a : Act} {cs : List Frame} {w : World} {o : Oper} {v : Value} (ho : ops[i]? = some o) (hw : Region.wanted o (yielded ops a.tmps) = true)
    (hr : (execOp a.eval o).run P w = .ok (.value v) w) (h : wpOpsS P ops R rest (a.put o.dst v) cs w) : wpOpsS P ops R (i :: rest) a cs w := by
  unfold wpOpsS
  rw [ho]
  dsimp only
  rw [if_pos hw, hr]
  exact h
end
section
variable {P : Program} {w0 : World} {F : Nat → Prop} {Q : Cont} {e : E} {Γ Γ' : List Fact} [Dr]
def Closes (P : Program) (w0 : World) (F : Nat → Prop) (g : FuncId) (us : List Value) (u u' : FrameMode) (Γ Γ' : List Fact) : Prop :=
  ∀ w, Hold w0 F Γ w → CallsD P g ⟨us⟩ u w fun x u1 w' => x = .returned (.tuple ⟨[]⟩) ∧ u1 = u' ∧ Hold w0 F Γ' w'
abbrev panR (v : Value) : List PanicEntry := [{ v := v, recovered := true }]
def deferTo (P : Program) (w0 : World) (F : Nat → Prop) (rs : List ResultVar) {Y : Type} (v : Y → Value) (B : Y → List Fact) (g : FuncId) (us : List Value) : Cont := fun x e Γ =>
  ∃ Γ', (((x = .ret ∨ x = .normal) ∧ Closes P w0 F g us .returning .returning Γ Γ') ∨ (∃ v0, x = .panic (pan v0) ∧ Closes P w0 F g us (.panicking (pan v0)) (.panicking (panR v0)) Γ Γ')) ∧ retTo P w0 F rs v B .ret e Γ'
theorem gives_defer {f : FuncId} {fn : Func} {c : Code} {rs : List ResultVar} {args : List Value} {w : World} {Y : Type} {v : Y → Value} {B : Y → List Fact}
    {m : Nat} (hf : P.funcs[f]? = some fn) (hb : fn.body = some c) (hn : fn.ntmps = m) (hr : fn.results = ⟨rs⟩) (hl : Nat.ble args.length m = true) (Γ : List Fact) (ho : Hold w F Γ w)
    (h : JX P ⟨m, []⟩ w F c (fun n' x e Γ => ∃ g us, Body P g ∧ n' = ⟨m, [⟨.fn (.func g) ⟨us⟩, #[]⟩]⟩ ∧ deferTo P w F rs v B g us x e Γ) (enum 0 args) Γ) : Gives P f args w F v B := by
  refine calls_of_wp_defers hf hb ?_
  rw [hn]
  refine wp_mono (h _ w (Fr.start hl) ho) ?_
  rintro x a w' ⟨n', e, Γ, ⟨g, us, hbd, rfl, Γ', hx, _, y, vs, hres, hpk, hB⟩, fr, ho'⟩
  have hi : ∀ w1, (invoke (.fn (.func g) ⟨us⟩) #[]).run P w1 = .ok (.enter g ⟨us⟩) w1 := fun w1 => by
    have e3 : (#[] : Array Value) ++ (⟨us⟩ : Array Value) = ⟨us⟩ := by apply Array.ext'; simp
    simp only [invoke, e3, hbd.ok]
  have hfin : ∀ w1, Hold w F Γ' w1 → Leaves P fn a.tmps (fun x w' => ∃ y, x = .returned (v y) ∧ Bel w.heap.size w w' ∧ Fresh w.heap.size F (B y) w') [] .returning w1 := fun w1 ho1 => by
    have fr' : Fr ⟨m, []⟩ e ⟨a.tmps, []⟩ := ⟨rfl, fr.size, fr.slot⟩
    have hrun := run_results (P := P) hr hres fr' ho1
    exact ⟨_, hrun, y, by rw [hpk], ho1.below, (hB w1 ho1).fresh⟩
  rcases hx with ⟨hx, hc⟩ | ⟨v0, rfl, hc⟩
  · have : Leaves P fn a.tmps (fun x w' => ∃ y, x = .returned (v y) ∧ Bel w.heap.size w w' ∧ Fresh w.heap.size F (B y) w') a.defers .returning w' := by
      rw [fr.defers]
      refine leaves_cons (by simp) (hi w') ((hc w' ho').mono ?_)
      rintro x u' w1 ⟨rfl, rfl, ho1⟩
      exact hfin w1 ho1
    rcases hx with rfl | rfl <;> exact this
  · show Leaves P fn a.tmps _ a.defers (.panicking (pan v0)) w'
    rw [fr.defers]
    refine leaves_cons (by simp) (hi w') ((hc w' ho').mono ?_)
    rintro x u' w1 ⟨rfl, rfl, ho1⟩
    exact hfin w1 ho1
theorem closes_of {g : FuncId} {fn : Func} {y : Code} {us : List Value} {m id d1 d2 : Nat} {t1 t2 : TypeId} {p1 p2 : String} {f1 f2 : Array Edge} {ats : Array TypeId} {u u' : FrameMode} {v0 : Value}
    (hu : (u = .returning ∧ u' = .returning ∧ v0 = .nilIface) ∨ (u = .panicking (pan v0) ∧ u' = .panicking (panR v0)))
    (hf : P.funcs[g]? = some fn) (hb : fn.body = some (.seq (.region id ⟨[⟨some d1, .call ⟨.builtin .recover, #[], ats⟩, t1, p1, f1, none⟩, ⟨some d2, .assign (.tmp d1), t2, p2, f2, none⟩]⟩ false) y)) (hn : fn.ntmps = m) (hr : fn.results = ⟨[]⟩)
    (hl : Nat.ble us.length m = true) (hd1 : Nat.blt d1 m = true) (hd2 : Nat.blt d2 m = true)
    (h : JC P ⟨m, []⟩ w0 F y (retTo P w0 F [] (fun _ : Unit => .tuple ⟨[]⟩) (fun _ => Γ')) ((d2, v0) :: (d1, v0) :: enum 0 us) Γ) : Closes P w0 F g us u u' Γ Γ' := by
  intro w ho
  refine callsD_of_wpS hf hb fun c₀ cs hc => ?_
  rw [hn]
  have fr0 := Fr.start (args := us) hl
  have fr1 := (fr0.put hd1 v0)
  have fr2 := (fr1.put hd2 v0)
  refine wpS_seq (wpS_region ?_)
  have hrg : List.range (Array.size (⟨[⟨some d1, .call ⟨.builtin .recover, #[], ats⟩, t1, p1, f1, none⟩, ⟨some d2, .assign (.tmp d1), t2, p2, f2, none⟩]⟩ : Array Oper)) = [0, 1] := rfl
  rw [hrg]
  have hw : ∀ y (o : Oper), o.guard = none → Region.wanted o y = true := fun y o h => by unfold Region.wanted; rw [h]
  generalize hA : ({ tmps := (⟨us⟩ : Array Value) ++ Array.replicate (m - (⟨us⟩ : Array Value).size) undef, defers := [] } : Act) = a at fr0 fr1 fr2 ⊢
  have h1 : (execOp a.eval ⟨some d1, .call ⟨.builtin .recover, #[], ats⟩, t1, p1, f1, none⟩).run P w = .ok .recover w := by
    simp [execOp, resolve_builtin, invoke, builtin]
  have h2 : (execOp (a.put (some d1) v0).eval ⟨some d2, .assign (.tmp d1), t2, p2, f2, none⟩).run P w = .ok (.value v0) w := by
    have h3 : (a.put (some d1) v0).eval (.tmp d1) = v0 := (inferInstance : Ev ((d1, v0) :: enum 0 us) (.tmp d1) v0).ok _ _ fr1
    simp [execOp, h3]
  have h4 : (match recoverD (c₀ :: cs) with | some (v, cs') => (v, cs') | none => (Value.nilIface, c₀ :: cs)) = (v0, { c₀ with mode := u' } :: cs) := by
    unfold recoverD
    rcases hu with ⟨rfl, rfl, rfl⟩ | ⟨rfl, rfl⟩
    · cases c₀; simp at hc; subst hc; rfl
    · cases c₀; simp at hc; subst hc; rfl
  refine wpOpsS_recover rfl (hw _ _ rfl) h1 h4 ?_
  refine wpOpsS_value rfl (hw _ _ rfl) h2 ?_
  unfold wpOpsS
  refine wpS_of_wp (wp_mono (h _ w fr2 ho) ?_)
  rintro x a1 w1 ⟨e1, Γ1, ⟨hx, y1, vs, hres, hpk, hB⟩, fr, ho1⟩
  have hrun := run_results (P := P) hr hres fr ho1
  rw [hpk] at hrun
  rcases hx with rfl | rfl
  · exact ⟨fr.defers, u', rfl, _, hrun, rfl, rfl, hB w1 ho1⟩
  · exact ⟨fr.defers, u', rfl, _, hrun, rfl, rfl, hB w1 ho1⟩
end
section
variable {P : Program} {n : Nn} {w0 : World} {F : Nat → Prop} {d : Option Nat} {t : TypeId} {pos : String} {aft : Array Edge} {g : Option (Nat × Bool)} {e : E} {Γ : List Fact} [Dr]
theorem OpV.neqNil0 {x : Operand} {ty yt : TypeId} [hx : Ev e x .nilIface] (hu : P.underlying ty = some (.interface (P.methodsAt ty))) : OpV P n w0 F ⟨d, .binOp .neq ty x (.const .nilIface) yt, t, pos, aft, g⟩ e Γ (.bool false) :=
  fun a w fr _ => by
    have h2 : (Act.eval a (.const .nilIface)) = .nilIface := rfl
    have h4 : (eqGuard .neq ty x (.const .nilIface) .nilIface .nilIface).run P w = .ok () w := by simp [eqGuard]
    simp only [execOp, hx.ok n a fr, h2, Sem.run_bind, h4, Result.andThen_ok, run_neq_nil_nil w ty hu, Sem.run_pure]
theorem OpV.neqNil1 {x : Operand} {ty yt u : TypeId} {v : Value} [hx : Ev e x (.iface u v)] (hu : P.underlying ty = some (.interface (P.methodsAt ty))) : OpV P n w0 F ⟨d, .binOp .neq ty x (.const .nilIface) yt, t, pos, aft, g⟩ e Γ (.bool true) :=
  fun a w fr _ => by
    have h2 : (Act.eval a (.const .nilIface)) = .nilIface := rfl
    have h4 : (eqGuard .neq ty x (.const .nilIface) (.iface u v) .nilIface).run P w = .ok () w := by simp [eqGuard]
    simp only [execOp, hx.ok n a fr, h2, Sem.run_bind, h4, Result.andThen_ok, run_neq_held_nil w ty u v hu, Sem.run_pure]
theorem OpV.assertOk {x : Operand} {xt at_ : TypeId} {v : Value} [hx : Ev e x (.iface at_ v)] (hi : ∀ w, (Instr.typeAssert (.iface at_ v) xt at_ true).run P w = .ok (.tuple ⟨[v, .bool true]⟩) w) : OpV P n w0 F ⟨d, .typeAssert x xt at_ true, t, pos, aft, g⟩ e Γ (.tuple ⟨[v, .bool true]⟩) :=
  fun a w fr _ => by simp [execOp, hx.ok n a fr, hi w]
end
end Ab
end Go.Proofs.YtdgeffphifgflaaGreat
namespace Go.Proofs.YtdgeffphifgflaaGreat
namespace Ab
open Go Go.RowKit
set_option linter.unusedVariables false
set_option linter.unusedSimpArgs false
set_option synthInstance.maxSize 4000
set_option synthInstance.maxHeartbeats 400000
attribute [local irreducible] JC JO JR JQ andThen inBlock OpV Gives retTo JM JS
section
variable {w0 : World} {F : Nat → Prop} {b2 b3 b4 : Nat} {A B C : List Value} {v2 v3 v4 : List Value}
theorem get1_idle {Γ : List Fact} : Closes Tryz.prog w0 F 182 [.pointer (some ⟨b2, 0, none⟩), .pointer (some ⟨b3, 0, none⟩), .pointer (some ⟨b4, 0, none⟩)] .returning .returning Γ Γ := by
  refine closes_of (.inl ⟨rfl, rfl, rfl⟩) Tryz.func182 rfl Tryz.ntmps182 rfl rfl rfl rfl ?_
  repeat (first|refine Wb ?_|refine Wc ?_|refine We rfl ?_|refine Wf (by exact Va) rfl ?_)
  refine Wf (OpV.neqNil0 (by kernel_rfl)) rfl ?_
  repeat (first|refine Wa ?_|refine Wd ?_|refine Wk ?_|refine Wl ?_)
  exact CT.doneN () rfl (fun w ho => ho)
theorem get1_wrong : Closes Tryz.prog w0 F 182 [.pointer (some ⟨b2, 0, none⟩), .pointer (some ⟨b3, 0, none⟩), .pointer (some ⟨b4, 0, none⟩)] (.panicking wrongP) (.panicking (panR wrongV))
    [.own b2 29 [.int .i64 0, .int .i64 0, .int .i64 0, .slice none 0 0, .int .i64 0, .string .empty, .string .empty, .int .i64 0], .own b3 22 [.slice none 0 0], .own b4 32 [.int .i64 0]]
    [.own b2 29 [.int .i64 0, .int .i64 0, .int .i64 0, .slice none 0 0, .int .i64 0, .string .empty, .string .empty, .int .i64 0], .own b3 22 [.slice none 0 0], .own b4 32 [.int .i64 2]] := by
  refine closes_of (.inr ⟨rfl, rfl⟩) Tryz.func182 rfl Tryz.ntmps182 rfl rfl rfl rfl ?_
  repeat (first|refine Wb ?_|refine Wc ?_|refine We rfl ?_|refine Wf (by exact Va) rfl ?_)
  refine Wf (OpV.neqNil1 (by kernel_rfl)) rfl ?_
  repeat (first|refine Wa ?_|refine Wb ?_|refine Wc ?_|refine Wd ?_|refine We rfl ?_|refine Wf (by exact Va) rfl ?_|refine Wj ?_)
  refine Wf (OpV.assertOk (fun w => by kernel_rfl)) rfl ?_
  repeat (first|refine Wa ?_|refine Wb ?_|refine Wc ?_|refine Wd ?_|refine We rfl ?_|refine Wf (by first|exact Va|exact Vb|exact Vh|exact Vq) rfl ?_|(refine Wg rfl ?_; intro _)|refine Wi ?_|refine Wk ?_|refine Wl ?_)
  refine Wf (OpV.build [.int .i64 0, .int .i64 0, .int .i64 0, .slice none 0 0, .int .i64 0, .string .empty, .string .empty, .int .i64 0] (by kernel_rfl)) rfl ?_
  repeat (first|refine Wd ?_|refine We rfl ?_|refine Wi ?_)
  exact CT.doneN () rfl (fun w ho => ho.ent)
end
def com0 : Commit := ⟨⟨0, 0⟩, 0, [], op0⟩
noncomputable def getT (b : List UInt8) : Commit × List UInt8 × Int := match getC b with | some q => (q.1, q.2, 0) | none => (com0, [], 2)
structure GetY (b : List UInt8) where
  pa : Option Addr
  pc : Nat
  ra : Option Addr
  rc : Nat
theorem getT_some {b : List UInt8} {c : Commit} {r : List UInt8} (h : getC b = some (c, r)) : getT b = (c, r, 0) := by unfold getT; rw [h]
theorem getT_none {b : List UInt8} (h : getC b = none) : getT b = (com0, [], 2) := by unfold getT; rw [h]
theorem getIds_len : ∀ (n : Nat) (b : List UInt8) (q), getIds n b = some q → q.2.length ≤ b.length
  | 0, b, q, h => by cases h; exact Nat.le_refl _
  | n + 1, b, q, h => by
    unfold getIds at h
    split at h
    · cases hq : getIds n (b.drop 32) with
      | none => rw [hq] at h; cases h
      | some q1 =>
        rw [hq] at h; cases h
        have := getIds_len n _ q1 hq
        rw [List.length_drop] at this
        show q1.2.length ≤ _
        omega
    · cases h
theorem numO_len {b : List UInt8} {q} (h : numO b = some q) : q.2.length ≤ b.length := by
  unfold numO at h
  split at h <;> cases h
  simp only [List.length_drop]; omega
theorem uptoO_len {m : Nat} {b : List UInt8} {q} (h : uptoO m b = some q) : q.2.length ≤ b.length := by
  unfold uptoO at h
  split at h <;> cases h
  simp only [List.length_drop]; omega
theorem finC_len {c : Commit} {b : List UInt8} {q} (h : finC c b = some q) : q.2.length ≤ b.length := by
  unfold finC at h
  split at h <;> cases h
  exact Nat.le_refl _
theorem opC_len {n0 : Int} {n1 n2 : Nat} {ps : List ID} {b : List UInt8} {q} (h : opC n0 n1 n2 ps b = some q) : q.2.length ≤ b.length := by
  unfold opC at h
  split at h
  · exact finC_len h
  · split at h
    · exact Nat.le_trans (finC_len h) (getOp_len b)
    · cases h
theorem getC_len {b : List UInt8} {c : Commit} {r : List UInt8} (h : getC b = some (c, r)) : r.length ≤ b.length := by
  unfold getC at h
  obtain ⟨q0, h0, h⟩ := Option.bind_eq_some_iff.1 h
  obtain ⟨q1, h1, h⟩ := Option.bind_eq_some_iff.1 h
  obtain ⟨q2, h2, h⟩ := Option.bind_eq_some_iff.1 h
  obtain ⟨q3, h3, h⟩ := Option.bind_eq_some_iff.1 h
  obtain ⟨q4, h4, h⟩ := Option.bind_eq_some_iff.1 h
  have := numO_len h0; have := uptoO_len h1; have := uptoO_len h2; have := uptoO_len h3; have := getIds_len _ _ _ h4; have := opC_len h
  simp only at *
  omega
set_option maxHeartbeats 1000000 in
theorem get_com (w : World) (F : Nat → Prop) (a : Option Addr) (c : Nat) (b : List UInt8) (h : (sl a c b).holds F w) (hl : b.length ≤ 34359738368) :
    Gives Tryz.prog 123 [.slice a b.length c] w F (fun y : GetY b => .tuple ⟨[commitV (getT b).1 y.pa y.pc, .slice y.ra (getT b).2.1.length y.rc, .int .i64 (getT b).2.2]⟩)
      (fun y => [.st (sl y.pa y.pc (getT b).1.parents), .st (sl y.ra y.rc (getT b).2.1)]) := by
  refine gives_defer (v := fun y : GetY b => .tuple ⟨[commitV (getT b).1 y.pa y.pc, .slice y.ra (getT b).2.1.length y.rc, .int .i64 (getT b).2.2]⟩) Tryz.func123 rfl Tryz.ntmps123 rfl rfl [.st (sl a c b)] (.start1 h) ?_
  refine JX.seq ?_
  repeat (first|refine Wc ?_|refine Wd ?_|refine We rfl ?_|(refine Wg rfl ?_; intro _))
  rename_i b2 b3 b4
  refine ⟨rfl, JX.defer rfl ?_⟩
  repeat (first|refine Wb ?_|refine Wc ?_|refine We rfl ?_|refine Wf (by exact Va) rfl ?_)
  refine Wf (OpV.build [.slice a b.length c] (by kernel_rfl)) rfl ?_
  repeat (first|refine Wa ?_|refine Wb ?_|refine Wc ?_|refine Wd ?_|refine We rfl ?_|refine Wf (by first|exact Va|exact Vb) rfl ?_|(refine Wh rfl ?_; intro _))
  rename_i br
  refine JR.more (Γ' := .own br 207 [.slice a b.length c] :: .st (sl a c b) :: [.own b2 29 [.int .i64 0, .int .i64 0, .int .i64 0, .slice none 0 0, .int .i64 0, .string .empty, .string .empty, .int .i64 0], .own b3 22 [.slice none 0 0], .own b4 32 [.int .i64 0]]) (fun w ho => ho.ent) ?_
  refine JR.callE rfl (fun w1 hw => read_ends hl hw) (fun y => ?_) (fun hn => ?_)
  · obtain ⟨cm, r, hg, pa, pc, ra, rc⟩ := y
    dsimp only
    rw [getT_some hg]
    dsimp only
    repeat (first|refine Wa ?_|refine Wb ?_|refine Wd ?_|refine We rfl ?_|refine Wi ?_)
    have hc := getC_len hg
    refine JC.drawP mixed ?_
    refine JP.take 0 [.own b2 29 [.int .i64 cm.ev.node, .int .i64 cm.ev.seq, .int .i64 cm.gen, .slice pa cm.parents.length pc, .int .i64 cm.op.kind, .string cm.op.key, .string cm.op.elem, .int .i64 cm.op.n]] rfl (by kernel_rfl) rfl Vc rfl rfl ?_
    refine JP.pure 1 rfl (by kernel_rfl) rfl (fun _ => Va) rfl rfl ?_
    refine JP.pure 2 rfl (by kernel_rfl) rfl (fun _ => OpV.nilCheck) rfl rfl ?_
    refine JP.pure 3 rfl (by kernel_rfl) rfl (fun _ => Vd) rfl rfl ?_
    refine JP.take 4 [.own br 207 [.slice ra r.length rc]] rfl (by kernel_rfl) rfl Vc rfl rfl ?_
    refine JP.op 5 (by kernel_rfl) rfl rfl (JR.callBuf rfl (fun w1 hw => clone_bytes w1 _ ra rc r hw.get (by omega)) fun a5 c5 => Wd ⟨rfl, (by repeat (first|exact Obs.nil|refine Obs.keep ?_|refine Obs.skip (by kernel_rfl) ?_)), ?_⟩)
    refine JP.more (fun w1 ho => ho.pub) ?_
    refine JP.op 6 (by kernel_rfl) rfl rfl (Wi (Wd ⟨rfl, (by repeat (first|exact Obs.nil|refine Obs.keep ?_|refine Obs.skip (by kernel_rfl) ?_)), ?_⟩))
    refine JP.op 7 (by kernel_rfl) rfl rfl (Wi (Wd ⟨rfl, (by repeat (first|exact Obs.nil|refine Obs.keep ?_|refine Obs.skip (by kernel_rfl) ?_)), ?_⟩))
    refine JP.op 8 (by kernel_rfl) rfl rfl (Wi (Wd ⟨rfl, (by repeat (first|exact Obs.nil|refine Obs.keep ?_|refine Obs.skip (by kernel_rfl) ?_)), ?_⟩))
    refine JP.nil (by kernel_rfl) ?_
    repeat (first|refine Wa ?_|refine Ws ?_)
    refine ⟨182, _, inferInstance, rfl, _, .inl ⟨.inl rfl, get1_idle⟩, ?_⟩
    exact CT.done (⟨pa, pc, a5, c5⟩ : GetY b) rfl (fun w ho => ho.ent)
  · rw [getT_none hn]
    dsimp only
    repeat (first | refine CT.panic ?_ | refine CT.blockPanic ?_)
    refine ⟨182, _, inferInstance, rfl, _, .inr ⟨wrongV, rfl, get1_wrong⟩, ?_⟩
    exact CT.done (⟨none, 0, none, 0⟩ : GetY b) rfl (fun w ho => ((ho.ent : Hold _ _ [] w).add sl_nil).add sl_nil)
end Ab
end Go.Proofs.YtdgeffphifgflaaGreat
namespace Go.Proofs.YtdgeffphifgflaaGreat
namespace Ab
open Go Go.RowKit
set_option linter.unusedVariables false
set_option linter.unusedSimpArgs false
set_option synthInstance.maxSize 4000
set_option synthInstance.maxHeartbeats 400000
attribute [local irreducible] JC JO JR JQ andThen inBlock OpV Gives retTo JM JS
attribute [local irreducible] sumI hashC
def hashO (c : Commit) : Option ID := if (hashC c).2 = 0 then some (hashC c).1 else none
def parentsL (L : List Commit) : List ID := L.flatMap (·.parents)
end Ab
end Go.Proofs.YtdgeffphifgflaaGreat
