/- Lemmas for the walks, part 5 of 7: WalkL, WalkM, WalkN, WalkO, WalkP, WalkQ, WalkR, Lays2, WalkS, WalkT, WalkU. -/
import Derived.Test.YtcmfemfndadfmaaWb4
import Derived.Test.YtcmfemfndadfmaaWb2
import Derived.Shelf.Bytes.SlJoin
import Derived.Test.YtcmfemfndadfmaaChecked
import Derived.KernelRfl
/- Contracts: rot.Long. -/
namespace Go.Proofs.Ytcmfemfndadfmaa
namespace Ab
open Go Go.RowKit
set_option linter.unusedVariables false
set_option linter.unusedSimpArgs false
set_option synthInstance.maxSize 4000
set_option synthInstance.maxHeartbeats 400000
attribute [local irreducible] JC JO JR JQ andThen inBlock OpV Gives retTo JM JS

/-- A long word's bytes, the highest first. -/
def longB (x : UInt64) (i : Nat) : UInt8 := UInt8.ofNat (x.toNat / 2 ^ (8 * i))
def longL (x : UInt64) : List UInt8 := (List.range 8).map (fun j => longB x (7 - j))
def longK (x : UInt64) (k : Nat) : Vec UInt8 8 := ⟨(List.range 8).map (fun j => if 7 - j < k then longB x (7 - j) else 0), by simp⟩

theorem longK_set (x : UInt64) (k : Nat) (h : k < 8) : (longK x k).1.set (7 - k) (longB x k) = (longK x (k + 1)).1 := by
  match k, h with
  | 0, _ => rfl
  | 1, _ => rfl
  | 2, _ => rfl
  | 3, _ => rfl
  | 4, _ => rfl
  | 5, _ => rfl
  | 6, _ => rfl
  | 7, _ => rfl

theorem long_rot (w : World) (F : Nat → Prop) (x : UInt64) : GivesV Try.prog 70 [w64 x] w F (.agg ⟨(longL x).map byteV⟩) := by
  refine gives_of Try.func70 rfl Try.ntmps70 rfl rfl [] (.start w F) ?_
  repeat (first | refine CT.next ?_ | refine JC.seq ?_ | refine JC.region ?_ | refine JO.nil ?_ | refine JO.go rfl ?_ | refine JR.val (by first | exact OpV.move | exact OpV.assign | exact OpV.load | exact OpV.fieldAddr | exact OpV.indexEl | exact OpV.len | exact OpV.lss | exact OpV.not | exact OpV.pick_true | exact OpV.pick_false | exact OpV.inc (by omega) | exact OpV.eql | exact OpV.neq | exact OpV.leq | exact OpV.gtr | exact OpV.geq | exact OpV.extract | exact OpV.makeFunc | exact OpV.addn (by omega) | exact OpV.add (by omega) | exact OpV.subn (by omega) | exact OpV.sub (by omega) | exact OpV.lens | exact OpV.eqlID | exact OpV.neqID | exact OpV.eqlEv | exact OpV.eqlOp | exact OpV.eqlStr | exact OpV.neqStr | exact OpV.eqlNil | exact OpV.eqlBool | exact OpV.neqBool) rfl ?_ | (refine JR.alloc rfl ?_; intro _) | (refine JR.box rfl ?_; intro _) | refine JR.store ?_ | refine JC.cond_true ?_ | refine JC.cond_false ?_ | refine JC.skip ?_ | refine JC.exit ?_ | refine JC.block ?_ | refine CT.past ?_ | refine CT.hit ?_ | refine CT.miss rfl ?_ | refine CT.blockEnd ?_ | refine JC.ret ?_ | refine CT.ret ?_ | refine CT.blockRet ?_ | refine JO.omit rfl rfl ?_ | (refine JR.lit rfl ⟨rfl, by decide, by decide, by decide⟩ ?_; intro _))
  rename_i bo
  refine JC.reown bo ((longK x 0).1.map byteV) rfl ?_
  refine JC.loop1 (fun k : Nat => [(0, w64 x), (2, .pointer (some ⟨bo, 0, none⟩)), (4, .int .i64 (k : Int))]) (fun k => [.own bo 110 ((longK x k).1.map byteV)])
    (fun k => k ≤ 8) (fun k => 8 - k) 0 (Nat.zero_le _) inferInstance ?_
  intro k hk
  repeat (first | refine CT.next ?_ | refine JC.seq ?_ | refine JC.region ?_ | refine JO.nil ?_ | refine JO.go rfl ?_ | refine JR.val (by first | exact OpV.move | exact OpV.assign | exact OpV.load | exact OpV.fieldAddr | exact OpV.indexEl | exact OpV.len | exact OpV.lss | exact OpV.not | exact OpV.pick_true | exact OpV.pick_false | exact OpV.inc (by omega) | exact OpV.eql | exact OpV.neq | exact OpV.leq | exact OpV.gtr | exact OpV.geq | exact OpV.extract | exact OpV.makeFunc | exact OpV.addn (by omega) | exact OpV.add (by omega) | exact OpV.subn (by omega) | exact OpV.sub (by omega) | exact OpV.lens | exact OpV.eqlID | exact OpV.neqID | exact OpV.eqlEv | exact OpV.eqlOp | exact OpV.eqlStr | exact OpV.neqStr | exact OpV.eqlNil | exact OpV.eqlBool | exact OpV.neqBool) rfl ?_ | (refine JR.alloc rfl ?_; intro _) | (refine JR.box rfl ?_; intro _) | refine JR.store ?_ | refine JC.cond_true ?_ | refine JC.cond_false ?_ | refine JC.skip ?_ | refine JC.exit ?_ | refine JC.block ?_ | refine CT.past ?_ | refine CT.hit ?_ | refine CT.miss rfl ?_ | refine CT.blockEnd ?_ | refine JC.ret ?_ | refine CT.ret ?_ | refine CT.blockRet ?_ | refine JO.omit rfl rfl ?_ | (refine JR.lit rfl ⟨rfl, by decide, by decide, by decide⟩ ?_; intro _))
  refine JC.test (fun hlt => ?_) (fun hge => ?_)
  · have hlt' : k < 8 := by omega
    repeat (first | refine CT.next ?_ | refine JC.seq ?_ | refine JC.region ?_ | refine JO.nil ?_ | refine JO.go rfl ?_ | refine JR.val (by first | exact OpV.move | exact OpV.assign | exact OpV.load | exact OpV.fieldAddr | exact OpV.indexEl | exact OpV.len | exact OpV.lss | exact OpV.not | exact OpV.pick_true | exact OpV.pick_false | exact OpV.inc (by omega) | exact OpV.eql | exact OpV.neq | exact OpV.leq | exact OpV.gtr | exact OpV.geq | exact OpV.extract | exact OpV.makeFunc | exact OpV.addn (by omega) | exact OpV.add (by omega) | exact OpV.subn (by omega) | exact OpV.sub (by omega) | exact OpV.lens | exact OpV.eqlID | exact OpV.neqID | exact OpV.eqlEv | exact OpV.eqlOp | exact OpV.eqlStr | exact OpV.neqStr | exact OpV.eqlNil | exact OpV.eqlBool | exact OpV.neqBool) rfl ?_ | (refine JR.alloc rfl ?_; intro _) | (refine JR.box rfl ?_; intro _) | refine JR.store ?_ | refine JC.cond_true ?_ | refine JC.cond_false ?_ | refine JC.skip ?_ | refine JC.exit ?_ | refine JC.block ?_ | refine CT.past ?_ | refine CT.hit ?_ | refine CT.miss rfl ?_ | refine CT.blockEnd ?_ | refine JC.ret ?_ | refine CT.ret ?_ | refine CT.blockRet ?_ | refine JO.omit rfl rfl ?_ | (refine JR.lit rfl ⟨rfl, by decide, by decide, by decide⟩ ?_; intro _))
    refine JR.val (OpV.mul (by omega)) rfl ?_
    refine JO.reslot 11 (.int .i64 ((8 * k : Nat) : Int)) (by congr 1) ?_
    refine JO.reslot 8 (.int .i64 ((7 - k : Nat) : Int)) (by congr 1 <;> omega) ?_
    refine JO.go rfl ?_
    refine JR.val (OpV.shr64 (k := 8 * k) (by omega)) rfl ?_
    refine JO.go rfl ?_
    refine JR.val OpV.conv rfl ?_
    refine JO.reslot 13 (byteV (longB x k)) (congrArg (Value.int .u8) (by
      rw [wrap8, longB, UInt8.toNat_ofNat', shrN64, UInt64.toNat_ofNat', Nat.mod_eq_of_lt (a := x.toNat / _) (Nat.lt_of_le_of_lt (Nat.div_le_self _ _) x.toNat_lt)])) ?_
    refine JO.go rfl ?_
    refine JR.val (OpV.indexArr (k := 7 - k) (by omega)) rfl ?_
    refine JO.go rfl ?_
    refine JR.setW (7 - k) (longB x k) (by rw [(longK x k).2]; omega) (by omega) rfl ?_
    rw [longK_set x k hlt']
    repeat (first | refine CT.next ?_ | refine JC.seq ?_ | refine JC.region ?_ | refine JO.nil ?_ | refine JO.go rfl ?_ | refine JR.val (by first | exact OpV.move | exact OpV.assign | exact OpV.load | exact OpV.fieldAddr | exact OpV.indexEl | exact OpV.len | exact OpV.lss | exact OpV.not | exact OpV.pick_true | exact OpV.pick_false | exact OpV.inc (by omega) | exact OpV.eql | exact OpV.neq | exact OpV.leq | exact OpV.gtr | exact OpV.geq | exact OpV.extract | exact OpV.makeFunc | exact OpV.addn (by omega) | exact OpV.add (by omega) | exact OpV.subn (by omega) | exact OpV.sub (by omega) | exact OpV.lens | exact OpV.eqlID | exact OpV.neqID | exact OpV.eqlEv | exact OpV.eqlOp | exact OpV.eqlStr | exact OpV.neqStr | exact OpV.eqlNil | exact OpV.eqlBool | exact OpV.neqBool) rfl ?_ | (refine JR.alloc rfl ?_; intro _) | (refine JR.box rfl ?_; intro _) | refine JR.store ?_ | refine JC.cond_true ?_ | refine JC.cond_false ?_ | refine JC.skip ?_ | refine JC.exit ?_ | refine JC.block ?_ | refine CT.past ?_ | refine CT.hit ?_ | refine CT.miss rfl ?_ | refine CT.blockEnd ?_ | refine JC.ret ?_ | refine CT.ret ?_ | refine CT.blockRet ?_ | refine JO.omit rfl rfl ?_ | (refine JR.lit rfl ⟨rfl, by decide, by decide, by decide⟩ ?_; intro _))
    exact ⟨k + 1, by omega, by omega, inferInstance⟩
  · obtain rfl : k = 8 := by omega
    repeat (first | refine CT.next ?_ | refine JC.seq ?_ | refine JC.region ?_ | refine JO.nil ?_ | refine JO.go rfl ?_ | refine JR.val (by first | exact OpV.move | exact OpV.assign | exact OpV.load | exact OpV.fieldAddr | exact OpV.indexEl | exact OpV.len | exact OpV.lss | exact OpV.not | exact OpV.pick_true | exact OpV.pick_false | exact OpV.inc (by omega) | exact OpV.eql | exact OpV.neq | exact OpV.leq | exact OpV.gtr | exact OpV.geq | exact OpV.extract | exact OpV.makeFunc | exact OpV.addn (by omega) | exact OpV.add (by omega) | exact OpV.subn (by omega) | exact OpV.sub (by omega) | exact OpV.lens | exact OpV.eqlID | exact OpV.neqID | exact OpV.eqlEv | exact OpV.eqlOp | exact OpV.eqlStr | exact OpV.neqStr | exact OpV.eqlNil | exact OpV.eqlBool | exact OpV.neqBool) rfl ?_ | (refine JR.alloc rfl ?_; intro _) | (refine JR.box rfl ?_; intro _) | refine JR.store ?_ | refine JC.cond_true ?_ | refine JC.cond_false ?_ | refine JC.skip ?_ | refine JC.exit ?_ | refine JC.block ?_ | refine CT.past ?_ | refine CT.hit ?_ | refine CT.miss rfl ?_ | refine CT.blockEnd ?_ | refine JC.ret ?_ | refine CT.ret ?_ | refine CT.blockRet ?_ | refine JO.omit rfl rfl ?_ | (refine JR.lit rfl ⟨rfl, by decide, by decide, by decide⟩ ?_; intro _))
    exact CT.done () rfl (fun w ho => ho.ent)
end Ab
end Go.Proofs.Ytcmfemfndadfmaa

/- Contracts: rot.Word. -/
namespace Go.Proofs.Ytcmfemfndadfmaa
namespace Ab
open Go Go.RowKit
set_option linter.unusedVariables false
set_option linter.unusedSimpArgs false
set_option synthInstance.maxSize 4000
set_option synthInstance.maxHeartbeats 400000
attribute [local irreducible] JC JO JR JQ andThen inBlock OpV Gives retTo JM JS

def word4 (a b c d : UInt8) : UInt32 := ((shlN32 a.toUInt32 24 ||| shlN32 b.toUInt32 16) ||| shlN32 c.toUInt32 8) ||| d.toUInt32
def wordAt (L : List UInt8) (k : Nat) : UInt32 := word4 (L.getD k 0) (L.getD (k + 1) 0) (L.getD (k + 2) 0) (L.getD (k + 3) 0)

instance : NatI (24 : Int) 24 := ⟨rfl⟩
theorem conv832 (b : UInt8) : Value.int .u32 (IntKind.u32.wrap (b.toNat : Int)) = w32 b.toUInt32 := by
  rw [wrap32, Nat.mod_eq_of_lt (by have := b.toNat_lt; omega)]; exact congrArg (fun n : Nat => Value.int .u32 (n : Int)) (UInt8.toNat_toUInt32 b).symm

theorem take4 (L : List UInt8) (k : Nat) (h : k + 4 ≤ L.length) : (L.drop k).take (k + 4 - k) = [L.getD k 0, L.getD (k + 1) 0, L.getD (k + 2) 0, L.getD (k + 3) 0] := by
  rw [show k + 4 - k = 4 by omega]
  apply List.ext_getElem?
  intro i
  rw [List.getElem?_take, List.getElem?_drop]
  match i with
  | 0 => simp [show k < L.length by omega]
  | 1 => simp [show k + 1 < L.length by omega]
  | 2 => simp [show k + 2 < L.length by omega]
  | 3 => simp [show k + 3 < L.length by omega]
  | i + 4 => simp; omega

theorem word_rot (w : World) (F : Nat → Prop) (a : Option Addr) (c : Nat) (L : List UInt8) (k : Nat) (h : (sl a c L).holds F w) (hk : k + 4 ≤ L.length) :
    GivesV Try.prog 83 [.slice a L.length c, .int .i64 (k : Int)] w F (.tuple ⟨[w32 (wordAt L k), .bool true]⟩) := by
  have hL : L.length < 9223372036854775800 := by have := h.2.2.1; simp only [lim] at this; omega
  refine gives_of Try.func83 rfl Try.ntmps83 rfl rfl [.st (sl a c L)] (.start1 h) ?_
  repeat (first | refine CT.next ?_ | refine JC.seq ?_ | refine JC.region ?_ | refine JO.nil ?_ | refine JO.go rfl ?_ | refine JR.val (by first | exact OpV.move | exact OpV.assign | exact OpV.load | exact OpV.fieldAddr | exact OpV.indexEl | exact OpV.len | exact OpV.lss | exact OpV.not | exact OpV.pick_true | exact OpV.pick_false | exact OpV.inc (by omega) | exact OpV.eql | exact OpV.neq | exact OpV.leq | exact OpV.gtr | exact OpV.geq | exact OpV.extract | exact OpV.makeFunc | exact OpV.addn (by omega) | exact OpV.add (by omega) | exact OpV.subn (by omega) | exact OpV.sub (by omega) | exact OpV.lens | exact OpV.eqlID | exact OpV.neqID | exact OpV.eqlEv | exact OpV.eqlOp | exact OpV.eqlStr | exact OpV.neqStr | exact OpV.eqlNil | exact OpV.eqlBool | exact OpV.neqBool) rfl ?_ | (refine JR.alloc rfl ?_; intro _) | (refine JR.box rfl ?_; intro _) | refine JR.store ?_ | refine JC.cond_true ?_ | refine JC.cond_false ?_ | refine JC.skip ?_ | refine JC.exit ?_ | refine JC.block ?_ | refine CT.past ?_ | refine CT.hit ?_ | refine CT.miss rfl ?_ | refine CT.blockEnd ?_ | refine JC.ret ?_ | refine CT.ret ?_ | refine CT.blockRet ?_ | refine JO.omit rfl rfl ?_ | (refine JR.lit rfl ⟨rfl, by decide, by decide, by decide⟩ ?_; intro _))
  refine JC.test (fun h2 => ?_) (fun h2 => ?_)
  · omega
  repeat (first | refine CT.next ?_ | refine JC.seq ?_ | refine JC.region ?_ | refine JO.nil ?_ | refine JO.go rfl ?_ | refine JR.val (by first | exact OpV.move | exact OpV.assign | exact OpV.load | exact OpV.fieldAddr | exact OpV.indexEl | exact OpV.len | exact OpV.lss | exact OpV.not | exact OpV.pick_true | exact OpV.pick_false | exact OpV.inc (by omega) | exact OpV.eql | exact OpV.neq | exact OpV.leq | exact OpV.gtr | exact OpV.geq | exact OpV.extract | exact OpV.makeFunc | exact OpV.addn (by omega) | exact OpV.add (by omega) | exact OpV.subn (by omega) | exact OpV.sub (by omega) | exact OpV.lens | exact OpV.eqlID | exact OpV.neqID | exact OpV.eqlEv | exact OpV.eqlOp | exact OpV.eqlStr | exact OpV.neqStr | exact OpV.eqlNil | exact OpV.eqlBool | exact OpV.neqBool) rfl ?_ | (refine JR.alloc rfl ?_; intro _) | (refine JR.box rfl ?_; intro _) | refine JR.store ?_ | refine JC.cond_true ?_ | refine JC.cond_false ?_ | refine JC.skip ?_ | refine JC.exit ?_ | refine JC.block ?_ | refine CT.past ?_ | refine CT.hit ?_ | refine CT.miss rfl ?_ | refine CT.blockEnd ?_ | refine JC.ret ?_ | refine CT.ret ?_ | refine CT.blockRet ?_ | refine JO.omit rfl rfl ?_ | (refine JR.lit rfl ⟨rfl, by decide, by decide, by decide⟩ ?_; intro _))
  refine JR.sliceMid (l := k) (k := k + 4) rfl rfl ⟨by omega, hk⟩ ?_
  intro a2 c2
  rw [take4 L k hk]
  repeat (first | refine CT.next ?_ | refine JC.seq ?_ | refine JC.region ?_ | refine JO.nil ?_ | refine JO.go rfl ?_ | refine JR.val (by first | exact OpV.move | exact OpV.assign | exact OpV.load | exact OpV.fieldAddr | exact OpV.indexEl | exact OpV.len | exact OpV.lss | exact OpV.not | exact OpV.pick_true | exact OpV.pick_false | exact OpV.inc (by omega) | exact OpV.eql | exact OpV.neq | exact OpV.leq | exact OpV.gtr | exact OpV.geq | exact OpV.extract | exact OpV.makeFunc | exact OpV.addn (by omega) | exact OpV.add (by omega) | exact OpV.subn (by omega) | exact OpV.sub (by omega) | exact OpV.lens | exact OpV.eqlID | exact OpV.neqID | exact OpV.eqlEv | exact OpV.eqlOp | exact OpV.eqlStr | exact OpV.neqStr | exact OpV.eqlNil | exact OpV.eqlBool | exact OpV.neqBool) rfl ?_ | (refine JR.alloc rfl ?_; intro _) | (refine JR.box rfl ?_; intro _) | refine JR.store ?_ | refine JC.cond_true ?_ | refine JC.cond_false ?_ | refine JC.skip ?_ | refine JC.exit ?_ | refine JC.block ?_ | refine CT.past ?_ | refine CT.hit ?_ | refine CT.miss rfl ?_ | refine CT.blockEnd ?_ | refine JC.ret ?_ | refine CT.ret ?_ | refine CT.blockRet ?_ | refine JO.omit rfl rfl ?_ | (refine JR.lit rfl ⟨rfl, by decide, by decide, by decide⟩ ?_; intro _))
  refine JR.arrayPtr rfl ⟨rfl, by simp⟩ ?_
  intro b o
  simp only [List.map_cons, List.map_nil]
  repeat (first | refine CT.next ?_ | refine JC.seq ?_ | refine JC.region ?_ | refine JO.nil ?_ | refine JO.go rfl ?_ | refine JR.val (by first | exact OpV.move | exact OpV.assign | exact OpV.and32 | exact OpV.or32 | exact OpV.xor32 | exact OpV.andNot32 | exact OpV.add32 | exact OpV.load | exact OpV.indexArr (by decide)) rfl ?_ | refine JC.ret ?_ | refine CT.ret ?_)
  repeat (first | refine CT.next ?_ | refine JC.seq ?_ | refine JC.region ?_ | refine JO.nil ?_ | refine JO.go rfl ?_ | refine JR.val (by first | exact OpV.move | exact OpV.assign | exact OpV.load | exact OpV.fieldAddr | exact OpV.indexEl | exact OpV.len | exact OpV.lss | exact OpV.not | exact OpV.pick_true | exact OpV.pick_false | exact OpV.inc (by omega) | exact OpV.eql | exact OpV.neq | exact OpV.leq | exact OpV.gtr | exact OpV.geq | exact OpV.extract | exact OpV.makeFunc | exact OpV.addn (by omega) | exact OpV.add (by omega) | exact OpV.subn (by omega) | exact OpV.sub (by omega) | exact OpV.lens | exact OpV.eqlID | exact OpV.neqID | exact OpV.eqlEv | exact OpV.eqlOp | exact OpV.eqlStr | exact OpV.neqStr | exact OpV.eqlNil | exact OpV.eqlBool | exact OpV.neqBool) rfl ?_ | (refine JR.alloc rfl ?_; intro _) | (refine JR.box rfl ?_; intro _) | refine JR.store ?_ | refine JC.cond_true ?_ | refine JC.cond_false ?_ | refine JC.skip ?_ | refine JC.exit ?_ | refine JC.block ?_ | refine CT.past ?_ | refine CT.hit ?_ | refine CT.miss rfl ?_ | refine CT.blockEnd ?_ | refine JC.ret ?_ | refine CT.ret ?_ | refine CT.blockRet ?_ | refine JO.omit rfl rfl ?_ | (refine JR.lit rfl ⟨rfl, by decide, by decide, by decide⟩ ?_; intro _))
  rename_i bx
  refine JR.val (OpV.indexArr (by decide)) rfl ?_
  refine JO.reslot 23 (.pointer (some ⟨bx, 0, none⟩)) rfl ?_
  refine JO.go rfl ?_
  refine JR.val OpV.load rfl ?_
  refine JO.go rfl ?_
  refine JR.val OpV.conv rfl ?_
  refine JO.reslot 25 (w32 (L.getD k 0).toUInt32) (conv832 _) ?_
  refine JO.go rfl ?_
  refine JR.val (OpV.shl32 (k := 24) (by decide)) rfl ?_
  refine JO.go rfl ?_
  refine JR.val (OpV.indexArr (by decide)) rfl ?_
  refine JO.reslot 27 (.pointer (some ⟨bx, 1, none⟩)) rfl ?_
  refine JO.go rfl ?_
  refine JR.val OpV.load rfl ?_
  refine JO.go rfl ?_
  refine JR.val OpV.conv rfl ?_
  refine JO.reslot 29 (w32 (L.getD (k + 1) 0).toUInt32) (conv832 _) ?_
  refine JO.go rfl ?_
  refine JR.val (OpV.shl32 (k := 16) (by decide)) rfl ?_
  refine JO.go rfl ?_
  refine JR.val OpV.or32 rfl ?_
  refine JO.go rfl ?_
  refine JR.val (OpV.indexArr (by decide)) rfl ?_
  refine JO.reslot 32 (.pointer (some ⟨bx, 2, none⟩)) rfl ?_
  refine JO.go rfl ?_
  refine JR.val OpV.load rfl ?_
  refine JO.go rfl ?_
  refine JR.val OpV.conv rfl ?_
  refine JO.reslot 34 (w32 (L.getD (k + 2) 0).toUInt32) (conv832 _) ?_
  refine JO.go rfl ?_
  refine JR.val (OpV.shl32 (k := 8) (by decide)) rfl ?_
  refine JO.go rfl ?_
  refine JR.val OpV.or32 rfl ?_
  refine JO.go rfl ?_
  refine JR.val (OpV.indexArr (by decide)) rfl ?_
  refine JO.reslot 37 (.pointer (some ⟨bx, 3, none⟩)) rfl ?_
  refine JO.go rfl ?_
  refine JR.val OpV.load rfl ?_
  refine JO.go rfl ?_
  refine JR.val OpV.conv rfl ?_
  refine JO.reslot 39 (w32 (L.getD (k + 3) 0).toUInt32) (conv832 _) ?_
  refine JO.go rfl ?_
  refine JR.val OpV.or32 rfl ?_
  repeat (first | refine CT.next ?_ | refine JC.seq ?_ | refine JC.region ?_ | refine JO.nil ?_ | refine JO.go rfl ?_ | refine JR.val (by first | exact OpV.move | exact OpV.assign | exact OpV.load | exact OpV.fieldAddr | exact OpV.indexEl | exact OpV.len | exact OpV.lss | exact OpV.not | exact OpV.pick_true | exact OpV.pick_false | exact OpV.inc (by omega) | exact OpV.eql | exact OpV.neq | exact OpV.leq | exact OpV.gtr | exact OpV.geq | exact OpV.extract | exact OpV.makeFunc | exact OpV.addn (by omega) | exact OpV.add (by omega) | exact OpV.subn (by omega) | exact OpV.sub (by omega) | exact OpV.lens | exact OpV.eqlID | exact OpV.neqID | exact OpV.eqlEv | exact OpV.eqlOp | exact OpV.eqlStr | exact OpV.neqStr | exact OpV.eqlNil | exact OpV.eqlBool | exact OpV.neqBool) rfl ?_ | (refine JR.alloc rfl ?_; intro _) | (refine JR.box rfl ?_; intro _) | refine JR.store ?_ | refine JC.cond_true ?_ | refine JC.cond_false ?_ | refine JC.skip ?_ | refine JC.exit ?_ | refine JC.block ?_ | refine CT.past ?_ | refine CT.hit ?_ | refine CT.miss rfl ?_ | refine CT.blockEnd ?_ | refine JC.ret ?_ | refine CT.ret ?_ | refine CT.blockRet ?_ | refine JO.omit rfl rfl ?_ | (refine JR.lit rfl ⟨rfl, by decide, by decide, by decide⟩ ?_; intro _))
  exact CT.done () rfl (fun w ho => ho.ent)
end Ab
end Go.Proofs.Ytcmfemfndadfmaa

/- Contracts: sha.spread. -/
namespace Go.Proofs.Ytcmfemfndadfmaa
namespace Ab
open Go Go.RowKit
set_option linter.unusedVariables false
set_option linter.unusedSimpArgs false
set_option synthInstance.maxSize 4000
set_option synthInstance.maxHeartbeats 400000
attribute [local irreducible] JC JO JR JQ andThen inBlock OpV Gives retTo JM JS

/-- The words of a block, one after another. -/
def wordK (L : List UInt8) (W : List UInt32) (k : Nat) : UInt32 :=
  if k < 16 then wordAt L (4 * k) else ((W.getD (k - 16) 0 + W.getD (k - 7) 0) + small32 (W.getD (k - 15) 0) 7 18 3) + small32 (W.getD (k - 2) 0) 17 19 10
def spreadK (L : List UInt8) : Nat → List UInt32
  | 0 => List.replicate 64 0
  | k + 1 => (spreadK L k).set k (wordK L (spreadK L k) k)
theorem spreadK_length (L : List UInt8) (k : Nat) : (spreadK L k).length = 64 := by
  induction k with
  | zero => simp [spreadK]
  | succ k ih => simp [spreadK, ih]
def spreadV (L : List UInt8) (k : Nat) : Vec UInt32 64 := ⟨spreadK L k, spreadK_length L k⟩
theorem spreadV_zero (L : List UInt8) : (spreadV L 0).1 = List.replicate 64 0 := rfl
theorem spreadV_succ (L : List UInt8) (k : Nat) : (spreadV L (k + 1)).1 = (spreadV L k).1.set k (wordK L (spreadV L k).1 k) := rfl
theorem getD_at {W : List UInt32} {k : Nat} (h : k < W.length) : W[k]'h = W.getD k 0 := by simp [List.getD_eq_getElem?_getD, h]

attribute [local irreducible] spreadK
set_option maxHeartbeats 1000000 in
theorem spread_sha (w : World) (F : Nat → Prop) (a : Option Addr) (c : Nat) (L : List UInt8) (h : (sl a c L).holds F w) (hL : L.length = 64) :
    GivesV Try.prog 72 [.slice a L.length c] w F (.agg ⟨(spreadV L 64).1.map w32⟩) := by
  refine gives_of Try.func72 rfl Try.ntmps72 rfl rfl [.st (sl a c L)] (.start1 h) ?_
  repeat (first | refine CT.next ?_ | refine JC.seq ?_ | refine JC.region ?_ | refine JO.nil ?_ | refine JO.go rfl ?_ | refine JR.val (by first | exact OpV.move | exact OpV.assign | exact OpV.load | exact OpV.fieldAddr | exact OpV.indexEl | exact OpV.len | exact OpV.lss | exact OpV.not | exact OpV.pick_true | exact OpV.pick_false | exact OpV.inc (by omega) | exact OpV.eql | exact OpV.neq | exact OpV.leq | exact OpV.gtr | exact OpV.geq | exact OpV.extract | exact OpV.makeFunc | exact OpV.addn (by omega) | exact OpV.add (by omega) | exact OpV.subn (by omega) | exact OpV.sub (by omega) | exact OpV.lens | exact OpV.eqlID | exact OpV.neqID | exact OpV.eqlEv | exact OpV.eqlOp | exact OpV.eqlStr | exact OpV.neqStr | exact OpV.eqlNil | exact OpV.eqlBool | exact OpV.neqBool) rfl ?_ | (refine JR.alloc rfl ?_; intro _) | (refine JR.box rfl ?_; intro _) | refine JR.store ?_ | refine JC.cond_true ?_ | refine JC.cond_false ?_ | refine JC.skip ?_ | refine JC.exit ?_ | refine JC.block ?_ | refine CT.past ?_ | refine CT.hit ?_ | refine CT.miss rfl ?_ | refine CT.blockEnd ?_ | refine JC.ret ?_ | refine CT.ret ?_ | refine CT.blockRet ?_ | refine JO.omit rfl rfl ?_ | (refine JR.lit rfl ⟨rfl, by decide, by decide, by decide⟩ ?_; intro _))
  rename_i bo
  refine JC.reown bo ((spreadV L 0).1.map w32) (by rw [spreadV_zero, List.map_replicate]; rfl) ?_
  refine JC.loop1 (fun k : Nat => [(0, .slice a L.length c), (2, .pointer (some ⟨bo, 0, none⟩)), (4, .int .i64 (k : Int))]) (fun k => [.own bo 112 ((spreadV L k).1.map w32), .st (sl a c L)])
    (fun k => k ≤ 64) (fun k => 64 - k) 0 (Nat.zero_le _) inferInstance ?_
  intro k hk
  repeat (first | refine CT.next ?_ | refine JC.seq ?_ | refine JC.region ?_ | refine JO.nil ?_ | refine JO.go rfl ?_ | refine JR.val (by first | exact OpV.move | exact OpV.assign | exact OpV.load | exact OpV.fieldAddr | exact OpV.indexEl | exact OpV.len | exact OpV.lss | exact OpV.not | exact OpV.pick_true | exact OpV.pick_false | exact OpV.inc (by omega) | exact OpV.eql | exact OpV.neq | exact OpV.leq | exact OpV.gtr | exact OpV.geq | exact OpV.extract | exact OpV.makeFunc | exact OpV.addn (by omega) | exact OpV.add (by omega) | exact OpV.subn (by omega) | exact OpV.sub (by omega) | exact OpV.lens | exact OpV.eqlID | exact OpV.neqID | exact OpV.eqlEv | exact OpV.eqlOp | exact OpV.eqlStr | exact OpV.neqStr | exact OpV.eqlNil | exact OpV.eqlBool | exact OpV.neqBool) rfl ?_ | (refine JR.alloc rfl ?_; intro _) | (refine JR.box rfl ?_; intro _) | refine JR.store ?_ | refine JC.cond_true ?_ | refine JC.cond_false ?_ | refine JC.skip ?_ | refine JC.exit ?_ | refine JC.block ?_ | refine CT.past ?_ | refine CT.hit ?_ | refine CT.miss rfl ?_ | refine CT.blockEnd ?_ | refine JC.ret ?_ | refine CT.ret ?_ | refine CT.blockRet ?_ | refine JO.omit rfl rfl ?_ | (refine JR.lit rfl ⟨rfl, by decide, by decide, by decide⟩ ?_; intro _))
  refine JC.test (fun hlt => ?_) (fun hge => ?_)
  · have hlt' : k < 64 := by omega
    have hv := (spreadV L k).2
    repeat (first | refine CT.next ?_ | refine JC.seq ?_ | refine JC.region ?_ | refine JO.nil ?_ | refine JO.go rfl ?_ | refine JR.val (by first | exact OpV.move | exact OpV.assign | exact OpV.load | exact OpV.fieldAddr | exact OpV.indexEl | exact OpV.len | exact OpV.lss | exact OpV.not | exact OpV.pick_true | exact OpV.pick_false | exact OpV.inc (by omega) | exact OpV.eql | exact OpV.neq | exact OpV.leq | exact OpV.gtr | exact OpV.geq | exact OpV.extract | exact OpV.makeFunc | exact OpV.addn (by omega) | exact OpV.add (by omega) | exact OpV.subn (by omega) | exact OpV.sub (by omega) | exact OpV.lens | exact OpV.eqlID | exact OpV.neqID | exact OpV.eqlEv | exact OpV.eqlOp | exact OpV.eqlStr | exact OpV.neqStr | exact OpV.eqlNil | exact OpV.eqlBool | exact OpV.neqBool) rfl ?_ | (refine JR.alloc rfl ?_; intro _) | (refine JR.box rfl ?_; intro _) | refine JR.store ?_ | refine JC.cond_true ?_ | refine JC.cond_false ?_ | refine JC.skip ?_ | refine JC.exit ?_ | refine JC.block ?_ | refine CT.past ?_ | refine CT.hit ?_ | refine CT.miss rfl ?_ | refine CT.blockEnd ?_ | refine JC.ret ?_ | refine CT.ret ?_ | refine CT.blockRet ?_ | refine JO.omit rfl rfl ?_ | (refine JR.lit rfl ⟨rfl, by decide, by decide, by decide⟩ ?_; intro _))
    refine JC.test (fun h16 => ?_) (fun h16 => ?_)
    · have h16' : k < 16 := by omega
      repeat (first | refine CT.next ?_ | refine JC.seq ?_ | refine JC.region ?_ | refine JO.nil ?_ | refine JO.go rfl ?_ | refine JR.val (by first | exact OpV.move | exact OpV.assign | exact OpV.load | exact OpV.fieldAddr | exact OpV.indexEl | exact OpV.len | exact OpV.lss | exact OpV.not | exact OpV.pick_true | exact OpV.pick_false | exact OpV.inc (by omega) | exact OpV.eql | exact OpV.neq | exact OpV.leq | exact OpV.gtr | exact OpV.geq | exact OpV.extract | exact OpV.makeFunc | exact OpV.addn (by omega) | exact OpV.add (by omega) | exact OpV.subn (by omega) | exact OpV.sub (by omega) | exact OpV.lens | exact OpV.eqlID | exact OpV.neqID | exact OpV.eqlEv | exact OpV.eqlOp | exact OpV.eqlStr | exact OpV.neqStr | exact OpV.eqlNil | exact OpV.eqlBool | exact OpV.neqBool) rfl ?_ | (refine JR.alloc rfl ?_; intro _) | (refine JR.box rfl ?_; intro _) | refine JR.store ?_ | refine JC.cond_true ?_ | refine JC.cond_false ?_ | refine JC.skip ?_ | refine JC.exit ?_ | refine JC.block ?_ | refine CT.past ?_ | refine CT.hit ?_ | refine CT.miss rfl ?_ | refine CT.blockEnd ?_ | refine JC.ret ?_ | refine CT.ret ?_ | refine CT.blockRet ?_ | refine JO.omit rfl rfl ?_ | (refine JR.lit rfl ⟨rfl, by decide, by decide, by decide⟩ ?_; intro _))
      refine JR.val (OpV.shl (by decide)) rfl ?_
      refine JO.reslot 13 (.int .i64 ((4 * k : Nat) : Int)) (congrArg (Value.int .i64) (by show IntKind.i64.wrap ((k : Int) * 2 ^ 2) = _; rw [IntKind.wrap_i64]; omega)) ?_
      refine JO.go rfl ?_
      refine JR.callV rfl (fun w1 hw => word_rot w1 _ a c L (4 * k) hw.get (by omega)) ?_
      repeat (first | refine CT.next ?_ | refine JC.seq ?_ | refine JC.region ?_ | refine JO.nil ?_ | refine JO.go rfl ?_ | refine JR.val (by first | exact OpV.move | exact OpV.assign | exact OpV.load | exact OpV.fieldAddr | exact OpV.indexEl | exact OpV.len | exact OpV.lss | exact OpV.not | exact OpV.pick_true | exact OpV.pick_false | exact OpV.inc (by omega) | exact OpV.eql | exact OpV.neq | exact OpV.leq | exact OpV.gtr | exact OpV.geq | exact OpV.extract | exact OpV.makeFunc | exact OpV.addn (by omega) | exact OpV.add (by omega) | exact OpV.subn (by omega) | exact OpV.sub (by omega) | exact OpV.lens | exact OpV.eqlID | exact OpV.neqID | exact OpV.eqlEv | exact OpV.eqlOp | exact OpV.eqlStr | exact OpV.neqStr | exact OpV.eqlNil | exact OpV.eqlBool | exact OpV.neqBool) rfl ?_ | (refine JR.alloc rfl ?_; intro _) | (refine JR.box rfl ?_; intro _) | refine JR.store ?_ | refine JC.cond_true ?_ | refine JC.cond_false ?_ | refine JC.skip ?_ | refine JC.exit ?_ | refine JC.block ?_ | refine CT.past ?_ | refine CT.hit ?_ | refine CT.miss rfl ?_ | refine CT.blockEnd ?_ | refine JC.ret ?_ | refine CT.ret ?_ | refine CT.blockRet ?_ | refine JO.omit rfl rfl ?_ | (refine JR.lit rfl ⟨rfl, by decide, by decide, by decide⟩ ?_; intro _))
      refine JR.val (OpV.indexArr hlt') rfl ?_
      refine JO.go rfl ?_
      refine JR.setW k (wordAt L (4 * k)) (by omega) (by omega) rfl ?_
      refine JO.reown bo ((spreadV L (k + 1)).1.map w32) (by rw [spreadV_succ, wordK, if_pos h16']) ?_
      repeat (first | refine CT.next ?_ | refine JC.seq ?_ | refine JC.region ?_ | refine JO.nil ?_ | refine JO.go rfl ?_ | refine JR.val (by first | exact OpV.move | exact OpV.assign | exact OpV.load | exact OpV.fieldAddr | exact OpV.indexEl | exact OpV.len | exact OpV.lss | exact OpV.not | exact OpV.pick_true | exact OpV.pick_false | exact OpV.inc (by omega) | exact OpV.eql | exact OpV.neq | exact OpV.leq | exact OpV.gtr | exact OpV.geq | exact OpV.extract | exact OpV.makeFunc | exact OpV.addn (by omega) | exact OpV.add (by omega) | exact OpV.subn (by omega) | exact OpV.sub (by omega) | exact OpV.lens | exact OpV.eqlID | exact OpV.neqID | exact OpV.eqlEv | exact OpV.eqlOp | exact OpV.eqlStr | exact OpV.neqStr | exact OpV.eqlNil | exact OpV.eqlBool | exact OpV.neqBool) rfl ?_ | (refine JR.alloc rfl ?_; intro _) | (refine JR.box rfl ?_; intro _) | refine JR.store ?_ | refine JC.cond_true ?_ | refine JC.cond_false ?_ | refine JC.skip ?_ | refine JC.exit ?_ | refine JC.block ?_ | refine CT.past ?_ | refine CT.hit ?_ | refine CT.miss rfl ?_ | refine CT.blockEnd ?_ | refine JC.ret ?_ | refine CT.ret ?_ | refine CT.blockRet ?_ | refine JO.omit rfl rfl ?_ | (refine JR.lit rfl ⟨rfl, by decide, by decide, by decide⟩ ?_; intro _))
      exact ⟨k + 1, by omega, by omega, inferInstance⟩
    · have h16' : ¬ k < 16 := by omega
      repeat (first | refine CT.next ?_ | refine JC.seq ?_ | refine JC.region ?_ | refine JO.nil ?_ | refine JO.go rfl ?_ | refine JR.val (by first | exact OpV.move | exact OpV.assign | exact OpV.load | exact OpV.fieldAddr | exact OpV.indexEl | exact OpV.len | exact OpV.lss | exact OpV.not | exact OpV.pick_true | exact OpV.pick_false | exact OpV.inc (by omega) | exact OpV.eql | exact OpV.neq | exact OpV.leq | exact OpV.gtr | exact OpV.geq | exact OpV.extract | exact OpV.makeFunc | exact OpV.addn (by omega) | exact OpV.add (by omega) | exact OpV.subn (by omega) | exact OpV.sub (by omega) | exact OpV.lens | exact OpV.eqlID | exact OpV.neqID | exact OpV.eqlEv | exact OpV.eqlOp | exact OpV.eqlStr | exact OpV.neqStr | exact OpV.eqlNil | exact OpV.eqlBool | exact OpV.neqBool) rfl ?_ | (refine JR.alloc rfl ?_; intro _) | (refine JR.box rfl ?_; intro _) | refine JR.store ?_ | refine JC.cond_true ?_ | refine JC.cond_false ?_ | refine JC.skip ?_ | refine JC.exit ?_ | refine JC.block ?_ | refine CT.past ?_ | refine CT.hit ?_ | refine CT.miss rfl ?_ | refine CT.blockEnd ?_ | refine JC.ret ?_ | refine CT.ret ?_ | refine CT.blockRet ?_ | refine JO.omit rfl rfl ?_ | (refine JR.lit rfl ⟨rfl, by decide, by decide, by decide⟩ ?_; intro _))
      refine JC.draw 23 mixed ?_
      refine JM.take 0 rfl (by kernel_rfl) rfl OpV.move rfl rfl ?_
      refine JM.take 1 rfl (by kernel_rfl) rfl OpV.move rfl rfl ?_
      refine JM.take 2 rfl (by kernel_rfl) rfl (OpV.sub (by omega)) rfl rfl ?_
      refine JM.reslot 20 (.int .i64 ((k - 16 : Nat) : Int)) (by congr 1 <;> omega) ?_
      refine JM.take 3 rfl (by kernel_rfl) rfl (OpV.indexArr (k := k - 16) (by omega)) rfl rfl ?_
      refine JM.take 4 rfl (by kernel_rfl) rfl (OpV.getW (k - 16) (by omega) (by omega) rfl) rfl rfl ?_
      refine JM.take 5 rfl (by kernel_rfl) rfl OpV.move rfl rfl ?_
      refine JM.take 6 rfl (by kernel_rfl) rfl (OpV.sub (by omega)) rfl rfl ?_
      refine JM.reslot 24 (.int .i64 ((k - 7 : Nat) : Int)) (by congr 1 <;> omega) ?_
      refine JM.take 7 rfl (by kernel_rfl) rfl (OpV.indexArr (k := k - 7) (by omega)) rfl rfl ?_
      refine JM.take 8 rfl (by kernel_rfl) rfl (OpV.getW (k - 7) (by omega) (by omega) rfl) rfl rfl ?_
      refine JM.take 9 rfl (by kernel_rfl) rfl OpV.add32 rfl rfl ?_
      refine JM.take 10 rfl (by kernel_rfl) rfl OpV.move rfl rfl ?_
      refine JM.take 11 rfl (by kernel_rfl) rfl (OpV.sub (by omega)) rfl rfl ?_
      refine JM.reslot 29 (.int .i64 ((k - 15 : Nat) : Int)) (by congr 1 <;> omega) ?_
      refine JM.take 12 rfl (by kernel_rfl) rfl (OpV.indexArr (k := k - 15) (by omega)) rfl rfl ?_
      refine JM.take 13 rfl (by kernel_rfl) rfl (OpV.getW (k - 15) (by omega) (by omega) rfl) rfl rfl ?_
      refine JM.takeCall 14 rfl (by kernel_rfl) rfl (fun w1 hw => small_sha w1 _ _ 7 18 3 (by decide) (by decide) (by decide)) rfl rfl ?_
      refine JM.take 15 rfl (by kernel_rfl) rfl OpV.add32 rfl rfl ?_
      refine JM.take 16 rfl (by kernel_rfl) rfl OpV.move rfl rfl ?_
      refine JM.take 17 rfl (by kernel_rfl) rfl (OpV.sub (by omega)) rfl rfl ?_
      refine JM.reslot 35 (.int .i64 ((k - 2 : Nat) : Int)) (by congr 1 <;> omega) ?_
      refine JM.take 18 rfl (by kernel_rfl) rfl (OpV.indexArr (k := k - 2) (by omega)) rfl rfl ?_
      refine JM.take 19 rfl (by kernel_rfl) rfl (OpV.getW (k - 2) (by omega) (by omega) rfl) rfl rfl ?_
      refine JM.takeCall 20 rfl (by kernel_rfl) rfl (fun w1 hw => small_sha w1 _ _ 17 19 10 (by decide) (by decide) (by decide)) rfl rfl ?_
      refine JM.take 21 rfl (by kernel_rfl) rfl OpV.add32 rfl rfl ?_
      refine JM.take 22 rfl (by kernel_rfl) rfl (OpV.indexArr hlt') rfl rfl ?_
      refine JM.reslot 39 (w32 (wordK L (spreadV L k).1 k)) (by rw [wordK, if_neg h16', getD_at, getD_at, getD_at, getD_at]) ?_
      refine JM.last 23 (by kernel_rfl) rfl rfl rfl (JR.setW k (wordK L (spreadV L k).1 k) (by omega) (by omega) rfl (JO.reown bo ((spreadV L (k + 1)).1.map w32) (by rw [spreadV_succ]) (JO.nil ⟨rfl, ?_⟩)))
      refine JM.nil (by kernel_rfl) ?_
      repeat (first | refine CT.next ?_ | refine JC.seq ?_ | refine JC.region ?_ | refine JO.nil ?_ | refine JO.go rfl ?_ | refine JR.val (by first | exact OpV.move | exact OpV.assign | exact OpV.load | exact OpV.fieldAddr | exact OpV.indexEl | exact OpV.len | exact OpV.lss | exact OpV.not | exact OpV.pick_true | exact OpV.pick_false | exact OpV.inc (by omega) | exact OpV.eql | exact OpV.neq | exact OpV.leq | exact OpV.gtr | exact OpV.geq | exact OpV.extract | exact OpV.makeFunc | exact OpV.addn (by omega) | exact OpV.add (by omega) | exact OpV.subn (by omega) | exact OpV.sub (by omega) | exact OpV.lens | exact OpV.eqlID | exact OpV.neqID | exact OpV.eqlEv | exact OpV.eqlOp | exact OpV.eqlStr | exact OpV.neqStr | exact OpV.eqlNil | exact OpV.eqlBool | exact OpV.neqBool) rfl ?_ | (refine JR.alloc rfl ?_; intro _) | (refine JR.box rfl ?_; intro _) | refine JR.store ?_ | refine JC.cond_true ?_ | refine JC.cond_false ?_ | refine JC.skip ?_ | refine JC.exit ?_ | refine JC.block ?_ | refine CT.past ?_ | refine CT.hit ?_ | refine CT.miss rfl ?_ | refine CT.blockEnd ?_ | refine JC.ret ?_ | refine CT.ret ?_ | refine CT.blockRet ?_ | refine JO.omit rfl rfl ?_ | (refine JR.lit rfl ⟨rfl, by decide, by decide, by decide⟩ ?_; intro _))
      exact ⟨k + 1, by omega, by omega, inferInstance⟩
  · obtain rfl : k = 64 := by omega
    repeat (first | refine CT.next ?_ | refine JC.seq ?_ | refine JC.region ?_ | refine JO.nil ?_ | refine JO.go rfl ?_ | refine JR.val (by first | exact OpV.move | exact OpV.assign | exact OpV.load | exact OpV.fieldAddr | exact OpV.indexEl | exact OpV.len | exact OpV.lss | exact OpV.not | exact OpV.pick_true | exact OpV.pick_false | exact OpV.inc (by omega) | exact OpV.eql | exact OpV.neq | exact OpV.leq | exact OpV.gtr | exact OpV.geq | exact OpV.extract | exact OpV.makeFunc | exact OpV.addn (by omega) | exact OpV.add (by omega) | exact OpV.subn (by omega) | exact OpV.sub (by omega) | exact OpV.lens | exact OpV.eqlID | exact OpV.neqID | exact OpV.eqlEv | exact OpV.eqlOp | exact OpV.eqlStr | exact OpV.neqStr | exact OpV.eqlNil | exact OpV.eqlBool | exact OpV.neqBool) rfl ?_ | (refine JR.alloc rfl ?_; intro _) | (refine JR.box rfl ?_; intro _) | refine JR.store ?_ | refine JC.cond_true ?_ | refine JC.cond_false ?_ | refine JC.skip ?_ | refine JC.exit ?_ | refine JC.block ?_ | refine CT.past ?_ | refine CT.hit ?_ | refine CT.miss rfl ?_ | refine CT.blockEnd ?_ | refine JC.ret ?_ | refine CT.ret ?_ | refine CT.blockRet ?_ | refine JO.omit rfl rfl ?_ | (refine JR.lit rfl ⟨rfl, by decide, by decide, by decide⟩ ?_; intro _))
    exact CT.done () rfl (fun w ho => ho.ent)
end Ab
end Go.Proofs.Ytcmfemfndadfmaa

/- Contracts: sha.Block. -/
namespace Go.Proofs.Ytcmfemfndadfmaa
namespace Ab
open Go Go.RowKit
set_option linter.unusedVariables false
set_option linter.unusedSimpArgs false
set_option synthInstance.maxSize 4000
set_option synthInstance.maxHeartbeats 400000
attribute [local irreducible] JC JO JR JQ andThen inBlock OpV Gives retTo JM JS

attribute [local irreducible] spreadK
def one32 (W s : List UInt32) (k : Nat) : UInt32 :=
  (((s.getD 7 0 + great32 (s.getD 4 0) 6 11 25) + pick32 (s.getD 4 0) (s.getD 5 0) (s.getD 6 0)) + shaK.getD k 0) + W.getD k 0
def two32 (s : List UInt32) : UInt32 := great32 (s.getD 0 0) 2 13 22 + most32 (s.getD 0 0) (s.getD 1 0) (s.getD 2 0)
/-- One round. -/
def turnS (W s : List UInt32) (k : Nat) : List UInt32 :=
  [one32 W s k + two32 s, s.getD 0 0, s.getD 1 0, s.getD 2 0, s.getD 3 0 + one32 W s k, s.getD 4 0, s.getD 5 0, s.getD 6 0]
def turnK (W h : List UInt32) : Nat → List UInt32
  | 0 => h
  | k + 1 => turnS W (turnK W h k) k
theorem turnK_length (W : List UInt32) {h : List UInt32} (hh : h.length = 8) (k : Nat) : (turnK W h k).length = 8 := by
  cases k with
  | zero => exact hh
  | succ k => rfl
def turnV (W : List UInt32) (h : Vec UInt32 8) (k : Nat) : Vec UInt32 8 := ⟨turnK W h.1 k, turnK_length W h.2 k⟩
theorem turnV_zero (W : List UInt32) (h : Vec UInt32 8) : turnV W h 0 = h := rfl
theorem turnV_succ (W : List UInt32) (h : Vec UInt32 8) (k : Nat) : (turnV W h (k + 1)).1 = turnS W (turnV W h k).1 k := rfl
/-- The first k of h with s's added. -/
def plusK (h s : List UInt32) (k : Nat) : List UInt32 := (List.range 8).map (fun i => if i < k then h.getD i 0 + s.getD i 0 else h.getD i 0)
def plusV (h s : List UInt32) (k : Nat) : Vec UInt32 8 := ⟨plusK h s k, by simp [plusK]⟩
theorem plusV_set (h s : List UInt32) (k : Nat) (hk : k < 8) : (plusV h s k).1.set k (h.getD k 0 + s.getD k 0) = (plusV h s (k + 1)).1 := by
  match k, hk with
  | 0, _ => rfl
  | 1, _ => rfl
  | 2, _ => rfl
  | 3, _ => rfl
  | 4, _ => rfl
  | 5, _ => rfl
  | 6, _ => rfl
  | 7, _ => rfl
theorem plusV_at (h s : List UInt32) (k : Nat) (hk : k < 8) : (plusV h s k).1.getD k 0 = h.getD k 0 := by
  match k, hk with
  | 0, _ => rfl
  | 1, _ => rfl
  | 2, _ => rfl
  | 3, _ => rfl
  | 4, _ => rfl
  | 5, _ => rfl
  | 6, _ => rfl
  | 7, _ => rfl
theorem vec8 (v : Vec UInt32 8) : ∃ a b c d e f g h, v.1 = [a, b, c, d, e, f, g, h] := by
  obtain ⟨l, hl⟩ := v
  match l, hl with
  | [a, b, c, d, e, f, g, h], _ => exact ⟨a, b, c, d, e, f, g, h, rfl⟩
theorem plusV_zero (v : Vec UInt32 8) (s : List UInt32) : (plusV v.1 s 0).1 = v.1 := by
  obtain ⟨a, b, c, d, e, f, g, h, hv⟩ := vec8 v
  rw [hv]; rfl
def blockL (h : Vec UInt32 8) (L : List UInt8) : Vec UInt32 8 := plusV h.1 (turnV (spreadV L 64).1 h 64).1 8
def shaKV : Vec UInt32 64 := ⟨shaK, rfl⟩
theorem constants_shaV (w : World) (F : Nat → Prop) : GivesV Try.prog 71 [] w F (.agg ⟨shaKV.1.map w32⟩) := constants_sha w F
theorem shaKV_eq : shaKV.1 = shaK := rfl
attribute [local irreducible] shaKV spreadV turnV plusV

set_option maxHeartbeats 2000000 in
theorem block_sha (w : World) (F : Nat → Prop) (a : Option Addr) (c : Nat) (L : List UInt8) (h : Vec UInt32 8) (hs : (sl a c L).holds F w) (hL : L.length = 64) :
    GivesV Try.prog 51 [.agg ⟨h.1.map w32⟩, .slice a L.length c] w F (.tuple ⟨[.agg ⟨(blockL h L).1.map w32⟩, .bool true]⟩) := by
  refine gives_of Try.func51 rfl Try.ntmps51 rfl rfl [.st (sl a c L)] (.start1 hs) ?_
  repeat (first | refine CT.next ?_ | refine JC.seq ?_ | refine JC.region ?_ | refine JO.nil ?_ | refine JO.go rfl ?_ | refine JR.val (by first | exact OpV.move | exact OpV.assign | exact OpV.load | exact OpV.fieldAddr | exact OpV.indexEl | exact OpV.len | exact OpV.lss | exact OpV.not | exact OpV.pick_true | exact OpV.pick_false | exact OpV.inc (by omega) | exact OpV.eql | exact OpV.neq | exact OpV.leq | exact OpV.gtr | exact OpV.geq | exact OpV.extract | exact OpV.makeFunc | exact OpV.addn (by omega) | exact OpV.add (by omega) | exact OpV.subn (by omega) | exact OpV.sub (by omega) | exact OpV.lens | exact OpV.eqlID | exact OpV.neqID | exact OpV.eqlEv | exact OpV.eqlOp | exact OpV.eqlStr | exact OpV.neqStr | exact OpV.eqlNil | exact OpV.eqlBool | exact OpV.neqBool) rfl ?_ | (refine JR.alloc rfl ?_; intro _) | (refine JR.box rfl ?_; intro _) | refine JR.store ?_ | refine JC.cond_true ?_ | refine JC.cond_false ?_ | refine JC.skip ?_ | refine JC.exit ?_ | refine JC.block ?_ | refine CT.past ?_ | refine CT.hit ?_ | refine CT.miss rfl ?_ | refine CT.blockEnd ?_ | refine JC.ret ?_ | refine CT.ret ?_ | refine CT.blockRet ?_ | refine JO.omit rfl rfl ?_ | (refine JR.lit rfl ⟨rfl, by decide, by decide, by decide⟩ ?_; intro _))
  rename_i bh br
  refine JC.test (fun h0 => ?_) (fun h0 => ?_)
  · simp [hL] at h0
  repeat (first | refine CT.next ?_ | refine JC.seq ?_ | refine JC.region ?_ | refine JO.nil ?_ | refine JO.go rfl ?_ | refine JR.val (by first | exact OpV.move | exact OpV.assign | exact OpV.load | exact OpV.fieldAddr | exact OpV.indexEl | exact OpV.len | exact OpV.lss | exact OpV.not | exact OpV.pick_true | exact OpV.pick_false | exact OpV.inc (by omega) | exact OpV.eql | exact OpV.neq | exact OpV.leq | exact OpV.gtr | exact OpV.geq | exact OpV.extract | exact OpV.makeFunc | exact OpV.addn (by omega) | exact OpV.add (by omega) | exact OpV.subn (by omega) | exact OpV.sub (by omega) | exact OpV.lens | exact OpV.eqlID | exact OpV.neqID | exact OpV.eqlEv | exact OpV.eqlOp | exact OpV.eqlStr | exact OpV.neqStr | exact OpV.eqlNil | exact OpV.eqlBool | exact OpV.neqBool) rfl ?_ | (refine JR.alloc rfl ?_; intro _) | (refine JR.box rfl ?_; intro _) | refine JR.store ?_ | refine JC.cond_true ?_ | refine JC.cond_false ?_ | refine JC.skip ?_ | refine JC.exit ?_ | refine JC.block ?_ | refine CT.past ?_ | refine CT.hit ?_ | refine CT.miss rfl ?_ | refine CT.blockEnd ?_ | refine JC.ret ?_ | refine CT.ret ?_ | refine CT.blockRet ?_ | refine JO.omit rfl rfl ?_ | (refine JR.lit rfl ⟨rfl, by decide, by decide, by decide⟩ ?_; intro _))
  refine JC.cut (fun q : Nat × Nat × Nat => [(2, .pointer (some ⟨bh, 0, none⟩)), (4, .pointer (some ⟨br, 0, none⟩)), (6, .pointer (some ⟨q.1, 0, none⟩)), (7, .pointer (some ⟨q.2.1, 0, none⟩)), (8, .pointer (some ⟨q.2.2, 0, none⟩))])
    (fun q => [.own bh 85 (h.1.map w32), .own br 85 [.int .u32 0, .int .u32 0, .int .u32 0, .int .u32 0, .int .u32 0, .int .u32 0, .int .u32 0, .int .u32 0], .own q.1 112 (shaKV.1.map w32), .own q.2.1 112 ((spreadV L 64).1.map w32), .own q.2.2 85 (h.1.map w32)]) ?_ ?_
  · refine JC.draw 7 mixed ?_
    refine JM.takeCall 0 rfl (by kernel_rfl) rfl (fun w1 hw => constants_shaV w1 _) rfl rfl ?_
    refine JM.take 1 rfl (by kernel_rfl) rfl OpV.move rfl rfl ?_
    refine JM.takeCall 2 rfl (by kernel_rfl) rfl (fun w1 hw => spread_sha w1 _ a c L hw.get hL) rfl rfl ?_
    refine JM.allocsBut (i0 := 3) (i1 := 4) (i2 := 5) (i3 := 6) rfl OpV.load rfl rfl rfl (by kernel_rfl) rfl rfl rfl ?_ ?_
    · intro q1 q2 q3
      refine JM.last 7 (by kernel_rfl) rfl rfl rfl (JR.store (JO.nil ⟨rfl, ?_⟩))
      refine JM.last 8 (by kernel_rfl) rfl rfl rfl (JR.store (JO.nil ⟨rfl, ?_⟩))
      refine JM.last 9 (by kernel_rfl) rfl rfl rfl (JR.store (JO.nil ⟨rfl, ?_⟩))
      refine JM.nil (by kernel_rfl) ?_
      exact ⟨rfl, (q1, q2, q3), inferInstance⟩
    · intro q1 q2 q3
      refine JM.mix 3 7 (by kernel_rfl) rfl rfl rfl rfl rfl rfl rfl (JS.val OpV.load rfl ?_) (JR.store (JO.nil ⟨rfl, ?_⟩))
      · refine JM.last 7 (by kernel_rfl) rfl rfl rfl (JR.store (JO.nil ⟨rfl, ?_⟩))
        refine JM.last 8 (by kernel_rfl) rfl rfl rfl (JR.store (JO.nil ⟨rfl, ?_⟩))
        refine JM.last 9 (by kernel_rfl) rfl rfl rfl (JR.store (JO.nil ⟨rfl, ?_⟩))
        refine JM.nil (by kernel_rfl) ?_
        exact ⟨rfl, (q1, q2, q3), inferInstance⟩
      · refine JM.mix 3 8 (by kernel_rfl) rfl rfl rfl rfl rfl rfl rfl (JS.val OpV.load rfl ?_) (JR.store (JO.nil ⟨rfl, ?_⟩))
        · refine JM.last 8 (by kernel_rfl) rfl rfl rfl (JR.store (JO.nil ⟨rfl, ?_⟩))
          refine JM.last 9 (by kernel_rfl) rfl rfl rfl (JR.store (JO.nil ⟨rfl, ?_⟩))
          refine JM.nil (by kernel_rfl) ?_
          exact ⟨rfl, (q1, q2, q3), inferInstance⟩
        · refine JM.one 3 (by kernel_rfl) rfl rfl rfl rfl (JS.val OpV.load rfl ?_)
          refine JM.last 9 (by kernel_rfl) rfl rfl rfl (JR.store (JO.nil ⟨rfl, ?_⟩))
          refine JM.nil (by kernel_rfl) ?_
          exact ⟨rfl, (q1, q2, q3), inferInstance⟩
  rintro ⟨q1, q2, q3⟩
  repeat (first | refine CT.next ?_ | refine JC.seq ?_ | refine JC.region ?_ | refine JO.nil ?_ | refine JO.go rfl ?_ | refine JR.val (by first | exact OpV.move | exact OpV.assign | exact OpV.load | exact OpV.fieldAddr | exact OpV.indexEl | exact OpV.len | exact OpV.lss | exact OpV.not | exact OpV.pick_true | exact OpV.pick_false | exact OpV.inc (by omega) | exact OpV.eql | exact OpV.neq | exact OpV.leq | exact OpV.gtr | exact OpV.geq | exact OpV.extract | exact OpV.makeFunc | exact OpV.addn (by omega) | exact OpV.add (by omega) | exact OpV.subn (by omega) | exact OpV.sub (by omega) | exact OpV.lens | exact OpV.eqlID | exact OpV.neqID | exact OpV.eqlEv | exact OpV.eqlOp | exact OpV.eqlStr | exact OpV.neqStr | exact OpV.eqlNil | exact OpV.eqlBool | exact OpV.neqBool) rfl ?_ | (refine JR.alloc rfl ?_; intro _) | (refine JR.box rfl ?_; intro _) | refine JR.store ?_ | refine JC.cond_true ?_ | refine JC.cond_false ?_ | refine JC.skip ?_ | refine JC.exit ?_ | refine JC.block ?_ | refine CT.past ?_ | refine CT.hit ?_ | refine CT.miss rfl ?_ | refine CT.blockEnd ?_ | refine JC.ret ?_ | refine CT.ret ?_ | refine CT.blockRet ?_ | refine JO.omit rfl rfl ?_ | (refine JR.lit rfl ⟨rfl, by decide, by decide, by decide⟩ ?_; intro _))
  refine JC.loop1 (fun k : Nat => [(2, .pointer (some ⟨bh, 0, none⟩)), (4, .pointer (some ⟨br, 0, none⟩)), (6, .pointer (some ⟨q1, 0, none⟩)), (7, .pointer (some ⟨q2, 0, none⟩)), (8, .pointer (some ⟨q3, 0, none⟩)), (21, .int .i64 (k : Int))])
    (fun k => [.own bh 85 (h.1.map w32), .own br 85 [.int .u32 0, .int .u32 0, .int .u32 0, .int .u32 0, .int .u32 0, .int .u32 0, .int .u32 0, .int .u32 0], .own q1 112 (shaKV.1.map w32), .own q2 112 ((spreadV L 64).1.map w32), .own q3 85 ((turnV (spreadV L 64).1 h k).1.map w32)])
    (fun k => k ≤ 64) (fun k => 64 - k) 0 (Nat.zero_le _) (by rw [turnV_zero]; infer_instance) ?_
  intro k hk
  repeat (first | refine CT.next ?_ | refine JC.seq ?_ | refine JC.region ?_ | refine JO.nil ?_ | refine JO.go rfl ?_ | refine JR.val (by first | exact OpV.move | exact OpV.assign | exact OpV.load | exact OpV.fieldAddr | exact OpV.indexEl | exact OpV.len | exact OpV.lss | exact OpV.not | exact OpV.pick_true | exact OpV.pick_false | exact OpV.inc (by omega) | exact OpV.eql | exact OpV.neq | exact OpV.leq | exact OpV.gtr | exact OpV.geq | exact OpV.extract | exact OpV.makeFunc | exact OpV.addn (by omega) | exact OpV.add (by omega) | exact OpV.subn (by omega) | exact OpV.sub (by omega) | exact OpV.lens | exact OpV.eqlID | exact OpV.neqID | exact OpV.eqlEv | exact OpV.eqlOp | exact OpV.eqlStr | exact OpV.neqStr | exact OpV.eqlNil | exact OpV.eqlBool | exact OpV.neqBool) rfl ?_ | (refine JR.alloc rfl ?_; intro _) | (refine JR.box rfl ?_; intro _) | refine JR.store ?_ | refine JC.cond_true ?_ | refine JC.cond_false ?_ | refine JC.skip ?_ | refine JC.exit ?_ | refine JC.block ?_ | refine CT.past ?_ | refine CT.hit ?_ | refine CT.miss rfl ?_ | refine CT.blockEnd ?_ | refine JC.ret ?_ | refine CT.ret ?_ | refine CT.blockRet ?_ | refine JO.omit rfl rfl ?_ | (refine JR.lit rfl ⟨rfl, by decide, by decide, by decide⟩ ?_; intro _))
  refine JC.test (fun hlt => ?_) (fun hge => ?_)
  · have hlt' : k < 64 := by omega
    have hkk : k < shaKV.1.length := by rw [shaKV.2]; exact hlt'
    have hkw : k < (spreadV L 64).1.length := by rw [(spreadV L 64).2]; exact hlt'
    obtain ⟨x0, x1, x2, x3, x4, x5, x6, x7, hx⟩ := vec8 (turnV (spreadV L 64).1 h k)
    have hnext := turnV_succ (spreadV L 64).1 h k
    rw [hx] at hnext ⊢
    repeat (first | refine CT.next ?_ | refine JC.seq ?_ | refine JC.region ?_ | refine JO.nil ?_ | refine JO.go rfl ?_ | refine JR.val (by first | exact OpV.move | exact OpV.assign | exact OpV.load | exact OpV.fieldAddr | exact OpV.indexEl | exact OpV.len | exact OpV.lss | exact OpV.not | exact OpV.pick_true | exact OpV.pick_false | exact OpV.inc (by omega) | exact OpV.eql | exact OpV.neq | exact OpV.leq | exact OpV.gtr | exact OpV.geq | exact OpV.extract | exact OpV.makeFunc | exact OpV.addn (by omega) | exact OpV.add (by omega) | exact OpV.subn (by omega) | exact OpV.sub (by omega) | exact OpV.lens | exact OpV.eqlID | exact OpV.neqID | exact OpV.eqlEv | exact OpV.eqlOp | exact OpV.eqlStr | exact OpV.neqStr | exact OpV.eqlNil | exact OpV.eqlBool | exact OpV.neqBool) rfl ?_ | (refine JR.alloc rfl ?_; intro _) | (refine JR.box rfl ?_; intro _) | refine JR.store ?_ | refine JC.cond_true ?_ | refine JC.cond_false ?_ | refine JC.skip ?_ | refine JC.exit ?_ | refine JC.block ?_ | refine CT.past ?_ | refine CT.hit ?_ | refine CT.miss rfl ?_ | refine CT.blockEnd ?_ | refine JC.ret ?_ | refine CT.ret ?_ | refine CT.blockRet ?_ | refine JO.omit rfl rfl ?_ | (refine JR.lit rfl ⟨rfl, by decide, by decide, by decide⟩ ?_; intro _))
    refine JC.quiet mixed (by kernel_rfl) ?_
    refine JQ.val rfl (OpV.indexArr (k := 7) (by decide)) rfl ?_
    refine JQ.val rfl (OpV.getW 7 (by simp) rfl rfl) rfl ?_
    refine JQ.val rfl (OpV.indexArr (k := 4) (by decide)) rfl ?_
    refine JQ.val rfl (OpV.getW 4 (by simp) rfl rfl) rfl ?_
    refine JQ.call rfl rfl (fun w1 hw => great_sha w1 _ _ 6 11 25 (by decide) (by decide) (by decide)) ?_
    refine JQ.val rfl OpV.add32 rfl ?_
    refine JQ.val rfl (OpV.indexArr (k := 4) (by decide)) rfl ?_
    refine JQ.val rfl (OpV.getW 4 (by simp) rfl rfl) rfl ?_
    refine JQ.val rfl (OpV.indexArr (k := 5) (by decide)) rfl ?_
    refine JQ.val rfl (OpV.getW 5 (by simp) rfl rfl) rfl ?_
    refine JQ.val rfl (OpV.indexArr (k := 6) (by decide)) rfl ?_
    refine JQ.val rfl (OpV.getW 6 (by simp) rfl rfl) rfl ?_
    refine JQ.call rfl rfl (fun w1 hw => pick_rot w1 _ _ _ _) ?_
    refine JQ.val rfl OpV.add32 rfl ?_
    refine JQ.val rfl OpV.move rfl ?_
    refine JQ.val rfl (OpV.indexArr hlt') rfl ?_
    refine JQ.val rfl (OpV.getW k hkk (by omega) rfl) rfl ?_
    refine JQ.val rfl OpV.add32 rfl ?_
    refine JQ.val rfl OpV.move rfl ?_
    refine JQ.val rfl (OpV.indexArr hlt') rfl ?_
    refine JQ.val rfl (OpV.getW k hkw (by omega) rfl) rfl ?_
    refine JQ.val rfl OpV.add32 rfl ?_
    refine JQ.reslot 45 (w32 (one32 (spreadV L 64).1 [x0, x1, x2, x3, x4, x5, x6, x7] k)) (by simp only [getD_at, shaKV_eq]; rfl) ?_
    refine JQ.val rfl OpV.assign rfl ?_
    refine JQ.nil ?_
    repeat (first | refine CT.next ?_ | refine JC.seq ?_ | refine JC.region ?_ | refine JO.nil ?_ | refine JO.go rfl ?_ | refine JR.val (by first | exact OpV.move | exact OpV.assign | exact OpV.load | exact OpV.fieldAddr | exact OpV.indexEl | exact OpV.len | exact OpV.lss | exact OpV.not | exact OpV.pick_true | exact OpV.pick_false | exact OpV.inc (by omega) | exact OpV.eql | exact OpV.neq | exact OpV.leq | exact OpV.gtr | exact OpV.geq | exact OpV.extract | exact OpV.makeFunc | exact OpV.addn (by omega) | exact OpV.add (by omega) | exact OpV.subn (by omega) | exact OpV.sub (by omega) | exact OpV.lens | exact OpV.eqlID | exact OpV.neqID | exact OpV.eqlEv | exact OpV.eqlOp | exact OpV.eqlStr | exact OpV.neqStr | exact OpV.eqlNil | exact OpV.eqlBool | exact OpV.neqBool) rfl ?_ | (refine JR.alloc rfl ?_; intro _) | (refine JR.box rfl ?_; intro _) | refine JR.store ?_ | refine JC.cond_true ?_ | refine JC.cond_false ?_ | refine JC.skip ?_ | refine JC.exit ?_ | refine JC.block ?_ | refine CT.past ?_ | refine CT.hit ?_ | refine CT.miss rfl ?_ | refine CT.blockEnd ?_ | refine JC.ret ?_ | refine CT.ret ?_ | refine CT.blockRet ?_ | refine JO.omit rfl rfl ?_ | (refine JR.lit rfl ⟨rfl, by decide, by decide, by decide⟩ ?_; intro _))
    refine JC.quiet mixed (by kernel_rfl) ?_
    refine JQ.val rfl (OpV.indexArr (k := 0) (by decide)) rfl ?_
    refine JQ.val rfl (OpV.getW 0 (by simp) rfl rfl) rfl ?_
    refine JQ.call rfl rfl (fun w1 hw => great_sha w1 _ _ 2 13 22 (by decide) (by decide) (by decide)) ?_
    refine JQ.val rfl (OpV.indexArr (k := 0) (by decide)) rfl ?_
    refine JQ.val rfl (OpV.getW 0 (by simp) rfl rfl) rfl ?_
    refine JQ.val rfl (OpV.indexArr (k := 1) (by decide)) rfl ?_
    refine JQ.val rfl (OpV.getW 1 (by simp) rfl rfl) rfl ?_
    refine JQ.val rfl (OpV.indexArr (k := 2) (by decide)) rfl ?_
    refine JQ.val rfl (OpV.getW 2 (by simp) rfl rfl) rfl ?_
    refine JQ.call rfl rfl (fun w1 hw => most_rot w1 _ _ _ _) ?_
    refine JQ.val rfl OpV.add32 rfl ?_
    refine JQ.reslot 56 (w32 (two32 [x0, x1, x2, x3, x4, x5, x6, x7])) rfl ?_
    refine JQ.val rfl OpV.assign rfl ?_
    refine JQ.nil ?_
    repeat (first | refine CT.next ?_ | refine JC.seq ?_ | refine JC.region ?_ | refine JO.nil ?_ | refine JO.go rfl ?_ | refine JR.val (by first | exact OpV.move | exact OpV.assign | exact OpV.load | exact OpV.fieldAddr | exact OpV.indexEl | exact OpV.len | exact OpV.lss | exact OpV.not | exact OpV.pick_true | exact OpV.pick_false | exact OpV.inc (by omega) | exact OpV.eql | exact OpV.neq | exact OpV.leq | exact OpV.gtr | exact OpV.geq | exact OpV.extract | exact OpV.makeFunc | exact OpV.addn (by omega) | exact OpV.add (by omega) | exact OpV.subn (by omega) | exact OpV.sub (by omega) | exact OpV.lens | exact OpV.eqlID | exact OpV.neqID | exact OpV.eqlEv | exact OpV.eqlOp | exact OpV.eqlStr | exact OpV.neqStr | exact OpV.eqlNil | exact OpV.eqlBool | exact OpV.neqBool) rfl ?_ | (refine JR.alloc rfl ?_; intro _) | (refine JR.box rfl ?_; intro _) | refine JR.store ?_ | refine JC.cond_true ?_ | refine JC.cond_false ?_ | refine JC.skip ?_ | refine JC.exit ?_ | refine JC.block ?_ | refine CT.past ?_ | refine CT.hit ?_ | refine CT.miss rfl ?_ | refine CT.blockEnd ?_ | refine JC.ret ?_ | refine CT.ret ?_ | refine CT.blockRet ?_ | refine JO.omit rfl rfl ?_ | (refine JR.lit rfl ⟨rfl, by decide, by decide, by decide⟩ ?_; intro _))
    refine JC.draw 2 mixed ?_
    refine JM.take 0 rfl (by kernel_rfl) rfl (OpV.sliceArrFrom (l := 1) (by decide) rfl) rfl rfl ?_
    refine JM.take 1 rfl (by kernel_rfl) rfl (OpV.sliceArrTo (k := 7) (by decide)) rfl rfl ?_
    refine JM.last 2 (by kernel_rfl) rfl rfl rfl (JR.copyOwn (cs := [x0, x1, x2, x3, x4, x5, x6].map w32) rfl rfl (by decide) rfl (by simp) inferInstance ?_)
    refine JO.reown q3 ([x0, x0, x1, x2, x3, x4, x5, x6].map w32) rfl (JO.nil ⟨rfl, ?_⟩)
    refine JM.nil (by kernel_rfl) ?_
    repeat (first | refine CT.next ?_ | refine JC.seq ?_ | refine JC.region ?_ | refine JO.nil ?_ | refine JO.go rfl ?_ | refine JR.val (by first | exact OpV.move | exact OpV.assign | exact OpV.load | exact OpV.fieldAddr | exact OpV.indexEl | exact OpV.len | exact OpV.lss | exact OpV.not | exact OpV.pick_true | exact OpV.pick_false | exact OpV.inc (by omega) | exact OpV.eql | exact OpV.neq | exact OpV.leq | exact OpV.gtr | exact OpV.geq | exact OpV.extract | exact OpV.makeFunc | exact OpV.addn (by omega) | exact OpV.add (by omega) | exact OpV.subn (by omega) | exact OpV.sub (by omega) | exact OpV.lens | exact OpV.eqlID | exact OpV.neqID | exact OpV.eqlEv | exact OpV.eqlOp | exact OpV.eqlStr | exact OpV.neqStr | exact OpV.eqlNil | exact OpV.eqlBool | exact OpV.neqBool) rfl ?_ | (refine JR.alloc rfl ?_; intro _) | (refine JR.box rfl ?_; intro _) | refine JR.store ?_ | refine JC.cond_true ?_ | refine JC.cond_false ?_ | refine JC.skip ?_ | refine JC.exit ?_ | refine JC.block ?_ | refine CT.past ?_ | refine CT.hit ?_ | refine CT.miss rfl ?_ | refine CT.blockEnd ?_ | refine JC.ret ?_ | refine CT.ret ?_ | refine CT.blockRet ?_ | refine JO.omit rfl rfl ?_ | (refine JR.lit rfl ⟨rfl, by decide, by decide, by decide⟩ ?_; intro _))
    refine JR.val (OpV.indexArr (k := 4) (by decide)) rfl ?_
    refine JO.go rfl ?_
    refine JR.val (OpV.getW 4 (by simp) rfl rfl) rfl ?_
    refine JO.go rfl ?_
    refine JR.val OpV.move rfl ?_
    refine JO.go rfl ?_
    refine JR.val OpV.add32 rfl ?_
    refine JO.go rfl ?_
    refine JR.val (OpV.indexArr (k := 4) (by decide)) rfl ?_
    refine JO.go rfl ?_
    refine JR.setW 4 (x3 + one32 (spreadV L 64).1 [x0, x1, x2, x3, x4, x5, x6, x7] k) (by simp) rfl rfl ?_
    repeat (first | refine CT.next ?_ | refine JC.seq ?_ | refine JC.region ?_ | refine JO.nil ?_ | refine JO.go rfl ?_ | refine JR.val (by first | exact OpV.move | exact OpV.assign | exact OpV.load | exact OpV.fieldAddr | exact OpV.indexEl | exact OpV.len | exact OpV.lss | exact OpV.not | exact OpV.pick_true | exact OpV.pick_false | exact OpV.inc (by omega) | exact OpV.eql | exact OpV.neq | exact OpV.leq | exact OpV.gtr | exact OpV.geq | exact OpV.extract | exact OpV.makeFunc | exact OpV.addn (by omega) | exact OpV.add (by omega) | exact OpV.subn (by omega) | exact OpV.sub (by omega) | exact OpV.lens | exact OpV.eqlID | exact OpV.neqID | exact OpV.eqlEv | exact OpV.eqlOp | exact OpV.eqlStr | exact OpV.neqStr | exact OpV.eqlNil | exact OpV.eqlBool | exact OpV.neqBool) rfl ?_ | (refine JR.alloc rfl ?_; intro _) | (refine JR.box rfl ?_; intro _) | refine JR.store ?_ | refine JC.cond_true ?_ | refine JC.cond_false ?_ | refine JC.skip ?_ | refine JC.exit ?_ | refine JC.block ?_ | refine CT.past ?_ | refine CT.hit ?_ | refine CT.miss rfl ?_ | refine CT.blockEnd ?_ | refine JC.ret ?_ | refine CT.ret ?_ | refine CT.blockRet ?_ | refine JO.omit rfl rfl ?_ | (refine JR.lit rfl ⟨rfl, by decide, by decide, by decide⟩ ?_; intro _))
    refine JR.val OpV.add32 rfl ?_
    refine JO.go rfl ?_
    refine JR.val (OpV.indexArr (k := 0) (by decide)) rfl ?_
    refine JO.go rfl ?_
    refine JR.setW 0 (one32 (spreadV L 64).1 [x0, x1, x2, x3, x4, x5, x6, x7] k + two32 [x0, x1, x2, x3, x4, x5, x6, x7]) (by simp) rfl rfl ?_
    refine JO.reown q3 ((turnV (spreadV L 64).1 h (k + 1)).1.map w32) (by rw [hnext]; rfl) ?_
    repeat (first | refine CT.next ?_ | refine JC.seq ?_ | refine JC.region ?_ | refine JO.nil ?_ | refine JO.go rfl ?_ | refine JR.val (by first | exact OpV.move | exact OpV.assign | exact OpV.load | exact OpV.fieldAddr | exact OpV.indexEl | exact OpV.len | exact OpV.lss | exact OpV.not | exact OpV.pick_true | exact OpV.pick_false | exact OpV.inc (by omega) | exact OpV.eql | exact OpV.neq | exact OpV.leq | exact OpV.gtr | exact OpV.geq | exact OpV.extract | exact OpV.makeFunc | exact OpV.addn (by omega) | exact OpV.add (by omega) | exact OpV.subn (by omega) | exact OpV.sub (by omega) | exact OpV.lens | exact OpV.eqlID | exact OpV.neqID | exact OpV.eqlEv | exact OpV.eqlOp | exact OpV.eqlStr | exact OpV.neqStr | exact OpV.eqlNil | exact OpV.eqlBool | exact OpV.neqBool) rfl ?_ | (refine JR.alloc rfl ?_; intro _) | (refine JR.box rfl ?_; intro _) | refine JR.store ?_ | refine JC.cond_true ?_ | refine JC.cond_false ?_ | refine JC.skip ?_ | refine JC.exit ?_ | refine JC.block ?_ | refine CT.past ?_ | refine CT.hit ?_ | refine CT.miss rfl ?_ | refine CT.blockEnd ?_ | refine JC.ret ?_ | refine CT.ret ?_ | refine CT.blockRet ?_ | refine JO.omit rfl rfl ?_ | (refine JR.lit rfl ⟨rfl, by decide, by decide, by decide⟩ ?_; intro _))
    exact ⟨k + 1, by omega, by omega, inferInstance⟩
  · obtain rfl : k = 64 := by omega
    obtain ⟨S, hS⟩ : ∃ S, S = turnV (spreadV L 64).1 h 64 := ⟨_, rfl⟩
    have hb : (blockL h L).1 = (plusV h.1 S.1 8).1 := by rw [hS]; rfl
    rw [← hS, hb]
    repeat (first | refine CT.next ?_ | refine JC.seq ?_ | refine JC.region ?_ | refine JO.nil ?_ | refine JO.go rfl ?_ | refine JR.val (by first | exact OpV.move | exact OpV.assign | exact OpV.load | exact OpV.fieldAddr | exact OpV.indexEl | exact OpV.len | exact OpV.lss | exact OpV.not | exact OpV.pick_true | exact OpV.pick_false | exact OpV.inc (by omega) | exact OpV.eql | exact OpV.neq | exact OpV.leq | exact OpV.gtr | exact OpV.geq | exact OpV.extract | exact OpV.makeFunc | exact OpV.addn (by omega) | exact OpV.add (by omega) | exact OpV.subn (by omega) | exact OpV.sub (by omega) | exact OpV.lens | exact OpV.eqlID | exact OpV.neqID | exact OpV.eqlEv | exact OpV.eqlOp | exact OpV.eqlStr | exact OpV.neqStr | exact OpV.eqlNil | exact OpV.eqlBool | exact OpV.neqBool) rfl ?_ | (refine JR.alloc rfl ?_; intro _) | (refine JR.box rfl ?_; intro _) | refine JR.store ?_ | refine JC.cond_true ?_ | refine JC.cond_false ?_ | refine JC.skip ?_ | refine JC.exit ?_ | refine JC.block ?_ | refine CT.past ?_ | refine CT.hit ?_ | refine CT.miss rfl ?_ | refine CT.blockEnd ?_ | refine JC.ret ?_ | refine CT.ret ?_ | refine CT.blockRet ?_ | refine JO.omit rfl rfl ?_ | (refine JR.lit rfl ⟨rfl, by decide, by decide, by decide⟩ ?_; intro _))
    refine JC.loop1 (fun k : Nat => [(2, .pointer (some ⟨bh, 0, none⟩)), (4, .pointer (some ⟨br, 0, none⟩)), (8, .pointer (some ⟨q3, 0, none⟩)), (70, .int .i64 (k : Int))])
      (fun k => [.own bh 85 ((plusV h.1 S.1 k).1.map w32), .own br 85 [.int .u32 0, .int .u32 0, .int .u32 0, .int .u32 0, .int .u32 0, .int .u32 0, .int .u32 0, .int .u32 0], .own q3 85 (S.1.map w32)])
      (fun k => k ≤ 8) (fun k => 8 - k) 0 (Nat.zero_le _) (by rw [plusV_zero]; infer_instance) ?_
    intro k hk
    repeat (first | refine CT.next ?_ | refine JC.seq ?_ | refine JC.region ?_ | refine JO.nil ?_ | refine JO.go rfl ?_ | refine JR.val (by first | exact OpV.move | exact OpV.assign | exact OpV.load | exact OpV.fieldAddr | exact OpV.indexEl | exact OpV.len | exact OpV.lss | exact OpV.not | exact OpV.pick_true | exact OpV.pick_false | exact OpV.inc (by omega) | exact OpV.eql | exact OpV.neq | exact OpV.leq | exact OpV.gtr | exact OpV.geq | exact OpV.extract | exact OpV.makeFunc | exact OpV.addn (by omega) | exact OpV.add (by omega) | exact OpV.subn (by omega) | exact OpV.sub (by omega) | exact OpV.lens | exact OpV.eqlID | exact OpV.neqID | exact OpV.eqlEv | exact OpV.eqlOp | exact OpV.eqlStr | exact OpV.neqStr | exact OpV.eqlNil | exact OpV.eqlBool | exact OpV.neqBool) rfl ?_ | (refine JR.alloc rfl ?_; intro _) | (refine JR.box rfl ?_; intro _) | refine JR.store ?_ | refine JC.cond_true ?_ | refine JC.cond_false ?_ | refine JC.skip ?_ | refine JC.exit ?_ | refine JC.block ?_ | refine CT.past ?_ | refine CT.hit ?_ | refine CT.miss rfl ?_ | refine CT.blockEnd ?_ | refine JC.ret ?_ | refine CT.ret ?_ | refine CT.blockRet ?_ | refine JO.omit rfl rfl ?_ | (refine JR.lit rfl ⟨rfl, by decide, by decide, by decide⟩ ?_; intro _))
    refine JC.test (fun hlt => ?_) (fun hge => ?_)
    · have hlt' : k < 8 := by omega
      have hk1 : k < (plusV h.1 S.1 k).1.length := by rw [(plusV h.1 S.1 k).2]; exact hlt'
      have hk2 : k < S.1.length := by rw [S.2]; exact hlt'
      repeat (first | refine CT.next ?_ | refine JC.seq ?_ | refine JC.region ?_ | refine JO.nil ?_ | refine JO.go rfl ?_ | refine JR.val (by first | exact OpV.move | exact OpV.assign | exact OpV.load | exact OpV.fieldAddr | exact OpV.indexEl | exact OpV.len | exact OpV.lss | exact OpV.not | exact OpV.pick_true | exact OpV.pick_false | exact OpV.inc (by omega) | exact OpV.eql | exact OpV.neq | exact OpV.leq | exact OpV.gtr | exact OpV.geq | exact OpV.extract | exact OpV.makeFunc | exact OpV.addn (by omega) | exact OpV.add (by omega) | exact OpV.subn (by omega) | exact OpV.sub (by omega) | exact OpV.lens | exact OpV.eqlID | exact OpV.neqID | exact OpV.eqlEv | exact OpV.eqlOp | exact OpV.eqlStr | exact OpV.neqStr | exact OpV.eqlNil | exact OpV.eqlBool | exact OpV.neqBool) rfl ?_ | (refine JR.alloc rfl ?_; intro _) | (refine JR.box rfl ?_; intro _) | refine JR.store ?_ | refine JC.cond_true ?_ | refine JC.cond_false ?_ | refine JC.skip ?_ | refine JC.exit ?_ | refine JC.block ?_ | refine CT.past ?_ | refine CT.hit ?_ | refine CT.miss rfl ?_ | refine CT.blockEnd ?_ | refine JC.ret ?_ | refine CT.ret ?_ | refine CT.blockRet ?_ | refine JO.omit rfl rfl ?_ | (refine JR.lit rfl ⟨rfl, by decide, by decide, by decide⟩ ?_; intro _))
      refine JC.draw 8 mixed ?_
      refine JM.take 0 rfl (by kernel_rfl) rfl OpV.move rfl rfl ?_
      refine JM.take 1 rfl (by kernel_rfl) rfl (OpV.indexArr hlt') rfl rfl ?_
      refine JM.take 2 rfl (by kernel_rfl) rfl (OpV.getW k hk1 (by omega) rfl) rfl rfl ?_
      refine JM.take 3 rfl (by kernel_rfl) rfl OpV.move rfl rfl ?_
      refine JM.take 4 rfl (by kernel_rfl) rfl (OpV.indexArr hlt') rfl rfl ?_
      refine JM.take 5 rfl (by kernel_rfl) rfl (OpV.getW k hk2 (by omega) rfl) rfl rfl ?_
      refine JM.take 6 rfl (by kernel_rfl) rfl OpV.add32 rfl rfl ?_
      refine JM.take 7 rfl (by kernel_rfl) rfl (OpV.indexArr hlt') rfl rfl ?_
      refine JM.reslot 79 (w32 (h.1.getD k 0 + S.1.getD k 0)) (by simp only [getD_at]; rw [plusV_at _ _ _ hlt']) ?_
      refine JM.last 8 (by kernel_rfl) rfl rfl rfl (JR.setW k (h.1.getD k 0 + S.1.getD k 0) hk1 (by omega) rfl (JO.reown bh ((plusV h.1 S.1 (k + 1)).1.map w32) (by rw [plusV_set _ _ _ hlt']) (JO.nil ⟨rfl, ?_⟩)))
      refine JM.nil (by kernel_rfl) ?_
      repeat (first | refine CT.next ?_ | refine JC.seq ?_ | refine JC.region ?_ | refine JO.nil ?_ | refine JO.go rfl ?_ | refine JR.val (by first | exact OpV.move | exact OpV.assign | exact OpV.load | exact OpV.fieldAddr | exact OpV.indexEl | exact OpV.len | exact OpV.lss | exact OpV.not | exact OpV.pick_true | exact OpV.pick_false | exact OpV.inc (by omega) | exact OpV.eql | exact OpV.neq | exact OpV.leq | exact OpV.gtr | exact OpV.geq | exact OpV.extract | exact OpV.makeFunc | exact OpV.addn (by omega) | exact OpV.add (by omega) | exact OpV.subn (by omega) | exact OpV.sub (by omega) | exact OpV.lens | exact OpV.eqlID | exact OpV.neqID | exact OpV.eqlEv | exact OpV.eqlOp | exact OpV.eqlStr | exact OpV.neqStr | exact OpV.eqlNil | exact OpV.eqlBool | exact OpV.neqBool) rfl ?_ | (refine JR.alloc rfl ?_; intro _) | (refine JR.box rfl ?_; intro _) | refine JR.store ?_ | refine JC.cond_true ?_ | refine JC.cond_false ?_ | refine JC.skip ?_ | refine JC.exit ?_ | refine JC.block ?_ | refine CT.past ?_ | refine CT.hit ?_ | refine CT.miss rfl ?_ | refine CT.blockEnd ?_ | refine JC.ret ?_ | refine CT.ret ?_ | refine CT.blockRet ?_ | refine JO.omit rfl rfl ?_ | (refine JR.lit rfl ⟨rfl, by decide, by decide, by decide⟩ ?_; intro _))
      exact ⟨k + 1, by omega, by omega, inferInstance⟩
    · obtain rfl : k = 8 := by omega
      repeat (first | refine CT.next ?_ | refine JC.seq ?_ | refine JC.region ?_ | refine JO.nil ?_ | refine JO.go rfl ?_ | refine JR.val (by first | exact OpV.move | exact OpV.assign | exact OpV.load | exact OpV.fieldAddr | exact OpV.indexEl | exact OpV.len | exact OpV.lss | exact OpV.not | exact OpV.pick_true | exact OpV.pick_false | exact OpV.inc (by omega) | exact OpV.eql | exact OpV.neq | exact OpV.leq | exact OpV.gtr | exact OpV.geq | exact OpV.extract | exact OpV.makeFunc | exact OpV.addn (by omega) | exact OpV.add (by omega) | exact OpV.subn (by omega) | exact OpV.sub (by omega) | exact OpV.lens | exact OpV.eqlID | exact OpV.neqID | exact OpV.eqlEv | exact OpV.eqlOp | exact OpV.eqlStr | exact OpV.neqStr | exact OpV.eqlNil | exact OpV.eqlBool | exact OpV.neqBool) rfl ?_ | (refine JR.alloc rfl ?_; intro _) | (refine JR.box rfl ?_; intro _) | refine JR.store ?_ | refine JC.cond_true ?_ | refine JC.cond_false ?_ | refine JC.skip ?_ | refine JC.exit ?_ | refine JC.block ?_ | refine CT.past ?_ | refine CT.hit ?_ | refine CT.miss rfl ?_ | refine CT.blockEnd ?_ | refine JC.ret ?_ | refine CT.ret ?_ | refine CT.blockRet ?_ | refine JO.omit rfl rfl ?_ | (refine JR.lit rfl ⟨rfl, by decide, by decide, by decide⟩ ?_; intro _))
      exact CT.done () rfl (fun w ho => ho.ent)
end Ab
end Go.Proofs.Ytcmfemfndadfmaa

/- Contracts: sha.Pad. -/
namespace Go.Proofs.Ytcmfemfndadfmaa
namespace Ab
open Go Go.RowKit
set_option linter.unusedVariables false
set_option linter.unusedSimpArgs false
set_option synthInstance.maxSize 4000
set_option synthInstance.maxHeartbeats 400000
attribute [local irreducible] JC JO JR JQ andThen inBlock OpV Gives retTo JM JS

/-- How many bytes of nothing. -/
def padZ (n : Nat) : Nat := (119 - n % 64) % 64
def padL (L : List UInt8) : List UInt8 := (L ++ [128]) ++ List.replicate (padZ L.length) 0 ++ longL (UInt64.ofNat (L.length * 8))

instance {x : UInt64} : Len ((longL x).map byteV) 8 := ⟨by simp [longL]⟩
instance {x : UInt32} : Len ((fourL x).map byteV) 4 := ⟨by simp [fourL]⟩
instance {Γ : List Fact} : Typed Γ [.int .u8 128] (128 : UInt8) := ⟨(), rfl, by simp [Cell.facts]⟩
instance {Γ : List Fact} : Typed Γ [.int .u8 0] (0 : UInt8) := ⟨(), rfl, by simp [Cell.facts]⟩
set_option maxHeartbeats 1000000 in
theorem pad_sha (w : World) (F : Nat → Prop) (a : Option Addr) (c : Nat) (L : List UInt8) (h : (sl a c L).holds F w) (hL : L.length ≤ 1048576) :
    GivesBuf Try.prog 50 [.slice a L.length c] w F 5 (padL L) := by
  refine gives_of Try.func50 rfl Try.ntmps50 rfl rfl [.st (sl a c L)] (.start1 h) ?_
  repeat (first | refine CT.next ?_ | refine JC.seq ?_ | refine JC.region ?_ | refine JO.nil ?_ | refine JO.go rfl ?_ | refine JR.val (by first | exact OpV.move | exact OpV.assign | exact OpV.load | exact OpV.fieldAddr | exact OpV.indexEl | exact OpV.len | exact OpV.lss | exact OpV.not | exact OpV.pick_true | exact OpV.pick_false | exact OpV.inc (by omega) | exact OpV.eql | exact OpV.neq | exact OpV.leq | exact OpV.gtr | exact OpV.geq | exact OpV.extract | exact OpV.makeFunc | exact OpV.addn (by omega) | exact OpV.add (by omega) | exact OpV.subn (by omega) | exact OpV.sub (by omega) | exact OpV.lens | exact OpV.eqlID | exact OpV.neqID | exact OpV.eqlEv | exact OpV.eqlOp | exact OpV.eqlStr | exact OpV.neqStr | exact OpV.eqlNil | exact OpV.eqlBool | exact OpV.neqBool) rfl ?_ | (refine JR.alloc rfl ?_; intro _) | (refine JR.box rfl ?_; intro _) | refine JR.store ?_ | refine JC.cond_true ?_ | refine JC.cond_false ?_ | refine JC.skip ?_ | refine JC.exit ?_ | refine JC.block ?_ | refine CT.past ?_ | refine CT.hit ?_ | refine CT.miss rfl ?_ | refine CT.blockEnd ?_ | refine JC.ret ?_ | refine CT.ret ?_ | refine CT.blockRet ?_ | refine JO.omit rfl rfl ?_ | (refine JR.lit rfl ⟨rfl, by decide, by decide, by decide⟩ ?_; intro _))
  have hn128 : NatI ((L.length : Int) + 128) (L.length + 128) := ⟨by omega⟩
  refine JR.makeBytes (l := L.length) (c := L.length + 128) rfl ⟨by omega, by omega⟩ ?_
  intro b
  repeat (first | refine CT.next ?_ | refine JC.seq ?_ | refine JC.region ?_ | refine JO.nil ?_ | refine JO.go rfl ?_ | refine JR.val (by first | exact OpV.move | exact OpV.assign | exact OpV.load | exact OpV.fieldAddr | exact OpV.indexEl | exact OpV.len | exact OpV.lss | exact OpV.not | exact OpV.pick_true | exact OpV.pick_false | exact OpV.inc (by omega) | exact OpV.eql | exact OpV.neq | exact OpV.leq | exact OpV.gtr | exact OpV.geq | exact OpV.extract | exact OpV.makeFunc | exact OpV.addn (by omega) | exact OpV.add (by omega) | exact OpV.subn (by omega) | exact OpV.sub (by omega) | exact OpV.lens | exact OpV.eqlID | exact OpV.neqID | exact OpV.eqlEv | exact OpV.eqlOp | exact OpV.eqlStr | exact OpV.neqStr | exact OpV.eqlNil | exact OpV.eqlBool | exact OpV.neqBool) rfl ?_ | (refine JR.alloc rfl ?_; intro _) | (refine JR.box rfl ?_; intro _) | refine JR.store ?_ | refine JC.cond_true ?_ | refine JC.cond_false ?_ | refine JC.skip ?_ | refine JC.exit ?_ | refine JC.block ?_ | refine CT.past ?_ | refine CT.hit ?_ | refine CT.miss rfl ?_ | refine CT.blockEnd ?_ | refine JC.ret ?_ | refine CT.ret ?_ | refine CT.blockRet ?_ | refine JO.omit rfl rfl ?_ | (refine JR.lit rfl ⟨rfl, by decide, by decide, by decide⟩ ?_; intro _))
  refine JR.copyBuf (M := L) rfl (by simp) ?_
  intro a1 c1 e1
  injection e1 with e1 e2 e3
  subst e1 e3
  refine JO.reslot 3 (.slice (some ⟨b, 0, none⟩) L.length (L.length + 128)) (by simp) ?_
  repeat (first | refine CT.next ?_ | refine JC.seq ?_ | refine JC.region ?_ | refine JO.nil ?_ | refine JO.go rfl ?_ | refine JR.val (by first | exact OpV.move | exact OpV.assign | exact OpV.load | exact OpV.fieldAddr | exact OpV.indexEl | exact OpV.len | exact OpV.lss | exact OpV.not | exact OpV.pick_true | exact OpV.pick_false | exact OpV.inc (by omega) | exact OpV.eql | exact OpV.neq | exact OpV.leq | exact OpV.gtr | exact OpV.geq | exact OpV.extract | exact OpV.makeFunc | exact OpV.addn (by omega) | exact OpV.add (by omega) | exact OpV.subn (by omega) | exact OpV.sub (by omega) | exact OpV.lens | exact OpV.eqlID | exact OpV.neqID | exact OpV.eqlEv | exact OpV.eqlOp | exact OpV.eqlStr | exact OpV.neqStr | exact OpV.eqlNil | exact OpV.eqlBool | exact OpV.neqBool) rfl ?_ | (refine JR.alloc rfl ?_; intro _) | (refine JR.box rfl ?_; intro _) | refine JR.store ?_ | refine JC.cond_true ?_ | refine JC.cond_false ?_ | refine JC.skip ?_ | refine JC.exit ?_ | refine JC.block ?_ | refine CT.past ?_ | refine CT.hit ?_ | refine CT.miss rfl ?_ | refine CT.blockEnd ?_ | refine JC.ret ?_ | refine CT.ret ?_ | refine CT.blockRet ?_ | refine JO.omit rfl rfl ?_ | (refine JR.lit rfl ⟨rfl, by decide, by decide, by decide⟩ ?_; intro _))
  refine JR.append1 rfl (by exact ⟨rfl, rfl, by decide⟩) (by omega) ?_
  intro a2 c2
  repeat (first | refine CT.next ?_ | refine JC.seq ?_ | refine JC.region ?_ | refine JO.nil ?_ | refine JO.go rfl ?_ | refine JR.val (by first | exact OpV.move | exact OpV.assign | exact OpV.load | exact OpV.fieldAddr | exact OpV.indexEl | exact OpV.len | exact OpV.lss | exact OpV.not | exact OpV.pick_true | exact OpV.pick_false | exact OpV.inc (by omega) | exact OpV.eql | exact OpV.neq | exact OpV.leq | exact OpV.gtr | exact OpV.geq | exact OpV.extract | exact OpV.makeFunc | exact OpV.addn (by omega) | exact OpV.add (by omega) | exact OpV.subn (by omega) | exact OpV.sub (by omega) | exact OpV.lens | exact OpV.eqlID | exact OpV.neqID | exact OpV.eqlEv | exact OpV.eqlOp | exact OpV.eqlStr | exact OpV.neqStr | exact OpV.eqlNil | exact OpV.eqlBool | exact OpV.neqBool) rfl ?_ | (refine JR.alloc rfl ?_; intro _) | (refine JR.box rfl ?_; intro _) | refine JR.store ?_ | refine JC.cond_true ?_ | refine JC.cond_false ?_ | refine JC.skip ?_ | refine JC.exit ?_ | refine JC.block ?_ | refine CT.past ?_ | refine CT.hit ?_ | refine CT.miss rfl ?_ | refine CT.blockEnd ?_ | refine JC.ret ?_ | refine CT.ret ?_ | refine CT.blockRet ?_ | refine JO.omit rfl rfl ?_ | (refine JR.lit rfl ⟨rfl, by decide, by decide, by decide⟩ ?_; intro _))
  have hz : padZ L.length < 64 := Nat.mod_lt _ (by decide)
  refine JC.loop3 (fun (k : Nat) p q => [(0, .slice a L.length c), (3, .slice p ((L ++ [128]) ++ List.replicate k (0 : UInt8)).length q)]) (fun k p q => [.res (buf p q 5 ((L ++ [128]) ++ List.replicate k (0 : UInt8)))])
    (fun k _ _ => k ≤ padZ L.length) (fun k _ _ => padZ L.length - k) 0 a2 c2 (Nat.zero_le _) (by rw [List.replicate_zero, List.append_nil]; infer_instance) ?_
  intro k p q hk
  repeat (first | refine CT.next ?_ | refine JC.seq ?_ | refine JC.region ?_ | refine JO.nil ?_ | refine JO.go rfl ?_ | refine JR.val (by first | exact OpV.move | exact OpV.assign | exact OpV.load | exact OpV.fieldAddr | exact OpV.indexEl | exact OpV.len | exact OpV.lss | exact OpV.not | exact OpV.pick_true | exact OpV.pick_false | exact OpV.inc (by omega) | exact OpV.eql | exact OpV.neq | exact OpV.leq | exact OpV.gtr | exact OpV.geq | exact OpV.extract | exact OpV.makeFunc | exact OpV.addn (by omega) | exact OpV.add (by omega) | exact OpV.subn (by omega) | exact OpV.sub (by omega) | exact OpV.lens | exact OpV.eqlID | exact OpV.neqID | exact OpV.eqlEv | exact OpV.eqlOp | exact OpV.eqlStr | exact OpV.neqStr | exact OpV.eqlNil | exact OpV.eqlBool | exact OpV.neqBool) rfl ?_ | (refine JR.alloc rfl ?_; intro _) | (refine JR.box rfl ?_; intro _) | refine JR.store ?_ | refine JC.cond_true ?_ | refine JC.cond_false ?_ | refine JC.skip ?_ | refine JC.exit ?_ | refine JC.block ?_ | refine CT.past ?_ | refine CT.hit ?_ | refine CT.miss rfl ?_ | refine CT.blockEnd ?_ | refine JC.ret ?_ | refine CT.ret ?_ | refine CT.blockRet ?_ | refine JO.omit rfl rfl ?_ | (refine JR.lit rfl ⟨rfl, by decide, by decide, by decide⟩ ?_; intro _))
  have hlen : ((L ++ [128]) ++ List.replicate k (0 : UInt8)).length = L.length + 1 + k := by simp; omega
  refine JR.val (OpV.rem (by decide)) rfl ?_
  refine JO.reslot 19 (.int .i64 (((L.length + 1 + k) % 64 : Nat) : Int)) (by rw [hlen, Int.tmod_eq_emod_of_nonneg (by omega)]; congr 1) ?_
  repeat (first | refine CT.next ?_ | refine JC.seq ?_ | refine JC.region ?_ | refine JO.nil ?_ | refine JO.go rfl ?_ | refine JR.val (by first | exact OpV.move | exact OpV.assign | exact OpV.load | exact OpV.fieldAddr | exact OpV.indexEl | exact OpV.len | exact OpV.lss | exact OpV.not | exact OpV.pick_true | exact OpV.pick_false | exact OpV.inc (by omega) | exact OpV.eql | exact OpV.neq | exact OpV.leq | exact OpV.gtr | exact OpV.geq | exact OpV.extract | exact OpV.makeFunc | exact OpV.addn (by omega) | exact OpV.add (by omega) | exact OpV.subn (by omega) | exact OpV.sub (by omega) | exact OpV.lens | exact OpV.eqlID | exact OpV.neqID | exact OpV.eqlEv | exact OpV.eqlOp | exact OpV.eqlStr | exact OpV.neqStr | exact OpV.eqlNil | exact OpV.eqlBool | exact OpV.neqBool) rfl ?_ | (refine JR.alloc rfl ?_; intro _) | (refine JR.box rfl ?_; intro _) | refine JR.store ?_ | refine JC.cond_true ?_ | refine JC.cond_false ?_ | refine JC.skip ?_ | refine JC.exit ?_ | refine JC.block ?_ | refine CT.past ?_ | refine CT.hit ?_ | refine CT.miss rfl ?_ | refine CT.blockEnd ?_ | refine JC.ret ?_ | refine CT.ret ?_ | refine CT.blockRet ?_ | refine JO.omit rfl rfl ?_ | (refine JR.lit rfl ⟨rfl, by decide, by decide, by decide⟩ ?_; intro _))
  refine JC.test (fun h1 => ?_) (fun h1 => ?_)
  · have h2 : k < padZ L.length := by simp only [padZ] at hk ⊢; omega
    repeat (first | refine CT.next ?_ | refine JC.seq ?_ | refine JC.region ?_ | refine JO.nil ?_ | refine JO.go rfl ?_ | refine JR.val (by first | exact OpV.move | exact OpV.assign | exact OpV.load | exact OpV.fieldAddr | exact OpV.indexEl | exact OpV.len | exact OpV.lss | exact OpV.not | exact OpV.pick_true | exact OpV.pick_false | exact OpV.inc (by omega) | exact OpV.eql | exact OpV.neq | exact OpV.leq | exact OpV.gtr | exact OpV.geq | exact OpV.extract | exact OpV.makeFunc | exact OpV.addn (by omega) | exact OpV.add (by omega) | exact OpV.subn (by omega) | exact OpV.sub (by omega) | exact OpV.lens | exact OpV.eqlID | exact OpV.neqID | exact OpV.eqlEv | exact OpV.eqlOp | exact OpV.eqlStr | exact OpV.neqStr | exact OpV.eqlNil | exact OpV.eqlBool | exact OpV.neqBool) rfl ?_ | (refine JR.alloc rfl ?_; intro _) | (refine JR.box rfl ?_; intro _) | refine JR.store ?_ | refine JC.cond_true ?_ | refine JC.cond_false ?_ | refine JC.skip ?_ | refine JC.exit ?_ | refine JC.block ?_ | refine CT.past ?_ | refine CT.hit ?_ | refine CT.miss rfl ?_ | refine CT.blockEnd ?_ | refine JC.ret ?_ | refine CT.ret ?_ | refine CT.blockRet ?_ | refine JO.omit rfl rfl ?_ | (refine JR.lit rfl ⟨rfl, by decide, by decide, by decide⟩ ?_; intro _))
    refine JR.append1 rfl (by exact ⟨rfl, rfl, by decide⟩) (by rw [hlen]; omega) ?_
    intro a3 c3
    repeat (first | refine CT.next ?_ | refine JC.seq ?_ | refine JC.region ?_ | refine JO.nil ?_ | refine JO.go rfl ?_ | refine JR.val (by first | exact OpV.move | exact OpV.assign | exact OpV.load | exact OpV.fieldAddr | exact OpV.indexEl | exact OpV.len | exact OpV.lss | exact OpV.not | exact OpV.pick_true | exact OpV.pick_false | exact OpV.inc (by omega) | exact OpV.eql | exact OpV.neq | exact OpV.leq | exact OpV.gtr | exact OpV.geq | exact OpV.extract | exact OpV.makeFunc | exact OpV.addn (by omega) | exact OpV.add (by omega) | exact OpV.subn (by omega) | exact OpV.sub (by omega) | exact OpV.lens | exact OpV.eqlID | exact OpV.neqID | exact OpV.eqlEv | exact OpV.eqlOp | exact OpV.eqlStr | exact OpV.neqStr | exact OpV.eqlNil | exact OpV.eqlBool | exact OpV.neqBool) rfl ?_ | (refine JR.alloc rfl ?_; intro _) | (refine JR.box rfl ?_; intro _) | refine JR.store ?_ | refine JC.cond_true ?_ | refine JC.cond_false ?_ | refine JC.skip ?_ | refine JC.exit ?_ | refine JC.block ?_ | refine CT.past ?_ | refine CT.hit ?_ | refine CT.miss rfl ?_ | refine CT.blockEnd ?_ | refine JC.ret ?_ | refine CT.ret ?_ | refine CT.blockRet ?_ | refine JO.omit rfl rfl ?_ | (refine JR.lit rfl ⟨rfl, by decide, by decide, by decide⟩ ?_; intro _))
    have hs : (L ++ [128]) ++ List.replicate (k + 1) (0 : UInt8) = (L ++ [128]) ++ List.replicate k (0 : UInt8) ++ [0] := by rw [List.replicate_succ', ← List.append_assoc]
    exact ⟨k + 1, a3, c3, by omega, by omega, by rw [hs]; infer_instance⟩
  · have h2 : k = padZ L.length := by simp only [padZ] at hk ⊢; omega
    subst h2
    repeat (first | refine CT.next ?_ | refine JC.seq ?_ | refine JC.region ?_ | refine JO.nil ?_ | refine JO.go rfl ?_ | refine JR.val (by first | exact OpV.move | exact OpV.assign | exact OpV.load | exact OpV.fieldAddr | exact OpV.indexEl | exact OpV.len | exact OpV.lss | exact OpV.not | exact OpV.pick_true | exact OpV.pick_false | exact OpV.inc (by omega) | exact OpV.eql | exact OpV.neq | exact OpV.leq | exact OpV.gtr | exact OpV.geq | exact OpV.extract | exact OpV.makeFunc | exact OpV.addn (by omega) | exact OpV.add (by omega) | exact OpV.subn (by omega) | exact OpV.sub (by omega) | exact OpV.lens | exact OpV.eqlID | exact OpV.neqID | exact OpV.eqlEv | exact OpV.eqlOp | exact OpV.eqlStr | exact OpV.neqStr | exact OpV.eqlNil | exact OpV.eqlBool | exact OpV.neqBool) rfl ?_ | (refine JR.alloc rfl ?_; intro _) | (refine JR.box rfl ?_; intro _) | refine JR.store ?_ | refine JC.cond_true ?_ | refine JC.cond_false ?_ | refine JC.skip ?_ | refine JC.exit ?_ | refine JC.block ?_ | refine CT.past ?_ | refine CT.hit ?_ | refine CT.miss rfl ?_ | refine CT.blockEnd ?_ | refine JC.ret ?_ | refine CT.ret ?_ | refine CT.blockRet ?_ | refine JO.omit rfl rfl ?_ | (refine JR.lit rfl ⟨rfl, by decide, by decide, by decide⟩ ?_; intro _))
    refine JR.val OpV.conv rfl ?_
    refine JO.reslot 26 (.int .u64 (L.length : Int)) (congrArg (Value.int .u64) (by rw [wrap64]; omega)) ?_
    repeat (first | refine CT.next ?_ | refine JC.seq ?_ | refine JC.region ?_ | refine JO.nil ?_ | refine JO.go rfl ?_ | refine JR.val (by first | exact OpV.move | exact OpV.assign | exact OpV.load | exact OpV.fieldAddr | exact OpV.indexEl | exact OpV.len | exact OpV.lss | exact OpV.not | exact OpV.pick_true | exact OpV.pick_false | exact OpV.inc (by omega) | exact OpV.eql | exact OpV.neq | exact OpV.leq | exact OpV.gtr | exact OpV.geq | exact OpV.extract | exact OpV.makeFunc | exact OpV.addn (by omega) | exact OpV.add (by omega) | exact OpV.subn (by omega) | exact OpV.sub (by omega) | exact OpV.lens | exact OpV.eqlID | exact OpV.neqID | exact OpV.eqlEv | exact OpV.eqlOp | exact OpV.eqlStr | exact OpV.neqStr | exact OpV.eqlNil | exact OpV.eqlBool | exact OpV.neqBool) rfl ?_ | (refine JR.alloc rfl ?_; intro _) | (refine JR.box rfl ?_; intro _) | refine JR.store ?_ | refine JC.cond_true ?_ | refine JC.cond_false ?_ | refine JC.skip ?_ | refine JC.exit ?_ | refine JC.block ?_ | refine CT.past ?_ | refine CT.hit ?_ | refine CT.miss rfl ?_ | refine CT.blockEnd ?_ | refine JC.ret ?_ | refine CT.ret ?_ | refine CT.blockRet ?_ | refine JO.omit rfl rfl ?_ | (refine JR.lit rfl ⟨rfl, by decide, by decide, by decide⟩ ?_; intro _))
    refine JR.val (OpV.shl (by decide)) rfl ?_
    refine JO.reslot 27 (w64 (UInt64.ofNat (L.length * 8))) (congrArg (Value.int .u64) (by
      show IntKind.u64.wrap ((L.length : Int) * 2 ^ 3) = _
      rw [show ((L.length : Int) * 2 ^ 3) = ((L.length * 8 : Nat) : Int) by omega, wrap64, UInt64.toNat_ofNat'])) ?_
    repeat (first | refine CT.next ?_ | refine JC.seq ?_ | refine JC.region ?_ | refine JO.nil ?_ | refine JO.go rfl ?_ | refine JR.val (by first | exact OpV.move | exact OpV.assign | exact OpV.load | exact OpV.fieldAddr | exact OpV.indexEl | exact OpV.len | exact OpV.lss | exact OpV.not | exact OpV.pick_true | exact OpV.pick_false | exact OpV.inc (by omega) | exact OpV.eql | exact OpV.neq | exact OpV.leq | exact OpV.gtr | exact OpV.geq | exact OpV.extract | exact OpV.makeFunc | exact OpV.addn (by omega) | exact OpV.add (by omega) | exact OpV.subn (by omega) | exact OpV.sub (by omega) | exact OpV.lens | exact OpV.eqlID | exact OpV.neqID | exact OpV.eqlEv | exact OpV.eqlOp | exact OpV.eqlStr | exact OpV.neqStr | exact OpV.eqlNil | exact OpV.eqlBool | exact OpV.neqBool) rfl ?_ | (refine JR.alloc rfl ?_; intro _) | (refine JR.box rfl ?_; intro _) | refine JR.store ?_ | refine JC.cond_true ?_ | refine JC.cond_false ?_ | refine JC.skip ?_ | refine JC.exit ?_ | refine JC.block ?_ | refine CT.past ?_ | refine CT.hit ?_ | refine CT.miss rfl ?_ | refine CT.blockEnd ?_ | refine JC.ret ?_ | refine CT.ret ?_ | refine CT.blockRet ?_ | refine JO.omit rfl rfl ?_ | (refine JR.lit rfl ⟨rfl, by decide, by decide, by decide⟩ ?_; intro _))
    refine JR.callV rfl (fun w1 hw => long_rot w1 _ _) ?_
    repeat (first | refine CT.next ?_ | refine JC.seq ?_ | refine JC.region ?_ | refine JO.nil ?_ | refine JO.go rfl ?_ | refine JR.val (by first | exact OpV.move | exact OpV.assign | exact OpV.load | exact OpV.fieldAddr | exact OpV.indexEl | exact OpV.len | exact OpV.lss | exact OpV.not | exact OpV.pick_true | exact OpV.pick_false | exact OpV.inc (by omega) | exact OpV.eql | exact OpV.neq | exact OpV.leq | exact OpV.gtr | exact OpV.geq | exact OpV.extract | exact OpV.makeFunc | exact OpV.addn (by omega) | exact OpV.add (by omega) | exact OpV.subn (by omega) | exact OpV.sub (by omega) | exact OpV.lens | exact OpV.eqlID | exact OpV.neqID | exact OpV.eqlEv | exact OpV.eqlOp | exact OpV.eqlStr | exact OpV.neqStr | exact OpV.eqlNil | exact OpV.eqlBool | exact OpV.neqBool) rfl ?_ | (refine JR.alloc rfl ?_; intro _) | (refine JR.box rfl ?_; intro _) | refine JR.store ?_ | refine JC.cond_true ?_ | refine JC.cond_false ?_ | refine JC.skip ?_ | refine JC.exit ?_ | refine JC.block ?_ | refine CT.past ?_ | refine CT.hit ?_ | refine CT.miss rfl ?_ | refine CT.blockEnd ?_ | refine JC.ret ?_ | refine CT.ret ?_ | refine CT.blockRet ?_ | refine JO.omit rfl rfl ?_ | (refine JR.lit rfl ⟨rfl, by decide, by decide, by decide⟩ ?_; intro _))
    refine JR.val (OpV.sliceArr (by decide)) rfl ?_
    refine JO.go rfl ?_
    refine JR.appendBytes (M := longL (UInt64.ofNat (L.length * 8))) rfl rfl rfl (by simp [longL]) (by exact ⟨rfl, rfl, by decide⟩) (by rw [hlen]; omega) ?_
    intro a3 c3
    repeat (first | refine CT.next ?_ | refine JC.seq ?_ | refine JC.region ?_ | refine JO.nil ?_ | refine JO.go rfl ?_ | refine JR.val (by first | exact OpV.move | exact OpV.assign | exact OpV.load | exact OpV.fieldAddr | exact OpV.indexEl | exact OpV.len | exact OpV.lss | exact OpV.not | exact OpV.pick_true | exact OpV.pick_false | exact OpV.inc (by omega) | exact OpV.eql | exact OpV.neq | exact OpV.leq | exact OpV.gtr | exact OpV.geq | exact OpV.extract | exact OpV.makeFunc | exact OpV.addn (by omega) | exact OpV.add (by omega) | exact OpV.subn (by omega) | exact OpV.sub (by omega) | exact OpV.lens | exact OpV.eqlID | exact OpV.neqID | exact OpV.eqlEv | exact OpV.eqlOp | exact OpV.eqlStr | exact OpV.neqStr | exact OpV.eqlNil | exact OpV.eqlBool | exact OpV.neqBool) rfl ?_ | (refine JR.alloc rfl ?_; intro _) | (refine JR.box rfl ?_; intro _) | refine JR.store ?_ | refine JC.cond_true ?_ | refine JC.cond_false ?_ | refine JC.skip ?_ | refine JC.exit ?_ | refine JC.block ?_ | refine CT.past ?_ | refine CT.hit ?_ | refine CT.miss rfl ?_ | refine CT.blockEnd ?_ | refine JC.ret ?_ | refine CT.ret ?_ | refine CT.blockRet ?_ | refine JO.omit rfl rfl ?_ | (refine JR.lit rfl ⟨rfl, by decide, by decide, by decide⟩ ?_; intro _))
    exact CT.done (a3, c3) rfl (fun w ho => (ho.ent : Hold _ _ [.res (buf a3 c3 5 ((L ++ [128]) ++ List.replicate (padZ L.length) (0 : UInt8) ++ longL (UInt64.ofNat (L.length * 8))))] w))
end Ab
end Go.Proofs.Ytcmfemfndadfmaa

/- Contracts: sha.Sum. -/
namespace Go.Proofs.Ytcmfemfndadfmaa
namespace Ab
open Go Go.RowKit
set_option linter.unusedVariables false
set_option linter.unusedSimpArgs false
set_option synthInstance.maxSize 4000
set_option synthInstance.maxHeartbeats 400000
attribute [local irreducible] JC JO JR JQ andThen inBlock OpV Gives retTo JM JS

attribute [local irreducible] spreadK shaKV spreadV turnV plusV blockL
theorem padL_length (L : List UInt8) : (padL L).length = 64 * ((L.length + 72) / 64) := by
  simp only [padL, List.length_append, List.length_replicate, longL, List.length_map, List.length_range, List.length_singleton, padZ]
  omega
/-- One block after another. -/
def blocksV : Nat → Vec UInt32 8 → List UInt8 → Vec UInt32 8
  | 0, h, _ => h
  | n + 1, h, p => blocksV n (blockL h (p.take 64)) (p.drop 64)
def shaSV : Vec UInt32 8 := ⟨shaS, rfl⟩
theorem start_shaV (w : World) (F : Nat → Prop) : GivesV Try.prog 49 [] w F (.agg ⟨shaSV.1.map w32⟩) := start_sha w F
def sumV (L : List UInt8) : Vec UInt32 8 := blocksV ((padL L).length / 64) shaSV (padL L)
/-- The words' bytes, as far as they are written. -/
def outK (h : List UInt32) (k : Nat) : List UInt8 := (h.take k).flatMap fourL ++ List.replicate (32 - 4 * k) 0
theorem flat4 (h : List UInt32) : (h.flatMap fourL).length = 4 * h.length := by
  induction h with
  | nil => rfl
  | cons x h ih => simp only [List.flatMap_cons, List.length_append, ih, List.length_cons]; simp [fourL]; omega
theorem outK_length (h : Vec UInt32 8) (k : Nat) (hk : k ≤ 8) : (outK h.1 k).length = 32 := by
  have := h.2
  simp only [outK, List.length_append, flat4, List.length_take, List.length_replicate]
  omega
theorem outK_zero (h : List UInt32) : outK h 0 = List.replicate 32 0 := by simp [outK]
theorem outK_next (h : Vec UInt32 8) (k : Nat) (hk : k < 8) : (outK h.1 k).take (4 * k) ++ fourL (h.1.getD k 0) ++ (outK h.1 k).drop (4 * k + 4) = outK h.1 (k + 1) := by
  have h8 := h.2
  have h4 : ((h.1.take k).flatMap fourL).length = 4 * k := by rw [flat4, List.length_take]; omega
  rw [outK, outK, List.take_left' h4, List.drop_append, h4, List.drop_eq_nil_of_le (by omega), List.nil_append, List.drop_replicate, List.take_succ_eq_append_getElem (by omega), List.flatMap_append]
  have hg : h.1[k]'(by omega) = h.1.getD k 0 := by simp [List.getD_eq_getElem?_getD, h8, hk]
  simp only [List.flatMap_cons, List.flatMap_nil, List.append_nil, hg]
  congr 2
  omega
def sumL (L : List UInt8) : List UInt8 := (sumV L).1.flatMap fourL
theorem sumL_length (L : List UInt8) : (sumL L).length = 32 := by rw [sumL, flat4, (sumV L).2]
def idOfS (S : Vec UInt32 8) : ID := ⟨S.1.flatMap fourL, by rw [flat4, S.2]⟩
def sumI (L : List UInt8) : ID := idOfS (sumV L)
theorem sumI_val (L : List UInt8) : (sumI L).1 = sumL L := rfl

theorem part_word {S : List UInt32} {k : Nat} (h : k < S.length) (w : World) : (part 84 ⟨S.map w32⟩ (k * 1)).run Try.prog w = .ok (w32 (S.getD k 0)) w := by
  have hagg : (isAgg 84).run Try.prog w = .ok false w := by
    unfold isAgg
    rw [Sem.run_bind, run_und (P := Try.prog) (t := 84) w]
    rfl
  have hv : (⟨S.map w32⟩ : Array Value)[k * 1]? = some (w32 (S.getD k 0)) := by
    rw [Nat.mul_one]
    simp [List.getD_eq_getElem?_getD, h]
  unfold part
  rw [Sem.run_bind, hagg]
  simp only [Result.andThen_ok, Bool.false_eq_true, if_false, hv]
  rfl
set_option maxHeartbeats 1000000 in
theorem sum_sha (w : World) (F : Nat → Prop) (a : Option Addr) (c : Nat) (L : List UInt8) (h : (sl a c L).holds F w) (hL : L.length ≤ 1048576) :
    GivesV Try.prog 36 [.slice a L.length c] w F (.agg ⟨idc (sumI L)⟩) := by
  have hpl := padL_length L
  refine gives_of Try.func36 rfl Try.ntmps36 rfl rfl [.st (sl a c L)] (.start1 h) ?_
  repeat (first | refine CT.next ?_ | refine JC.seq ?_ | refine JC.region ?_ | refine JO.nil ?_ | refine JO.go rfl ?_ | refine JR.val (by first | exact OpV.move | exact OpV.assign | exact OpV.load | exact OpV.fieldAddr | exact OpV.indexEl | exact OpV.len | exact OpV.lss | exact OpV.not | exact OpV.pick_true | exact OpV.pick_false | exact OpV.inc (by omega) | exact OpV.eql | exact OpV.neq | exact OpV.leq | exact OpV.gtr | exact OpV.geq | exact OpV.extract | exact OpV.makeFunc | exact OpV.addn (by omega) | exact OpV.add (by omega) | exact OpV.subn (by omega) | exact OpV.sub (by omega) | exact OpV.lens | exact OpV.eqlID | exact OpV.neqID | exact OpV.eqlEv | exact OpV.eqlOp | exact OpV.eqlStr | exact OpV.neqStr | exact OpV.eqlNil | exact OpV.eqlBool | exact OpV.neqBool) rfl ?_ | (refine JR.alloc rfl ?_; intro _) | (refine JR.box rfl ?_; intro _) | refine JR.store ?_ | refine JC.cond_true ?_ | refine JC.cond_false ?_ | refine JC.skip ?_ | refine JC.exit ?_ | refine JC.block ?_ | refine CT.past ?_ | refine CT.hit ?_ | refine CT.miss rfl ?_ | refine CT.blockEnd ?_ | refine JC.ret ?_ | refine CT.ret ?_ | refine CT.blockRet ?_ | refine JO.omit rfl rfl ?_ | (refine JR.lit rfl ⟨rfl, by decide, by decide, by decide⟩ ?_; intro _))
  refine JR.callV rfl (fun w1 hw => start_shaV w1 _) ?_
  repeat (first | refine CT.next ?_ | refine JC.seq ?_ | refine JC.region ?_ | refine JO.nil ?_ | refine JO.go rfl ?_ | refine JR.val (by first | exact OpV.move | exact OpV.assign | exact OpV.load | exact OpV.fieldAddr | exact OpV.indexEl | exact OpV.len | exact OpV.lss | exact OpV.not | exact OpV.pick_true | exact OpV.pick_false | exact OpV.inc (by omega) | exact OpV.eql | exact OpV.neq | exact OpV.leq | exact OpV.gtr | exact OpV.geq | exact OpV.extract | exact OpV.makeFunc | exact OpV.addn (by omega) | exact OpV.add (by omega) | exact OpV.subn (by omega) | exact OpV.sub (by omega) | exact OpV.lens | exact OpV.eqlID | exact OpV.neqID | exact OpV.eqlEv | exact OpV.eqlOp | exact OpV.eqlStr | exact OpV.neqStr | exact OpV.eqlNil | exact OpV.eqlBool | exact OpV.neqBool) rfl ?_ | (refine JR.alloc rfl ?_; intro _) | (refine JR.box rfl ?_; intro _) | refine JR.store ?_ | refine JC.cond_true ?_ | refine JC.cond_false ?_ | refine JC.skip ?_ | refine JC.exit ?_ | refine JC.block ?_ | refine CT.past ?_ | refine CT.hit ?_ | refine CT.miss rfl ?_ | refine CT.blockEnd ?_ | refine JC.ret ?_ | refine CT.ret ?_ | refine CT.blockRet ?_ | refine JO.omit rfl rfl ?_ | (refine JR.lit rfl ⟨rfl, by decide, by decide, by decide⟩ ?_; intro _))
  refine JR.callBuf rfl (fun w1 hw => pad_sha w1 _ a c L hw.get hL) ?_
  intro a1 c1
  refine JO.more (fun w1 ho => ho.pub) ?_
  repeat (first | refine CT.next ?_ | refine JC.seq ?_ | refine JC.region ?_ | refine JO.nil ?_ | refine JO.go rfl ?_ | refine JR.val (by first | exact OpV.move | exact OpV.assign | exact OpV.load | exact OpV.fieldAddr | exact OpV.indexEl | exact OpV.len | exact OpV.lss | exact OpV.not | exact OpV.pick_true | exact OpV.pick_false | exact OpV.inc (by omega) | exact OpV.eql | exact OpV.neq | exact OpV.leq | exact OpV.gtr | exact OpV.geq | exact OpV.extract | exact OpV.makeFunc | exact OpV.addn (by omega) | exact OpV.add (by omega) | exact OpV.subn (by omega) | exact OpV.sub (by omega) | exact OpV.lens | exact OpV.eqlID | exact OpV.neqID | exact OpV.eqlEv | exact OpV.eqlOp | exact OpV.eqlStr | exact OpV.neqStr | exact OpV.eqlNil | exact OpV.eqlBool | exact OpV.neqBool) rfl ?_ | (refine JR.alloc rfl ?_; intro _) | (refine JR.box rfl ?_; intro _) | refine JR.store ?_ | refine JC.cond_true ?_ | refine JC.cond_false ?_ | refine JC.skip ?_ | refine JC.exit ?_ | refine JC.block ?_ | refine CT.past ?_ | refine CT.hit ?_ | refine CT.miss rfl ?_ | refine CT.blockEnd ?_ | refine JC.ret ?_ | refine CT.ret ?_ | refine CT.blockRet ?_ | refine JO.omit rfl rfl ?_ | (refine JR.lit rfl ⟨rfl, by decide, by decide, by decide⟩ ?_; intro _))
  rename_i bi bh
  refine JC.reown bi ((List.replicate 32 (0 : UInt8)).map byteV) (by rw [List.map_replicate]; rfl) ?_
  refine JC.loop4 (fun (k : Nat) (H : Vec UInt32 8) p q => [(2, .pointer (some ⟨bi, 0, none⟩)), (3, .pointer (some ⟨bh, 0, none⟩)), (4, .slice p ((padL L).drop (64 * k)).length q)])
    (fun k H p q => [.own bi 44 ((List.replicate 32 (0 : UInt8)).map byteV), .own bh 85 (H.1.map w32), .st (sl p q ((padL L).drop (64 * k)))])
    (fun k H p q => 64 * k ≤ (padL L).length ∧ blocksV ((padL L).length / 64 - k) H ((padL L).drop (64 * k)) = sumV L) (fun k _ _ _ => (padL L).length - 64 * k) 0 shaSV a1 c1 ⟨Nat.zero_le _, rfl⟩ (by rw [show 64 * 0 = 0 from rfl, List.drop_zero]; infer_instance) ?_
  intro k H p q ⟨hk, hinv⟩
  repeat (first | refine CT.next ?_ | refine JC.seq ?_ | refine JC.region ?_ | refine JO.nil ?_ | refine JO.go rfl ?_ | refine JR.val (by first | exact OpV.move | exact OpV.assign | exact OpV.load | exact OpV.fieldAddr | exact OpV.indexEl | exact OpV.len | exact OpV.lss | exact OpV.not | exact OpV.pick_true | exact OpV.pick_false | exact OpV.inc (by omega) | exact OpV.eql | exact OpV.neq | exact OpV.leq | exact OpV.gtr | exact OpV.geq | exact OpV.extract | exact OpV.makeFunc | exact OpV.addn (by omega) | exact OpV.add (by omega) | exact OpV.subn (by omega) | exact OpV.sub (by omega) | exact OpV.lens | exact OpV.eqlID | exact OpV.neqID | exact OpV.eqlEv | exact OpV.eqlOp | exact OpV.eqlStr | exact OpV.neqStr | exact OpV.eqlNil | exact OpV.eqlBool | exact OpV.neqBool) rfl ?_ | (refine JR.alloc rfl ?_; intro _) | (refine JR.box rfl ?_; intro _) | refine JR.store ?_ | refine JC.cond_true ?_ | refine JC.cond_false ?_ | refine JC.skip ?_ | refine JC.exit ?_ | refine JC.block ?_ | refine CT.past ?_ | refine CT.hit ?_ | refine CT.miss rfl ?_ | refine CT.blockEnd ?_ | refine JC.ret ?_ | refine CT.ret ?_ | refine CT.blockRet ?_ | refine JO.omit rfl rfl ?_ | (refine JR.lit rfl ⟨rfl, by decide, by decide, by decide⟩ ?_; intro _))
  refine JC.test (fun h1 => ?_) (fun h1 => ?_)
  · have hk2 : 64 * k + 64 ≤ (padL L).length := by rw [List.length_drop] at h1; omega
    repeat (first | refine CT.next ?_ | refine JC.seq ?_ | refine JC.region ?_ | refine JO.nil ?_ | refine JO.go rfl ?_ | refine JR.val (by first | exact OpV.move | exact OpV.assign | exact OpV.load | exact OpV.fieldAddr | exact OpV.indexEl | exact OpV.len | exact OpV.lss | exact OpV.not | exact OpV.pick_true | exact OpV.pick_false | exact OpV.inc (by omega) | exact OpV.eql | exact OpV.neq | exact OpV.leq | exact OpV.gtr | exact OpV.geq | exact OpV.extract | exact OpV.makeFunc | exact OpV.addn (by omega) | exact OpV.add (by omega) | exact OpV.subn (by omega) | exact OpV.sub (by omega) | exact OpV.lens | exact OpV.eqlID | exact OpV.neqID | exact OpV.eqlEv | exact OpV.eqlOp | exact OpV.eqlStr | exact OpV.neqStr | exact OpV.eqlNil | exact OpV.eqlBool | exact OpV.neqBool) rfl ?_ | (refine JR.alloc rfl ?_; intro _) | (refine JR.box rfl ?_; intro _) | refine JR.store ?_ | refine JC.cond_true ?_ | refine JC.cond_false ?_ | refine JC.skip ?_ | refine JC.exit ?_ | refine JC.block ?_ | refine CT.past ?_ | refine CT.hit ?_ | refine CT.miss rfl ?_ | refine CT.blockEnd ?_ | refine JC.ret ?_ | refine CT.ret ?_ | refine CT.blockRet ?_ | refine JO.omit rfl rfl ?_ | (refine JR.lit rfl ⟨rfl, by decide, by decide, by decide⟩ ?_; intro _))
    obtain ⟨pl, hpl2⟩ : ∃ pl, pl = (padL L).drop (64 * k) := ⟨_, rfl⟩
    have hp64 : (pl.take 64).length = 64 := by rw [hpl2, List.length_take, List.length_drop]; omega
    have hpl64 : 64 ≤ pl.length := by rw [hpl2, List.length_drop]; omega
    rw [← hpl2] at hinv ⊢
    refine JC.draw 7 mixed ?_
    refine JM.take 0 rfl (by kernel_rfl) rfl OpV.load rfl rfl ?_
    refine JM.take 1 rfl (by kernel_rfl) rfl OpV.move rfl rfl ?_
    refine JM.take 2 rfl (by kernel_rfl) rfl (OpV.sliceToV (k := 64) (fun w1 ho => by have := (Hold.get (A := sl p q pl) ho).1; omega)) rfl rfl ?_
    refine JM.reslot 19 (.slice p (pl.take 64).length q) (by rw [hp64]) ?_
    refine JM.takeCall 3 rfl (by kernel_rfl) rfl (fun w1 hw => block_sha w1 _ p q (pl.take 64) H (sl_take (hw.get (A := sl p q pl)) hpl64 ⟨Nat.le_trans hpl64 (hw.get (A := sl p q pl)).1, Nat.le_refl _⟩) hp64) rfl rfl ?_
    refine JM.take 4 rfl (by kernel_rfl) rfl OpV.move rfl rfl ?_
    refine JM.take 5 rfl (by kernel_rfl) rfl OpV.extract rfl rfl ?_
    refine JM.mix 6 7 (by kernel_rfl) rfl rfl rfl rfl rfl rfl rfl (JS.val OpV.extract rfl ?_) (JR.store (JO.nil ⟨rfl, ?_⟩))
    · refine JM.last 7 (by kernel_rfl) rfl rfl rfl (JR.store (JO.nil ⟨rfl, ?_⟩))
      refine JM.nil (by kernel_rfl) ?_
      repeat (first | refine CT.next ?_ | refine JC.seq ?_ | refine JC.region ?_ | refine JO.nil ?_ | refine JO.go rfl ?_ | refine JR.val (by first | exact OpV.move | exact OpV.assign | exact OpV.load | exact OpV.fieldAddr | exact OpV.indexEl | exact OpV.len | exact OpV.lss | exact OpV.not | exact OpV.pick_true | exact OpV.pick_false | exact OpV.inc (by omega) | exact OpV.eql | exact OpV.neq | exact OpV.leq | exact OpV.gtr | exact OpV.geq | exact OpV.extract | exact OpV.makeFunc | exact OpV.addn (by omega) | exact OpV.add (by omega) | exact OpV.subn (by omega) | exact OpV.sub (by omega) | exact OpV.lens | exact OpV.eqlID | exact OpV.neqID | exact OpV.eqlEv | exact OpV.eqlOp | exact OpV.eqlStr | exact OpV.neqStr | exact OpV.eqlNil | exact OpV.eqlBool | exact OpV.neqBool) rfl ?_ | (refine JR.alloc rfl ?_; intro _) | (refine JR.box rfl ?_; intro _) | refine JR.store ?_ | refine JC.cond_true ?_ | refine JC.cond_false ?_ | refine JC.skip ?_ | refine JC.exit ?_ | refine JC.block ?_ | refine CT.past ?_ | refine CT.hit ?_ | refine CT.miss rfl ?_ | refine CT.blockEnd ?_ | refine JC.ret ?_ | refine CT.ret ?_ | refine CT.blockRet ?_ | refine JO.omit rfl rfl ?_ | (refine JR.lit rfl ⟨rfl, by decide, by decide, by decide⟩ ?_; intro _))
      refine JR.sliceFrom (L := pl) (k := 64) rfl rfl (by omega) ?_
      intro p2 q2
      repeat (first | refine CT.next ?_ | refine JC.seq ?_ | refine JC.region ?_ | refine JO.nil ?_ | refine JO.go rfl ?_ | refine JR.val (by first | exact OpV.move | exact OpV.assign | exact OpV.load | exact OpV.fieldAddr | exact OpV.indexEl | exact OpV.len | exact OpV.lss | exact OpV.not | exact OpV.pick_true | exact OpV.pick_false | exact OpV.inc (by omega) | exact OpV.eql | exact OpV.neq | exact OpV.leq | exact OpV.gtr | exact OpV.geq | exact OpV.extract | exact OpV.makeFunc | exact OpV.addn (by omega) | exact OpV.add (by omega) | exact OpV.subn (by omega) | exact OpV.sub (by omega) | exact OpV.lens | exact OpV.eqlID | exact OpV.neqID | exact OpV.eqlEv | exact OpV.eqlOp | exact OpV.eqlStr | exact OpV.neqStr | exact OpV.eqlNil | exact OpV.eqlBool | exact OpV.neqBool) rfl ?_ | (refine JR.alloc rfl ?_; intro _) | (refine JR.box rfl ?_; intro _) | refine JR.store ?_ | refine JC.cond_true ?_ | refine JC.cond_false ?_ | refine JC.skip ?_ | refine JC.exit ?_ | refine JC.block ?_ | refine CT.past ?_ | refine CT.hit ?_ | refine CT.miss rfl ?_ | refine CT.blockEnd ?_ | refine JC.ret ?_ | refine CT.ret ?_ | refine CT.blockRet ?_ | refine JO.omit rfl rfl ?_ | (refine JR.lit rfl ⟨rfl, by decide, by decide, by decide⟩ ?_; intro _))
      have hd : pl.drop 64 = (padL L).drop (64 * (k + 1)) := by rw [hpl2, List.drop_drop]; congr 1
      have hn : (padL L).length / 64 - k = ((padL L).length / 64 - (k + 1)) + 1 := by omega
      refine ⟨k + 1, blockL H (pl.take 64), p2, q2, ⟨by omega, ?_⟩, by omega, by rw [← hd]; infer_instance⟩
      rw [← hd, ← hinv, hn]
      rfl
    · refine JM.one 6 (by kernel_rfl) rfl rfl rfl rfl (JS.val OpV.extract rfl ?_)
      refine JM.nil (by kernel_rfl) ?_
      repeat (first | refine CT.next ?_ | refine JC.seq ?_ | refine JC.region ?_ | refine JO.nil ?_ | refine JO.go rfl ?_ | refine JR.val (by first | exact OpV.move | exact OpV.assign | exact OpV.load | exact OpV.fieldAddr | exact OpV.indexEl | exact OpV.len | exact OpV.lss | exact OpV.not | exact OpV.pick_true | exact OpV.pick_false | exact OpV.inc (by omega) | exact OpV.eql | exact OpV.neq | exact OpV.leq | exact OpV.gtr | exact OpV.geq | exact OpV.extract | exact OpV.makeFunc | exact OpV.addn (by omega) | exact OpV.add (by omega) | exact OpV.subn (by omega) | exact OpV.sub (by omega) | exact OpV.lens | exact OpV.eqlID | exact OpV.neqID | exact OpV.eqlEv | exact OpV.eqlOp | exact OpV.eqlStr | exact OpV.neqStr | exact OpV.eqlNil | exact OpV.eqlBool | exact OpV.neqBool) rfl ?_ | (refine JR.alloc rfl ?_; intro _) | (refine JR.box rfl ?_; intro _) | refine JR.store ?_ | refine JC.cond_true ?_ | refine JC.cond_false ?_ | refine JC.skip ?_ | refine JC.exit ?_ | refine JC.block ?_ | refine CT.past ?_ | refine CT.hit ?_ | refine CT.miss rfl ?_ | refine CT.blockEnd ?_ | refine JC.ret ?_ | refine CT.ret ?_ | refine CT.blockRet ?_ | refine JO.omit rfl rfl ?_ | (refine JR.lit rfl ⟨rfl, by decide, by decide, by decide⟩ ?_; intro _))
      refine JR.sliceFrom (L := pl) (k := 64) rfl rfl (by omega) ?_
      intro p2 q2
      repeat (first | refine CT.next ?_ | refine JC.seq ?_ | refine JC.region ?_ | refine JO.nil ?_ | refine JO.go rfl ?_ | refine JR.val (by first | exact OpV.move | exact OpV.assign | exact OpV.load | exact OpV.fieldAddr | exact OpV.indexEl | exact OpV.len | exact OpV.lss | exact OpV.not | exact OpV.pick_true | exact OpV.pick_false | exact OpV.inc (by omega) | exact OpV.eql | exact OpV.neq | exact OpV.leq | exact OpV.gtr | exact OpV.geq | exact OpV.extract | exact OpV.makeFunc | exact OpV.addn (by omega) | exact OpV.add (by omega) | exact OpV.subn (by omega) | exact OpV.sub (by omega) | exact OpV.lens | exact OpV.eqlID | exact OpV.neqID | exact OpV.eqlEv | exact OpV.eqlOp | exact OpV.eqlStr | exact OpV.neqStr | exact OpV.eqlNil | exact OpV.eqlBool | exact OpV.neqBool) rfl ?_ | (refine JR.alloc rfl ?_; intro _) | (refine JR.box rfl ?_; intro _) | refine JR.store ?_ | refine JC.cond_true ?_ | refine JC.cond_false ?_ | refine JC.skip ?_ | refine JC.exit ?_ | refine JC.block ?_ | refine CT.past ?_ | refine CT.hit ?_ | refine CT.miss rfl ?_ | refine CT.blockEnd ?_ | refine JC.ret ?_ | refine CT.ret ?_ | refine CT.blockRet ?_ | refine JO.omit rfl rfl ?_ | (refine JR.lit rfl ⟨rfl, by decide, by decide, by decide⟩ ?_; intro _))
      have hd : pl.drop 64 = (padL L).drop (64 * (k + 1)) := by rw [hpl2, List.drop_drop]; congr 1
      have hn : (padL L).length / 64 - k = ((padL L).length / 64 - (k + 1)) + 1 := by omega
      refine ⟨k + 1, blockL H (pl.take 64), p2, q2, ⟨by omega, ?_⟩, by omega, by rw [← hd]; infer_instance⟩
      rw [← hd, ← hinv, hn]
      rfl
  · have hk2 : 64 * k = (padL L).length := by rw [List.length_drop] at h1; omega
    have hk3 : (padL L).length / 64 - k = 0 := by omega
    rw [hk3] at hinv
    have hinv : H = sumV L := hinv
    subst hinv
    repeat (first | refine CT.next ?_ | refine JC.seq ?_ | refine JC.region ?_ | refine JO.nil ?_ | refine JO.go rfl ?_ | refine JR.val (by first | exact OpV.move | exact OpV.assign | exact OpV.load | exact OpV.fieldAddr | exact OpV.indexEl | exact OpV.len | exact OpV.lss | exact OpV.not | exact OpV.pick_true | exact OpV.pick_false | exact OpV.inc (by omega) | exact OpV.eql | exact OpV.neq | exact OpV.leq | exact OpV.gtr | exact OpV.geq | exact OpV.extract | exact OpV.makeFunc | exact OpV.addn (by omega) | exact OpV.add (by omega) | exact OpV.subn (by omega) | exact OpV.sub (by omega) | exact OpV.lens | exact OpV.eqlID | exact OpV.neqID | exact OpV.eqlEv | exact OpV.eqlOp | exact OpV.eqlStr | exact OpV.neqStr | exact OpV.eqlNil | exact OpV.eqlBool | exact OpV.neqBool) rfl ?_ | (refine JR.alloc rfl ?_; intro _) | (refine JR.box rfl ?_; intro _) | refine JR.store ?_ | refine JC.cond_true ?_ | refine JC.cond_false ?_ | refine JC.skip ?_ | refine JC.exit ?_ | refine JC.block ?_ | refine CT.past ?_ | refine CT.hit ?_ | refine CT.miss rfl ?_ | refine CT.blockEnd ?_ | refine JC.ret ?_ | refine CT.ret ?_ | refine CT.blockRet ?_ | refine JO.omit rfl rfl ?_ | (refine JR.lit rfl ⟨rfl, by decide, by decide, by decide⟩ ?_; intro _))
    obtain ⟨S, hS⟩ : ∃ S, S = sumV L := ⟨_, rfl⟩
    have hsum : sumI L = idOfS S := by subst hS; rfl
    rw [← hS, hsum]
    clear hS hinv hsum
    refine JC.loop1 (fun k : Nat => [(2, .pointer (some ⟨bi, 0, none⟩)), (23, .agg ⟨S.1.map w32⟩), (24, .int .i64 (k : Int))]) (fun k => [.own bi 44 ((outK S.1 k).map byteV)])
      (fun k => k ≤ 8) (fun k => 8 - k) 0 (Nat.zero_le _) (by rw [outK_zero]; infer_instance) ?_
    intro k hk
    repeat (first | refine CT.next ?_ | refine JC.seq ?_ | refine JC.region ?_ | refine JO.nil ?_ | refine JO.go rfl ?_ | refine JR.val (by first | exact OpV.move | exact OpV.assign | exact OpV.load | exact OpV.fieldAddr | exact OpV.indexEl | exact OpV.len | exact OpV.lss | exact OpV.not | exact OpV.pick_true | exact OpV.pick_false | exact OpV.inc (by omega) | exact OpV.eql | exact OpV.neq | exact OpV.leq | exact OpV.gtr | exact OpV.geq | exact OpV.extract | exact OpV.makeFunc | exact OpV.addn (by omega) | exact OpV.add (by omega) | exact OpV.subn (by omega) | exact OpV.sub (by omega) | exact OpV.lens | exact OpV.eqlID | exact OpV.neqID | exact OpV.eqlEv | exact OpV.eqlOp | exact OpV.eqlStr | exact OpV.neqStr | exact OpV.eqlNil | exact OpV.eqlBool | exact OpV.neqBool) rfl ?_ | (refine JR.alloc rfl ?_; intro _) | (refine JR.box rfl ?_; intro _) | refine JR.store ?_ | refine JC.cond_true ?_ | refine JC.cond_false ?_ | refine JC.skip ?_ | refine JC.exit ?_ | refine JC.block ?_ | refine CT.past ?_ | refine CT.hit ?_ | refine CT.miss rfl ?_ | refine CT.blockEnd ?_ | refine JC.ret ?_ | refine CT.ret ?_ | refine CT.blockRet ?_ | refine JO.omit rfl rfl ?_ | (refine JR.lit rfl ⟨rfl, by decide, by decide, by decide⟩ ?_; intro _))
    refine JC.test (fun hlt => ?_) (fun hge => ?_)
    · have hlt' : k < 8 := by omega
      have hkS : k < S.1.length := by rw [S.2]; exact hlt'
      repeat (first | refine CT.next ?_ | refine JC.seq ?_ | refine JC.region ?_ | refine JO.nil ?_ | refine JO.go rfl ?_ | refine JR.val (by first | exact OpV.move | exact OpV.assign | exact OpV.load | exact OpV.fieldAddr | exact OpV.indexEl | exact OpV.len | exact OpV.lss | exact OpV.not | exact OpV.pick_true | exact OpV.pick_false | exact OpV.inc (by omega) | exact OpV.eql | exact OpV.neq | exact OpV.leq | exact OpV.gtr | exact OpV.geq | exact OpV.extract | exact OpV.makeFunc | exact OpV.addn (by omega) | exact OpV.add (by omega) | exact OpV.subn (by omega) | exact OpV.sub (by omega) | exact OpV.lens | exact OpV.eqlID | exact OpV.neqID | exact OpV.eqlEv | exact OpV.eqlOp | exact OpV.eqlStr | exact OpV.neqStr | exact OpV.eqlNil | exact OpV.eqlBool | exact OpV.neqBool) rfl ?_ | (refine JR.alloc rfl ?_; intro _) | (refine JR.box rfl ?_; intro _) | refine JR.store ?_ | refine JC.cond_true ?_ | refine JC.cond_false ?_ | refine JC.skip ?_ | refine JC.exit ?_ | refine JC.block ?_ | refine CT.past ?_ | refine CT.hit ?_ | refine CT.miss rfl ?_ | refine CT.blockEnd ?_ | refine JC.ret ?_ | refine CT.ret ?_ | refine CT.blockRet ?_ | refine JO.omit rfl rfl ?_ | (refine JR.lit rfl ⟨rfl, by decide, by decide, by decide⟩ ?_; intro _))
      refine JR.val (OpV.indexAgg (r := []) (v := w32 (S.1.getD k 0)) hlt' (fun w1 => part_word hkS w1)) rfl ?_
      repeat (first | refine CT.next ?_ | refine JC.seq ?_ | refine JC.region ?_ | refine JO.nil ?_ | refine JO.go rfl ?_ | refine JR.val (by first | exact OpV.move | exact OpV.assign | exact OpV.load | exact OpV.fieldAddr | exact OpV.indexEl | exact OpV.len | exact OpV.lss | exact OpV.not | exact OpV.pick_true | exact OpV.pick_false | exact OpV.inc (by omega) | exact OpV.eql | exact OpV.neq | exact OpV.leq | exact OpV.gtr | exact OpV.geq | exact OpV.extract | exact OpV.makeFunc | exact OpV.addn (by omega) | exact OpV.add (by omega) | exact OpV.subn (by omega) | exact OpV.sub (by omega) | exact OpV.lens | exact OpV.eqlID | exact OpV.neqID | exact OpV.eqlEv | exact OpV.eqlOp | exact OpV.eqlStr | exact OpV.neqStr | exact OpV.eqlNil | exact OpV.eqlBool | exact OpV.neqBool) rfl ?_ | (refine JR.alloc rfl ?_; intro _) | (refine JR.box rfl ?_; intro _) | refine JR.store ?_ | refine JC.cond_true ?_ | refine JC.cond_false ?_ | refine JC.skip ?_ | refine JC.exit ?_ | refine JC.block ?_ | refine CT.past ?_ | refine CT.hit ?_ | refine CT.miss rfl ?_ | refine CT.blockEnd ?_ | refine JC.ret ?_ | refine CT.ret ?_ | refine CT.blockRet ?_ | refine JO.omit rfl rfl ?_ | (refine JR.lit rfl ⟨rfl, by decide, by decide, by decide⟩ ?_; intro _))
      refine JR.callV rfl (fun w1 hw => four_rot w1 _ _) ?_
      repeat (first | refine CT.next ?_ | refine JC.seq ?_ | refine JC.region ?_ | refine JO.nil ?_ | refine JO.go rfl ?_ | refine JR.val (by first | exact OpV.move | exact OpV.assign | exact OpV.load | exact OpV.fieldAddr | exact OpV.indexEl | exact OpV.len | exact OpV.lss | exact OpV.not | exact OpV.pick_true | exact OpV.pick_false | exact OpV.inc (by omega) | exact OpV.eql | exact OpV.neq | exact OpV.leq | exact OpV.gtr | exact OpV.geq | exact OpV.extract | exact OpV.makeFunc | exact OpV.addn (by omega) | exact OpV.add (by omega) | exact OpV.subn (by omega) | exact OpV.sub (by omega) | exact OpV.lens | exact OpV.eqlID | exact OpV.neqID | exact OpV.eqlEv | exact OpV.eqlOp | exact OpV.eqlStr | exact OpV.neqStr | exact OpV.eqlNil | exact OpV.eqlBool | exact OpV.neqBool) rfl ?_ | (refine JR.alloc rfl ?_; intro _) | (refine JR.box rfl ?_; intro _) | refine JR.store ?_ | refine JC.cond_true ?_ | refine JC.cond_false ?_ | refine JC.skip ?_ | refine JC.exit ?_ | refine JC.block ?_ | refine CT.past ?_ | refine CT.hit ?_ | refine CT.miss rfl ?_ | refine CT.blockEnd ?_ | refine JC.ret ?_ | refine CT.ret ?_ | refine CT.blockRet ?_ | refine JO.omit rfl rfl ?_ | (refine JR.lit rfl ⟨rfl, by decide, by decide, by decide⟩ ?_; intro _))
      refine JC.draw 4 mixed ?_
      refine JM.take 0 rfl (by kernel_rfl) rfl OpV.move rfl rfl ?_
      refine JM.take 1 rfl (by kernel_rfl) rfl (OpV.shl (by decide)) rfl rfl ?_
      refine JM.reslot 31 (.int .i64 ((4 * k : Nat) : Int)) (congrArg (Value.int .i64) (by show IntKind.i64.wrap ((k : Int) * 2 ^ 2) = _; rw [IntKind.wrap_i64]; omega)) ?_
      refine JM.take 2 rfl (by kernel_rfl) rfl (OpV.sliceArrFrom (l := 4 * k) (by omega) rfl) rfl rfl ?_
      refine JM.take 3 rfl (by kernel_rfl) rfl (OpV.sliceArr (by decide)) rfl rfl ?_
      have hmin : Nat.min 4 (32 - 4 * k) = 4 := Nat.min_eq_left (by omega)
      have h4 : (fourL (S.1.getD k 0)).length = 4 := by simp [fourL]
      have hout : (outK S.1 k).length = 32 := outK_length S k (by omega)
      refine JM.last 4 (by kernel_rfl) rfl rfl rfl (JR.copyOwn (cs := (fourL (S.1.getD k 0)).map byteV) rfl (by rw [hmin]; exact List.take_of_length_le (by rw [show (0 : Nat) - 0 = 0 from rfl, List.drop_zero, List.length_map, h4]; exact Nat.le_refl _)) (Nat.le_refl _) (by rw [hmin, List.length_map, h4]) (by simp only [List.length_map, h4, hout]; omega) inferInstance ?_)
      refine JO.reown bi ((outK S.1 (k + 1)).map byteV) (by rw [← outK_next S k hlt']; simp only [List.length_map, h4, List.map_append, List.map_take, List.map_drop, Nat.zero_add]) (JO.nil ⟨rfl, ?_⟩)
      refine JM.nil (by kernel_rfl) ?_
      repeat (first | refine CT.next ?_ | refine JC.seq ?_ | refine JC.region ?_ | refine JO.nil ?_ | refine JO.go rfl ?_ | refine JR.val (by first | exact OpV.move | exact OpV.assign | exact OpV.load | exact OpV.fieldAddr | exact OpV.indexEl | exact OpV.len | exact OpV.lss | exact OpV.not | exact OpV.pick_true | exact OpV.pick_false | exact OpV.inc (by omega) | exact OpV.eql | exact OpV.neq | exact OpV.leq | exact OpV.gtr | exact OpV.geq | exact OpV.extract | exact OpV.makeFunc | exact OpV.addn (by omega) | exact OpV.add (by omega) | exact OpV.subn (by omega) | exact OpV.sub (by omega) | exact OpV.lens | exact OpV.eqlID | exact OpV.neqID | exact OpV.eqlEv | exact OpV.eqlOp | exact OpV.eqlStr | exact OpV.neqStr | exact OpV.eqlNil | exact OpV.eqlBool | exact OpV.neqBool) rfl ?_ | (refine JR.alloc rfl ?_; intro _) | (refine JR.box rfl ?_; intro _) | refine JR.store ?_ | refine JC.cond_true ?_ | refine JC.cond_false ?_ | refine JC.skip ?_ | refine JC.exit ?_ | refine JC.block ?_ | refine CT.past ?_ | refine CT.hit ?_ | refine CT.miss rfl ?_ | refine CT.blockEnd ?_ | refine JC.ret ?_ | refine CT.ret ?_ | refine CT.blockRet ?_ | refine JO.omit rfl rfl ?_ | (refine JR.lit rfl ⟨rfl, by decide, by decide, by decide⟩ ?_; intro _))
      exact ⟨k + 1, by omega, by omega, inferInstance⟩
    · obtain rfl : k = 8 := by omega
      have h8 : outK S.1 8 = S.1.flatMap fourL := by
        rw [outK, List.take_of_length_le (by rw [S.2]; exact Nat.le_refl _)]
        simp
      repeat (first | refine CT.next ?_ | refine CT.past ?_ | refine CT.hit ?_ | refine CT.miss rfl ?_ | refine CT.blockEnd ?_ | refine JC.exit ?_)
      refine JC.reown bi (idc (idOfS S)) (by rw [h8]; rfl) ?_
      repeat (first | refine CT.next ?_ | refine JC.seq ?_ | refine JC.region ?_ | refine JO.nil ?_ | refine JO.go rfl ?_ | refine JR.val (by first | exact OpV.move | exact OpV.assign | exact OpV.load | exact OpV.fieldAddr | exact OpV.indexEl | exact OpV.len | exact OpV.lss | exact OpV.not | exact OpV.pick_true | exact OpV.pick_false | exact OpV.inc (by omega) | exact OpV.eql | exact OpV.neq | exact OpV.leq | exact OpV.gtr | exact OpV.geq | exact OpV.extract | exact OpV.makeFunc | exact OpV.addn (by omega) | exact OpV.add (by omega) | exact OpV.subn (by omega) | exact OpV.sub (by omega) | exact OpV.lens | exact OpV.eqlID | exact OpV.neqID | exact OpV.eqlEv | exact OpV.eqlOp | exact OpV.eqlStr | exact OpV.neqStr | exact OpV.eqlNil | exact OpV.eqlBool | exact OpV.neqBool) rfl ?_ | (refine JR.alloc rfl ?_; intro _) | (refine JR.box rfl ?_; intro _) | refine JR.store ?_ | refine JC.cond_true ?_ | refine JC.cond_false ?_ | refine JC.skip ?_ | refine JC.exit ?_ | refine JC.block ?_ | refine CT.past ?_ | refine CT.hit ?_ | refine CT.miss rfl ?_ | refine CT.blockEnd ?_ | refine JC.ret ?_ | refine CT.ret ?_ | refine CT.blockRet ?_ | refine JO.omit rfl rfl ?_ | (refine JR.lit rfl ⟨rfl, by decide, by decide, by decide⟩ ?_; intro _))
      exact CT.done () rfl (fun w ho => ho.ent)
end Ab
end Go.Proofs.Ytcmfemfndadfmaa

/- Contracts: enc.Num, enc.Text as the layer tells them. -/
namespace Go.Proofs.Ytcmfemfndadfmaa
namespace Ab
open Go Go.RowKit
set_option linter.unusedVariables false
set_option linter.unusedSimpArgs false
set_option synthInstance.maxSize 4000
set_option synthInstance.maxHeartbeats 400000
attribute [local irreducible] JC JO JR JQ andThen inBlock OpV Gives retTo JM JS

theorem num_enc (n : Nat) (hn : n < 18446744073709551616) (w : World) (F : Nat → Prop) : GivesBuf Try.prog 46 [.int .u64 (n : Int)] w F 5 (numL n) := by
  unfold GivesBuf Gives
  refine Calls.mono (callsIn_wide.1 (num_in n hn w)) ?_
  rintro e w' ⟨v, rfl, hrow, hB⟩
  have hlen := numL_length n
  rcases hrow.2 with ⟨_, h0⟩ | ⟨g, cap, cur, rfl, hg, hgb, h1, h2, h3, h4⟩
  · exfalso
    have : numL n ≠ [] := by unfold numL; simp only [numF]; split <;> simp
    exact this (List.eq_nil_of_length_eq_zero h0)
  · refine ⟨(some ⟨g, 0, none⟩, cap), rfl, Bel.of hB, ⟨fun f hf => ?_, by simp, fun f hf k hk => ?_⟩⟩
    · simp only [List.mem_singleton] at hf; subst hf
      refine ⟨by simp only [lim]; omega, bytesIx (numL n), map_bytes _, ⟨by rw [flat_bytes]; simp [Cell.sz], .inr ⟨g, cap, cur, rfl, Nat.zero_le _, hgb, h1, h2, h3, ?_⟩⟩, fun p hp A hA => by simp [Cell.facts] at hA⟩
      rw [flat_bytes]; exact h4
    · simp only [List.mem_singleton] at hf; subst hf
      obtain ⟨a', ha', rfl⟩ := hk
      injection ha' with ha'
      subst ha'
      exact hg

/-- A text with its length ahead. -/
def textL (s : ByteArray) : List UInt8 := numL s.size ++ bytesOf s
theorem text_enc (s : ByteArray) (hs : s.size ≤ 1048576) (w : World) (F : Nat → Prop) : GivesBuf Try.prog 62 [.string s] w F 5 (textL s) := by
  have hnl := numL_length s.size
  refine gives_of Try.func62 rfl Try.ntmps62 rfl rfl [] (.start w F) ?_
  repeat (first | refine CT.next ?_ | refine JC.seq ?_ | refine JC.region ?_ | refine JO.nil ?_ | refine JO.go rfl ?_ | refine JR.val (by first | exact OpV.move | exact OpV.assign | exact OpV.load | exact OpV.fieldAddr | exact OpV.indexEl | exact OpV.len | exact OpV.lss | exact OpV.not | exact OpV.pick_true | exact OpV.pick_false | exact OpV.inc (by omega) | exact OpV.eql | exact OpV.neq | exact OpV.leq | exact OpV.gtr | exact OpV.geq | exact OpV.extract | exact OpV.makeFunc | exact OpV.addn (by omega) | exact OpV.add (by omega) | exact OpV.subn (by omega) | exact OpV.sub (by omega) | exact OpV.lens | exact OpV.eqlID | exact OpV.neqID | exact OpV.eqlEv | exact OpV.eqlOp | exact OpV.eqlStr | exact OpV.neqStr | exact OpV.eqlNil | exact OpV.eqlBool | exact OpV.neqBool) rfl ?_ | (refine JR.alloc rfl ?_; intro _) | (refine JR.box rfl ?_; intro _) | refine JR.store ?_ | refine JC.cond_true ?_ | refine JC.cond_false ?_ | refine JC.skip ?_ | refine JC.exit ?_ | refine JC.block ?_ | refine CT.past ?_ | refine CT.hit ?_ | refine CT.miss rfl ?_ | refine CT.blockEnd ?_ | refine JC.ret ?_ | refine CT.ret ?_ | refine CT.blockRet ?_ | refine JO.omit rfl rfl ?_ | (refine JR.lit rfl ⟨rfl, by decide, by decide, by decide⟩ ?_; intro _))
  refine JR.val (OpV.convIn (by rw [wrap64]; omega)) rfl ?_
  repeat (first | refine CT.next ?_ | refine JC.seq ?_ | refine JC.region ?_ | refine JO.nil ?_ | refine JO.go rfl ?_ | refine JR.val (by first | exact OpV.move | exact OpV.assign | exact OpV.load | exact OpV.fieldAddr | exact OpV.indexEl | exact OpV.len | exact OpV.lss | exact OpV.not | exact OpV.pick_true | exact OpV.pick_false | exact OpV.inc (by omega) | exact OpV.eql | exact OpV.neq | exact OpV.leq | exact OpV.gtr | exact OpV.geq | exact OpV.extract | exact OpV.makeFunc | exact OpV.addn (by omega) | exact OpV.add (by omega) | exact OpV.subn (by omega) | exact OpV.sub (by omega) | exact OpV.lens | exact OpV.eqlID | exact OpV.neqID | exact OpV.eqlEv | exact OpV.eqlOp | exact OpV.eqlStr | exact OpV.neqStr | exact OpV.eqlNil | exact OpV.eqlBool | exact OpV.neqBool) rfl ?_ | (refine JR.alloc rfl ?_; intro _) | (refine JR.box rfl ?_; intro _) | refine JR.store ?_ | refine JC.cond_true ?_ | refine JC.cond_false ?_ | refine JC.skip ?_ | refine JC.exit ?_ | refine JC.block ?_ | refine CT.past ?_ | refine CT.hit ?_ | refine CT.miss rfl ?_ | refine CT.blockEnd ?_ | refine JC.ret ?_ | refine CT.ret ?_ | refine CT.blockRet ?_ | refine JO.omit rfl rfl ?_ | (refine JR.lit rfl ⟨rfl, by decide, by decide, by decide⟩ ?_; intro _))
  refine JR.callBuf rfl (fun w1 hw => num_enc s.size (by omega) w1 _) ?_
  intro a1 c1
  repeat (first | refine CT.next ?_ | refine JC.seq ?_ | refine JC.region ?_ | refine JO.nil ?_ | refine JO.go rfl ?_ | refine JR.val (by first | exact OpV.move | exact OpV.assign | exact OpV.load | exact OpV.fieldAddr | exact OpV.indexEl | exact OpV.len | exact OpV.lss | exact OpV.not | exact OpV.pick_true | exact OpV.pick_false | exact OpV.inc (by omega) | exact OpV.eql | exact OpV.neq | exact OpV.leq | exact OpV.gtr | exact OpV.geq | exact OpV.extract | exact OpV.makeFunc | exact OpV.addn (by omega) | exact OpV.add (by omega) | exact OpV.subn (by omega) | exact OpV.sub (by omega) | exact OpV.lens | exact OpV.eqlID | exact OpV.neqID | exact OpV.eqlEv | exact OpV.eqlOp | exact OpV.eqlStr | exact OpV.neqStr | exact OpV.eqlNil | exact OpV.eqlBool | exact OpV.neqBool) rfl ?_ | (refine JR.alloc rfl ?_; intro _) | (refine JR.box rfl ?_; intro _) | refine JR.store ?_ | refine JC.cond_true ?_ | refine JC.cond_false ?_ | refine JC.skip ?_ | refine JC.exit ?_ | refine JC.block ?_ | refine CT.past ?_ | refine CT.hit ?_ | refine CT.miss rfl ?_ | refine CT.blockEnd ?_ | refine JC.ret ?_ | refine CT.ret ?_ | refine CT.blockRet ?_ | refine JO.omit rfl rfl ?_ | (refine JR.lit rfl ⟨rfl, by decide, by decide, by decide⟩ ?_; intro _))
  refine JR.appendStr rfl (by exact ⟨rfl, rfl, by decide⟩) (by omega) ?_
  intro a2 c2
  repeat (first | refine CT.next ?_ | refine JC.seq ?_ | refine JC.region ?_ | refine JO.nil ?_ | refine JO.go rfl ?_ | refine JR.val (by first | exact OpV.move | exact OpV.assign | exact OpV.load | exact OpV.fieldAddr | exact OpV.indexEl | exact OpV.len | exact OpV.lss | exact OpV.not | exact OpV.pick_true | exact OpV.pick_false | exact OpV.inc (by omega) | exact OpV.eql | exact OpV.neq | exact OpV.leq | exact OpV.gtr | exact OpV.geq | exact OpV.extract | exact OpV.makeFunc | exact OpV.addn (by omega) | exact OpV.add (by omega) | exact OpV.subn (by omega) | exact OpV.sub (by omega) | exact OpV.lens | exact OpV.eqlID | exact OpV.neqID | exact OpV.eqlEv | exact OpV.eqlOp | exact OpV.eqlStr | exact OpV.neqStr | exact OpV.eqlNil | exact OpV.eqlBool | exact OpV.neqBool) rfl ?_ | (refine JR.alloc rfl ?_; intro _) | (refine JR.box rfl ?_; intro _) | refine JR.store ?_ | refine JC.cond_true ?_ | refine JC.cond_false ?_ | refine JC.skip ?_ | refine JC.exit ?_ | refine JC.block ?_ | refine CT.past ?_ | refine CT.hit ?_ | refine CT.miss rfl ?_ | refine CT.blockEnd ?_ | refine JC.ret ?_ | refine CT.ret ?_ | refine CT.blockRet ?_ | refine JO.omit rfl rfl ?_ | (refine JR.lit rfl ⟨rfl, by decide, by decide, by decide⟩ ?_; intro _))
  exact CT.done (a2, c2) rfl (fun w ho => (ho.ent : Hold _ _ [.res (buf a2 c2 5 (numL s.size ++ bytesOf s))] w))

theorem foldN_lt {n : Int} (h : -1099511627776 ≤ n ∧ n ≤ 1099511627776) : foldN n < 18446744073709551616 := by
  unfold foldN; split <;> omega
theorem kinds2 (w : World) (F : Nat → Prop) (o : Op_) (h : -1099511627776 ≤ o.n ∧ o.n ≤ 1099511627776) : GivesBuf Try.prog 56 [opV o] w F 5 (numL (foldN o.n)) := by
  refine gives_of Try.func56 rfl Try.ntmps56 rfl rfl [] (.start w F) ?_
  repeat (first | refine CT.next ?_ | refine JC.seq ?_ | refine JC.region ?_ | refine JO.nil ?_ | refine JO.go rfl ?_ | refine JR.val (by first | exact OpV.move | exact OpV.assign | exact OpV.load | exact OpV.fieldAddr | exact OpV.indexEl | exact OpV.len | exact OpV.lss | exact OpV.not | exact OpV.pick_true | exact OpV.pick_false | exact OpV.inc (by omega) | exact OpV.eql | exact OpV.neq | exact OpV.leq | exact OpV.gtr | exact OpV.geq | exact OpV.extract | exact OpV.makeFunc | exact OpV.addn (by omega) | exact OpV.add (by omega) | exact OpV.subn (by omega) | exact OpV.sub (by omega) | exact OpV.lens | exact OpV.eqlID | exact OpV.neqID | exact OpV.eqlEv | exact OpV.eqlOp | exact OpV.eqlStr | exact OpV.neqStr | exact OpV.eqlNil | exact OpV.eqlBool | exact OpV.neqBool) rfl ?_ | (refine JR.alloc rfl ?_; intro _) | (refine JR.box rfl ?_; intro _) | refine JR.store ?_ | refine JC.cond_true ?_ | refine JC.cond_false ?_ | refine JC.skip ?_ | refine JC.exit ?_ | refine JC.block ?_ | refine CT.past ?_ | refine CT.hit ?_ | refine CT.miss rfl ?_ | refine CT.blockEnd ?_ | refine JC.ret ?_ | refine CT.ret ?_ | refine CT.blockRet ?_ | refine JO.omit rfl rfl ?_ | (refine JR.lit rfl ⟨rfl, by decide, by decide, by decide⟩ ?_; intro _))
  refine JR.callV rfl (fun w1 hw => fold_enc w1 _ o.n h) ?_
  repeat (first | refine CT.next ?_ | refine JC.seq ?_ | refine JC.region ?_ | refine JO.nil ?_ | refine JO.go rfl ?_ | refine JR.val (by first | exact OpV.move | exact OpV.assign | exact OpV.load | exact OpV.fieldAddr | exact OpV.indexEl | exact OpV.len | exact OpV.lss | exact OpV.not | exact OpV.pick_true | exact OpV.pick_false | exact OpV.inc (by omega) | exact OpV.eql | exact OpV.neq | exact OpV.leq | exact OpV.gtr | exact OpV.geq | exact OpV.extract | exact OpV.makeFunc | exact OpV.addn (by omega) | exact OpV.add (by omega) | exact OpV.subn (by omega) | exact OpV.sub (by omega) | exact OpV.lens | exact OpV.eqlID | exact OpV.neqID | exact OpV.eqlEv | exact OpV.eqlOp | exact OpV.eqlStr | exact OpV.neqStr | exact OpV.eqlNil | exact OpV.eqlBool | exact OpV.neqBool) rfl ?_ | (refine JR.alloc rfl ?_; intro _) | (refine JR.box rfl ?_; intro _) | refine JR.store ?_ | refine JC.cond_true ?_ | refine JC.cond_false ?_ | refine JC.skip ?_ | refine JC.exit ?_ | refine JC.block ?_ | refine CT.past ?_ | refine CT.hit ?_ | refine CT.miss rfl ?_ | refine CT.blockEnd ?_ | refine JC.ret ?_ | refine CT.ret ?_ | refine CT.blockRet ?_ | refine JO.omit rfl rfl ?_ | (refine JR.lit rfl ⟨rfl, by decide, by decide, by decide⟩ ?_; intro _))
  refine JR.callBuf rfl (fun w1 hw => num_enc _ (foldN_lt h) w1 _) ?_
  intro a1 c1
  repeat (first | refine CT.next ?_ | refine JC.seq ?_ | refine JC.region ?_ | refine JO.nil ?_ | refine JO.go rfl ?_ | refine JR.val (by first | exact OpV.move | exact OpV.assign | exact OpV.load | exact OpV.fieldAddr | exact OpV.indexEl | exact OpV.len | exact OpV.lss | exact OpV.not | exact OpV.pick_true | exact OpV.pick_false | exact OpV.inc (by omega) | exact OpV.eql | exact OpV.neq | exact OpV.leq | exact OpV.gtr | exact OpV.geq | exact OpV.extract | exact OpV.makeFunc | exact OpV.addn (by omega) | exact OpV.add (by omega) | exact OpV.subn (by omega) | exact OpV.sub (by omega) | exact OpV.lens | exact OpV.eqlID | exact OpV.neqID | exact OpV.eqlEv | exact OpV.eqlOp | exact OpV.eqlStr | exact OpV.neqStr | exact OpV.eqlNil | exact OpV.eqlBool | exact OpV.neqBool) rfl ?_ | (refine JR.alloc rfl ?_; intro _) | (refine JR.box rfl ?_; intro _) | refine JR.store ?_ | refine JC.cond_true ?_ | refine JC.cond_false ?_ | refine JC.skip ?_ | refine JC.exit ?_ | refine JC.block ?_ | refine CT.past ?_ | refine CT.hit ?_ | refine CT.miss rfl ?_ | refine CT.blockEnd ?_ | refine JC.ret ?_ | refine CT.ret ?_ | refine CT.blockRet ?_ | refine JO.omit rfl rfl ?_ | (refine JR.lit rfl ⟨rfl, by decide, by decide, by decide⟩ ?_; intro _))
  exact CT.done (a1, c1) rfl (fun w ho => ho.ent)
theorem kinds5 (w : World) (F : Nat → Prop) (o : Op_) (h : o.elem.size ≤ 1048576) : GivesBuf Try.prog 61 [opV o] w F 5 (textL o.elem) := by
  refine gives_of Try.func61 rfl Try.ntmps61 rfl rfl [] (.start w F) ?_
  repeat (first | refine CT.next ?_ | refine JC.seq ?_ | refine JC.region ?_ | refine JO.nil ?_ | refine JO.go rfl ?_ | refine JR.val (by first | exact OpV.move | exact OpV.assign | exact OpV.load | exact OpV.fieldAddr | exact OpV.indexEl | exact OpV.len | exact OpV.lss | exact OpV.not | exact OpV.pick_true | exact OpV.pick_false | exact OpV.inc (by omega) | exact OpV.eql | exact OpV.neq | exact OpV.leq | exact OpV.gtr | exact OpV.geq | exact OpV.extract | exact OpV.makeFunc | exact OpV.addn (by omega) | exact OpV.add (by omega) | exact OpV.subn (by omega) | exact OpV.sub (by omega) | exact OpV.lens | exact OpV.eqlID | exact OpV.neqID | exact OpV.eqlEv | exact OpV.eqlOp | exact OpV.eqlStr | exact OpV.neqStr | exact OpV.eqlNil | exact OpV.eqlBool | exact OpV.neqBool) rfl ?_ | (refine JR.alloc rfl ?_; intro _) | (refine JR.box rfl ?_; intro _) | refine JR.store ?_ | refine JC.cond_true ?_ | refine JC.cond_false ?_ | refine JC.skip ?_ | refine JC.exit ?_ | refine JC.block ?_ | refine CT.past ?_ | refine CT.hit ?_ | refine CT.miss rfl ?_ | refine CT.blockEnd ?_ | refine JC.ret ?_ | refine CT.ret ?_ | refine CT.blockRet ?_ | refine JO.omit rfl rfl ?_ | (refine JR.lit rfl ⟨rfl, by decide, by decide, by decide⟩ ?_; intro _))
  refine JR.callBuf rfl (fun w1 hw => text_enc _ h w1 _) ?_
  intro a1 c1
  repeat (first | refine CT.next ?_ | refine JC.seq ?_ | refine JC.region ?_ | refine JO.nil ?_ | refine JO.go rfl ?_ | refine JR.val (by first | exact OpV.move | exact OpV.assign | exact OpV.load | exact OpV.fieldAddr | exact OpV.indexEl | exact OpV.len | exact OpV.lss | exact OpV.not | exact OpV.pick_true | exact OpV.pick_false | exact OpV.inc (by omega) | exact OpV.eql | exact OpV.neq | exact OpV.leq | exact OpV.gtr | exact OpV.geq | exact OpV.extract | exact OpV.makeFunc | exact OpV.addn (by omega) | exact OpV.add (by omega) | exact OpV.subn (by omega) | exact OpV.sub (by omega) | exact OpV.lens | exact OpV.eqlID | exact OpV.neqID | exact OpV.eqlEv | exact OpV.eqlOp | exact OpV.eqlStr | exact OpV.neqStr | exact OpV.eqlNil | exact OpV.eqlBool | exact OpV.neqBool) rfl ?_ | (refine JR.alloc rfl ?_; intro _) | (refine JR.box rfl ?_; intro _) | refine JR.store ?_ | refine JC.cond_true ?_ | refine JC.cond_false ?_ | refine JC.skip ?_ | refine JC.exit ?_ | refine JC.block ?_ | refine CT.past ?_ | refine CT.hit ?_ | refine CT.miss rfl ?_ | refine CT.blockEnd ?_ | refine JC.ret ?_ | refine CT.ret ?_ | refine CT.blockRet ?_ | refine JO.omit rfl rfl ?_ | (refine JR.lit rfl ⟨rfl, by decide, by decide, by decide⟩ ?_; intro _))
  exact CT.done (a1, c1) rfl (fun w ho => ho.ent)
end Ab
end Go.Proofs.Ytcmfemfndadfmaa

/- The library's contract of bytes.Join laid at this seat's function: written by genlay.py. -/
namespace Go.Proofs.Ytcmfemfndadfmaa
namespace Ab
open Go
def joinB_ren : Go.Shelf.Ren := ⟨fun | 14 => 69 | 15 => 82 | n => n, fun | 22 => 61 | 26 => 104 | n => n, fun | n => n⟩
open Go.Shelf Go.Proofs in
theorem joinB : SlLaysJ.n14 Try.prog joinB_ren where
  mixed := by kernel_rfl
  f14 := Try.func69.trans (congrArg some (by kernel_rfl))
  f15 := Try.func82.trans (congrArg some (by kernel_rfl))
  t0 := Try.underlying0
  a0 := Try.isAgg0
  z0 := Try.sizeOf0
  v0 := Try.zeroValue0
  t3 := Try.underlying3
  a3 := Try.isAgg3
  z3 := Try.sizeOf3
  v3 := Try.zeroValue3
  t4 := Try.underlying4
  a4 := Try.isAgg4
  z4 := Try.sizeOf4
  v4 := Try.zeroValue4
  t9 := Try.underlying9
  a9 := Try.isAgg9
  z9 := Try.sizeOf9
  v9 := Try.zeroValue9
  t20 := Try.underlying20
  a20 := Try.isAgg20
  z20 := Try.sizeOf20
  v20 := Try.zeroValue20
  t22 := Try.underlying61
  a22 := Try.isAgg61
  z22 := Try.sizeOf61
  v22 := Try.zeroValue61
  t26 := Try.underlying104
  a26 := Try.isAgg104
  z26 := Try.sizeOf104
  v26 := Try.zeroValue104
  t5 := Try.underlying5
  z5 := Try.sizeOf5
  i5 := by kernel_rfl
end Ab
end Go.Proofs.Ytcmfemfndadfmaa

/- Contracts: bytes.Join, slices.Grow from nothing, slices.Concat of byte slices. -/
namespace Go.Proofs.Ytcmfemfndadfmaa
namespace Ab
open Go Go.RowKit
set_option linter.unusedVariables false
set_option linter.unusedSimpArgs false
set_option synthInstance.maxSize 4000
set_option synthInstance.maxHeartbeats 400000
attribute [local irreducible] JC JO JR JQ andThen inBlock OpV Gives retTo JM JS

open Go.Proofs in
instance : Cell (List UInt8) where
  Ix := Option Addr × Nat
  sz := 1
  cells l y := [.slice y.1 l.length y.2]
  facts l y := [sl y.1 y.2 l]
  len _ _ := rfl
  one l y := by simp [Value.oneCell']
  pos := by decide
section
variable {P : Program} {n : Nat} {w0 : World} {F : Nat → Prop} {ops : Array Oper} {i d : Nat} {t : TypeId} {pos : String} {aft : Array Edge} {g : Option (Nat × Bool)} {os : List Oper} {Q : Cont} {e : E} {Γ : List Fact}
theorem JR.indexBytes {x ix : Operand} {v : Value} {L : List (List UInt8)} {kk : IntKind} {j : Int} {k : Nat} {ty el : TypeId} {sz by_ eb : Nat} {z ez : Value} {ed : TypeDesc}
    [hx : Ev e x v] [hL : HasSl Γ v (List UInt8) inferInstance L] [hi : Ev e ix (.int kk j)] [hk : NatI j k] [hT : Ty P ty (.slice el) sz by_ z] [hE : Ty P el ed 1 eb ez] (hd : Nat.blt d n = true) (h : k < L.length)
    (K : ∀ b o p q, JO P n w0 F ops (i + 1) os Q ((d, .pointer (some ⟨b, o, none⟩)) :: e) (.st (ro b o [.slice p (L[k]'h).length q]) :: .st (sl p q (L[k]'h)) :: Γ)) :
    JR P n w0 F ops i ⟨some d, .indexAddr ty x ix, t, pos, aft, g⟩ os Q e Γ := JR.index hd rfl h fun b o (y : Option Addr × Nat) => K b o y.1 y.2
end

theorem holdsBytes_of_sl {F : Nat → Prop} {w : World} {a : Option Addr} {c : Nat} {l : List UInt8} (h : (sl a c l).holds F w) : Lib.HoldsBytes w (.slice a l.length c) l := by
  refine ⟨a, c, rfl, fun h0 => ?_, fun ad hd i x hx => ?_⟩
  · rw [← Classical.not_not (a := l = [])]
    intro hne
    obtain ⟨b, off, h1, _⟩ := h.2.2.2 hne
    rw [h0] at h1; cases h1
  · obtain ⟨hi, hxi⟩ := List.getElem?_eq_some_iff.1 hx
    have hne : l ≠ [] := by intro h0; subst h0; simp at hi
    obtain ⟨b, off, h1, _⟩ := h.2.2.2 hne
    rw [hd] at h1
    injection h1 with h1
    subst h1 hd
    rw [Addr.add_mid]
    have := sl_byte h i hi
    rw [hxi] at this
    exact this

theorem fresh_sl {n : Nat} {F : Nat → Prop} {w : World} {v : Value} {l : List UInt8} (h : Lib.FreshBytes n w v l) (hl : l.length ≤ 1048576) : ∃ a c, v = .slice a l.length c ∧ Fresh n F [.st (sl a c l)] w := by
  obtain ⟨g, cap, zs, rfl, hB, h1, h2, hz, hb, hzs, hc, _⟩ := h
  refine ⟨some ⟨g, 0, none⟩, cap, rfl, ⟨fun f hf => ?_, by simp, fun f hf k hk => ?_⟩⟩
  · simp only [List.mem_singleton] at hf; subst hf
    refine ⟨h1, h2, by simp only [lim]; omega, fun hne => ⟨g, 0, rfl, ⟨.inr hB, ?_⟩, ?_, fun i hi => ⟨(), ?_, by simp [Cell.facts]⟩⟩⟩
    · intro f hf
      simp only [List.mem_singleton] at hf; subst hf
      exact fun h => h
    · have h0 := hc 0 (by have := List.length_pos_iff.2 hne; omega)
      rcases Nat.lt_or_ge g w.heap.size with h | h
      · exact h
      · unfold World.cell? at h0; simp [Array.getElem?_eq_none h] at h0
    · intro j v hj
      simp only [Cell.cells, List.getElem?_singleton] at hj
      split at hj
      · rename_i h0; subst h0
        injection hj with hj
        subst hj
        have h3 := hc i (by omega)
        simp only [Cell.sz, Nat.mul_one, Nat.zero_add, Nat.add_zero]
        rw [h3]
        have hi2 : i < zs.length := by omega
        have h4 : l[i] = UInt8.ofNat (zs[i]).toNat := by
          have : l[i]? = some (UInt8.ofNat (zs[i]).toNat) := by
            rw [← hzs, Lib.bytesOf, List.getElem?_map, List.getElem?_take, if_pos hi]
            simp [hi2]
          rw [List.getElem?_eq_getElem hi] at this
          injection this
        have h5 := hb zs[i] (List.getElem_mem hi2)
        rw [h4]
        simp only [byteV, List.getD_eq_getElem?_getD, List.getElem?_eq_getElem hi2, Option.getD_some]
        congr 2
        rw [UInt8.toNat_ofNat']
        omega
      · cases hj
  · simp only [List.mem_singleton] at hf; subst hf
    exact hk.elim

theorem join_bytes (w : World) (F : Nat → Prop) (a : Option Addr) (c : Nat) (ls : List (List UInt8)) (h2 : 2 ≤ ls.length) (h : (sl a c ls).holds F w) (hl : ls.flatten.length ≤ 1048576) (hl2 : ls.length ≤ 1048576) :
    GivesSl Try.prog 69 [.slice a ls.length c, .slice none 0 0] w F ls.flatten := by
  have hne : ls ≠ [] := by intro h0; subst h0; simp at h2
  obtain ⟨b, off, rfl, hF, hlt, hrow⟩ := h.2.2.2 hne
  obtain ⟨r, hr1, hr2, hr3⟩ := row_list ls off hrow
  have hflat : ∀ r : List (List UInt8 × Cell.Ix (List UInt8)), flat r = r.map (fun p => Value.slice (p.2 : Option Addr × Nat).1 p.1.length (p.2 : Option Addr × Nat).2) := by
    intro r
    induction r with
    | nil => rfl
    | cons p r ih => obtain ⟨x, y⟩ := p; simp only [flat, List.map_cons, ih]; rfl
  have hsum : Lib.lens ls = ls.flatten.length := by simp [Lib.lens, List.length_flatten]
  have hP : Lib.PartsAt w ⟨b, off, none⟩ (flat r) ls := by
    refine ⟨by rw [hflat, List.length_map, ← hr1, List.length_map], fun i v hv => by rw [Addr.add_mid]; exact hr2 i v hv, fun i v l hv hll => ?_⟩
    rw [hflat, List.getElem?_map] at hv
    rw [← hr1, List.getElem?_map] at hll
    cases hri : r[i]? with
    | none => rw [hri] at hv; cases hv
    | some p =>
      rw [hri] at hv hll
      injection hv with hv
      injection hll with hll
      subst hv hll
      exact holdsBytes_of_sl (hr3 p (List.mem_of_getElem? hri) _ (by simp [Cell.facts]))
  have hj := Go.Proofs.Any.bytes_Join_many joinB b off ls.length c (flat r) ls (.slice none 0 0) [] w rfl h2 hP h.1 ⟨none, 0, rfl, fun _ => rfl, nofun⟩ (by omega) (by rw [hsum, List.length_nil, Nat.zero_mul]; omega)
  unfold GivesSl Gives
  refine Calls.mono hj ?_
  rintro e w' ⟨v, rfl, hfr, hB⟩
  have hjoin : Lib.join ls [] = ls.flatten := by
    cases ls with
    | nil => rfl
    | cons x r => rw [Lib.join_cons]; simp [Lib.joinTail]
  rw [hjoin] at hfr
  obtain ⟨a', c', rfl, hf⟩ := fresh_sl (F := F) hfr hl
  exact ⟨(a', c'), rfl, Bel.of hB, hf⟩

theorem grow_bytes (w : World) (F : Nat → Prop) (k : Nat) (hk : k ≤ 1048576) : GivesBuf Try.prog 67 [.slice none 0 0, .int .i64 (k : Int)] w F 5 ([] : List UInt8) := by
  refine gives_of Try.func67 rfl Try.ntmps67 rfl rfl [] (.start w F) ?_
  repeat (first | refine CT.next ?_ | refine JC.seq ?_ | refine JC.region ?_ | refine JO.nil ?_ | refine JO.go rfl ?_ | refine JR.val (by first | exact OpV.move | exact OpV.assign | exact OpV.load | exact OpV.fieldAddr | exact OpV.indexEl | exact OpV.len | exact OpV.lss | exact OpV.not | exact OpV.pick_true | exact OpV.pick_false | exact OpV.inc (by omega) | exact OpV.eql | exact OpV.neq | exact OpV.leq | exact OpV.gtr | exact OpV.geq | exact OpV.extract | exact OpV.makeFunc | exact OpV.addn (by omega) | exact OpV.add (by omega) | exact OpV.subn (by omega) | exact OpV.sub (by omega) | exact OpV.lens | exact OpV.eqlID | exact OpV.neqID | exact OpV.eqlEv | exact OpV.eqlOp | exact OpV.eqlStr | exact OpV.neqStr | exact OpV.eqlNil | exact OpV.eqlBool | exact OpV.neqBool) rfl ?_ | (refine JR.alloc rfl ?_; intro _) | (refine JR.box rfl ?_; intro _) | refine JR.store ?_ | refine JC.cond_true ?_ | refine JC.cond_false ?_ | refine JC.skip ?_ | refine JC.exit ?_ | refine JC.block ?_ | refine CT.past ?_ | refine CT.hit ?_ | refine CT.miss rfl ?_ | refine CT.blockEnd ?_ | refine JC.ret ?_ | refine CT.ret ?_ | refine CT.blockRet ?_ | refine JO.omit rfl rfl ?_ | (refine JR.lit rfl ⟨rfl, by decide, by decide, by decide⟩ ?_; intro _))
  refine JR.val OpV.cap rfl ?_
  repeat (first | refine CT.next ?_ | refine JC.seq ?_ | refine JC.region ?_ | refine JO.nil ?_ | refine JO.go rfl ?_ | refine JR.val (by first | exact OpV.move | exact OpV.assign | exact OpV.load | exact OpV.fieldAddr | exact OpV.indexEl | exact OpV.len | exact OpV.lss | exact OpV.not | exact OpV.pick_true | exact OpV.pick_false | exact OpV.inc (by omega) | exact OpV.eql | exact OpV.neq | exact OpV.leq | exact OpV.gtr | exact OpV.geq | exact OpV.extract | exact OpV.makeFunc | exact OpV.addn (by omega) | exact OpV.add (by omega) | exact OpV.subn (by omega) | exact OpV.sub (by omega) | exact OpV.lens | exact OpV.eqlID | exact OpV.neqID | exact OpV.eqlEv | exact OpV.eqlOp | exact OpV.eqlStr | exact OpV.neqStr | exact OpV.eqlNil | exact OpV.eqlBool | exact OpV.neqBool) rfl ?_ | (refine JR.alloc rfl ?_; intro _) | (refine JR.box rfl ?_; intro _) | refine JR.store ?_ | refine JC.cond_true ?_ | refine JC.cond_false ?_ | refine JC.skip ?_ | refine JC.exit ?_ | refine JC.block ?_ | refine CT.past ?_ | refine CT.hit ?_ | refine CT.miss rfl ?_ | refine CT.blockEnd ?_ | refine JC.ret ?_ | refine CT.ret ?_ | refine CT.blockRet ?_ | refine JO.omit rfl rfl ?_ | (refine JR.lit rfl ⟨rfl, by decide, by decide, by decide⟩ ?_; intro _))
  refine JC.reslot 1 (.int .i64 (k : Int)) (by first | rfl | (congr 1 <;> omega)) ?_
  refine JC.test (fun hlt => ?_) (fun hge => ?_)
  · repeat (first | refine CT.next ?_ | refine JC.seq ?_ | refine JC.region ?_ | refine JO.nil ?_ | refine JO.go rfl ?_ | refine JR.val (by first | exact OpV.move | exact OpV.assign | exact OpV.load | exact OpV.fieldAddr | exact OpV.indexEl | exact OpV.len | exact OpV.lss | exact OpV.not | exact OpV.pick_true | exact OpV.pick_false | exact OpV.inc (by omega) | exact OpV.eql | exact OpV.neq | exact OpV.leq | exact OpV.gtr | exact OpV.geq | exact OpV.extract | exact OpV.makeFunc | exact OpV.addn (by omega) | exact OpV.add (by omega) | exact OpV.subn (by omega) | exact OpV.sub (by omega) | exact OpV.lens | exact OpV.eqlID | exact OpV.neqID | exact OpV.eqlEv | exact OpV.eqlOp | exact OpV.eqlStr | exact OpV.neqStr | exact OpV.eqlNil | exact OpV.eqlBool | exact OpV.neqBool) rfl ?_ | (refine JR.alloc rfl ?_; intro _) | (refine JR.box rfl ?_; intro _) | refine JR.store ?_ | refine JC.cond_true ?_ | refine JC.cond_false ?_ | refine JC.skip ?_ | refine JC.exit ?_ | refine JC.block ?_ | refine CT.past ?_ | refine CT.hit ?_ | refine CT.miss rfl ?_ | refine CT.blockEnd ?_ | refine JC.ret ?_ | refine CT.ret ?_ | refine CT.blockRet ?_ | refine JO.omit rfl rfl ?_ | (refine JR.lit rfl ⟨rfl, by decide, by decide, by decide⟩ ?_; intro _))
    refine JR.val OpV.cap rfl ?_
    refine JO.go rfl ?_
    refine JR.val (OpV.sliceToV (k := 0) (fun _ _ => Nat.zero_le _)) rfl ?_
    repeat (first | refine CT.next ?_ | refine JC.seq ?_ | refine JC.region ?_ | refine JO.nil ?_ | refine JO.go rfl ?_ | refine JR.val (by first | exact OpV.move | exact OpV.assign | exact OpV.load | exact OpV.fieldAddr | exact OpV.indexEl | exact OpV.len | exact OpV.lss | exact OpV.not | exact OpV.pick_true | exact OpV.pick_false | exact OpV.inc (by omega) | exact OpV.eql | exact OpV.neq | exact OpV.leq | exact OpV.gtr | exact OpV.geq | exact OpV.extract | exact OpV.makeFunc | exact OpV.addn (by omega) | exact OpV.add (by omega) | exact OpV.subn (by omega) | exact OpV.sub (by omega) | exact OpV.lens | exact OpV.eqlID | exact OpV.neqID | exact OpV.eqlEv | exact OpV.eqlOp | exact OpV.eqlStr | exact OpV.neqStr | exact OpV.eqlNil | exact OpV.eqlBool | exact OpV.neqBool) rfl ?_ | (refine JR.alloc rfl ?_; intro _) | (refine JR.box rfl ?_; intro _) | refine JR.store ?_ | refine JC.cond_true ?_ | refine JC.cond_false ?_ | refine JC.skip ?_ | refine JC.exit ?_ | refine JC.block ?_ | refine CT.past ?_ | refine CT.hit ?_ | refine CT.miss rfl ?_ | refine CT.blockEnd ?_ | refine JC.ret ?_ | refine CT.ret ?_ | refine CT.blockRet ?_ | refine JO.omit rfl rfl ?_ | (refine JR.lit rfl ⟨rfl, by decide, by decide, by decide⟩ ?_; intro _))
    refine JR.appendZeros (α := UInt8) (k := k) rfl (by exact ⟨rfl, rfl, by decide⟩) ⟨by omega, by omega⟩ ?_
    intro b c hc
    repeat (first | refine CT.next ?_ | refine JC.seq ?_ | refine JC.region ?_ | refine JO.nil ?_ | refine JO.go rfl ?_ | refine JR.val (by first | exact OpV.move | exact OpV.assign | exact OpV.load | exact OpV.fieldAddr | exact OpV.indexEl | exact OpV.len | exact OpV.lss | exact OpV.not | exact OpV.pick_true | exact OpV.pick_false | exact OpV.inc (by omega) | exact OpV.eql | exact OpV.neq | exact OpV.leq | exact OpV.gtr | exact OpV.geq | exact OpV.extract | exact OpV.makeFunc | exact OpV.addn (by omega) | exact OpV.add (by omega) | exact OpV.subn (by omega) | exact OpV.sub (by omega) | exact OpV.lens | exact OpV.eqlID | exact OpV.neqID | exact OpV.eqlEv | exact OpV.eqlOp | exact OpV.eqlStr | exact OpV.neqStr | exact OpV.eqlNil | exact OpV.eqlBool | exact OpV.neqBool) rfl ?_ | (refine JR.alloc rfl ?_; intro _) | (refine JR.box rfl ?_; intro _) | refine JR.store ?_ | refine JC.cond_true ?_ | refine JC.cond_false ?_ | refine JC.skip ?_ | refine JC.exit ?_ | refine JC.block ?_ | refine CT.past ?_ | refine CT.hit ?_ | refine CT.miss rfl ?_ | refine CT.blockEnd ?_ | refine JC.ret ?_ | refine CT.ret ?_ | refine CT.blockRet ?_ | refine JO.omit rfl rfl ?_ | (refine JR.lit rfl ⟨rfl, by decide, by decide, by decide⟩ ?_; intro _))
    refine JR.val (OpV.sliceToV (k := 0) (fun _ _ => Nat.zero_le _)) rfl ?_
    repeat (first | refine CT.next ?_ | refine JC.seq ?_ | refine JC.region ?_ | refine JO.nil ?_ | refine JO.go rfl ?_ | refine JR.val (by first | exact OpV.move | exact OpV.assign | exact OpV.load | exact OpV.fieldAddr | exact OpV.indexEl | exact OpV.len | exact OpV.lss | exact OpV.not | exact OpV.pick_true | exact OpV.pick_false | exact OpV.inc (by omega) | exact OpV.eql | exact OpV.neq | exact OpV.leq | exact OpV.gtr | exact OpV.geq | exact OpV.extract | exact OpV.makeFunc | exact OpV.addn (by omega) | exact OpV.add (by omega) | exact OpV.subn (by omega) | exact OpV.sub (by omega) | exact OpV.lens | exact OpV.eqlID | exact OpV.neqID | exact OpV.eqlEv | exact OpV.eqlOp | exact OpV.eqlStr | exact OpV.neqStr | exact OpV.eqlNil | exact OpV.eqlBool | exact OpV.neqBool) rfl ?_ | (refine JR.alloc rfl ?_; intro _) | (refine JR.box rfl ?_; intro _) | refine JR.store ?_ | refine JC.cond_true ?_ | refine JC.cond_false ?_ | refine JC.skip ?_ | refine JC.exit ?_ | refine JC.block ?_ | refine CT.past ?_ | refine CT.hit ?_ | refine CT.miss rfl ?_ | refine CT.blockEnd ?_ | refine JC.ret ?_ | refine CT.ret ?_ | refine CT.blockRet ?_ | refine JO.omit rfl rfl ?_ | (refine JR.lit rfl ⟨rfl, by decide, by decide, by decide⟩ ?_; intro _))
    exact CT.done (some ⟨b, 0, none⟩, c) rfl (fun w ho => ho.ent)
  · refine JC.buf_nil (α := UInt8) 5 ?_
    repeat (first | refine CT.next ?_ | refine JC.seq ?_ | refine JC.region ?_ | refine JO.nil ?_ | refine JO.go rfl ?_ | refine JR.val (by first | exact OpV.move | exact OpV.assign | exact OpV.load | exact OpV.fieldAddr | exact OpV.indexEl | exact OpV.len | exact OpV.lss | exact OpV.not | exact OpV.pick_true | exact OpV.pick_false | exact OpV.inc (by omega) | exact OpV.eql | exact OpV.neq | exact OpV.leq | exact OpV.gtr | exact OpV.geq | exact OpV.extract | exact OpV.makeFunc | exact OpV.addn (by omega) | exact OpV.add (by omega) | exact OpV.subn (by omega) | exact OpV.sub (by omega) | exact OpV.lens | exact OpV.eqlID | exact OpV.neqID | exact OpV.eqlEv | exact OpV.eqlOp | exact OpV.eqlStr | exact OpV.neqStr | exact OpV.eqlNil | exact OpV.eqlBool | exact OpV.neqBool) rfl ?_ | (refine JR.alloc rfl ?_; intro _) | (refine JR.box rfl ?_; intro _) | refine JR.store ?_ | refine JC.cond_true ?_ | refine JC.cond_false ?_ | refine JC.skip ?_ | refine JC.exit ?_ | refine JC.block ?_ | refine CT.past ?_ | refine CT.hit ?_ | refine CT.miss rfl ?_ | refine CT.blockEnd ?_ | refine JC.ret ?_ | refine CT.ret ?_ | refine CT.blockRet ?_ | refine JO.omit rfl rfl ?_ | (refine JR.lit rfl ⟨rfl, by decide, by decide, by decide⟩ ?_; intro _))
    exact CT.done (none, 0) rfl (fun w ho => ho.ent)

set_option maxHeartbeats 1000000 in
theorem concat_bytes (w : World) (F : Nat → Prop) (a : Option Addr) (c : Nat) (ls : List (List UInt8)) (h : (sl a c ls).holds F w) (hl : ls.flatten.length ≤ 1048576) (hl2 : ls.length ≤ 1048576) :
    GivesBuf Try.prog 45 [.slice a ls.length c] w F 5 ls.flatten := by
  have hle : ∀ k, (ls.take k).flatten.length ≤ 1048576 := fun k => by
    have h1 := congrArg (fun l => l.flatten.length) (List.take_append_drop k ls)
    simp only [List.flatten_append, List.length_append] at h1
    omega
  have hnext : ∀ k (hk : k < ls.length), (ls.take (k + 1)).flatten = (ls.take k).flatten ++ ls[k] := fun k hk => by
    rw [List.take_succ_eq_append_getElem hk, List.flatten_append]; simp
  refine gives_of Try.func45 rfl Try.ntmps45 rfl rfl [.st (sl a c ls)] (.start1 h) ?_
  repeat (first | refine CT.next ?_ | refine JC.seq ?_ | refine JC.region ?_ | refine JO.nil ?_ | refine JO.go rfl ?_ | refine JR.val (by first | exact OpV.move | exact OpV.assign | exact OpV.load | exact OpV.fieldAddr | exact OpV.indexEl | exact OpV.len | exact OpV.lss | exact OpV.not | exact OpV.pick_true | exact OpV.pick_false | exact OpV.inc (by omega) | exact OpV.eql | exact OpV.neq | exact OpV.leq | exact OpV.gtr | exact OpV.geq | exact OpV.extract | exact OpV.makeFunc | exact OpV.addn (by omega) | exact OpV.add (by omega) | exact OpV.subn (by omega) | exact OpV.sub (by omega) | exact OpV.lens | exact OpV.eqlID | exact OpV.neqID | exact OpV.eqlEv | exact OpV.eqlOp | exact OpV.eqlStr | exact OpV.neqStr | exact OpV.eqlNil | exact OpV.eqlBool | exact OpV.neqBool) rfl ?_ | (refine JR.alloc rfl ?_; intro _) | (refine JR.box rfl ?_; intro _) | refine JR.store ?_ | refine JC.cond_true ?_ | refine JC.cond_false ?_ | refine JC.skip ?_ | refine JC.exit ?_ | refine JC.block ?_ | refine CT.past ?_ | refine CT.hit ?_ | refine CT.miss rfl ?_ | refine CT.blockEnd ?_ | refine JC.ret ?_ | refine CT.ret ?_ | refine CT.blockRet ?_ | refine JO.omit rfl rfl ?_ | (refine JR.lit rfl ⟨rfl, by decide, by decide, by decide⟩ ?_; intro _))
  refine JC.reslot 3 (.int .i64 (((ls.take 0).flatten.length : Nat) : Int)) rfl ?_
  refine JC.loop1 (fun k : Nat => [(0, .slice a ls.length c), (3, .int .i64 ((ls.take k).flatten.length : Int)), (9, .slice a ls.length c), (10, .int .i64 (ls.length : Int)), (11, .int .i64 (k : Int))]) (fun k => [.st (sl a c ls)])
    (fun k => k ≤ ls.length) (fun k => ls.length - k) 0 (Nat.zero_le _) inferInstance ?_
  intro k hk
  repeat (first | refine CT.next ?_ | refine JC.seq ?_ | refine JC.region ?_ | refine JO.nil ?_ | refine JO.go rfl ?_ | refine JR.val (by first | exact OpV.move | exact OpV.assign | exact OpV.load | exact OpV.fieldAddr | exact OpV.indexEl | exact OpV.len | exact OpV.lss | exact OpV.not | exact OpV.pick_true | exact OpV.pick_false | exact OpV.inc (by omega) | exact OpV.eql | exact OpV.neq | exact OpV.leq | exact OpV.gtr | exact OpV.geq | exact OpV.extract | exact OpV.makeFunc | exact OpV.addn (by omega) | exact OpV.add (by omega) | exact OpV.subn (by omega) | exact OpV.sub (by omega) | exact OpV.lens | exact OpV.eqlID | exact OpV.neqID | exact OpV.eqlEv | exact OpV.eqlOp | exact OpV.eqlStr | exact OpV.neqStr | exact OpV.eqlNil | exact OpV.eqlBool | exact OpV.neqBool) rfl ?_ | (refine JR.alloc rfl ?_; intro _) | (refine JR.box rfl ?_; intro _) | refine JR.store ?_ | refine JC.cond_true ?_ | refine JC.cond_false ?_ | refine JC.skip ?_ | refine JC.exit ?_ | refine JC.block ?_ | refine CT.past ?_ | refine CT.hit ?_ | refine CT.miss rfl ?_ | refine CT.blockEnd ?_ | refine JC.ret ?_ | refine CT.ret ?_ | refine CT.blockRet ?_ | refine JO.omit rfl rfl ?_ | (refine JR.lit rfl ⟨rfl, by decide, by decide, by decide⟩ ?_; intro _))
  refine JC.test (fun hlt => ?_) (fun hge => ?_)
  · have hlt' : k < ls.length := by omega
    have h1 := hle (k + 1)
    have h2 := hnext k hlt'
    have h3 : (ls.take (k + 1)).flatten.length = (ls.take k).flatten.length + (ls[k]).length := by rw [h2, List.length_append]
    repeat (first | refine CT.next ?_ | refine JC.seq ?_ | refine JC.region ?_ | refine JO.nil ?_ | refine JO.go rfl ?_ | refine JR.val (by first | exact OpV.move | exact OpV.assign | exact OpV.load | exact OpV.fieldAddr | exact OpV.indexEl | exact OpV.len | exact OpV.lss | exact OpV.not | exact OpV.pick_true | exact OpV.pick_false | exact OpV.inc (by omega) | exact OpV.eql | exact OpV.neq | exact OpV.leq | exact OpV.gtr | exact OpV.geq | exact OpV.extract | exact OpV.makeFunc | exact OpV.addn (by omega) | exact OpV.add (by omega) | exact OpV.subn (by omega) | exact OpV.sub (by omega) | exact OpV.lens | exact OpV.eqlID | exact OpV.neqID | exact OpV.eqlEv | exact OpV.eqlOp | exact OpV.eqlStr | exact OpV.neqStr | exact OpV.eqlNil | exact OpV.eqlBool | exact OpV.neqBool) rfl ?_ | (refine JR.alloc rfl ?_; intro _) | (refine JR.box rfl ?_; intro _) | refine JR.store ?_ | refine JC.cond_true ?_ | refine JC.cond_false ?_ | refine JC.skip ?_ | refine JC.exit ?_ | refine JC.block ?_ | refine CT.past ?_ | refine CT.hit ?_ | refine CT.miss rfl ?_ | refine CT.blockEnd ?_ | refine JC.ret ?_ | refine CT.ret ?_ | refine CT.blockRet ?_ | refine JO.omit rfl rfl ?_ | (refine JR.lit rfl ⟨rfl, by decide, by decide, by decide⟩ ?_; intro _))
    refine JR.indexBytes rfl hlt' ?_
    intro b o p q
    repeat (first | refine CT.next ?_ | refine JC.seq ?_ | refine JC.region ?_ | refine JO.nil ?_ | refine JO.go rfl ?_ | refine JR.val (by first | exact OpV.move | exact OpV.assign | exact OpV.load | exact OpV.fieldAddr | exact OpV.indexEl | exact OpV.len | exact OpV.lss | exact OpV.not | exact OpV.pick_true | exact OpV.pick_false | exact OpV.inc (by omega) | exact OpV.eql | exact OpV.neq | exact OpV.leq | exact OpV.gtr | exact OpV.geq | exact OpV.extract | exact OpV.makeFunc | exact OpV.addn (by omega) | exact OpV.add (by omega) | exact OpV.subn (by omega) | exact OpV.sub (by omega) | exact OpV.lens | exact OpV.eqlID | exact OpV.neqID | exact OpV.eqlEv | exact OpV.eqlOp | exact OpV.eqlStr | exact OpV.neqStr | exact OpV.eqlNil | exact OpV.eqlBool | exact OpV.neqBool) rfl ?_ | (refine JR.alloc rfl ?_; intro _) | (refine JR.box rfl ?_; intro _) | refine JR.store ?_ | refine JC.cond_true ?_ | refine JC.cond_false ?_ | refine JC.skip ?_ | refine JC.exit ?_ | refine JC.block ?_ | refine CT.past ?_ | refine CT.hit ?_ | refine CT.miss rfl ?_ | refine CT.blockEnd ?_ | refine JC.ret ?_ | refine CT.ret ?_ | refine CT.blockRet ?_ | refine JO.omit rfl rfl ?_ | (refine JR.lit rfl ⟨rfl, by decide, by decide, by decide⟩ ?_; intro _))
    exact ⟨k + 1, by omega, by omega, by rw [h3]; infer_instance⟩
  · obtain rfl : k = ls.length := by omega
    rw [List.take_length]
    repeat (first | refine CT.next ?_ | refine JC.seq ?_ | refine JC.region ?_ | refine JO.nil ?_ | refine JO.go rfl ?_ | refine JR.val (by first | exact OpV.move | exact OpV.assign | exact OpV.load | exact OpV.fieldAddr | exact OpV.indexEl | exact OpV.len | exact OpV.lss | exact OpV.not | exact OpV.pick_true | exact OpV.pick_false | exact OpV.inc (by omega) | exact OpV.eql | exact OpV.neq | exact OpV.leq | exact OpV.gtr | exact OpV.geq | exact OpV.extract | exact OpV.makeFunc | exact OpV.addn (by omega) | exact OpV.add (by omega) | exact OpV.subn (by omega) | exact OpV.sub (by omega) | exact OpV.lens | exact OpV.eqlID | exact OpV.neqID | exact OpV.eqlEv | exact OpV.eqlOp | exact OpV.eqlStr | exact OpV.neqStr | exact OpV.eqlNil | exact OpV.eqlBool | exact OpV.neqBool) rfl ?_ | (refine JR.alloc rfl ?_; intro _) | (refine JR.box rfl ?_; intro _) | refine JR.store ?_ | refine JC.cond_true ?_ | refine JC.cond_false ?_ | refine JC.skip ?_ | refine JC.exit ?_ | refine JC.block ?_ | refine CT.past ?_ | refine CT.hit ?_ | refine CT.miss rfl ?_ | refine CT.blockEnd ?_ | refine JC.ret ?_ | refine CT.ret ?_ | refine CT.blockRet ?_ | refine JO.omit rfl rfl ?_ | (refine JR.lit rfl ⟨rfl, by decide, by decide, by decide⟩ ?_; intro _))
    refine JR.callBuf rfl (fun w1 hw => grow_bytes w1 _ _ hl) ?_
    intro a1 c1
    repeat (first | refine CT.next ?_ | refine JC.seq ?_ | refine JC.region ?_ | refine JO.nil ?_ | refine JO.go rfl ?_ | refine JR.val (by first | exact OpV.move | exact OpV.assign | exact OpV.load | exact OpV.fieldAddr | exact OpV.indexEl | exact OpV.len | exact OpV.lss | exact OpV.not | exact OpV.pick_true | exact OpV.pick_false | exact OpV.inc (by omega) | exact OpV.eql | exact OpV.neq | exact OpV.leq | exact OpV.gtr | exact OpV.geq | exact OpV.extract | exact OpV.makeFunc | exact OpV.addn (by omega) | exact OpV.add (by omega) | exact OpV.subn (by omega) | exact OpV.sub (by omega) | exact OpV.lens | exact OpV.eqlID | exact OpV.neqID | exact OpV.eqlEv | exact OpV.eqlOp | exact OpV.eqlStr | exact OpV.neqStr | exact OpV.eqlNil | exact OpV.eqlBool | exact OpV.neqBool) rfl ?_ | (refine JR.alloc rfl ?_; intro _) | (refine JR.box rfl ?_; intro _) | refine JR.store ?_ | refine JC.cond_true ?_ | refine JC.cond_false ?_ | refine JC.skip ?_ | refine JC.exit ?_ | refine JC.block ?_ | refine CT.past ?_ | refine CT.hit ?_ | refine CT.miss rfl ?_ | refine CT.blockEnd ?_ | refine JC.ret ?_ | refine CT.ret ?_ | refine CT.blockRet ?_ | refine JO.omit rfl rfl ?_ | (refine JR.lit rfl ⟨rfl, by decide, by decide, by decide⟩ ?_; intro _))
    refine JC.loop3 (fun (k : Nat) p q => [(6, .slice p (ls.take k).flatten.length q), (25, .slice a ls.length c), (26, .int .i64 (ls.length : Int)), (27, .int .i64 (k : Int))]) (fun k p q => [.st (sl a c ls), .res (buf p q 5 (ls.take k).flatten)])
      (fun k _ _ => k ≤ ls.length) (fun k _ _ => ls.length - k) 0 a1 c1 (Nat.zero_le _) (by rw [List.take_zero, List.flatten_nil]; infer_instance) ?_
    intro k p q hk
    repeat (first | refine CT.next ?_ | refine JC.seq ?_ | refine JC.region ?_ | refine JO.nil ?_ | refine JO.go rfl ?_ | refine JR.val (by first | exact OpV.move | exact OpV.assign | exact OpV.load | exact OpV.fieldAddr | exact OpV.indexEl | exact OpV.len | exact OpV.lss | exact OpV.not | exact OpV.pick_true | exact OpV.pick_false | exact OpV.inc (by omega) | exact OpV.eql | exact OpV.neq | exact OpV.leq | exact OpV.gtr | exact OpV.geq | exact OpV.extract | exact OpV.makeFunc | exact OpV.addn (by omega) | exact OpV.add (by omega) | exact OpV.subn (by omega) | exact OpV.sub (by omega) | exact OpV.lens | exact OpV.eqlID | exact OpV.neqID | exact OpV.eqlEv | exact OpV.eqlOp | exact OpV.eqlStr | exact OpV.neqStr | exact OpV.eqlNil | exact OpV.eqlBool | exact OpV.neqBool) rfl ?_ | (refine JR.alloc rfl ?_; intro _) | (refine JR.box rfl ?_; intro _) | refine JR.store ?_ | refine JC.cond_true ?_ | refine JC.cond_false ?_ | refine JC.skip ?_ | refine JC.exit ?_ | refine JC.block ?_ | refine CT.past ?_ | refine CT.hit ?_ | refine CT.miss rfl ?_ | refine CT.blockEnd ?_ | refine JC.ret ?_ | refine CT.ret ?_ | refine CT.blockRet ?_ | refine JO.omit rfl rfl ?_ | (refine JR.lit rfl ⟨rfl, by decide, by decide, by decide⟩ ?_; intro _))
    refine JC.test (fun hlt => ?_) (fun hge => ?_)
    · have hlt' : k < ls.length := by omega
      have h1 := hle (k + 1)
      have h2 := hnext k hlt'
      have h3 : (ls.take (k + 1)).flatten.length = (ls.take k).flatten.length + (ls[k]).length := by rw [h2, List.length_append]
      repeat (first | refine CT.next ?_ | refine JC.seq ?_ | refine JC.region ?_ | refine JO.nil ?_ | refine JO.go rfl ?_ | refine JR.val (by first | exact OpV.move | exact OpV.assign | exact OpV.load | exact OpV.fieldAddr | exact OpV.indexEl | exact OpV.len | exact OpV.lss | exact OpV.not | exact OpV.pick_true | exact OpV.pick_false | exact OpV.inc (by omega) | exact OpV.eql | exact OpV.neq | exact OpV.leq | exact OpV.gtr | exact OpV.geq | exact OpV.extract | exact OpV.makeFunc | exact OpV.addn (by omega) | exact OpV.add (by omega) | exact OpV.subn (by omega) | exact OpV.sub (by omega) | exact OpV.lens | exact OpV.eqlID | exact OpV.neqID | exact OpV.eqlEv | exact OpV.eqlOp | exact OpV.eqlStr | exact OpV.neqStr | exact OpV.eqlNil | exact OpV.eqlBool | exact OpV.neqBool) rfl ?_ | (refine JR.alloc rfl ?_; intro _) | (refine JR.box rfl ?_; intro _) | refine JR.store ?_ | refine JC.cond_true ?_ | refine JC.cond_false ?_ | refine JC.skip ?_ | refine JC.exit ?_ | refine JC.block ?_ | refine CT.past ?_ | refine CT.hit ?_ | refine CT.miss rfl ?_ | refine CT.blockEnd ?_ | refine JC.ret ?_ | refine CT.ret ?_ | refine CT.blockRet ?_ | refine JO.omit rfl rfl ?_ | (refine JR.lit rfl ⟨rfl, by decide, by decide, by decide⟩ ?_; intro _))
      refine JR.indexBytes rfl hlt' ?_
      intro b o p2 q2
      repeat (first | refine CT.next ?_ | refine JC.seq ?_ | refine JC.region ?_ | refine JO.nil ?_ | refine JO.go rfl ?_ | refine JR.val (by first | exact OpV.move | exact OpV.assign | exact OpV.load | exact OpV.fieldAddr | exact OpV.indexEl | exact OpV.len | exact OpV.lss | exact OpV.not | exact OpV.pick_true | exact OpV.pick_false | exact OpV.inc (by omega) | exact OpV.eql | exact OpV.neq | exact OpV.leq | exact OpV.gtr | exact OpV.geq | exact OpV.extract | exact OpV.makeFunc | exact OpV.addn (by omega) | exact OpV.add (by omega) | exact OpV.subn (by omega) | exact OpV.sub (by omega) | exact OpV.lens | exact OpV.eqlID | exact OpV.neqID | exact OpV.eqlEv | exact OpV.eqlOp | exact OpV.eqlStr | exact OpV.neqStr | exact OpV.eqlNil | exact OpV.eqlBool | exact OpV.neqBool) rfl ?_ | (refine JR.alloc rfl ?_; intro _) | (refine JR.box rfl ?_; intro _) | refine JR.store ?_ | refine JC.cond_true ?_ | refine JC.cond_false ?_ | refine JC.skip ?_ | refine JC.exit ?_ | refine JC.block ?_ | refine CT.past ?_ | refine CT.hit ?_ | refine CT.miss rfl ?_ | refine CT.blockEnd ?_ | refine JC.ret ?_ | refine CT.ret ?_ | refine CT.blockRet ?_ | refine JO.omit rfl rfl ?_ | (refine JR.lit rfl ⟨rfl, by decide, by decide, by decide⟩ ?_; intro _))
      refine JR.appendSl rfl (by exact ⟨rfl, rfl, by decide⟩) (by omega) ?_
      intro p3 q3
      repeat (first | refine CT.next ?_ | refine JC.seq ?_ | refine JC.region ?_ | refine JO.nil ?_ | refine JO.go rfl ?_ | refine JR.val (by first | exact OpV.move | exact OpV.assign | exact OpV.load | exact OpV.fieldAddr | exact OpV.indexEl | exact OpV.len | exact OpV.lss | exact OpV.not | exact OpV.pick_true | exact OpV.pick_false | exact OpV.inc (by omega) | exact OpV.eql | exact OpV.neq | exact OpV.leq | exact OpV.gtr | exact OpV.geq | exact OpV.extract | exact OpV.makeFunc | exact OpV.addn (by omega) | exact OpV.add (by omega) | exact OpV.subn (by omega) | exact OpV.sub (by omega) | exact OpV.lens | exact OpV.eqlID | exact OpV.neqID | exact OpV.eqlEv | exact OpV.eqlOp | exact OpV.eqlStr | exact OpV.neqStr | exact OpV.eqlNil | exact OpV.eqlBool | exact OpV.neqBool) rfl ?_ | (refine JR.alloc rfl ?_; intro _) | (refine JR.box rfl ?_; intro _) | refine JR.store ?_ | refine JC.cond_true ?_ | refine JC.cond_false ?_ | refine JC.skip ?_ | refine JC.exit ?_ | refine JC.block ?_ | refine CT.past ?_ | refine CT.hit ?_ | refine CT.miss rfl ?_ | refine CT.blockEnd ?_ | refine JC.ret ?_ | refine CT.ret ?_ | refine CT.blockRet ?_ | refine JO.omit rfl rfl ?_ | (refine JR.lit rfl ⟨rfl, by decide, by decide, by decide⟩ ?_; intro _))
      exact ⟨k + 1, p3, q3, by omega, by omega, by rw [h2]; infer_instance⟩
    · obtain rfl : k = ls.length := by omega
      rw [List.take_length]
      repeat (first | refine CT.next ?_ | refine JC.seq ?_ | refine JC.region ?_ | refine JO.nil ?_ | refine JO.go rfl ?_ | refine JR.val (by first | exact OpV.move | exact OpV.assign | exact OpV.load | exact OpV.fieldAddr | exact OpV.indexEl | exact OpV.len | exact OpV.lss | exact OpV.not | exact OpV.pick_true | exact OpV.pick_false | exact OpV.inc (by omega) | exact OpV.eql | exact OpV.neq | exact OpV.leq | exact OpV.gtr | exact OpV.geq | exact OpV.extract | exact OpV.makeFunc | exact OpV.addn (by omega) | exact OpV.add (by omega) | exact OpV.subn (by omega) | exact OpV.sub (by omega) | exact OpV.lens | exact OpV.eqlID | exact OpV.neqID | exact OpV.eqlEv | exact OpV.eqlOp | exact OpV.eqlStr | exact OpV.neqStr | exact OpV.eqlNil | exact OpV.eqlBool | exact OpV.neqBool) rfl ?_ | (refine JR.alloc rfl ?_; intro _) | (refine JR.box rfl ?_; intro _) | refine JR.store ?_ | refine JC.cond_true ?_ | refine JC.cond_false ?_ | refine JC.skip ?_ | refine JC.exit ?_ | refine JC.block ?_ | refine CT.past ?_ | refine CT.hit ?_ | refine CT.miss rfl ?_ | refine CT.blockEnd ?_ | refine JC.ret ?_ | refine CT.ret ?_ | refine CT.blockRet ?_ | refine JO.omit rfl rfl ?_ | (refine JR.lit rfl ⟨rfl, by decide, by decide, by decide⟩ ?_; intro _))
      exact CT.done (p, q) rfl (fun w ho => ho.ent)
end Ab
end Go.Proofs.Ytcmfemfndadfmaa

/- Contracts: ops.Put (the orders of its region written by a program). -/
namespace Go.Proofs.Ytcmfemfndadfmaa
namespace Ab
open Go Go.RowKit
set_option linter.unusedVariables false
set_option linter.unusedSimpArgs false
set_option synthInstance.maxSize 4000
set_option synthInstance.maxHeartbeats 400000
attribute [local irreducible] JC JO JR JQ andThen inBlock OpV Gives retTo JM JS

/-- An operation in bytes. -/
def opPut (o : Op_) : List UInt8 := (numL o.kind.toNat ++ textL o.key) ++ (if o.kind = 0 then numL (foldN o.n) else textL o.elem)
def putOp (o : Op_) : List UInt8 × Int := if opMay o then (opPut o, 0) else ([], 1)
theorem field_kind (f1 f2 f3 : FuncId) (w : World) : (Instr.field 70 (.agg ⟨[fnV f1, fnV f2, fnV f3]⟩) 1).run Try.prog w = .ok (fnV f2) w := by
  have h1 := run_und (P := Try.prog) (t := 70) w
  unfold Instr.field
  rw [Sem.run_bind, h1]
  simp [asAgg, part, isAgg, Sem.run_bind]

/-- Three slices, each read, in a literal's block: read as a list of lists. -/
theorem Hold.pubLists {w0 w : World} {F : Nat → Prop} {Γ : List Fact} {b : Nat} {t : TypeId} (ys : List (List UInt8 × (Option Addr × Nat))) (h : Hold w0 F (.own b t (ys.map (fun p => .slice p.2.1 p.1.length p.2.2)) :: Γ) w)
    (hy : ∀ p ∈ ys, .st (sl p.2.1 p.2.2 p.1) ∈ Γ) (hl : ys.length ≤ 1048576) : Hold w0 F (.st (sl (some ⟨b, 0, none⟩) ys.length (ys.map (·.1))) :: Γ) w := by
  have hw : w.heap[b]? = some (.cells (ys.map (fun p => Value.slice p.2.1 p.1.length p.2.2)).toArray t (0, 0)) := h.sat (.own b t _) (by simp)
  refine h.publish fun hk => ?_
  have hb := hk b (.inr rfl)
  refine ⟨by simp, by simp only [maxLen]; omega, by simp only [List.length_map, lim]; omega, fun hne => ⟨b, 0, rfl, hb, (Array.getElem?_eq_some_iff.1 hw).1, fun i hi => ?_⟩⟩
  have hi' : i < ys.length := by simpa using hi
  refine ⟨(ys[i]).2, ?_, fun A hA => ?_⟩
  · intro j v hv
    simp only [Cell.cells, List.getElem?_singleton] at hv
    split at hv
    · rename_i h0; subst h0
      injection hv with hv
      subst hv
      rw [cell_of_row w b _ _ _ _ hw]
      simp [Cell.sz, hi']
    · cases hv
  · simp only [Cell.facts, List.mem_singleton] at hA
    subst hA
    have := h.tail.sat (.st (sl (ys[i]).2.1 (ys[i]).2.2 (ys[i]).1)) (hy _ (List.getElem_mem hi'))
    simp only [List.getElem_map]
    exact this
theorem pub3 {w0 w : World} {F : Nat → Prop} {b : Nat} {t u : TypeId} {N T C : List UInt8} {aN aT aC : Option Addr} {cN cT cC : Nat}
    (h : Hold w0 F [.own b t [.slice aN N.length cN, .slice aT T.length cT, .slice aC C.length cC], .res (buf aN cN u N), .res (buf aT cT u T), .res (buf aC cC u C)] w) : Hold w0 F [.st (sl (some ⟨b, 0, none⟩) 3 [N, T, C])] w := by
  have h1 : Hold w0 F [.res (buf aN cN u N), .own b t [.slice aN N.length cN, .slice aT T.length cT, .slice aC C.length cC], .res (buf aT cT u T), .res (buf aC cC u C)] w := h.ent
  have h1 := h1.pub
  have h2 : Hold w0 F [.res (buf aT cT u T), .st (sl aN cN N), .own b t [.slice aN N.length cN, .slice aT T.length cT, .slice aC C.length cC], .res (buf aC cC u C)] w := h1.ent
  have h2 := h2.pub
  have h3 : Hold w0 F [.res (buf aC cC u C), .st (sl aT cT T), .st (sl aN cN N), .own b t [.slice aN N.length cN, .slice aT T.length cT, .slice aC C.length cC]] w := h2.ent
  have h3 := h3.pub
  have h4 : Hold w0 F [.own b t [.slice aN N.length cN, .slice aT T.length cT, .slice aC C.length cC], .st (sl aC cC C), .st (sl aT cT T), .st (sl aN cN N)] w := h3.ent
  have h5 := Hold.pubLists [(N, aN, cN), (T, aT, cT), (C, aC, cC)] h4 (by simp) (by simp)
  have h5 : Hold w0 F [.st (sl (some ⟨b, 0, none⟩) 3 [N, T, C]), .st (sl aC cC C), .st (sl aT cT T), .st (sl aN cN N)] w := h5
  exact (h5.ent : Hold w0 F [.st (sl (some ⟨b, 0, none⟩) 3 [N, T, C])] w)
theorem join_to (w : World) (F : Nat → Prop) (a : Option Addr) (c : Nat) (ls : List (List UInt8)) (L : List UInt8) (h2 : 2 ≤ ls.length) (h : (sl a c ls).holds F w) (hL : ls.flatten = L) (hl : L.length ≤ 1048576) (hl2 : ls.length ≤ 1048576) :
    GivesSl Try.prog 69 [.slice a ls.length c, .slice none 0 0] w F L := by
  subst hL; exact join_bytes w F a c ls h2 h hl hl2

theorem textL_length (s : ByteArray) : (textL s).length ≤ 10 + s.size := by
  have := numL_length s.size
  rw [textL, List.length_append, bytesOf_length]; omega
theorem put_facts (o : Op_) (h : opMay o = true) : (o.kind = (o.kind.toNat : Int) ∧ o.kind.toNat < 4) ∧ o.key.size ≤ 1048576 ∧ ∃ (f1 f2 f3 : FuncId) (_ : Body Try.prog f2) (C : List UInt8), (gotten kindsM o.kind).getD noneV = .agg ⟨[fnV f1, fnV f2, fnV f3]⟩ ∧
    (∀ w F, GivesBuf Try.prog f2 [opV o] w F 5 C) ∧ [numL o.kind.toNat, textL o.key, C].flatten = opPut o ∧ (opPut o).length ≤ 100 := by
  have hnl := fun n => numL_length n
  unfold opMay at h
  by_cases h0 : o.kind = 0
  · rw [if_pos h0] at h
    simp only [keyOk, Bool.and_eq_true, decide_eq_true_eq] at h
    obtain ⟨⟨⟨_, _⟩, hk⟩, ⟨⟨_, hn1⟩, hn2⟩, _⟩ := h
    refine ⟨by rw [h0]; exact ⟨rfl, by decide⟩, by omega, _, _, _, inferInstance, numL (foldN o.n), by rw [h0]; rfl, fun w F => kinds2 w F o (by omega), ?_, ?_⟩
    · rw [opPut, if_pos h0]; simp
    · have h1 := hnl o.kind.toNat; have h2 := textL_length o.key; have h3 := hnl (foldN o.n)
      rw [opPut, if_pos h0, List.length_append, List.length_append]; omega
  · rw [if_neg h0] at h
    by_cases h1 : o.kind = 1 ∨ o.kind = 2 ∨ o.kind = 3
    · rw [if_pos h1] at h
      simp only [keyOk, Bool.and_eq_true, decide_eq_true_eq] at h
      obtain ⟨⟨⟨_, _⟩, hk⟩, _, ⟨_, _⟩, hk2⟩ := h
      refine ⟨by omega, by omega, 60, 61, 63, inferInstance, textL o.elem, ?_, fun w F => kinds5 w F o (by omega), ?_, ?_⟩
      · rcases h1 with h1 | h1 | h1 <;> rw [h1] <;> rfl
      · rw [opPut, if_neg h0]; simp
      · have h1 := hnl o.kind.toNat; have h2 := textL_length o.key; have h3 := textL_length o.elem
        rw [opPut, if_neg h0, List.length_append, List.length_append]; omega
    · rw [if_neg h1] at h; cases h

set_option maxHeartbeats 2000000 in
theorem put_ops (w : World) (F : Nat → Prop) (o : Op_) (hk : o.key.size < 4611686018427387904) (he : o.elem.size < 4611686018427387904) : GivesSlT Try.prog 48 [opV o] w F (putOp o).1 [.int .i64 (putOp o).2] := by
  refine gives_of Try.func48 rfl Try.ntmps48 rfl rfl [] (.start w F) ?_
  repeat (first | refine CT.next ?_ | refine JC.seq ?_ | refine JC.region ?_ | refine JO.nil ?_ | refine JO.go rfl ?_ | refine JR.val (by first | exact OpV.move | exact OpV.assign | exact OpV.load | exact OpV.fieldAddr | exact OpV.indexEl | exact OpV.len | exact OpV.lss | exact OpV.not | exact OpV.pick_true | exact OpV.pick_false | exact OpV.inc (by omega) | exact OpV.eql | exact OpV.neq | exact OpV.leq | exact OpV.gtr | exact OpV.geq | exact OpV.extract | exact OpV.makeFunc | exact OpV.addn (by omega) | exact OpV.add (by omega) | exact OpV.subn (by omega) | exact OpV.sub (by omega) | exact OpV.lens | exact OpV.eqlID | exact OpV.neqID | exact OpV.eqlEv | exact OpV.eqlOp | exact OpV.eqlStr | exact OpV.neqStr | exact OpV.eqlNil | exact OpV.eqlBool | exact OpV.neqBool) rfl ?_ | (refine JR.alloc rfl ?_; intro _) | (refine JR.box rfl ?_; intro _) | refine JR.store ?_ | refine JC.cond_true ?_ | refine JC.cond_false ?_ | refine JC.skip ?_ | refine JC.exit ?_ | refine JC.block ?_ | refine CT.past ?_ | refine CT.hit ?_ | refine CT.miss rfl ?_ | refine CT.blockEnd ?_ | refine JC.ret ?_ | refine CT.ret ?_ | refine CT.blockRet ?_ | refine JO.omit rfl rfl ?_ | (refine JR.lit rfl ⟨rfl, by decide, by decide, by decide⟩ ?_; intro _))
  rename_i bo
  refine JR.callV rfl (fun w1 hw => may_ops w1 _ o hk he) ?_
  repeat (first | refine CT.next ?_ | refine JC.seq ?_ | refine JC.region ?_ | refine JO.nil ?_ | refine JO.go rfl ?_ | refine JR.val (by first | exact OpV.move | exact OpV.assign | exact OpV.load | exact OpV.fieldAddr | exact OpV.indexEl | exact OpV.len | exact OpV.lss | exact OpV.not | exact OpV.pick_true | exact OpV.pick_false | exact OpV.inc (by omega) | exact OpV.eql | exact OpV.neq | exact OpV.leq | exact OpV.gtr | exact OpV.geq | exact OpV.extract | exact OpV.makeFunc | exact OpV.addn (by omega) | exact OpV.add (by omega) | exact OpV.subn (by omega) | exact OpV.sub (by omega) | exact OpV.lens | exact OpV.eqlID | exact OpV.neqID | exact OpV.eqlEv | exact OpV.eqlOp | exact OpV.eqlStr | exact OpV.neqStr | exact OpV.eqlNil | exact OpV.eqlBool | exact OpV.neqBool) rfl ?_ | (refine JR.alloc rfl ?_; intro _) | (refine JR.box rfl ?_; intro _) | refine JR.store ?_ | refine JC.cond_true ?_ | refine JC.cond_false ?_ | refine JC.skip ?_ | refine JC.exit ?_ | refine JC.block ?_ | refine CT.past ?_ | refine CT.hit ?_ | refine CT.miss rfl ?_ | refine CT.blockEnd ?_ | refine JC.ret ?_ | refine CT.ret ?_ | refine CT.blockRet ?_ | refine JO.omit rfl rfl ?_ | (refine JR.lit rfl ⟨rfl, by decide, by decide, by decide⟩ ?_; intro _))
  refine JC.test (fun h1 => ?_) (fun h1 => ?_)
  · have h2 : putOp o = ([], 1) := by simp [putOp, h1]
    rw [h2]
    repeat (first | refine CT.next ?_ | refine JC.seq ?_ | refine JC.region ?_ | refine JO.nil ?_ | refine JO.go rfl ?_ | refine JR.val (by first | exact OpV.move | exact OpV.assign | exact OpV.load | exact OpV.fieldAddr | exact OpV.indexEl | exact OpV.len | exact OpV.lss | exact OpV.not | exact OpV.pick_true | exact OpV.pick_false | exact OpV.inc (by omega) | exact OpV.eql | exact OpV.neq | exact OpV.leq | exact OpV.gtr | exact OpV.geq | exact OpV.extract | exact OpV.makeFunc | exact OpV.addn (by omega) | exact OpV.add (by omega) | exact OpV.subn (by omega) | exact OpV.sub (by omega) | exact OpV.lens | exact OpV.eqlID | exact OpV.neqID | exact OpV.eqlEv | exact OpV.eqlOp | exact OpV.eqlStr | exact OpV.neqStr | exact OpV.eqlNil | exact OpV.eqlBool | exact OpV.neqBool) rfl ?_ | (refine JR.alloc rfl ?_; intro _) | (refine JR.box rfl ?_; intro _) | refine JR.store ?_ | refine JC.cond_true ?_ | refine JC.cond_false ?_ | refine JC.skip ?_ | refine JC.exit ?_ | refine JC.block ?_ | refine CT.past ?_ | refine CT.hit ?_ | refine CT.miss rfl ?_ | refine CT.blockEnd ?_ | refine JC.ret ?_ | refine CT.ret ?_ | refine CT.blockRet ?_ | refine JO.omit rfl rfl ?_ | (refine JR.lit rfl ⟨rfl, by decide, by decide, by decide⟩ ?_; intro _))
    exact CT.done (none, 0) rfl (fun w ho => (ho.ent : Hold _ _ [] w).add sl_nil)
  have h1 : opMay o = true := by simpa using h1
  have h2 : putOp o = (opPut o, 0) := by simp [putOp, h1]
  obtain ⟨⟨hkk, hkn⟩, hks, f1, f2, f3, hbody, C, hlook, hput, hopp, hlen⟩ := put_facts o h1
  have hconv : IntKind.u64.wrap o.kind = o.kind := by rw [hkk, wrap64]; omega
  rw [h2]
  repeat (first | refine CT.next ?_ | refine JC.seq ?_ | refine JC.region ?_ | refine JO.nil ?_ | refine JO.go rfl ?_ | refine JR.val (by first | exact OpV.move | exact OpV.assign | exact OpV.load | exact OpV.fieldAddr | exact OpV.indexEl | exact OpV.len | exact OpV.lss | exact OpV.not | exact OpV.pick_true | exact OpV.pick_false | exact OpV.inc (by omega) | exact OpV.eql | exact OpV.neq | exact OpV.leq | exact OpV.gtr | exact OpV.geq | exact OpV.extract | exact OpV.makeFunc | exact OpV.addn (by omega) | exact OpV.add (by omega) | exact OpV.subn (by omega) | exact OpV.sub (by omega) | exact OpV.lens | exact OpV.eqlID | exact OpV.neqID | exact OpV.eqlEv | exact OpV.eqlOp | exact OpV.eqlStr | exact OpV.neqStr | exact OpV.eqlNil | exact OpV.eqlBool | exact OpV.neqBool) rfl ?_ | (refine JR.alloc rfl ?_; intro _) | (refine JR.box rfl ?_; intro _) | refine JR.store ?_ | refine JC.cond_true ?_ | refine JC.cond_false ?_ | refine JC.skip ?_ | refine JC.exit ?_ | refine JC.block ?_ | refine CT.past ?_ | refine CT.hit ?_ | refine CT.miss rfl ?_ | refine CT.blockEnd ?_ | refine JC.ret ?_ | refine CT.ret ?_ | refine CT.blockRet ?_ | refine JO.omit rfl rfl ?_ | (refine JR.lit rfl ⟨rfl, by decide, by decide, by decide⟩ ?_; intro _))
  refine JC.draw 18 mixed ?_
  refine JM.take 0 rfl (by kernel_rfl) rfl OpV.fieldAddr rfl rfl ?_
  refine JM.take 1 rfl (by kernel_rfl) rfl OpV.load rfl rfl ?_
  refine JM.take 2 rfl (by kernel_rfl) rfl (OpV.convIn hconv) rfl rfl ?_
  refine JM.reslot 9 (.int .u64 ((o.kind.toNat : Nat) : Int)) (congrArg (Value.int .u64) hkk) ?_
  refine JM.take 4 rfl (by kernel_rfl) rfl OpV.fieldAddr rfl rfl ?_
  refine JM.take 5 rfl (by kernel_rfl) rfl OpV.load rfl rfl ?_
  refine JM.take 8 rfl (by kernel_rfl) rfl OpV.fieldAddr rfl rfl ?_
  refine JM.take 9 rfl (by kernel_rfl) rfl OpV.load rfl rfl ?_
  refine JM.take 12 rfl (by kernel_rfl) rfl OpV.load rfl rfl ?_
  refine JM.one 3 (by kernel_rfl) rfl rfl rfl rfl (JS.callBuf rfl (fun w1 hw => num_enc _ (by omega) w1 _) fun aN cN => ?_)
  refine JM.one 6 (by kernel_rfl) rfl rfl rfl rfl (JS.callBuf rfl (fun w1 hw => text_enc _ hks w1 _) fun aT cT => ?_)
  refine JM.one 7 (by kernel_rfl) rfl rfl rfl rfl (JS.call1 rfl (fun w1 hw => kinds_ops w1 _) fun mk => ?_)
  refine JM.take 10 rfl (by kernel_rfl) rfl (OpV.lookupNo o.kind kindsM_nodup hlook) rfl rfl ?_
  refine JM.take 11 rfl (by kernel_rfl) rfl (OpV.fieldV (field_kind f1 f2 f3)) rfl rfl ?_
  refine JM.one 13 (by kernel_rfl) rfl rfl rfl rfl (JS.callBuf rfl (fun w1 hw => hput w1 _) fun aC cC => ?_)
  refine JM.one 14 (by kernel_rfl) rfl rfl rfl rfl (JS.lit rfl ⟨rfl, by decide, by decide, by decide⟩ fun lb => ?_)
  refine JM.more (Γ' := [.st (sl (some ⟨lb, 0, none⟩) 3 [numL o.kind.toNat, textL o.key, C])]) (fun w1 ho => pub3 (b := lb) (t := 61) (u := 5) (N := numL o.kind.toNat) (T := textL o.key) (C := C) (aN := aN) (aT := aT) (aC := aC) (cN := cN) (cT := cT) (cC := cC) ho.ent) ?_
  refine JM.one 15 (by kernel_rfl) rfl rfl rfl rfl (JS.callSl rfl (fun w1 hw => join_to w1 _ (some ⟨lb, 0, none⟩) 3 [numL o.kind.toNat, textL o.key, C] (opPut o) (by simp) hw.get hopp (by omega) (by simp)) fun aJ cJ => ?_)
  refine JM.one 16 (by kernel_rfl) rfl rfl rfl rfl (JS.val OpV.assign rfl ?_)
  refine JM.one 17 (by kernel_rfl) rfl rfl rfl rfl (JS.val OpV.assign rfl ?_)
  refine JM.nil (by kernel_rfl) ?_
  repeat (first | refine CT.next ?_ | refine JC.seq ?_ | refine JC.region ?_ | refine JO.nil ?_ | refine JO.go rfl ?_ | refine JR.val (by first | exact OpV.move | exact OpV.assign | exact OpV.load | exact OpV.fieldAddr | exact OpV.indexEl | exact OpV.len | exact OpV.lss | exact OpV.not | exact OpV.pick_true | exact OpV.pick_false | exact OpV.inc (by omega) | exact OpV.eql | exact OpV.neq | exact OpV.leq | exact OpV.gtr | exact OpV.geq | exact OpV.extract | exact OpV.makeFunc | exact OpV.addn (by omega) | exact OpV.add (by omega) | exact OpV.subn (by omega) | exact OpV.sub (by omega) | exact OpV.lens | exact OpV.eqlID | exact OpV.neqID | exact OpV.eqlEv | exact OpV.eqlOp | exact OpV.eqlStr | exact OpV.neqStr | exact OpV.eqlNil | exact OpV.eqlBool | exact OpV.neqBool) rfl ?_ | (refine JR.alloc rfl ?_; intro _) | (refine JR.box rfl ?_; intro _) | refine JR.store ?_ | refine JC.cond_true ?_ | refine JC.cond_false ?_ | refine JC.skip ?_ | refine JC.exit ?_ | refine JC.block ?_ | refine CT.past ?_ | refine CT.hit ?_ | refine CT.miss rfl ?_ | refine CT.blockEnd ?_ | refine JC.ret ?_ | refine CT.ret ?_ | refine CT.blockRet ?_ | refine JO.omit rfl rfl ?_ | (refine JR.lit rfl ⟨rfl, by decide, by decide, by decide⟩ ?_; intro _))
  exact CT.done (aJ, cJ) rfl (fun w ho => ho.ent)
end Ab
end Go.Proofs.Ytcmfemfndadfmaa

/- Contracts: commit.Put, commit.Hash. -/
namespace Go.Proofs.Ytcmfemfndadfmaa
namespace Ab
open Go Go.RowKit
set_option linter.unusedVariables false
set_option linter.unusedSimpArgs false
set_option synthInstance.maxSize 4000
set_option synthInstance.maxHeartbeats 400000
attribute [local irreducible] JC JO JR JQ andThen inBlock OpV Gives retTo JM JS

attribute [local irreducible] sumI numL textL opPut
/-- A commit in bytes. -/
def headL (c : Commit) : List UInt8 := ((numL (foldN c.ev.node) ++ numL c.ev.seq.toNat) ++ numL c.gen.toNat) ++ numL c.parents.length
def idsL (L : List ID) : List UInt8 := (L.map (·.1)).flatten
def commitPut (c : Commit) : List UInt8 := if c.ev.node = -1 then headL c ++ idsL c.parents else headL c ++ idsL c.parents ++ opPut c.op
def putCommit (c : Commit) : List UInt8 × Int := if may c then (commitPut c, 0) else ([], 1)
theorem idsL_length (L : List ID) : (idsL L).length = 32 * L.length := by
  induction L with
  | nil => rfl
  | cons x L ih => simp only [idsL, List.map_cons, List.flatten_cons, List.length_append, List.length_cons] at ih ⊢; rw [ih, x.2]; omega
theorem idsL_next (L : List ID) (k : Nat) (hk : k < L.length) : idsL (L.take (k + 1)) = idsL (L.take k) ++ (L[k]).1 := by
  rw [idsL, idsL, List.take_succ_eq_append_getElem hk, List.map_append, List.flatten_append]; simp
theorem headL_length (c : Commit) : (headL c).length ≤ 40 := by
  have h1 := numL_length (foldN c.ev.node); have h2 := numL_length c.ev.seq.toNat; have h3 := numL_length c.gen.toNat; have h4 := numL_length c.parents.length
  simp only [headL, List.length_append]; omega
/-- What is known of a commit that may be. -/
structure MayC (c : Commit) : Prop where
  node : -1 ≤ c.ev.node ∧ c.ev.node ≤ 7
  seq : 0 ≤ c.ev.seq ∧ c.ev.seq ≤ 1048576
  gen : 1 ≤ c.gen ∧ c.gen ≤ 1048576
  par : c.parents.length ≤ 8
  op : c.ev.node ≠ -1 → opMay c.op = true
theorem may_spec {c : Commit} (h : may c = true) : MayC c := by
  unfold may at h
  split at h
  · cases h
  · rename_i h1
    simp only [inB, Bool.or_eq_true, Bool.not_eq_true', not_or, Bool.not_eq_false, decide_eq_true_eq, Bool.and_eq_true, Nat.not_lt] at h1
    obtain ⟨⟨⟨hg, hp⟩, _⟩, _⟩ := h1
    split at h
    · rename_i h2
      simp only [Bool.and_eq_true, decide_eq_true_eq] at h
      exact ⟨by omega, by omega, hg, hp, fun hn => (hn h2).elim⟩
    · rename_i h2
      simp only [inB, Bool.and_eq_true, decide_eq_true_eq] at h
      exact ⟨by omega, by omega, hg, hp, fun _ => h.2⟩

theorem pub4 {w0 w : World} {F : Nat → Prop} {b : Nat} {t u : TypeId} {A B C D : List UInt8} {aA aB aC aD : Option Addr} {cA cB cC cD : Nat} {Γ : List Fact}
    (h : Hold w0 F (.res (buf aA cA u A) :: .res (buf aB cB u B) :: .res (buf aC cC u C) :: .res (buf aD cD u D) :: .own b t [.slice aA A.length cA, .slice aB B.length cB, .slice aC C.length cC, .slice aD D.length cD] :: Γ) w) :
    Hold w0 F (.st (sl (some ⟨b, 0, none⟩) 4 [A, B, C, D]) :: Γ) w := by
  have rot : ∀ {X : Fact} {Γ' : List Fact}, Hold w0 F (X :: Γ') w → Hold w0 F (Γ' ++ [X]) w := fun h => h.perm (by
    exact (List.perm_append_comm (l₁ := [_])))
  have h1 := h.pub
  have h2 : Hold w0 F (.res (buf aB cB u B) :: .st (sl aA cA A) :: .res (buf aC cC u C) :: .res (buf aD cD u D) :: .own b t [.slice aA A.length cA, .slice aB B.length cB, .slice aC C.length cC, .slice aD D.length cD] :: Γ) w := h1.perm (List.Perm.swap _ _ _)
  have h2 := h2.pub
  have h3 : Hold w0 F (.res (buf aC cC u C) :: .st (sl aB cB B) :: .st (sl aA cA A) :: .res (buf aD cD u D) :: .own b t [.slice aA A.length cA, .slice aB B.length cB, .slice aC C.length cC, .slice aD D.length cD] :: Γ) w :=
    h2.perm (((List.Perm.swap _ _ _).cons _).trans (List.Perm.swap _ _ _))
  have h3 := h3.pub
  have h4 : Hold w0 F (.res (buf aD cD u D) :: .st (sl aC cC C) :: .st (sl aB cB B) :: .st (sl aA cA A) :: .own b t [.slice aA A.length cA, .slice aB B.length cB, .slice aC C.length cC, .slice aD D.length cD] :: Γ) w :=
    h3.perm (((((List.Perm.swap _ _ _).cons _).trans (List.Perm.swap _ _ _)).cons _).trans (List.Perm.swap _ _ _))
  have h4 := h4.pub
  have h5 : Hold w0 F (.own b t [.slice aA A.length cA, .slice aB B.length cB, .slice aC C.length cC, .slice aD D.length cD] :: .st (sl aD cD D) :: .st (sl aC cC C) :: .st (sl aB cB B) :: .st (sl aA cA A) :: Γ) w :=
    h4.perm ((((((((List.Perm.swap _ _ _).cons _).trans (List.Perm.swap _ _ _)).cons _).trans (List.Perm.swap _ _ _)).cons _).trans (List.Perm.swap _ _ _)))
  have h6 := Hold.pubLists [(A, aA, cA), (B, aB, cB), (C, aC, cC), (D, aD, cD)] h5 (by simp) (by simp)
  have h6 : Hold w0 F (.st (sl (some ⟨b, 0, none⟩) 4 [A, B, C, D]) :: .st (sl aD cD D) :: .st (sl aC cC C) :: .st (sl aB cB B) :: .st (sl aA cA A) :: Γ) w := h6
  have h7 : Hold w0 F ((.st (sl (some ⟨b, 0, none⟩) 4 [A, B, C, D]) :: Γ) ++ [.st (sl aD cD D), .st (sl aC cC C), .st (sl aB cB B), .st (sl aA cA A)]) w :=
    h6.perm ((List.perm_append_comm (l₁ := [Fact.st (sl aD cD D), .st (sl aC cC C), .st (sl aB cB B), .st (sl aA cA A)]) (l₂ := Γ)).cons _)
  exact h7.left

theorem concat_to (w : World) (F : Nat → Prop) (a : Option Addr) (c : Nat) (ls : List (List UInt8)) (L : List UInt8) (h : (sl a c ls).holds F w) (hL : ls.flatten = L) (hl : L.length ≤ 1048576) (hl2 : ls.length ≤ 1048576) :
    GivesBuf Try.prog 45 [.slice a ls.length c] w F 5 L := by
  subst hL; exact concat_bytes w F a c ls h hl hl2

theorem put_ops_ok (w : World) (F : Nat → Prop) (o : Op_) (hk : o.key.size < 4611686018427387904) (he : o.elem.size < 4611686018427387904) (h : opMay o = true) : GivesSlT Try.prog 48 [opV o] w F (opPut o) [.int .i64 0] := by
  have h1 := put_ops w F o hk he
  have h2 : putOp o = (opPut o, 0) := by simp [putOp, h]
  rw [h2] at h1
  exact h1
set_option maxHeartbeats 2000000 in
theorem put_commit (w : World) (F : Nat → Prop) (c : Commit) (a : Option Addr) (k : Nat) (h : (sl a k c.parents).holds F w) (ht : texts c) :
    GivesSlT Try.prog 35 [commitV c a k] w F (putCommit c).1 [.int .i64 (putCommit c).2] := by
  refine gives_of Try.func35 rfl Try.ntmps35 rfl rfl [.st (sl a k c.parents)] (.start1 h) ?_
  repeat (first | refine CT.next ?_ | refine JC.seq ?_ | refine JC.region ?_ | refine JO.nil ?_ | refine JO.go rfl ?_ | refine JR.val (by first | exact OpV.move | exact OpV.assign | exact OpV.load | exact OpV.fieldAddr | exact OpV.indexEl | exact OpV.len | exact OpV.lss | exact OpV.not | exact OpV.pick_true | exact OpV.pick_false | exact OpV.inc (by omega) | exact OpV.eql | exact OpV.neq | exact OpV.leq | exact OpV.gtr | exact OpV.geq | exact OpV.extract | exact OpV.makeFunc | exact OpV.addn (by omega) | exact OpV.add (by omega) | exact OpV.subn (by omega) | exact OpV.sub (by omega) | exact OpV.lens | exact OpV.eqlID | exact OpV.neqID | exact OpV.eqlEv | exact OpV.eqlOp | exact OpV.eqlStr | exact OpV.neqStr | exact OpV.eqlNil | exact OpV.eqlBool | exact OpV.neqBool) rfl ?_ | (refine JR.alloc rfl ?_; intro _) | (refine JR.box rfl ?_; intro _) | refine JR.store ?_ | refine JC.cond_true ?_ | refine JC.cond_false ?_ | refine JC.skip ?_ | refine JC.exit ?_ | refine JC.block ?_ | refine CT.past ?_ | refine CT.hit ?_ | refine CT.miss rfl ?_ | refine CT.blockEnd ?_ | refine JC.ret ?_ | refine CT.ret ?_ | refine CT.blockRet ?_ | refine JO.omit rfl rfl ?_ | (refine JR.lit rfl ⟨rfl, by decide, by decide, by decide⟩ ?_; intro _))
  rename_i bc
  refine JR.callV rfl (fun w1 hw => may_commit w1 _ c a k hw.get ht) ?_
  repeat (first | refine CT.next ?_ | refine JC.seq ?_ | refine JC.region ?_ | refine JO.nil ?_ | refine JO.go rfl ?_ | refine JR.val (by first | exact OpV.move | exact OpV.assign | exact OpV.load | exact OpV.fieldAddr | exact OpV.indexEl | exact OpV.len | exact OpV.lss | exact OpV.not | exact OpV.pick_true | exact OpV.pick_false | exact OpV.inc (by omega) | exact OpV.eql | exact OpV.neq | exact OpV.leq | exact OpV.gtr | exact OpV.geq | exact OpV.extract | exact OpV.makeFunc | exact OpV.addn (by omega) | exact OpV.add (by omega) | exact OpV.subn (by omega) | exact OpV.sub (by omega) | exact OpV.lens | exact OpV.eqlID | exact OpV.neqID | exact OpV.eqlEv | exact OpV.eqlOp | exact OpV.eqlStr | exact OpV.neqStr | exact OpV.eqlNil | exact OpV.eqlBool | exact OpV.neqBool) rfl ?_ | (refine JR.alloc rfl ?_; intro _) | (refine JR.box rfl ?_; intro _) | refine JR.store ?_ | refine JC.cond_true ?_ | refine JC.cond_false ?_ | refine JC.skip ?_ | refine JC.exit ?_ | refine JC.block ?_ | refine CT.past ?_ | refine CT.hit ?_ | refine CT.miss rfl ?_ | refine CT.blockEnd ?_ | refine JC.ret ?_ | refine CT.ret ?_ | refine CT.blockRet ?_ | refine JO.omit rfl rfl ?_ | (refine JR.lit rfl ⟨rfl, by decide, by decide, by decide⟩ ?_; intro _))
  refine JC.test (fun h1 => ?_) (fun h1 => ?_)
  · have h2 : putCommit c = ([], 1) := by simp [putCommit, h1]
    rw [h2]
    repeat (first | refine CT.next ?_ | refine JC.seq ?_ | refine JC.region ?_ | refine JO.nil ?_ | refine JO.go rfl ?_ | refine JR.val (by first | exact OpV.move | exact OpV.assign | exact OpV.load | exact OpV.fieldAddr | exact OpV.indexEl | exact OpV.len | exact OpV.lss | exact OpV.not | exact OpV.pick_true | exact OpV.pick_false | exact OpV.inc (by omega) | exact OpV.eql | exact OpV.neq | exact OpV.leq | exact OpV.gtr | exact OpV.geq | exact OpV.extract | exact OpV.makeFunc | exact OpV.addn (by omega) | exact OpV.add (by omega) | exact OpV.subn (by omega) | exact OpV.sub (by omega) | exact OpV.lens | exact OpV.eqlID | exact OpV.neqID | exact OpV.eqlEv | exact OpV.eqlOp | exact OpV.eqlStr | exact OpV.neqStr | exact OpV.eqlNil | exact OpV.eqlBool | exact OpV.neqBool) rfl ?_ | (refine JR.alloc rfl ?_; intro _) | (refine JR.box rfl ?_; intro _) | refine JR.store ?_ | refine JC.cond_true ?_ | refine JC.cond_false ?_ | refine JC.skip ?_ | refine JC.exit ?_ | refine JC.block ?_ | refine CT.past ?_ | refine CT.hit ?_ | refine CT.miss rfl ?_ | refine CT.blockEnd ?_ | refine JC.ret ?_ | refine CT.ret ?_ | refine CT.blockRet ?_ | refine JO.omit rfl rfl ?_ | (refine JR.lit rfl ⟨rfl, by decide, by decide, by decide⟩ ?_; intro _))
    exact CT.done (none, 0) rfl (fun w ho => (ho.ent : Hold _ _ [] w).add sl_nil)
  have h1 : may c = true := by simpa using h1
  have h2 : putCommit c = (commitPut c, 0) := by simp [putCommit, h1]
  have hm := may_spec h1
  have hh := headL_length c
  rw [h2]
  have hn1 := hm.node
  have hn2 := hm.seq
  have hn3 := hm.gen
  have hn4 := hm.par
  have hs1 : IntKind.u64.wrap c.ev.seq = c.ev.seq := by rw [show c.ev.seq = ((c.ev.seq.toNat : Nat) : Int) by omega, wrap64]; omega
  have hs2 : IntKind.u64.wrap c.gen = c.gen := by rw [show c.gen = ((c.gen.toNat : Nat) : Int) by omega, wrap64]; omega
  repeat (first | refine CT.next ?_ | refine JC.seq ?_ | refine JC.region ?_ | refine JO.nil ?_ | refine JO.go rfl ?_ | refine JR.val (by first | exact OpV.move | exact OpV.assign | exact OpV.load | exact OpV.fieldAddr | exact OpV.indexEl | exact OpV.len | exact OpV.lss | exact OpV.not | exact OpV.pick_true | exact OpV.pick_false | exact OpV.inc (by omega) | exact OpV.eql | exact OpV.neq | exact OpV.leq | exact OpV.gtr | exact OpV.geq | exact OpV.extract | exact OpV.makeFunc | exact OpV.addn (by omega) | exact OpV.add (by omega) | exact OpV.subn (by omega) | exact OpV.sub (by omega) | exact OpV.lens | exact OpV.eqlID | exact OpV.neqID | exact OpV.eqlEv | exact OpV.eqlOp | exact OpV.eqlStr | exact OpV.neqStr | exact OpV.eqlNil | exact OpV.eqlBool | exact OpV.neqBool) rfl ?_ | (refine JR.alloc rfl ?_; intro _) | (refine JR.box rfl ?_; intro _) | refine JR.store ?_ | refine JC.cond_true ?_ | refine JC.cond_false ?_ | refine JC.skip ?_ | refine JC.exit ?_ | refine JC.block ?_ | refine CT.past ?_ | refine CT.hit ?_ | refine CT.miss rfl ?_ | refine CT.blockEnd ?_ | refine JC.ret ?_ | refine CT.ret ?_ | refine CT.blockRet ?_ | refine JO.omit rfl rfl ?_ | (refine JR.lit rfl ⟨rfl, by decide, by decide, by decide⟩ ?_; intro _))
  refine JC.draw 22 mixed ?_
  refine JM.take 0 rfl (by kernel_rfl) rfl OpV.fieldAddr rfl rfl ?_
  refine JM.take 1 rfl (by kernel_rfl) rfl OpV.fieldAddr rfl rfl ?_
  refine JM.take 2 rfl (by kernel_rfl) rfl OpV.load rfl rfl ?_
  refine JM.takeCall 3 rfl (by kernel_rfl) rfl (fun w1 hw => fold_enc w1 _ c.ev.node (by omega)) rfl rfl ?_
  refine JM.take 5 rfl (by kernel_rfl) rfl OpV.fieldAddr rfl rfl ?_
  refine JM.take 6 rfl (by kernel_rfl) rfl OpV.fieldAddr rfl rfl ?_
  refine JM.take 7 rfl (by kernel_rfl) rfl OpV.load rfl rfl ?_
  refine JM.take 8 rfl (by kernel_rfl) rfl (OpV.convIn hs1) rfl rfl ?_
  refine JM.reslot 20 (.int .u64 ((c.ev.seq.toNat : Nat) : Int)) (congrArg (Value.int .u64) (by omega)) ?_
  refine JM.take 10 rfl (by kernel_rfl) rfl OpV.fieldAddr rfl rfl ?_
  refine JM.take 11 rfl (by kernel_rfl) rfl OpV.load rfl rfl ?_
  refine JM.take 12 rfl (by kernel_rfl) rfl (OpV.convIn hs2) rfl rfl ?_
  refine JM.reslot 24 (.int .u64 ((c.gen.toNat : Nat) : Int)) (congrArg (Value.int .u64) (by omega)) ?_
  refine JM.take 14 rfl (by kernel_rfl) rfl OpV.fieldAddr rfl rfl ?_
  refine JM.take 15 rfl (by kernel_rfl) rfl OpV.load rfl rfl ?_
  refine JM.take 16 rfl (by kernel_rfl) rfl OpV.len rfl rfl ?_
  refine JM.take 17 rfl (by kernel_rfl) rfl (OpV.convIn (by rw [wrap64]; omega)) rfl rfl ?_
  refine JM.one 4 (by kernel_rfl) rfl rfl rfl rfl (JS.callBuf rfl (fun w1 hw => num_enc _ (foldN_lt (by omega)) w1 _) fun a1 c1 => ?_)
  refine JM.one 9 (by kernel_rfl) rfl rfl rfl rfl (JS.callBuf rfl (fun w1 hw => num_enc _ (by omega) w1 _) fun a2 c2 => ?_)
  refine JM.one 13 (by kernel_rfl) rfl rfl rfl rfl (JS.callBuf rfl (fun w1 hw => num_enc _ (by omega) w1 _) fun a3 c3 => ?_)
  refine JM.one 18 (by kernel_rfl) rfl rfl rfl rfl (JS.callBuf rfl (fun w1 hw => num_enc _ (by omega) w1 _) fun a4 c4 => ?_)
  refine JM.one 19 (by kernel_rfl) rfl rfl rfl rfl (JS.lit rfl ⟨rfl, by decide, by decide, by decide⟩ fun lb => ?_)
  refine JM.more (Γ' := [.st (sl (some ⟨lb, 0, none⟩) 4 [numL (foldN c.ev.node), numL c.ev.seq.toNat, numL c.gen.toNat, numL c.parents.length]), .own bc 29 [.int .i64 c.ev.node, .int .i64 c.ev.seq, .int .i64 c.gen, .slice a c.parents.length k, .int .i64 c.op.kind, .string c.op.key, .string c.op.elem, .int .i64 c.op.n], .st (sl a k c.parents)])
    (fun w1 ho => pub4 (b := lb) (t := 61) (u := 5) (aA := a1) (aB := a2) (aC := a3) (aD := a4) (cA := c1) (cB := c2) (cC := c3) (cD := c4) ho.ent) ?_
  refine JM.one 20 (by kernel_rfl) rfl rfl rfl rfl (JS.callBuf rfl (fun w1 hw => concat_to w1 _ (some ⟨lb, 0, none⟩) 4 [numL (foldN c.ev.node), numL c.ev.seq.toNat, numL c.gen.toNat, numL c.parents.length] (headL c) hw.get (by simp [headL]) (by omega) (by simp)) fun p0 q0 => ?_)
  refine JM.one 21 (by kernel_rfl) rfl rfl rfl rfl (JS.val OpV.assign rfl ?_)
  refine JM.nil (by kernel_rfl) ?_
  repeat (first | refine CT.next ?_ | refine JC.seq ?_ | refine JC.region ?_ | refine JO.nil ?_ | refine JO.go rfl ?_ | refine JR.val (by first | exact OpV.move | exact OpV.assign | exact OpV.load | exact OpV.fieldAddr | exact OpV.indexEl | exact OpV.len | exact OpV.lss | exact OpV.not | exact OpV.pick_true | exact OpV.pick_false | exact OpV.inc (by omega) | exact OpV.eql | exact OpV.neq | exact OpV.leq | exact OpV.gtr | exact OpV.geq | exact OpV.extract | exact OpV.makeFunc | exact OpV.addn (by omega) | exact OpV.add (by omega) | exact OpV.subn (by omega) | exact OpV.sub (by omega) | exact OpV.lens | exact OpV.eqlID | exact OpV.neqID | exact OpV.eqlEv | exact OpV.eqlOp | exact OpV.eqlStr | exact OpV.neqStr | exact OpV.eqlNil | exact OpV.eqlBool | exact OpV.neqBool) rfl ?_ | (refine JR.alloc rfl ?_; intro _) | (refine JR.box rfl ?_; intro _) | refine JR.store ?_ | refine JC.cond_true ?_ | refine JC.cond_false ?_ | refine JC.skip ?_ | refine JC.exit ?_ | refine JC.block ?_ | refine CT.past ?_ | refine CT.hit ?_ | refine CT.miss rfl ?_ | refine CT.blockEnd ?_ | refine JC.ret ?_ | refine CT.ret ?_ | refine CT.blockRet ?_ | refine JO.omit rfl rfl ?_ | (refine JR.lit rfl ⟨rfl, by decide, by decide, by decide⟩ ?_; intro _))
  refine JC.loop3 (fun (i : Nat) p q => [(1, .pointer (some ⟨bc, 0, none⟩)), (4, .slice p (headL c ++ idsL (c.parents.take i)).length q), (34, .slice a c.parents.length k), (35, .int .i64 (c.parents.length : Int)), (36, .int .i64 (i : Int))])
    (fun i p q => [.own bc 29 [.int .i64 c.ev.node, .int .i64 c.ev.seq, .int .i64 c.gen, .slice a c.parents.length k, .int .i64 c.op.kind, .string c.op.key, .string c.op.elem, .int .i64 c.op.n], .st (sl a k c.parents), .res (buf p q 5 (headL c ++ idsL (c.parents.take i)))])
    (fun i _ _ => i ≤ c.parents.length) (fun i _ _ => c.parents.length - i) 0 p0 q0 (Nat.zero_le _) (by rw [List.take_zero, show idsL [] = [] from rfl, List.append_nil]; infer_instance) ?_
  intro i p q hi
  repeat (first | refine CT.next ?_ | refine JC.seq ?_ | refine JC.region ?_ | refine JO.nil ?_ | refine JO.go rfl ?_ | refine JR.val (by first | exact OpV.move | exact OpV.assign | exact OpV.load | exact OpV.fieldAddr | exact OpV.indexEl | exact OpV.len | exact OpV.lss | exact OpV.not | exact OpV.pick_true | exact OpV.pick_false | exact OpV.inc (by omega) | exact OpV.eql | exact OpV.neq | exact OpV.leq | exact OpV.gtr | exact OpV.geq | exact OpV.extract | exact OpV.makeFunc | exact OpV.addn (by omega) | exact OpV.add (by omega) | exact OpV.subn (by omega) | exact OpV.sub (by omega) | exact OpV.lens | exact OpV.eqlID | exact OpV.neqID | exact OpV.eqlEv | exact OpV.eqlOp | exact OpV.eqlStr | exact OpV.neqStr | exact OpV.eqlNil | exact OpV.eqlBool | exact OpV.neqBool) rfl ?_ | (refine JR.alloc rfl ?_; intro _) | (refine JR.box rfl ?_; intro _) | refine JR.store ?_ | refine JC.cond_true ?_ | refine JC.cond_false ?_ | refine JC.skip ?_ | refine JC.exit ?_ | refine JC.block ?_ | refine CT.past ?_ | refine CT.hit ?_ | refine CT.miss rfl ?_ | refine CT.blockEnd ?_ | refine JC.ret ?_ | refine CT.ret ?_ | refine CT.blockRet ?_ | refine JO.omit rfl rfl ?_ | (refine JR.lit rfl ⟨rfl, by decide, by decide, by decide⟩ ?_; intro _))
  refine JC.test (fun hlt => ?_) (fun hge => ?_)
  · have hlt' : i < c.parents.length := by omega
    have hil := idsL_length (c.parents.take i)
    rw [List.length_take] at hil
    repeat (first | refine CT.next ?_ | refine JC.seq ?_ | refine JC.region ?_ | refine JO.nil ?_ | refine JO.go rfl ?_ | refine JR.val (by first | exact OpV.move | exact OpV.assign | exact OpV.load | exact OpV.fieldAddr | exact OpV.indexEl | exact OpV.len | exact OpV.lss | exact OpV.not | exact OpV.pick_true | exact OpV.pick_false | exact OpV.inc (by omega) | exact OpV.eql | exact OpV.neq | exact OpV.leq | exact OpV.gtr | exact OpV.geq | exact OpV.extract | exact OpV.makeFunc | exact OpV.addn (by omega) | exact OpV.add (by omega) | exact OpV.subn (by omega) | exact OpV.sub (by omega) | exact OpV.lens | exact OpV.eqlID | exact OpV.neqID | exact OpV.eqlEv | exact OpV.eqlOp | exact OpV.eqlStr | exact OpV.neqStr | exact OpV.eqlNil | exact OpV.eqlBool | exact OpV.neqBool) rfl ?_ | (refine JR.alloc rfl ?_; intro _) | (refine JR.box rfl ?_; intro _) | refine JR.store ?_ | refine JC.cond_true ?_ | refine JC.cond_false ?_ | refine JC.skip ?_ | refine JC.exit ?_ | refine JC.block ?_ | refine CT.past ?_ | refine CT.hit ?_ | refine CT.miss rfl ?_ | refine CT.blockEnd ?_ | refine JC.ret ?_ | refine CT.ret ?_ | refine CT.blockRet ?_ | refine JO.omit rfl rfl ?_ | (refine JR.lit rfl ⟨rfl, by decide, by decide, by decide⟩ ?_; intro _))
    refine JR.indexID rfl hlt' ?_
    intro b o
    repeat (first | refine CT.next ?_ | refine JC.seq ?_ | refine JC.region ?_ | refine JO.nil ?_ | refine JO.go rfl ?_ | refine JR.val (by first | exact OpV.move | exact OpV.assign | exact OpV.load | exact OpV.fieldAddr | exact OpV.indexEl | exact OpV.len | exact OpV.lss | exact OpV.not | exact OpV.pick_true | exact OpV.pick_false | exact OpV.inc (by omega) | exact OpV.eql | exact OpV.neq | exact OpV.leq | exact OpV.gtr | exact OpV.geq | exact OpV.extract | exact OpV.makeFunc | exact OpV.addn (by omega) | exact OpV.add (by omega) | exact OpV.subn (by omega) | exact OpV.sub (by omega) | exact OpV.lens | exact OpV.eqlID | exact OpV.neqID | exact OpV.eqlEv | exact OpV.eqlOp | exact OpV.eqlStr | exact OpV.neqStr | exact OpV.eqlNil | exact OpV.eqlBool | exact OpV.neqBool) rfl ?_ | (refine JR.alloc rfl ?_; intro _) | (refine JR.box rfl ?_; intro _) | refine JR.store ?_ | refine JC.cond_true ?_ | refine JC.cond_false ?_ | refine JC.skip ?_ | refine JC.exit ?_ | refine JC.block ?_ | refine CT.past ?_ | refine CT.hit ?_ | refine CT.miss rfl ?_ | refine CT.blockEnd ?_ | refine JC.ret ?_ | refine CT.ret ?_ | refine CT.blockRet ?_ | refine JO.omit rfl rfl ?_ | (refine JR.lit rfl ⟨rfl, by decide, by decide, by decide⟩ ?_; intro _))
    refine JR.val (OpV.sliceArr (by decide)) rfl ?_
    refine JO.go rfl ?_
    refine JR.appendBytes (M := (c.parents[i]).1) rfl rfl rfl (c.parents[i]).2 (by exact ⟨rfl, rfl, by decide⟩) (by rw [List.length_append]; omega) ?_
    intro p3 q3
    repeat (first | refine CT.next ?_ | refine JC.seq ?_ | refine JC.region ?_ | refine JO.nil ?_ | refine JO.go rfl ?_ | refine JR.val (by first | exact OpV.move | exact OpV.assign | exact OpV.load | exact OpV.fieldAddr | exact OpV.indexEl | exact OpV.len | exact OpV.lss | exact OpV.not | exact OpV.pick_true | exact OpV.pick_false | exact OpV.inc (by omega) | exact OpV.eql | exact OpV.neq | exact OpV.leq | exact OpV.gtr | exact OpV.geq | exact OpV.extract | exact OpV.makeFunc | exact OpV.addn (by omega) | exact OpV.add (by omega) | exact OpV.subn (by omega) | exact OpV.sub (by omega) | exact OpV.lens | exact OpV.eqlID | exact OpV.neqID | exact OpV.eqlEv | exact OpV.eqlOp | exact OpV.eqlStr | exact OpV.neqStr | exact OpV.eqlNil | exact OpV.eqlBool | exact OpV.neqBool) rfl ?_ | (refine JR.alloc rfl ?_; intro _) | (refine JR.box rfl ?_; intro _) | refine JR.store ?_ | refine JC.cond_true ?_ | refine JC.cond_false ?_ | refine JC.skip ?_ | refine JC.exit ?_ | refine JC.block ?_ | refine CT.past ?_ | refine CT.hit ?_ | refine CT.miss rfl ?_ | refine CT.blockEnd ?_ | refine JC.ret ?_ | refine CT.ret ?_ | refine CT.blockRet ?_ | refine JO.omit rfl rfl ?_ | (refine JR.lit rfl ⟨rfl, by decide, by decide, by decide⟩ ?_; intro _))
    have hnx : headL c ++ idsL (c.parents.take (i + 1)) = headL c ++ idsL (c.parents.take i) ++ (c.parents[i]).1 := by rw [idsL_next _ _ hlt', List.append_assoc]
    exact ⟨i + 1, p3, q3, by omega, by omega, by rw [hnx]; infer_instance⟩
  · obtain rfl : i = c.parents.length := by omega
    have hil := idsL_length c.parents
    rw [List.take_length]
    repeat (first | refine CT.next ?_ | refine JC.seq ?_ | refine JC.region ?_ | refine JO.nil ?_ | refine JO.go rfl ?_ | refine JR.val (by first | exact OpV.move | exact OpV.assign | exact OpV.load | exact OpV.fieldAddr | exact OpV.indexEl | exact OpV.len | exact OpV.lss | exact OpV.not | exact OpV.pick_true | exact OpV.pick_false | exact OpV.inc (by omega) | exact OpV.eql | exact OpV.neq | exact OpV.leq | exact OpV.gtr | exact OpV.geq | exact OpV.extract | exact OpV.makeFunc | exact OpV.addn (by omega) | exact OpV.add (by omega) | exact OpV.subn (by omega) | exact OpV.sub (by omega) | exact OpV.lens | exact OpV.eqlID | exact OpV.neqID | exact OpV.eqlEv | exact OpV.eqlOp | exact OpV.eqlStr | exact OpV.neqStr | exact OpV.eqlNil | exact OpV.eqlBool | exact OpV.neqBool) rfl ?_ | (refine JR.alloc rfl ?_; intro _) | (refine JR.box rfl ?_; intro _) | refine JR.store ?_ | refine JC.cond_true ?_ | refine JC.cond_false ?_ | refine JC.skip ?_ | refine JC.exit ?_ | refine JC.block ?_ | refine CT.past ?_ | refine CT.hit ?_ | refine CT.miss rfl ?_ | refine CT.blockEnd ?_ | refine JC.ret ?_ | refine CT.ret ?_ | refine CT.blockRet ?_ | refine JO.omit rfl rfl ?_ | (refine JR.lit rfl ⟨rfl, by decide, by decide, by decide⟩ ?_; intro _))
    refine JC.test (fun hnode => ?_) (fun hnode => ?_)
    · have hb : commitPut c = headL c ++ idsL c.parents := by rw [commitPut, if_pos hnode]
      rw [hb]
      repeat (first | refine CT.next ?_ | refine JC.seq ?_ | refine JC.region ?_ | refine JO.nil ?_ | refine JO.go rfl ?_ | refine JR.val (by first | exact OpV.move | exact OpV.assign | exact OpV.load | exact OpV.fieldAddr | exact OpV.indexEl | exact OpV.len | exact OpV.lss | exact OpV.not | exact OpV.pick_true | exact OpV.pick_false | exact OpV.inc (by omega) | exact OpV.eql | exact OpV.neq | exact OpV.leq | exact OpV.gtr | exact OpV.geq | exact OpV.extract | exact OpV.makeFunc | exact OpV.addn (by omega) | exact OpV.add (by omega) | exact OpV.subn (by omega) | exact OpV.sub (by omega) | exact OpV.lens | exact OpV.eqlID | exact OpV.neqID | exact OpV.eqlEv | exact OpV.eqlOp | exact OpV.eqlStr | exact OpV.neqStr | exact OpV.eqlNil | exact OpV.eqlBool | exact OpV.neqBool) rfl ?_ | (refine JR.alloc rfl ?_; intro _) | (refine JR.box rfl ?_; intro _) | refine JR.store ?_ | refine JC.cond_true ?_ | refine JC.cond_false ?_ | refine JC.skip ?_ | refine JC.exit ?_ | refine JC.block ?_ | refine CT.past ?_ | refine CT.hit ?_ | refine CT.miss rfl ?_ | refine CT.blockEnd ?_ | refine JC.ret ?_ | refine CT.ret ?_ | refine CT.blockRet ?_ | refine JO.omit rfl rfl ?_ | (refine JR.lit rfl ⟨rfl, by decide, by decide, by decide⟩ ?_; intro _))
      exact CT.done (p, q) rfl (fun w ho => Hold.left (Γ := [.st (sl p q (headL c ++ idsL c.parents))]) (Hold.pub (ho.ent : Hold _ _ [.res (buf p q 5 (headL c ++ idsL c.parents))] w)))
    · have hb : commitPut c = headL c ++ idsL c.parents ++ opPut c.op := by rw [commitPut, if_neg hnode]
      have hop := hm.op hnode
      have hput : putOp c.op = (opPut c.op, 0) := by simp [putOp, hop]
      have hopl := (put_facts c.op hop).2.2
      obtain ⟨_, _, _, _, _, _, _, _, hopl⟩ := hopl
      rw [hb]
      repeat (first | refine CT.next ?_ | refine JC.seq ?_ | refine JC.region ?_ | refine JO.nil ?_ | refine JO.go rfl ?_ | refine JR.val (by first | exact OpV.move | exact OpV.assign | exact OpV.load | exact OpV.fieldAddr | exact OpV.indexEl | exact OpV.len | exact OpV.lss | exact OpV.not | exact OpV.pick_true | exact OpV.pick_false | exact OpV.inc (by omega) | exact OpV.eql | exact OpV.neq | exact OpV.leq | exact OpV.gtr | exact OpV.geq | exact OpV.extract | exact OpV.makeFunc | exact OpV.addn (by omega) | exact OpV.add (by omega) | exact OpV.subn (by omega) | exact OpV.sub (by omega) | exact OpV.lens | exact OpV.eqlID | exact OpV.neqID | exact OpV.eqlEv | exact OpV.eqlOp | exact OpV.eqlStr | exact OpV.neqStr | exact OpV.eqlNil | exact OpV.eqlBool | exact OpV.neqBool) rfl ?_ | (refine JR.alloc rfl ?_; intro _) | (refine JR.box rfl ?_; intro _) | refine JR.store ?_ | refine JC.cond_true ?_ | refine JC.cond_false ?_ | refine JC.skip ?_ | refine JC.exit ?_ | refine JC.block ?_ | refine CT.past ?_ | refine CT.hit ?_ | refine CT.miss rfl ?_ | refine CT.blockEnd ?_ | refine JC.ret ?_ | refine CT.ret ?_ | refine CT.blockRet ?_ | refine JO.omit rfl rfl ?_ | (refine JR.lit rfl ⟨rfl, by decide, by decide, by decide⟩ ?_; intro _))
      refine JR.callSlT (L := opPut c.op) (us' := [.int .i64 0]) rfl (fun w1 hw => put_ops_ok w1 _ c.op ht.1 ht.2 hop) ?_
      intro p4 q4
      repeat (first | refine CT.next ?_ | refine JC.seq ?_ | refine JC.region ?_ | refine JO.nil ?_ | refine JO.go rfl ?_ | refine JR.val (by first | exact OpV.move | exact OpV.assign | exact OpV.load | exact OpV.fieldAddr | exact OpV.indexEl | exact OpV.len | exact OpV.lss | exact OpV.not | exact OpV.pick_true | exact OpV.pick_false | exact OpV.inc (by omega) | exact OpV.eql | exact OpV.neq | exact OpV.leq | exact OpV.gtr | exact OpV.geq | exact OpV.extract | exact OpV.makeFunc | exact OpV.addn (by omega) | exact OpV.add (by omega) | exact OpV.subn (by omega) | exact OpV.sub (by omega) | exact OpV.lens | exact OpV.eqlID | exact OpV.neqID | exact OpV.eqlEv | exact OpV.eqlOp | exact OpV.eqlStr | exact OpV.neqStr | exact OpV.eqlNil | exact OpV.eqlBool | exact OpV.neqBool) rfl ?_ | (refine JR.alloc rfl ?_; intro _) | (refine JR.box rfl ?_; intro _) | refine JR.store ?_ | refine JC.cond_true ?_ | refine JC.cond_false ?_ | refine JC.skip ?_ | refine JC.exit ?_ | refine JC.block ?_ | refine CT.past ?_ | refine CT.hit ?_ | refine CT.miss rfl ?_ | refine CT.blockEnd ?_ | refine JC.ret ?_ | refine CT.ret ?_ | refine CT.blockRet ?_ | refine JO.omit rfl rfl ?_ | (refine JR.lit rfl ⟨rfl, by decide, by decide, by decide⟩ ?_; intro _))
      refine JR.appendSl rfl (by exact ⟨rfl, rfl, by decide⟩) (by rw [List.length_append]; omega) ?_
      intro p5 q5
      repeat (first | refine CT.next ?_ | refine JC.seq ?_ | refine JC.region ?_ | refine JO.nil ?_ | refine JO.go rfl ?_ | refine JR.val (by first | exact OpV.move | exact OpV.assign | exact OpV.load | exact OpV.fieldAddr | exact OpV.indexEl | exact OpV.len | exact OpV.lss | exact OpV.not | exact OpV.pick_true | exact OpV.pick_false | exact OpV.inc (by omega) | exact OpV.eql | exact OpV.neq | exact OpV.leq | exact OpV.gtr | exact OpV.geq | exact OpV.extract | exact OpV.makeFunc | exact OpV.addn (by omega) | exact OpV.add (by omega) | exact OpV.subn (by omega) | exact OpV.sub (by omega) | exact OpV.lens | exact OpV.eqlID | exact OpV.neqID | exact OpV.eqlEv | exact OpV.eqlOp | exact OpV.eqlStr | exact OpV.neqStr | exact OpV.eqlNil | exact OpV.eqlBool | exact OpV.neqBool) rfl ?_ | (refine JR.alloc rfl ?_; intro _) | (refine JR.box rfl ?_; intro _) | refine JR.store ?_ | refine JC.cond_true ?_ | refine JC.cond_false ?_ | refine JC.skip ?_ | refine JC.exit ?_ | refine JC.block ?_ | refine CT.past ?_ | refine CT.hit ?_ | refine CT.miss rfl ?_ | refine CT.blockEnd ?_ | refine JC.ret ?_ | refine CT.ret ?_ | refine CT.blockRet ?_ | refine JO.omit rfl rfl ?_ | (refine JR.lit rfl ⟨rfl, by decide, by decide, by decide⟩ ?_; intro _))
      exact CT.done (p5, q5) rfl (fun w ho => Hold.left (Γ := [.st (sl p5 q5 (headL c ++ idsL c.parents ++ opPut c.op))]) (Hold.pub (ho.ent : Hold _ _ [.res (buf p5 q5 5 (headL c ++ idsL c.parents ++ opPut c.op))] w)))

theorem commitPut_length {c : Commit} (h : may c = true) : (commitPut c).length ≤ 400 := by
  have hm := may_spec h
  have h1 := headL_length c
  have h2 := idsL_length c.parents
  have h3 := hm.par
  unfold commitPut
  split
  · rw [List.length_append]; omega
  · rename_i hn
    obtain ⟨_, _, _, _, _, _, _, _, h4⟩ := (put_facts c.op (hm.op hn)).2.2
    rw [List.length_append, List.length_append]; omega
def zeroID : ID := ⟨List.replicate 32 0, rfl⟩
/-- A commit's id, and the error. -/
def hashC (c : Commit) : ID × Int := if may c then (sumI (commitPut c), 0) else (zeroID, 1)

set_option maxHeartbeats 1000000 in
theorem hash_commit (w : World) (F : Nat → Prop) (c : Commit) (a : Option Addr) (k : Nat) (h : (sl a k c.parents).holds F w) (ht : texts c) :
    GivesV Try.prog 19 [commitV c a k] w F (.tuple ⟨[.agg ⟨idc (hashC c).1⟩, .int .i64 (hashC c).2]⟩) := by
  refine gives_of Try.func19 rfl Try.ntmps19 rfl rfl [.st (sl a k c.parents)] (.start1 h) ?_
  repeat (first | refine CT.next ?_ | refine JC.seq ?_ | refine JC.region ?_ | refine JO.nil ?_ | refine JO.go rfl ?_ | refine JR.val (by first | exact OpV.move | exact OpV.assign | exact OpV.load | exact OpV.fieldAddr | exact OpV.indexEl | exact OpV.len | exact OpV.lss | exact OpV.not | exact OpV.pick_true | exact OpV.pick_false | exact OpV.inc (by omega) | exact OpV.eql | exact OpV.neq | exact OpV.leq | exact OpV.gtr | exact OpV.geq | exact OpV.extract | exact OpV.makeFunc | exact OpV.addn (by omega) | exact OpV.add (by omega) | exact OpV.subn (by omega) | exact OpV.sub (by omega) | exact OpV.lens | exact OpV.eqlID | exact OpV.neqID | exact OpV.eqlEv | exact OpV.eqlOp | exact OpV.eqlStr | exact OpV.neqStr | exact OpV.eqlNil | exact OpV.eqlBool | exact OpV.neqBool) rfl ?_ | (refine JR.alloc rfl ?_; intro _) | (refine JR.box rfl ?_; intro _) | refine JR.store ?_ | refine JC.cond_true ?_ | refine JC.cond_false ?_ | refine JC.skip ?_ | refine JC.exit ?_ | refine JC.block ?_ | refine CT.past ?_ | refine CT.hit ?_ | refine CT.miss rfl ?_ | refine CT.blockEnd ?_ | refine JC.ret ?_ | refine CT.ret ?_ | refine CT.blockRet ?_ | refine JO.omit rfl rfl ?_ | (refine JR.lit rfl ⟨rfl, by decide, by decide, by decide⟩ ?_; intro _))
  rename_i bc bi
  refine JR.callSlT (L := (putCommit c).1) (us' := [.int .i64 (putCommit c).2]) rfl (fun w1 hw => put_commit w1 _ c a k hw.get ht) ?_
  intro p q
  repeat (first | refine CT.next ?_ | refine JC.seq ?_ | refine JC.region ?_ | refine JO.nil ?_ | refine JO.go rfl ?_ | refine JR.val (by first | exact OpV.move | exact OpV.assign | exact OpV.load | exact OpV.fieldAddr | exact OpV.indexEl | exact OpV.len | exact OpV.lss | exact OpV.not | exact OpV.pick_true | exact OpV.pick_false | exact OpV.inc (by omega) | exact OpV.eql | exact OpV.neq | exact OpV.leq | exact OpV.gtr | exact OpV.geq | exact OpV.extract | exact OpV.makeFunc | exact OpV.addn (by omega) | exact OpV.add (by omega) | exact OpV.subn (by omega) | exact OpV.sub (by omega) | exact OpV.lens | exact OpV.eqlID | exact OpV.neqID | exact OpV.eqlEv | exact OpV.eqlOp | exact OpV.eqlStr | exact OpV.neqStr | exact OpV.eqlNil | exact OpV.eqlBool | exact OpV.neqBool) rfl ?_ | (refine JR.alloc rfl ?_; intro _) | (refine JR.box rfl ?_; intro _) | refine JR.store ?_ | refine JC.cond_true ?_ | refine JC.cond_false ?_ | refine JC.skip ?_ | refine JC.exit ?_ | refine JC.block ?_ | refine CT.past ?_ | refine CT.hit ?_ | refine CT.miss rfl ?_ | refine CT.blockEnd ?_ | refine JC.ret ?_ | refine CT.ret ?_ | refine CT.blockRet ?_ | refine JO.omit rfl rfl ?_ | (refine JR.lit rfl ⟨rfl, by decide, by decide, by decide⟩ ?_; intro _))
  refine JC.test (fun h1 => ?_) (fun h1 => ?_)
  · have hm : may c = false := by
      rw [← Bool.not_eq_true]
      intro hm
      simp [putCommit, hm] at h1
    have h2 : hashC c = (zeroID, 1) := by simp [hashC, hm]
    have h3 : (putCommit c).2 = 1 := by simp [putCommit, hm]
    rw [h2, h3]
    repeat (first | refine CT.next ?_ | refine JC.seq ?_ | refine JC.region ?_ | refine JO.nil ?_ | refine JO.go rfl ?_ | refine JR.val (by first | exact OpV.move | exact OpV.assign | exact OpV.load | exact OpV.fieldAddr | exact OpV.indexEl | exact OpV.len | exact OpV.lss | exact OpV.not | exact OpV.pick_true | exact OpV.pick_false | exact OpV.inc (by omega) | exact OpV.eql | exact OpV.neq | exact OpV.leq | exact OpV.gtr | exact OpV.geq | exact OpV.extract | exact OpV.makeFunc | exact OpV.addn (by omega) | exact OpV.add (by omega) | exact OpV.subn (by omega) | exact OpV.sub (by omega) | exact OpV.lens | exact OpV.eqlID | exact OpV.neqID | exact OpV.eqlEv | exact OpV.eqlOp | exact OpV.eqlStr | exact OpV.neqStr | exact OpV.eqlNil | exact OpV.eqlBool | exact OpV.neqBool) rfl ?_ | (refine JR.alloc rfl ?_; intro _) | (refine JR.box rfl ?_; intro _) | refine JR.store ?_ | refine JC.cond_true ?_ | refine JC.cond_false ?_ | refine JC.skip ?_ | refine JC.exit ?_ | refine JC.block ?_ | refine CT.past ?_ | refine CT.hit ?_ | refine CT.miss rfl ?_ | refine CT.blockEnd ?_ | refine JC.ret ?_ | refine CT.ret ?_ | refine CT.blockRet ?_ | refine JO.omit rfl rfl ?_ | (refine JR.lit rfl ⟨rfl, by decide, by decide, by decide⟩ ?_; intro _))
    refine JR.val (OpV.build [.int .u8 0, .int .u8 0, .int .u8 0, .int .u8 0, .int .u8 0, .int .u8 0, .int .u8 0, .int .u8 0, .int .u8 0, .int .u8 0, .int .u8 0, .int .u8 0, .int .u8 0, .int .u8 0, .int .u8 0, .int .u8 0, .int .u8 0, .int .u8 0, .int .u8 0, .int .u8 0, .int .u8 0, .int .u8 0, .int .u8 0, .int .u8 0, .int .u8 0, .int .u8 0, .int .u8 0, .int .u8 0, .int .u8 0, .int .u8 0, .int .u8 0, .int .u8 0] (by kernel_rfl)) rfl ?_
    refine JO.reslot 13 (.agg ⟨idc zeroID⟩) rfl ?_
    repeat (first | refine CT.next ?_ | refine JC.seq ?_ | refine JC.region ?_ | refine JO.nil ?_ | refine JO.go rfl ?_ | refine JR.val (by first | exact OpV.move | exact OpV.assign | exact OpV.load | exact OpV.fieldAddr | exact OpV.indexEl | exact OpV.len | exact OpV.lss | exact OpV.not | exact OpV.pick_true | exact OpV.pick_false | exact OpV.inc (by omega) | exact OpV.eql | exact OpV.neq | exact OpV.leq | exact OpV.gtr | exact OpV.geq | exact OpV.extract | exact OpV.makeFunc | exact OpV.addn (by omega) | exact OpV.add (by omega) | exact OpV.subn (by omega) | exact OpV.sub (by omega) | exact OpV.lens | exact OpV.eqlID | exact OpV.neqID | exact OpV.eqlEv | exact OpV.eqlOp | exact OpV.eqlStr | exact OpV.neqStr | exact OpV.eqlNil | exact OpV.eqlBool | exact OpV.neqBool) rfl ?_ | (refine JR.alloc rfl ?_; intro _) | (refine JR.box rfl ?_; intro _) | refine JR.store ?_ | refine JC.cond_true ?_ | refine JC.cond_false ?_ | refine JC.skip ?_ | refine JC.exit ?_ | refine JC.block ?_ | refine CT.past ?_ | refine CT.hit ?_ | refine CT.miss rfl ?_ | refine CT.blockEnd ?_ | refine JC.ret ?_ | refine CT.ret ?_ | refine CT.blockRet ?_ | refine JO.omit rfl rfl ?_ | (refine JR.lit rfl ⟨rfl, by decide, by decide, by decide⟩ ?_; intro _))
    exact CT.done () rfl (fun w ho => ho.ent)
  · have hm : may c = true := by
      rw [← Bool.not_eq_false]
      intro hm
      simp [putCommit, hm] at h1
    have h2 : hashC c = (sumI (commitPut c), 0) := by simp [hashC, hm]
    have h3 : putCommit c = (commitPut c, 0) := by simp [putCommit, hm]
    have hl := commitPut_length hm
    rw [h2, h3]
    repeat (first | refine CT.next ?_ | refine JC.seq ?_ | refine JC.region ?_ | refine JO.nil ?_ | refine JO.go rfl ?_ | refine JR.val (by first | exact OpV.move | exact OpV.assign | exact OpV.load | exact OpV.fieldAddr | exact OpV.indexEl | exact OpV.len | exact OpV.lss | exact OpV.not | exact OpV.pick_true | exact OpV.pick_false | exact OpV.inc (by omega) | exact OpV.eql | exact OpV.neq | exact OpV.leq | exact OpV.gtr | exact OpV.geq | exact OpV.extract | exact OpV.makeFunc | exact OpV.addn (by omega) | exact OpV.add (by omega) | exact OpV.subn (by omega) | exact OpV.sub (by omega) | exact OpV.lens | exact OpV.eqlID | exact OpV.neqID | exact OpV.eqlEv | exact OpV.eqlOp | exact OpV.eqlStr | exact OpV.neqStr | exact OpV.eqlNil | exact OpV.eqlBool | exact OpV.neqBool) rfl ?_ | (refine JR.alloc rfl ?_; intro _) | (refine JR.box rfl ?_; intro _) | refine JR.store ?_ | refine JC.cond_true ?_ | refine JC.cond_false ?_ | refine JC.skip ?_ | refine JC.exit ?_ | refine JC.block ?_ | refine CT.past ?_ | refine CT.hit ?_ | refine CT.miss rfl ?_ | refine CT.blockEnd ?_ | refine JC.ret ?_ | refine CT.ret ?_ | refine CT.blockRet ?_ | refine JO.omit rfl rfl ?_ | (refine JR.lit rfl ⟨rfl, by decide, by decide, by decide⟩ ?_; intro _))
    refine JR.callV rfl (fun w1 hw => sum_sha w1 _ p q (commitPut c) hw.get (by omega)) ?_
    repeat (first | refine CT.next ?_ | refine JC.seq ?_ | refine JC.region ?_ | refine JO.nil ?_ | refine JO.go rfl ?_ | refine JR.val (by first | exact OpV.move | exact OpV.assign | exact OpV.load | exact OpV.fieldAddr | exact OpV.indexEl | exact OpV.len | exact OpV.lss | exact OpV.not | exact OpV.pick_true | exact OpV.pick_false | exact OpV.inc (by omega) | exact OpV.eql | exact OpV.neq | exact OpV.leq | exact OpV.gtr | exact OpV.geq | exact OpV.extract | exact OpV.makeFunc | exact OpV.addn (by omega) | exact OpV.add (by omega) | exact OpV.subn (by omega) | exact OpV.sub (by omega) | exact OpV.lens | exact OpV.eqlID | exact OpV.neqID | exact OpV.eqlEv | exact OpV.eqlOp | exact OpV.eqlStr | exact OpV.neqStr | exact OpV.eqlNil | exact OpV.eqlBool | exact OpV.neqBool) rfl ?_ | (refine JR.alloc rfl ?_; intro _) | (refine JR.box rfl ?_; intro _) | refine JR.store ?_ | refine JC.cond_true ?_ | refine JC.cond_false ?_ | refine JC.skip ?_ | refine JC.exit ?_ | refine JC.block ?_ | refine CT.past ?_ | refine CT.hit ?_ | refine CT.miss rfl ?_ | refine CT.blockEnd ?_ | refine JC.ret ?_ | refine CT.ret ?_ | refine CT.blockRet ?_ | refine JO.omit rfl rfl ?_ | (refine JR.lit rfl ⟨rfl, by decide, by decide, by decide⟩ ?_; intro _))
    exact CT.done () rfl (fun w ho => ho.ent)
end Ab
end Go.Proofs.Ytcmfemfndadfmaa
