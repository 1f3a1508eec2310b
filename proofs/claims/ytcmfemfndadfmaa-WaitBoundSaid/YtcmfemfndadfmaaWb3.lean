/- Lemmas for the walks, part 3 of 7: Lib, WalkA, Sort, Ord, Lays, WalkB. -/
import Derived.Test.YtcmfemfndadfmaaWb2
import Derived.Test.YtcmfemfndadfmaaWb1
import Derived.Shelf.SlSortCmp.NoneTotal
import Derived.Shelf.SlSortCmp.QuietGrown
import Derived.Deep.Quiet
import Derived.Deep.QuietTactic
import Derived.BigQuiet
import Derived.WalkKit
import Derived.Test.YtcmfemfndadfmaaChecked
import Derived.KernelRfl
/- Contracts of Go's library at the program's types: slices.Clone, Equal, Index, Contains. -/
namespace Go.Proofs.Ytcmfemfndadfmaa
namespace Ab
open Go Go.RowKit
set_option linter.unusedVariables false
set_option linter.unusedSimpArgs false
set_option synthInstance.maxSize 4000
set_option synthInstance.maxHeartbeats 400000
attribute [local irreducible] JC JO JR JQ andThen inBlock OpV Gives retTo JM JS

theorem nil_of_none {α : Type} [Cell α] {c : Nat} {L : List α} {F : Nat → Prop} {w : World} (h : (sl none c L).holds F w) : L = [] := by
  by_cases hL : L = []
  · exact hL
  · obtain ⟨b, off, h1, _⟩ := h.2.2.2 hL; cases h1

theorem clone_ids_buf (w : World) (F : Nat → Prop) (a : Option Addr) (c : Nat) (L : List ID) (h : (sl a c L).holds F w) (hl : L.length ≤ 34359738368) :
    GivesBuf Try.prog 34 [.slice a L.length c] w F 44 L := by
  refine gives_of Try.func34 rfl Try.ntmps34 rfl rfl [.st (sl a c L)] (.start1 h) ?_
  repeat (first | refine CT.next ?_ | refine JC.seq ?_ | refine JC.region ?_ | refine JO.nil ?_ | refine JO.go rfl ?_ | refine JR.val (by first | exact OpV.move | exact OpV.assign | exact OpV.load | exact OpV.fieldAddr | exact OpV.indexEl | exact OpV.len | exact OpV.lss | exact OpV.not | exact OpV.pick_true | exact OpV.pick_false | exact OpV.inc (by omega) | exact OpV.eql | exact OpV.neq | exact OpV.leq | exact OpV.gtr | exact OpV.geq | exact OpV.extract | exact OpV.makeFunc | exact OpV.addn (by omega) | exact OpV.add (by omega) | exact OpV.subn (by omega) | exact OpV.sub (by omega) | exact OpV.lens | exact OpV.eqlID | exact OpV.neqID | exact OpV.eqlEv | exact OpV.eqlOp | exact OpV.eqlStr | exact OpV.neqStr | exact OpV.eqlNil | exact OpV.eqlBool | exact OpV.neqBool) rfl ?_ | (refine JR.alloc rfl ?_; intro _) | (refine JR.box rfl ?_; intro _) | refine JR.store ?_ | refine JC.cond_true ?_ | refine JC.cond_false ?_ | refine JC.skip ?_ | refine JC.exit ?_ | refine JC.block ?_ | refine CT.past ?_ | refine CT.hit ?_ | refine CT.miss rfl ?_ | refine CT.blockEnd ?_ | refine JC.ret ?_ | refine CT.ret ?_ | refine CT.blockRet ?_ | refine JO.omit rfl rfl ?_ | (refine JR.lit rfl ⟨rfl, by decide, by decide, by decide⟩ ?_; intro _))
  refine JC.test (fun ha => ?_) (fun ha => ?_)
  · cases a with
    | some a => cases ha
    | none =>
      obtain rfl := nil_of_none h
      repeat (first | refine CT.next ?_ | refine JC.seq ?_ | refine JC.region ?_ | refine JO.nil ?_ | refine JO.go rfl ?_ | refine JR.val (by first | exact OpV.move | exact OpV.assign | exact OpV.load | exact OpV.fieldAddr | exact OpV.indexEl | exact OpV.len | exact OpV.lss | exact OpV.not | exact OpV.pick_true | exact OpV.pick_false | exact OpV.inc (by omega) | exact OpV.eql | exact OpV.neq | exact OpV.leq | exact OpV.gtr | exact OpV.geq | exact OpV.extract | exact OpV.makeFunc | exact OpV.addn (by omega) | exact OpV.add (by omega) | exact OpV.subn (by omega) | exact OpV.sub (by omega) | exact OpV.lens | exact OpV.eqlID | exact OpV.neqID | exact OpV.eqlEv | exact OpV.eqlOp | exact OpV.eqlStr | exact OpV.neqStr | exact OpV.eqlNil | exact OpV.eqlBool | exact OpV.neqBool) rfl ?_ | (refine JR.alloc rfl ?_; intro _) | (refine JR.box rfl ?_; intro _) | refine JR.store ?_ | refine JC.cond_true ?_ | refine JC.cond_false ?_ | refine JC.skip ?_ | refine JC.exit ?_ | refine JC.block ?_ | refine CT.past ?_ | refine CT.hit ?_ | refine CT.miss rfl ?_ | refine CT.blockEnd ?_ | refine JC.ret ?_ | refine CT.ret ?_ | refine CT.blockRet ?_ | refine JO.omit rfl rfl ?_ | (refine JR.lit rfl ⟨rfl, by decide, by decide, by decide⟩ ?_; intro _))
      exact CT.done (none, 0) rfl (fun w ho => ho.bufNil)
  · repeat (first | refine CT.next ?_ | refine JC.seq ?_ | refine JC.region ?_ | refine JO.nil ?_ | refine JO.go rfl ?_ | refine JR.val (by first | exact OpV.move | exact OpV.assign | exact OpV.load | exact OpV.fieldAddr | exact OpV.indexEl | exact OpV.len | exact OpV.lss | exact OpV.not | exact OpV.pick_true | exact OpV.pick_false | exact OpV.inc (by omega) | exact OpV.eql | exact OpV.neq | exact OpV.leq | exact OpV.gtr | exact OpV.geq | exact OpV.extract | exact OpV.makeFunc | exact OpV.addn (by omega) | exact OpV.add (by omega) | exact OpV.subn (by omega) | exact OpV.sub (by omega) | exact OpV.lens | exact OpV.eqlID | exact OpV.neqID | exact OpV.eqlEv | exact OpV.eqlOp | exact OpV.eqlStr | exact OpV.neqStr | exact OpV.eqlNil | exact OpV.eqlBool | exact OpV.neqBool) rfl ?_ | (refine JR.alloc rfl ?_; intro _) | (refine JR.box rfl ?_; intro _) | refine JR.store ?_ | refine JC.cond_true ?_ | refine JC.cond_false ?_ | refine JC.skip ?_ | refine JC.exit ?_ | refine JC.block ?_ | refine CT.past ?_ | refine CT.hit ?_ | refine CT.miss rfl ?_ | refine CT.blockEnd ?_ | refine JC.ret ?_ | refine CT.ret ?_ | refine CT.blockRet ?_ | refine JO.omit rfl rfl ?_ | (refine JR.lit rfl ⟨rfl, by decide, by decide, by decide⟩ ?_; intro _))
    refine JR.lit0 (α := ID) rfl ?_
    intro a2
    repeat (first | refine CT.next ?_ | refine JC.seq ?_ | refine JC.region ?_ | refine JO.nil ?_ | refine JO.go rfl ?_ | refine JR.val (by first | exact OpV.move | exact OpV.assign | exact OpV.load | exact OpV.fieldAddr | exact OpV.indexEl | exact OpV.len | exact OpV.lss | exact OpV.not | exact OpV.pick_true | exact OpV.pick_false | exact OpV.inc (by omega) | exact OpV.eql | exact OpV.neq | exact OpV.leq | exact OpV.gtr | exact OpV.geq | exact OpV.extract | exact OpV.makeFunc | exact OpV.addn (by omega) | exact OpV.add (by omega) | exact OpV.subn (by omega) | exact OpV.sub (by omega) | exact OpV.lens | exact OpV.eqlID | exact OpV.neqID | exact OpV.eqlEv | exact OpV.eqlOp | exact OpV.eqlStr | exact OpV.neqStr | exact OpV.eqlNil | exact OpV.eqlBool | exact OpV.neqBool) rfl ?_ | (refine JR.alloc rfl ?_; intro _) | (refine JR.box rfl ?_; intro _) | refine JR.store ?_ | refine JC.cond_true ?_ | refine JC.cond_false ?_ | refine JC.skip ?_ | refine JC.exit ?_ | refine JC.block ?_ | refine CT.past ?_ | refine CT.hit ?_ | refine CT.miss rfl ?_ | refine CT.blockEnd ?_ | refine JC.ret ?_ | refine CT.ret ?_ | refine CT.blockRet ?_ | refine JO.omit rfl rfl ?_ | (refine JR.lit rfl ⟨rfl, by decide, by decide, by decide⟩ ?_; intro _))
    refine JR.appendSl rfl (by exact ⟨rfl, rfl, by decide⟩) (by simpa using hl) ?_
    intro a3 c3
    rw [List.nil_append]
    repeat (first | refine CT.next ?_ | refine JC.seq ?_ | refine JC.region ?_ | refine JO.nil ?_ | refine JO.go rfl ?_ | refine JR.val (by first | exact OpV.move | exact OpV.assign | exact OpV.load | exact OpV.fieldAddr | exact OpV.indexEl | exact OpV.len | exact OpV.lss | exact OpV.not | exact OpV.pick_true | exact OpV.pick_false | exact OpV.inc (by omega) | exact OpV.eql | exact OpV.neq | exact OpV.leq | exact OpV.gtr | exact OpV.geq | exact OpV.extract | exact OpV.makeFunc | exact OpV.addn (by omega) | exact OpV.add (by omega) | exact OpV.subn (by omega) | exact OpV.sub (by omega) | exact OpV.lens | exact OpV.eqlID | exact OpV.neqID | exact OpV.eqlEv | exact OpV.eqlOp | exact OpV.eqlStr | exact OpV.neqStr | exact OpV.eqlNil | exact OpV.eqlBool | exact OpV.neqBool) rfl ?_ | (refine JR.alloc rfl ?_; intro _) | (refine JR.box rfl ?_; intro _) | refine JR.store ?_ | refine JC.cond_true ?_ | refine JC.cond_false ?_ | refine JC.skip ?_ | refine JC.exit ?_ | refine JC.block ?_ | refine CT.past ?_ | refine CT.hit ?_ | refine CT.miss rfl ?_ | refine CT.blockEnd ?_ | refine JC.ret ?_ | refine CT.ret ?_ | refine CT.blockRet ?_ | refine JO.omit rfl rfl ?_ | (refine JR.lit rfl ⟨rfl, by decide, by decide, by decide⟩ ?_; intro _))
    exact CT.done (a3, c3) rfl (fun w ho => ho.ent)

theorem clone_ids (w : World) (F : Nat → Prop) (a : Option Addr) (c : Nat) (L : List ID) (h : (sl a c L).holds F w) (hl : L.length ≤ 34359738368) :
    GivesSl Try.prog 34 [.slice a L.length c] w F L := (clone_ids_buf w F a c L h hl).sl
theorem equal_ids (w : World) (F : Nat → Prop) (a b : Option Addr) (c k : Nat) (L M : List ID) (h : (sl a c L).holds F w) (h' : (sl b k M).holds F w) :
    GivesV Try.prog 26 [.slice a L.length c, .slice b M.length k] w F (.bool (decide (L = M))) := by
  have hL : L.length < 9223372036854775807 := by have := h.2.2.1; simp only [lim] at this; omega
  refine gives_of Try.func26 rfl Try.ntmps26 rfl rfl [.st (sl a c L), .st (sl b k M)] (.start2 h h') ?_
  repeat (first | refine CT.next ?_ | refine JC.seq ?_ | refine JC.region ?_ | refine JO.nil ?_ | refine JO.go rfl ?_ | refine JR.val (by first | exact OpV.move | exact OpV.assign | exact OpV.load | exact OpV.fieldAddr | exact OpV.indexEl | exact OpV.len | exact OpV.lss | exact OpV.not | exact OpV.pick_true | exact OpV.pick_false | exact OpV.inc (by omega) | exact OpV.eql | exact OpV.neq | exact OpV.leq | exact OpV.gtr | exact OpV.geq | exact OpV.extract | exact OpV.makeFunc | exact OpV.addn (by omega) | exact OpV.add (by omega) | exact OpV.subn (by omega) | exact OpV.sub (by omega) | exact OpV.lens | exact OpV.eqlID | exact OpV.neqID | exact OpV.eqlEv | exact OpV.eqlOp | exact OpV.eqlStr | exact OpV.neqStr | exact OpV.eqlNil | exact OpV.eqlBool | exact OpV.neqBool) rfl ?_ | (refine JR.alloc rfl ?_; intro _) | (refine JR.box rfl ?_; intro _) | refine JR.store ?_ | refine JC.cond_true ?_ | refine JC.cond_false ?_ | refine JC.skip ?_ | refine JC.exit ?_ | refine JC.block ?_ | refine CT.past ?_ | refine CT.hit ?_ | refine CT.miss rfl ?_ | refine CT.blockEnd ?_ | refine JC.ret ?_ | refine CT.ret ?_ | refine CT.blockRet ?_ | refine JO.omit rfl rfl ?_ | (refine JR.lit rfl ⟨rfl, by decide, by decide, by decide⟩ ?_; intro _))
  refine JC.test (fun hne => ?_) (fun he => ?_)
  · repeat (first | refine CT.next ?_ | refine JC.seq ?_ | refine JC.region ?_ | refine JO.nil ?_ | refine JO.go rfl ?_ | refine JR.val (by first | exact OpV.move | exact OpV.assign | exact OpV.load | exact OpV.fieldAddr | exact OpV.indexEl | exact OpV.len | exact OpV.lss | exact OpV.not | exact OpV.pick_true | exact OpV.pick_false | exact OpV.inc (by omega) | exact OpV.eql | exact OpV.neq | exact OpV.leq | exact OpV.gtr | exact OpV.geq | exact OpV.extract | exact OpV.makeFunc | exact OpV.addn (by omega) | exact OpV.add (by omega) | exact OpV.subn (by omega) | exact OpV.sub (by omega) | exact OpV.lens | exact OpV.eqlID | exact OpV.neqID | exact OpV.eqlEv | exact OpV.eqlOp | exact OpV.eqlStr | exact OpV.neqStr | exact OpV.eqlNil | exact OpV.eqlBool | exact OpV.neqBool) rfl ?_ | (refine JR.alloc rfl ?_; intro _) | (refine JR.box rfl ?_; intro _) | refine JR.store ?_ | refine JC.cond_true ?_ | refine JC.cond_false ?_ | refine JC.skip ?_ | refine JC.exit ?_ | refine JC.block ?_ | refine CT.past ?_ | refine CT.hit ?_ | refine CT.miss rfl ?_ | refine CT.blockEnd ?_ | refine JC.ret ?_ | refine CT.ret ?_ | refine CT.blockRet ?_ | refine JO.omit rfl rfl ?_ | (refine JR.lit rfl ⟨rfl, by decide, by decide, by decide⟩ ?_; intro _))
    refine CT.done () ?_ (fun w ho => ho.ent)
    have : ¬ L = M := fun h => hne (by rw [h])
    simp [packed, this]
  · have hlen : L.length = M.length := by omega
    repeat (first | refine CT.next ?_ | refine JC.seq ?_ | refine JC.region ?_ | refine JO.nil ?_ | refine JO.go rfl ?_ | refine JR.val (by first | exact OpV.move | exact OpV.assign | exact OpV.load | exact OpV.fieldAddr | exact OpV.indexEl | exact OpV.len | exact OpV.lss | exact OpV.not | exact OpV.pick_true | exact OpV.pick_false | exact OpV.inc (by omega) | exact OpV.eql | exact OpV.neq | exact OpV.leq | exact OpV.gtr | exact OpV.geq | exact OpV.extract | exact OpV.makeFunc | exact OpV.addn (by omega) | exact OpV.add (by omega) | exact OpV.subn (by omega) | exact OpV.sub (by omega) | exact OpV.lens | exact OpV.eqlID | exact OpV.neqID | exact OpV.eqlEv | exact OpV.eqlOp | exact OpV.eqlStr | exact OpV.neqStr | exact OpV.eqlNil | exact OpV.eqlBool | exact OpV.neqBool) rfl ?_ | (refine JR.alloc rfl ?_; intro _) | (refine JR.box rfl ?_; intro _) | refine JR.store ?_ | refine JC.cond_true ?_ | refine JC.cond_false ?_ | refine JC.skip ?_ | refine JC.exit ?_ | refine JC.block ?_ | refine CT.past ?_ | refine CT.hit ?_ | refine CT.miss rfl ?_ | refine CT.blockEnd ?_ | refine JC.ret ?_ | refine CT.ret ?_ | refine CT.blockRet ?_ | refine JO.omit rfl rfl ?_ | (refine JR.lit rfl ⟨rfl, by decide, by decide, by decide⟩ ?_; intro _))
    refine JC.loop1 (fun k0 : Nat => [(0, .slice a L.length c), (1, .slice b M.length k), (12, .int .i64 (L.length : Int)), (13, .int .i64 (k0 : Int))]) (fun _ => [.st (sl a c L), .st (sl b k M)])
      (fun k0 => k0 ≤ L.length ∧ L.take k0 = M.take k0) (fun k0 => L.length - k0) 0 ⟨Nat.zero_le _, rfl⟩ inferInstance ?_
    intro k0 ⟨hk, heq⟩
    repeat (first | refine CT.next ?_ | refine JC.seq ?_ | refine JC.region ?_ | refine JO.nil ?_ | refine JO.go rfl ?_ | refine JR.val (by first | exact OpV.move | exact OpV.assign | exact OpV.load | exact OpV.fieldAddr | exact OpV.indexEl | exact OpV.len | exact OpV.lss | exact OpV.not | exact OpV.pick_true | exact OpV.pick_false | exact OpV.inc (by omega) | exact OpV.eql | exact OpV.neq | exact OpV.leq | exact OpV.gtr | exact OpV.geq | exact OpV.extract | exact OpV.makeFunc | exact OpV.addn (by omega) | exact OpV.add (by omega) | exact OpV.subn (by omega) | exact OpV.sub (by omega) | exact OpV.lens | exact OpV.eqlID | exact OpV.neqID | exact OpV.eqlEv | exact OpV.eqlOp | exact OpV.eqlStr | exact OpV.neqStr | exact OpV.eqlNil | exact OpV.eqlBool | exact OpV.neqBool) rfl ?_ | (refine JR.alloc rfl ?_; intro _) | (refine JR.box rfl ?_; intro _) | refine JR.store ?_ | refine JC.cond_true ?_ | refine JC.cond_false ?_ | refine JC.skip ?_ | refine JC.exit ?_ | refine JC.block ?_ | refine CT.past ?_ | refine CT.hit ?_ | refine CT.miss rfl ?_ | refine CT.blockEnd ?_ | refine JC.ret ?_ | refine CT.ret ?_ | refine CT.blockRet ?_ | refine JO.omit rfl rfl ?_ | (refine JR.lit rfl ⟨rfl, by decide, by decide, by decide⟩ ?_; intro _))
    refine JC.test (fun hlt => ?_) (fun hge => ?_)
    · have hlt' : k0 < L.length := by omega
      repeat (first | refine CT.next ?_ | refine JC.seq ?_ | refine JC.region ?_ | refine JO.nil ?_ | refine JO.go rfl ?_ | refine JR.val (by first | exact OpV.move | exact OpV.assign | exact OpV.load | exact OpV.fieldAddr | exact OpV.indexEl | exact OpV.len | exact OpV.lss | exact OpV.not | exact OpV.pick_true | exact OpV.pick_false | exact OpV.inc (by omega) | exact OpV.eql | exact OpV.neq | exact OpV.leq | exact OpV.gtr | exact OpV.geq | exact OpV.extract | exact OpV.makeFunc | exact OpV.addn (by omega) | exact OpV.add (by omega) | exact OpV.subn (by omega) | exact OpV.sub (by omega) | exact OpV.lens | exact OpV.eqlID | exact OpV.neqID | exact OpV.eqlEv | exact OpV.eqlOp | exact OpV.eqlStr | exact OpV.neqStr | exact OpV.eqlNil | exact OpV.eqlBool | exact OpV.neqBool) rfl ?_ | (refine JR.alloc rfl ?_; intro _) | (refine JR.box rfl ?_; intro _) | refine JR.store ?_ | refine JC.cond_true ?_ | refine JC.cond_false ?_ | refine JC.skip ?_ | refine JC.exit ?_ | refine JC.block ?_ | refine CT.past ?_ | refine CT.hit ?_ | refine CT.miss rfl ?_ | refine CT.blockEnd ?_ | refine JC.ret ?_ | refine CT.ret ?_ | refine CT.blockRet ?_ | refine JO.omit rfl rfl ?_ | (refine JR.lit rfl ⟨rfl, by decide, by decide, by decide⟩ ?_; intro _))
      refine JC.openID (.slice a L.length c) k0 hlt' ?_
      intro b1 o1
      refine JC.openID (.slice b M.length k) k0 (by omega) ?_
      intro b2 o2
      refine JC.quiet mixed (by kernel_rfl) ?_
      repeat (first | refine JQ.val rfl (by first | exact OpV.move | exact OpV.assign | exact OpV.load | exact OpV.fieldAddr | exact OpV.indexEl | exact OpV.len | exact OpV.lss | exact OpV.not | exact OpV.pick_true | exact OpV.pick_false | exact OpV.inc (by omega) | exact OpV.eql | exact OpV.neq | exact OpV.leq | exact OpV.gtr | exact OpV.geq | exact OpV.extract | exact OpV.makeFunc | exact OpV.addn (by omega) | exact OpV.add (by omega) | exact OpV.subn (by omega) | exact OpV.sub (by omega) | exact OpV.lens | exact OpV.eqlID | exact OpV.neqID | exact OpV.eqlEv | exact OpV.eqlOp | exact OpV.eqlStr | exact OpV.neqStr | exact OpV.eqlNil | exact OpV.eqlBool | exact OpV.neqBool) rfl ?_ | refine JQ.omit rfl rfl ?_ | refine JQ.nil ?_)
      repeat (first | refine CT.next ?_ | refine JC.seq ?_ | refine JC.region ?_ | refine JO.nil ?_ | refine JO.go rfl ?_ | refine JR.val (by first | exact OpV.move | exact OpV.assign | exact OpV.load | exact OpV.fieldAddr | exact OpV.indexEl | exact OpV.len | exact OpV.lss | exact OpV.not | exact OpV.pick_true | exact OpV.pick_false | exact OpV.inc (by omega) | exact OpV.eql | exact OpV.neq | exact OpV.leq | exact OpV.gtr | exact OpV.geq | exact OpV.extract | exact OpV.makeFunc | exact OpV.addn (by omega) | exact OpV.add (by omega) | exact OpV.subn (by omega) | exact OpV.sub (by omega) | exact OpV.lens | exact OpV.eqlID | exact OpV.neqID | exact OpV.eqlEv | exact OpV.eqlOp | exact OpV.eqlStr | exact OpV.neqStr | exact OpV.eqlNil | exact OpV.eqlBool | exact OpV.neqBool) rfl ?_ | (refine JR.alloc rfl ?_; intro _) | (refine JR.box rfl ?_; intro _) | refine JR.store ?_ | refine JC.cond_true ?_ | refine JC.cond_false ?_ | refine JC.skip ?_ | refine JC.exit ?_ | refine JC.block ?_ | refine CT.past ?_ | refine CT.hit ?_ | refine CT.miss rfl ?_ | refine CT.blockEnd ?_ | refine JC.ret ?_ | refine CT.ret ?_ | refine CT.blockRet ?_ | refine JO.omit rfl rfl ?_ | (refine JR.lit rfl ⟨rfl, by decide, by decide, by decide⟩ ?_; intro _))
      refine JC.test (fun hne => ?_) (fun heq2 => ?_)
      · repeat (first | refine CT.next ?_ | refine JC.seq ?_ | refine JC.region ?_ | refine JO.nil ?_ | refine JO.go rfl ?_ | refine JR.val (by first | exact OpV.move | exact OpV.assign | exact OpV.load | exact OpV.fieldAddr | exact OpV.indexEl | exact OpV.len | exact OpV.lss | exact OpV.not | exact OpV.pick_true | exact OpV.pick_false | exact OpV.inc (by omega) | exact OpV.eql | exact OpV.neq | exact OpV.leq | exact OpV.gtr | exact OpV.geq | exact OpV.extract | exact OpV.makeFunc | exact OpV.addn (by omega) | exact OpV.add (by omega) | exact OpV.subn (by omega) | exact OpV.sub (by omega) | exact OpV.lens | exact OpV.eqlID | exact OpV.neqID | exact OpV.eqlEv | exact OpV.eqlOp | exact OpV.eqlStr | exact OpV.neqStr | exact OpV.eqlNil | exact OpV.eqlBool | exact OpV.neqBool) rfl ?_ | (refine JR.alloc rfl ?_; intro _) | (refine JR.box rfl ?_; intro _) | refine JR.store ?_ | refine JC.cond_true ?_ | refine JC.cond_false ?_ | refine JC.skip ?_ | refine JC.exit ?_ | refine JC.block ?_ | refine CT.past ?_ | refine CT.hit ?_ | refine CT.miss rfl ?_ | refine CT.blockEnd ?_ | refine JC.ret ?_ | refine CT.ret ?_ | refine CT.blockRet ?_ | refine JO.omit rfl rfl ?_ | (refine JR.lit rfl ⟨rfl, by decide, by decide, by decide⟩ ?_; intro _))
        refine CT.done () ?_ (fun w ho => ho.ent)
        have : ¬ L = M := fun h => by subst h; exact hne rfl
        simp [packed, this]
      · repeat (first | refine CT.next ?_ | refine JC.seq ?_ | refine JC.region ?_ | refine JO.nil ?_ | refine JO.go rfl ?_ | refine JR.val (by first | exact OpV.move | exact OpV.assign | exact OpV.load | exact OpV.fieldAddr | exact OpV.indexEl | exact OpV.len | exact OpV.lss | exact OpV.not | exact OpV.pick_true | exact OpV.pick_false | exact OpV.inc (by omega) | exact OpV.eql | exact OpV.neq | exact OpV.leq | exact OpV.gtr | exact OpV.geq | exact OpV.extract | exact OpV.makeFunc | exact OpV.addn (by omega) | exact OpV.add (by omega) | exact OpV.subn (by omega) | exact OpV.sub (by omega) | exact OpV.lens | exact OpV.eqlID | exact OpV.neqID | exact OpV.eqlEv | exact OpV.eqlOp | exact OpV.eqlStr | exact OpV.neqStr | exact OpV.eqlNil | exact OpV.eqlBool | exact OpV.neqBool) rfl ?_ | (refine JR.alloc rfl ?_; intro _) | (refine JR.box rfl ?_; intro _) | refine JR.store ?_ | refine JC.cond_true ?_ | refine JC.cond_false ?_ | refine JC.skip ?_ | refine JC.exit ?_ | refine JC.block ?_ | refine CT.past ?_ | refine CT.hit ?_ | refine CT.miss rfl ?_ | refine CT.blockEnd ?_ | refine JC.ret ?_ | refine CT.ret ?_ | refine CT.blockRet ?_ | refine JO.omit rfl rfl ?_ | (refine JR.lit rfl ⟨rfl, by decide, by decide, by decide⟩ ?_; intro _))
        refine ⟨k0 + 1, ⟨by omega, ?_⟩, by omega, inferInstance⟩
        have heq2 : L[k0] = M[k0] := by simpa using heq2
        rw [List.take_succ_eq_append_getElem hlt', List.take_succ_eq_append_getElem (by omega), heq, heq2]
    · have hk0 : k0 = L.length := by omega
      repeat (first | refine CT.next ?_ | refine JC.seq ?_ | refine JC.region ?_ | refine JO.nil ?_ | refine JO.go rfl ?_ | refine JR.val (by first | exact OpV.move | exact OpV.assign | exact OpV.load | exact OpV.fieldAddr | exact OpV.indexEl | exact OpV.len | exact OpV.lss | exact OpV.not | exact OpV.pick_true | exact OpV.pick_false | exact OpV.inc (by omega) | exact OpV.eql | exact OpV.neq | exact OpV.leq | exact OpV.gtr | exact OpV.geq | exact OpV.extract | exact OpV.makeFunc | exact OpV.addn (by omega) | exact OpV.add (by omega) | exact OpV.subn (by omega) | exact OpV.sub (by omega) | exact OpV.lens | exact OpV.eqlID | exact OpV.neqID | exact OpV.eqlEv | exact OpV.eqlOp | exact OpV.eqlStr | exact OpV.neqStr | exact OpV.eqlNil | exact OpV.eqlBool | exact OpV.neqBool) rfl ?_ | (refine JR.alloc rfl ?_; intro _) | (refine JR.box rfl ?_; intro _) | refine JR.store ?_ | refine JC.cond_true ?_ | refine JC.cond_false ?_ | refine JC.skip ?_ | refine JC.exit ?_ | refine JC.block ?_ | refine CT.past ?_ | refine CT.hit ?_ | refine CT.miss rfl ?_ | refine CT.blockEnd ?_ | refine JC.ret ?_ | refine CT.ret ?_ | refine CT.blockRet ?_ | refine JO.omit rfl rfl ?_ | (refine JR.lit rfl ⟨rfl, by decide, by decide, by decide⟩ ?_; intro _))
      refine CT.done () ?_ (fun w ho => ho.ent)
      have : L = M := by
        rw [List.take_of_length_le (by omega), List.take_of_length_le (by omega)] at heq
        exact heq
      simp [packed, this]
/-- Where something stands first, as Go tells it. -/
def idxV : Option Nat → Int
  | some i => (i : Int)
  | none => -1

theorem findIdx_take {α : Type} (p : α → Bool) (L : List α) (k : Nat) (hk : k < L.length) (h : (L.take k).findIdx? p = none) :
    (p L[k] = true → L.findIdx? p = some k) ∧ (p L[k] = false → (L.take (k + 1)).findIdx? p = none) := by
  have h1 : L = L.take k ++ L[k] :: L.drop (k + 1) := by
    conv => lhs; rw [← List.take_append_drop k L]
    rw [List.drop_eq_getElem_cons hk]
  constructor
  · intro hp
    have h2 : L.findIdx? p = (L.take k ++ L[k] :: L.drop (k + 1)).findIdx? p := by rw [← h1]
    rw [h2, List.findIdx?_append, h]
    rw [List.findIdx?_cons, if_pos hp]
    simp [Nat.min_eq_left (Nat.le_of_lt hk)]
  · intro hp
    rw [List.take_succ_eq_append_getElem hk, List.findIdx?_append, h]
    simp [List.findIdx?_cons, hp]

/-- What a function value says of a commit, in every world from w on. -/
def Asks (P : Program) (w : World) (L : List Commit) (fid : FuncId) (caps : List Value) (p : Commit → Bool) : Prop :=
  ∀ (w' : World) (G : Nat → Prop) (x : Commit) (a : Option Addr) (q : Nat), x ∈ L → Bel w.heap.size w w' → (sl a q x.parents).holds G w' → GivesV P fid (.agg ⟨commitCells x a q⟩ :: caps) w' G (.bool (p x))

theorem indexFunc_commits (w : World) (F : Nat → Prop) (a : Option Addr) (c : Nat) (L : List Commit) (h : (sl a c L).holds F w) (fid : FuncId) (caps : List Value) [Body Try.prog fid] (p : Commit → Bool) (hp : Asks Try.prog w L fid caps p) :
    GivesV Try.prog 30 [.slice a L.length c, .func (.func fid) ⟨[]⟩ ⟨caps⟩] w F (.int .i64 (idxV (L.findIdx? p))) := by
  have hL : L.length < 9223372036854775807 := by have := h.2.2.1; simp only [lim] at this; omega
  refine gives_of Try.func30 rfl Try.ntmps30 rfl rfl [.st (sl a c L)] (.start1 h) ?_
  repeat (first | refine CT.next ?_ | refine JC.seq ?_ | refine JC.region ?_ | refine JO.nil ?_ | refine JO.go rfl ?_ | refine JR.val (by first | exact OpV.move | exact OpV.assign | exact OpV.load | exact OpV.fieldAddr | exact OpV.indexEl | exact OpV.len | exact OpV.lss | exact OpV.not | exact OpV.pick_true | exact OpV.pick_false | exact OpV.inc (by omega) | exact OpV.eql | exact OpV.neq | exact OpV.leq | exact OpV.gtr | exact OpV.geq | exact OpV.extract | exact OpV.makeFunc | exact OpV.addn (by omega) | exact OpV.add (by omega) | exact OpV.subn (by omega) | exact OpV.sub (by omega) | exact OpV.lens | exact OpV.eqlID | exact OpV.neqID | exact OpV.eqlEv | exact OpV.eqlOp | exact OpV.eqlStr | exact OpV.neqStr | exact OpV.eqlNil | exact OpV.eqlBool | exact OpV.neqBool) rfl ?_ | (refine JR.alloc rfl ?_; intro _) | (refine JR.box rfl ?_; intro _) | refine JR.store ?_ | refine JC.cond_true ?_ | refine JC.cond_false ?_ | refine JC.skip ?_ | refine JC.exit ?_ | refine JC.block ?_ | refine CT.past ?_ | refine CT.hit ?_ | refine CT.miss rfl ?_ | refine CT.blockEnd ?_ | refine JC.ret ?_ | refine CT.ret ?_ | refine CT.blockRet ?_ | refine JO.omit rfl rfl ?_ | (refine JR.lit rfl ⟨rfl, by decide, by decide, by decide⟩ ?_; intro _))
  refine JC.loop1 (fun k : Nat => [(0, .slice a L.length c), (1, .func (.func fid) ⟨[]⟩ ⟨caps⟩), (7, .int .i64 (L.length : Int)), (8, .int .i64 (k : Int))]) (fun _ => [.st (sl a c L)])
    (fun k => k ≤ L.length ∧ (L.take k).findIdx? p = none) (fun k => L.length - k) 0 ⟨Nat.zero_le _, by simp⟩ inferInstance ?_
  intro k ⟨hk, hno⟩
  repeat (first | refine CT.next ?_ | refine JC.seq ?_ | refine JC.region ?_ | refine JO.nil ?_ | refine JO.go rfl ?_ | refine JR.val (by first | exact OpV.move | exact OpV.assign | exact OpV.load | exact OpV.fieldAddr | exact OpV.indexEl | exact OpV.len | exact OpV.lss | exact OpV.not | exact OpV.pick_true | exact OpV.pick_false | exact OpV.inc (by omega) | exact OpV.eql | exact OpV.neq | exact OpV.leq | exact OpV.gtr | exact OpV.geq | exact OpV.extract | exact OpV.makeFunc | exact OpV.addn (by omega) | exact OpV.add (by omega) | exact OpV.subn (by omega) | exact OpV.sub (by omega) | exact OpV.lens | exact OpV.eqlID | exact OpV.neqID | exact OpV.eqlEv | exact OpV.eqlOp | exact OpV.eqlStr | exact OpV.neqStr | exact OpV.eqlNil | exact OpV.eqlBool | exact OpV.neqBool) rfl ?_ | (refine JR.alloc rfl ?_; intro _) | (refine JR.box rfl ?_; intro _) | refine JR.store ?_ | refine JC.cond_true ?_ | refine JC.cond_false ?_ | refine JC.skip ?_ | refine JC.exit ?_ | refine JC.block ?_ | refine CT.past ?_ | refine CT.hit ?_ | refine CT.miss rfl ?_ | refine CT.blockEnd ?_ | refine JC.ret ?_ | refine CT.ret ?_ | refine CT.blockRet ?_ | refine JO.omit rfl rfl ?_ | (refine JR.lit rfl ⟨rfl, by decide, by decide, by decide⟩ ?_; intro _))
  refine JC.test (fun hlt => ?_) (fun hge => ?_)
  · have hlt' : k < L.length := by omega
    have hft := findIdx_take p L k hlt' hno
    repeat (first | refine CT.next ?_ | refine JC.seq ?_ | refine JC.region ?_ | refine JO.nil ?_ | refine JO.go rfl ?_ | refine JR.val (by first | exact OpV.move | exact OpV.assign | exact OpV.load | exact OpV.fieldAddr | exact OpV.indexEl | exact OpV.len | exact OpV.lss | exact OpV.not | exact OpV.pick_true | exact OpV.pick_false | exact OpV.inc (by omega) | exact OpV.eql | exact OpV.neq | exact OpV.leq | exact OpV.gtr | exact OpV.geq | exact OpV.extract | exact OpV.makeFunc | exact OpV.addn (by omega) | exact OpV.add (by omega) | exact OpV.subn (by omega) | exact OpV.sub (by omega) | exact OpV.lens | exact OpV.eqlID | exact OpV.neqID | exact OpV.eqlEv | exact OpV.eqlOp | exact OpV.eqlStr | exact OpV.neqStr | exact OpV.eqlNil | exact OpV.eqlBool | exact OpV.neqBool) rfl ?_ | (refine JR.alloc rfl ?_; intro _) | (refine JR.box rfl ?_; intro _) | refine JR.store ?_ | refine JC.cond_true ?_ | refine JC.cond_false ?_ | refine JC.skip ?_ | refine JC.exit ?_ | refine JC.block ?_ | refine CT.past ?_ | refine CT.hit ?_ | refine CT.miss rfl ?_ | refine CT.blockEnd ?_ | refine JC.ret ?_ | refine CT.ret ?_ | refine CT.blockRet ?_ | refine JO.omit rfl rfl ?_ | (refine JR.lit rfl ⟨rfl, by decide, by decide, by decide⟩ ?_; intro _))
    refine JR.indexCommit rfl hlt' ?_
    intro b o p' q'
    repeat (first | refine CT.next ?_ | refine JC.seq ?_ | refine JC.region ?_ | refine JO.nil ?_ | refine JO.go rfl ?_ | refine JR.val (by first | exact OpV.move | exact OpV.assign | exact OpV.load | exact OpV.fieldAddr | exact OpV.indexEl | exact OpV.len | exact OpV.lss | exact OpV.not | exact OpV.pick_true | exact OpV.pick_false | exact OpV.inc (by omega) | exact OpV.eql | exact OpV.neq | exact OpV.leq | exact OpV.gtr | exact OpV.geq | exact OpV.extract | exact OpV.makeFunc | exact OpV.addn (by omega) | exact OpV.add (by omega) | exact OpV.subn (by omega) | exact OpV.sub (by omega) | exact OpV.lens | exact OpV.eqlID | exact OpV.neqID | exact OpV.eqlEv | exact OpV.eqlOp | exact OpV.eqlStr | exact OpV.neqStr | exact OpV.eqlNil | exact OpV.eqlBool | exact OpV.neqBool) rfl ?_ | (refine JR.alloc rfl ?_; intro _) | (refine JR.box rfl ?_; intro _) | refine JR.store ?_ | refine JC.cond_true ?_ | refine JC.cond_false ?_ | refine JC.skip ?_ | refine JC.exit ?_ | refine JC.block ?_ | refine CT.past ?_ | refine CT.hit ?_ | refine CT.miss rfl ?_ | refine CT.blockEnd ?_ | refine JC.ret ?_ | refine CT.ret ?_ | refine CT.blockRet ?_ | refine JO.omit rfl rfl ?_ | (refine JR.lit rfl ⟨rfl, by decide, by decide, by decide⟩ ?_; intro _))
    refine JR.callV rfl (fun w1 hw => hp w1 _ L[k] p' q' (List.getElem_mem _) hw.below (hw.get)) ?_
    repeat (first | refine CT.next ?_ | refine JC.seq ?_ | refine JC.region ?_ | refine JO.nil ?_ | refine JO.go rfl ?_ | refine JR.val (by first | exact OpV.move | exact OpV.assign | exact OpV.load | exact OpV.fieldAddr | exact OpV.indexEl | exact OpV.len | exact OpV.lss | exact OpV.not | exact OpV.pick_true | exact OpV.pick_false | exact OpV.inc (by omega) | exact OpV.eql | exact OpV.neq | exact OpV.leq | exact OpV.gtr | exact OpV.geq | exact OpV.extract | exact OpV.makeFunc | exact OpV.addn (by omega) | exact OpV.add (by omega) | exact OpV.subn (by omega) | exact OpV.sub (by omega) | exact OpV.lens | exact OpV.eqlID | exact OpV.neqID | exact OpV.eqlEv | exact OpV.eqlOp | exact OpV.eqlStr | exact OpV.neqStr | exact OpV.eqlNil | exact OpV.eqlBool | exact OpV.neqBool) rfl ?_ | (refine JR.alloc rfl ?_; intro _) | (refine JR.box rfl ?_; intro _) | refine JR.store ?_ | refine JC.cond_true ?_ | refine JC.cond_false ?_ | refine JC.skip ?_ | refine JC.exit ?_ | refine JC.block ?_ | refine CT.past ?_ | refine CT.hit ?_ | refine CT.miss rfl ?_ | refine CT.blockEnd ?_ | refine JC.ret ?_ | refine CT.ret ?_ | refine CT.blockRet ?_ | refine JO.omit rfl rfl ?_ | (refine JR.lit rfl ⟨rfl, by decide, by decide, by decide⟩ ?_; intro _))
    refine JC.test (fun hy => ?_) (fun hn => ?_)
    · repeat (first | refine CT.next ?_ | refine JC.seq ?_ | refine JC.region ?_ | refine JO.nil ?_ | refine JO.go rfl ?_ | refine JR.val (by first | exact OpV.move | exact OpV.assign | exact OpV.load | exact OpV.fieldAddr | exact OpV.indexEl | exact OpV.len | exact OpV.lss | exact OpV.not | exact OpV.pick_true | exact OpV.pick_false | exact OpV.inc (by omega) | exact OpV.eql | exact OpV.neq | exact OpV.leq | exact OpV.gtr | exact OpV.geq | exact OpV.extract | exact OpV.makeFunc | exact OpV.addn (by omega) | exact OpV.add (by omega) | exact OpV.subn (by omega) | exact OpV.sub (by omega) | exact OpV.lens | exact OpV.eqlID | exact OpV.neqID | exact OpV.eqlEv | exact OpV.eqlOp | exact OpV.eqlStr | exact OpV.neqStr | exact OpV.eqlNil | exact OpV.eqlBool | exact OpV.neqBool) rfl ?_ | (refine JR.alloc rfl ?_; intro _) | (refine JR.box rfl ?_; intro _) | refine JR.store ?_ | refine JC.cond_true ?_ | refine JC.cond_false ?_ | refine JC.skip ?_ | refine JC.exit ?_ | refine JC.block ?_ | refine CT.past ?_ | refine CT.hit ?_ | refine CT.miss rfl ?_ | refine CT.blockEnd ?_ | refine JC.ret ?_ | refine CT.ret ?_ | refine CT.blockRet ?_ | refine JO.omit rfl rfl ?_ | (refine JR.lit rfl ⟨rfl, by decide, by decide, by decide⟩ ?_; intro _))
      refine CT.done () ?_ (fun w ho => ho.ent)
      rw [hft.1 hy]; rfl
    · repeat (first | refine CT.next ?_ | refine JC.seq ?_ | refine JC.region ?_ | refine JO.nil ?_ | refine JO.go rfl ?_ | refine JR.val (by first | exact OpV.move | exact OpV.assign | exact OpV.load | exact OpV.fieldAddr | exact OpV.indexEl | exact OpV.len | exact OpV.lss | exact OpV.not | exact OpV.pick_true | exact OpV.pick_false | exact OpV.inc (by omega) | exact OpV.eql | exact OpV.neq | exact OpV.leq | exact OpV.gtr | exact OpV.geq | exact OpV.extract | exact OpV.makeFunc | exact OpV.addn (by omega) | exact OpV.add (by omega) | exact OpV.subn (by omega) | exact OpV.sub (by omega) | exact OpV.lens | exact OpV.eqlID | exact OpV.neqID | exact OpV.eqlEv | exact OpV.eqlOp | exact OpV.eqlStr | exact OpV.neqStr | exact OpV.eqlNil | exact OpV.eqlBool | exact OpV.neqBool) rfl ?_ | (refine JR.alloc rfl ?_; intro _) | (refine JR.box rfl ?_; intro _) | refine JR.store ?_ | refine JC.cond_true ?_ | refine JC.cond_false ?_ | refine JC.skip ?_ | refine JC.exit ?_ | refine JC.block ?_ | refine CT.past ?_ | refine CT.hit ?_ | refine CT.miss rfl ?_ | refine CT.blockEnd ?_ | refine JC.ret ?_ | refine CT.ret ?_ | refine CT.blockRet ?_ | refine JO.omit rfl rfl ?_ | (refine JR.lit rfl ⟨rfl, by decide, by decide, by decide⟩ ?_; intro _))
      exact ⟨k + 1, ⟨by omega, hft.2 (by simpa using hn)⟩, by omega, inferInstance⟩
  · have hk0 : k = L.length := by omega
    repeat (first | refine CT.next ?_ | refine JC.seq ?_ | refine JC.region ?_ | refine JO.nil ?_ | refine JO.go rfl ?_ | refine JR.val (by first | exact OpV.move | exact OpV.assign | exact OpV.load | exact OpV.fieldAddr | exact OpV.indexEl | exact OpV.len | exact OpV.lss | exact OpV.not | exact OpV.pick_true | exact OpV.pick_false | exact OpV.inc (by omega) | exact OpV.eql | exact OpV.neq | exact OpV.leq | exact OpV.gtr | exact OpV.geq | exact OpV.extract | exact OpV.makeFunc | exact OpV.addn (by omega) | exact OpV.add (by omega) | exact OpV.subn (by omega) | exact OpV.sub (by omega) | exact OpV.lens | exact OpV.eqlID | exact OpV.neqID | exact OpV.eqlEv | exact OpV.eqlOp | exact OpV.eqlStr | exact OpV.neqStr | exact OpV.eqlNil | exact OpV.eqlBool | exact OpV.neqBool) rfl ?_ | (refine JR.alloc rfl ?_; intro _) | (refine JR.box rfl ?_; intro _) | refine JR.store ?_ | refine JC.cond_true ?_ | refine JC.cond_false ?_ | refine JC.skip ?_ | refine JC.exit ?_ | refine JC.block ?_ | refine CT.past ?_ | refine CT.hit ?_ | refine CT.miss rfl ?_ | refine CT.blockEnd ?_ | refine JC.ret ?_ | refine CT.ret ?_ | refine CT.blockRet ?_ | refine JO.omit rfl rfl ?_ | (refine JR.lit rfl ⟨rfl, by decide, by decide, by decide⟩ ?_; intro _))
    refine CT.done () ?_ (fun w ho => ho.ent)
    rw [List.take_of_length_le (by omega)] at hno
    rw [hno]; rfl

theorem containsFunc_commits (w : World) (F : Nat → Prop) (a : Option Addr) (c : Nat) (L : List Commit) (h : (sl a c L).holds F w) (fid : FuncId) (caps : List Value) [Body Try.prog fid] (p : Commit → Bool) (hp : Asks Try.prog w L fid caps p) :
    GivesV Try.prog 24 [.slice a L.length c, .func (.func fid) ⟨[]⟩ ⟨caps⟩] w F (.bool (L.any p)) := by
  refine gives_of Try.func24 rfl Try.ntmps24 rfl rfl [.st (sl a c L)] (.start1 h) ?_
  repeat (first | refine CT.next ?_ | refine JC.seq ?_ | refine JC.region ?_ | refine JO.nil ?_ | refine JO.go rfl ?_ | refine JR.val (by first | exact OpV.move | exact OpV.assign | exact OpV.load | exact OpV.fieldAddr | exact OpV.indexEl | exact OpV.len | exact OpV.lss | exact OpV.not | exact OpV.pick_true | exact OpV.pick_false | exact OpV.inc (by omega) | exact OpV.eql | exact OpV.neq | exact OpV.leq | exact OpV.gtr | exact OpV.geq | exact OpV.extract | exact OpV.makeFunc | exact OpV.addn (by omega) | exact OpV.add (by omega) | exact OpV.subn (by omega) | exact OpV.sub (by omega) | exact OpV.lens | exact OpV.eqlID | exact OpV.neqID | exact OpV.eqlEv | exact OpV.eqlOp | exact OpV.eqlStr | exact OpV.neqStr | exact OpV.eqlNil | exact OpV.eqlBool | exact OpV.neqBool) rfl ?_ | (refine JR.alloc rfl ?_; intro _) | (refine JR.box rfl ?_; intro _) | refine JR.store ?_ | refine JC.cond_true ?_ | refine JC.cond_false ?_ | refine JC.skip ?_ | refine JC.exit ?_ | refine JC.block ?_ | refine CT.past ?_ | refine CT.hit ?_ | refine CT.miss rfl ?_ | refine CT.blockEnd ?_ | refine JC.ret ?_ | refine CT.ret ?_ | refine CT.blockRet ?_ | refine JO.omit rfl rfl ?_ | (refine JR.lit rfl ⟨rfl, by decide, by decide, by decide⟩ ?_; intro _))
  refine JR.callV rfl (fun w1 hw => indexFunc_commits w1 _ a c L hw.get fid caps p (fun w' G x b q hx hb hs => hp w' G x b q hx ((hw.below).trans (hb.mono hw.below.size)) hs)) ?_
  repeat (first | refine CT.next ?_ | refine JC.seq ?_ | refine JC.region ?_ | refine JO.nil ?_ | refine JO.go rfl ?_ | refine JR.val (by first | exact OpV.move | exact OpV.assign | exact OpV.load | exact OpV.fieldAddr | exact OpV.indexEl | exact OpV.len | exact OpV.lss | exact OpV.not | exact OpV.pick_true | exact OpV.pick_false | exact OpV.inc (by omega) | exact OpV.eql | exact OpV.neq | exact OpV.leq | exact OpV.gtr | exact OpV.geq | exact OpV.extract | exact OpV.makeFunc | exact OpV.addn (by omega) | exact OpV.add (by omega) | exact OpV.subn (by omega) | exact OpV.sub (by omega) | exact OpV.lens | exact OpV.eqlID | exact OpV.neqID | exact OpV.eqlEv | exact OpV.eqlOp | exact OpV.eqlStr | exact OpV.neqStr | exact OpV.eqlNil | exact OpV.eqlBool | exact OpV.neqBool) rfl ?_ | (refine JR.alloc rfl ?_; intro _) | (refine JR.box rfl ?_; intro _) | refine JR.store ?_ | refine JC.cond_true ?_ | refine JC.cond_false ?_ | refine JC.skip ?_ | refine JC.exit ?_ | refine JC.block ?_ | refine CT.past ?_ | refine CT.hit ?_ | refine CT.miss rfl ?_ | refine CT.blockEnd ?_ | refine JC.ret ?_ | refine CT.ret ?_ | refine CT.blockRet ?_ | refine JO.omit rfl rfl ?_ | (refine JR.lit rfl ⟨rfl, by decide, by decide, by decide⟩ ?_; intro _))
  refine CT.done () ?_ (fun w ho => ho.ent)
  simp only [packed]
  congr 1
  cases hf : L.findIdx? p with
  | none =>
    have : L.any p = false := by
      rw [List.any_eq_false]
      intro x hx
      have := List.findIdx?_eq_none_iff.1 hf x hx
      simpa using this
    simp [idxV, this]
  | some i =>
    have : L.any p = true := by
      obtain ⟨hi, h1, _⟩ := List.findIdx?_eq_some_iff_getElem.1 hf
      exact List.any_eq_true.2 ⟨L[i], List.getElem_mem hi, h1⟩
    simp [idxV, this]

theorem index_ids (w : World) (F : Nat → Prop) (a : Option Addr) (c : Nat) (L : List ID) (x : ID) (h : (sl a c L).holds F w) :
    GivesV Try.prog 53 [.slice a L.length c, .agg ⟨idc x⟩] w F (.int .i64 (idxV (L.findIdx? (fun y => decide (x = y))))) := by
  have hL : L.length < 9223372036854775807 := by have := h.2.2.1; simp only [lim] at this; omega
  refine gives_of Try.func53 rfl Try.ntmps53 rfl rfl [.st (sl a c L)] (.start1 h) ?_
  repeat (first | refine CT.next ?_ | refine JC.seq ?_ | refine JC.region ?_ | refine JO.nil ?_ | refine JO.go rfl ?_ | refine JR.val (by first | exact OpV.move | exact OpV.assign | exact OpV.load | exact OpV.fieldAddr | exact OpV.indexEl | exact OpV.len | exact OpV.lss | exact OpV.not | exact OpV.pick_true | exact OpV.pick_false | exact OpV.inc (by omega) | exact OpV.eql | exact OpV.neq | exact OpV.leq | exact OpV.gtr | exact OpV.geq | exact OpV.extract | exact OpV.makeFunc | exact OpV.addn (by omega) | exact OpV.add (by omega) | exact OpV.subn (by omega) | exact OpV.sub (by omega) | exact OpV.lens | exact OpV.eqlID | exact OpV.neqID | exact OpV.eqlEv | exact OpV.eqlOp | exact OpV.eqlStr | exact OpV.neqStr | exact OpV.eqlNil | exact OpV.eqlBool | exact OpV.neqBool) rfl ?_ | (refine JR.alloc rfl ?_; intro _) | (refine JR.box rfl ?_; intro _) | refine JR.store ?_ | refine JC.cond_true ?_ | refine JC.cond_false ?_ | refine JC.skip ?_ | refine JC.exit ?_ | refine JC.block ?_ | refine CT.past ?_ | refine CT.hit ?_ | refine CT.miss rfl ?_ | refine CT.blockEnd ?_ | refine JC.ret ?_ | refine CT.ret ?_ | refine CT.blockRet ?_ | refine JO.omit rfl rfl ?_ | (refine JR.lit rfl ⟨rfl, by decide, by decide, by decide⟩ ?_; intro _))
  rename_i bx
  refine JC.loop1 (fun k : Nat => [(0, .slice a L.length c), (3, .pointer (some ⟨bx, 0, none⟩)), (7, .int .i64 (L.length : Int)), (8, .int .i64 (k : Int))]) (fun _ => [.own bx 44 (idc x), .st (sl a c L)])
    (fun k => k ≤ L.length ∧ (L.take k).findIdx? (fun y => decide (x = y)) = none) (fun k => L.length - k) 0 ⟨Nat.zero_le _, by simp⟩ inferInstance ?_
  intro k ⟨hk, hno⟩
  repeat (first | refine CT.next ?_ | refine JC.seq ?_ | refine JC.region ?_ | refine JO.nil ?_ | refine JO.go rfl ?_ | refine JR.val (by first | exact OpV.move | exact OpV.assign | exact OpV.load | exact OpV.fieldAddr | exact OpV.indexEl | exact OpV.len | exact OpV.lss | exact OpV.not | exact OpV.pick_true | exact OpV.pick_false | exact OpV.inc (by omega) | exact OpV.eql | exact OpV.neq | exact OpV.leq | exact OpV.gtr | exact OpV.geq | exact OpV.extract | exact OpV.makeFunc | exact OpV.addn (by omega) | exact OpV.add (by omega) | exact OpV.subn (by omega) | exact OpV.sub (by omega) | exact OpV.lens | exact OpV.eqlID | exact OpV.neqID | exact OpV.eqlEv | exact OpV.eqlOp | exact OpV.eqlStr | exact OpV.neqStr | exact OpV.eqlNil | exact OpV.eqlBool | exact OpV.neqBool) rfl ?_ | (refine JR.alloc rfl ?_; intro _) | (refine JR.box rfl ?_; intro _) | refine JR.store ?_ | refine JC.cond_true ?_ | refine JC.cond_false ?_ | refine JC.skip ?_ | refine JC.exit ?_ | refine JC.block ?_ | refine CT.past ?_ | refine CT.hit ?_ | refine CT.miss rfl ?_ | refine CT.blockEnd ?_ | refine JC.ret ?_ | refine CT.ret ?_ | refine CT.blockRet ?_ | refine JO.omit rfl rfl ?_ | (refine JR.lit rfl ⟨rfl, by decide, by decide, by decide⟩ ?_; intro _))
  refine JC.test (fun hlt => ?_) (fun hge => ?_)
  · have hlt' : k < L.length := by omega
    have hft := findIdx_take _ L k hlt' hno
    repeat (first | refine CT.next ?_ | refine JC.seq ?_ | refine JC.region ?_ | refine JO.nil ?_ | refine JO.go rfl ?_ | refine JR.val (by first | exact OpV.move | exact OpV.assign | exact OpV.load | exact OpV.fieldAddr | exact OpV.indexEl | exact OpV.len | exact OpV.lss | exact OpV.not | exact OpV.pick_true | exact OpV.pick_false | exact OpV.inc (by omega) | exact OpV.eql | exact OpV.neq | exact OpV.leq | exact OpV.gtr | exact OpV.geq | exact OpV.extract | exact OpV.makeFunc | exact OpV.addn (by omega) | exact OpV.add (by omega) | exact OpV.subn (by omega) | exact OpV.sub (by omega) | exact OpV.lens | exact OpV.eqlID | exact OpV.neqID | exact OpV.eqlEv | exact OpV.eqlOp | exact OpV.eqlStr | exact OpV.neqStr | exact OpV.eqlNil | exact OpV.eqlBool | exact OpV.neqBool) rfl ?_ | (refine JR.alloc rfl ?_; intro _) | (refine JR.box rfl ?_; intro _) | refine JR.store ?_ | refine JC.cond_true ?_ | refine JC.cond_false ?_ | refine JC.skip ?_ | refine JC.exit ?_ | refine JC.block ?_ | refine CT.past ?_ | refine CT.hit ?_ | refine CT.miss rfl ?_ | refine CT.blockEnd ?_ | refine JC.ret ?_ | refine CT.ret ?_ | refine CT.blockRet ?_ | refine JO.omit rfl rfl ?_ | (refine JR.lit rfl ⟨rfl, by decide, by decide, by decide⟩ ?_; intro _))
    refine JC.openID (.slice a L.length c) k hlt' ?_
    intro b o
    refine JC.quiet mixed (by kernel_rfl) ?_
    repeat (first | refine JQ.val rfl (by first | exact OpV.move | exact OpV.assign | exact OpV.load | exact OpV.fieldAddr | exact OpV.indexEl | exact OpV.len | exact OpV.lss | exact OpV.not | exact OpV.pick_true | exact OpV.pick_false | exact OpV.inc (by omega) | exact OpV.eql | exact OpV.neq | exact OpV.leq | exact OpV.gtr | exact OpV.geq | exact OpV.extract | exact OpV.makeFunc | exact OpV.addn (by omega) | exact OpV.add (by omega) | exact OpV.subn (by omega) | exact OpV.sub (by omega) | exact OpV.lens | exact OpV.eqlID | exact OpV.neqID | exact OpV.eqlEv | exact OpV.eqlOp | exact OpV.eqlStr | exact OpV.neqStr | exact OpV.eqlNil | exact OpV.eqlBool | exact OpV.neqBool) rfl ?_ | refine JQ.omit rfl rfl ?_ | refine JQ.nil ?_)
    repeat (first | refine CT.next ?_ | refine JC.seq ?_ | refine JC.region ?_ | refine JO.nil ?_ | refine JO.go rfl ?_ | refine JR.val (by first | exact OpV.move | exact OpV.assign | exact OpV.load | exact OpV.fieldAddr | exact OpV.indexEl | exact OpV.len | exact OpV.lss | exact OpV.not | exact OpV.pick_true | exact OpV.pick_false | exact OpV.inc (by omega) | exact OpV.eql | exact OpV.neq | exact OpV.leq | exact OpV.gtr | exact OpV.geq | exact OpV.extract | exact OpV.makeFunc | exact OpV.addn (by omega) | exact OpV.add (by omega) | exact OpV.subn (by omega) | exact OpV.sub (by omega) | exact OpV.lens | exact OpV.eqlID | exact OpV.neqID | exact OpV.eqlEv | exact OpV.eqlOp | exact OpV.eqlStr | exact OpV.neqStr | exact OpV.eqlNil | exact OpV.eqlBool | exact OpV.neqBool) rfl ?_ | (refine JR.alloc rfl ?_; intro _) | (refine JR.box rfl ?_; intro _) | refine JR.store ?_ | refine JC.cond_true ?_ | refine JC.cond_false ?_ | refine JC.skip ?_ | refine JC.exit ?_ | refine JC.block ?_ | refine CT.past ?_ | refine CT.hit ?_ | refine CT.miss rfl ?_ | refine CT.blockEnd ?_ | refine JC.ret ?_ | refine CT.ret ?_ | refine CT.blockRet ?_ | refine JO.omit rfl rfl ?_ | (refine JR.lit rfl ⟨rfl, by decide, by decide, by decide⟩ ?_; intro _))
    refine JC.test (fun hy => ?_) (fun hn => ?_)
    · repeat (first | refine CT.next ?_ | refine JC.seq ?_ | refine JC.region ?_ | refine JO.nil ?_ | refine JO.go rfl ?_ | refine JR.val (by first | exact OpV.move | exact OpV.assign | exact OpV.load | exact OpV.fieldAddr | exact OpV.indexEl | exact OpV.len | exact OpV.lss | exact OpV.not | exact OpV.pick_true | exact OpV.pick_false | exact OpV.inc (by omega) | exact OpV.eql | exact OpV.neq | exact OpV.leq | exact OpV.gtr | exact OpV.geq | exact OpV.extract | exact OpV.makeFunc | exact OpV.addn (by omega) | exact OpV.add (by omega) | exact OpV.subn (by omega) | exact OpV.sub (by omega) | exact OpV.lens | exact OpV.eqlID | exact OpV.neqID | exact OpV.eqlEv | exact OpV.eqlOp | exact OpV.eqlStr | exact OpV.neqStr | exact OpV.eqlNil | exact OpV.eqlBool | exact OpV.neqBool) rfl ?_ | (refine JR.alloc rfl ?_; intro _) | (refine JR.box rfl ?_; intro _) | refine JR.store ?_ | refine JC.cond_true ?_ | refine JC.cond_false ?_ | refine JC.skip ?_ | refine JC.exit ?_ | refine JC.block ?_ | refine CT.past ?_ | refine CT.hit ?_ | refine CT.miss rfl ?_ | refine CT.blockEnd ?_ | refine JC.ret ?_ | refine CT.ret ?_ | refine CT.blockRet ?_ | refine JO.omit rfl rfl ?_ | (refine JR.lit rfl ⟨rfl, by decide, by decide, by decide⟩ ?_; intro _))
      refine CT.done () ?_ (fun w ho => ho.ent)
      rw [hft.1 (by simpa using hy)]; rfl
    · repeat (first | refine CT.next ?_ | refine JC.seq ?_ | refine JC.region ?_ | refine JO.nil ?_ | refine JO.go rfl ?_ | refine JR.val (by first | exact OpV.move | exact OpV.assign | exact OpV.load | exact OpV.fieldAddr | exact OpV.indexEl | exact OpV.len | exact OpV.lss | exact OpV.not | exact OpV.pick_true | exact OpV.pick_false | exact OpV.inc (by omega) | exact OpV.eql | exact OpV.neq | exact OpV.leq | exact OpV.gtr | exact OpV.geq | exact OpV.extract | exact OpV.makeFunc | exact OpV.addn (by omega) | exact OpV.add (by omega) | exact OpV.subn (by omega) | exact OpV.sub (by omega) | exact OpV.lens | exact OpV.eqlID | exact OpV.neqID | exact OpV.eqlEv | exact OpV.eqlOp | exact OpV.eqlStr | exact OpV.neqStr | exact OpV.eqlNil | exact OpV.eqlBool | exact OpV.neqBool) rfl ?_ | (refine JR.alloc rfl ?_; intro _) | (refine JR.box rfl ?_; intro _) | refine JR.store ?_ | refine JC.cond_true ?_ | refine JC.cond_false ?_ | refine JC.skip ?_ | refine JC.exit ?_ | refine JC.block ?_ | refine CT.past ?_ | refine CT.hit ?_ | refine CT.miss rfl ?_ | refine CT.blockEnd ?_ | refine JC.ret ?_ | refine CT.ret ?_ | refine CT.blockRet ?_ | refine JO.omit rfl rfl ?_ | (refine JR.lit rfl ⟨rfl, by decide, by decide, by decide⟩ ?_; intro _))
      exact ⟨k + 1, ⟨by omega, hft.2 (by simpa using hn)⟩, by omega, inferInstance⟩
  · have hk0 : k = L.length := by omega
    repeat (first | refine CT.next ?_ | refine JC.seq ?_ | refine JC.region ?_ | refine JO.nil ?_ | refine JO.go rfl ?_ | refine JR.val (by first | exact OpV.move | exact OpV.assign | exact OpV.load | exact OpV.fieldAddr | exact OpV.indexEl | exact OpV.len | exact OpV.lss | exact OpV.not | exact OpV.pick_true | exact OpV.pick_false | exact OpV.inc (by omega) | exact OpV.eql | exact OpV.neq | exact OpV.leq | exact OpV.gtr | exact OpV.geq | exact OpV.extract | exact OpV.makeFunc | exact OpV.addn (by omega) | exact OpV.add (by omega) | exact OpV.subn (by omega) | exact OpV.sub (by omega) | exact OpV.lens | exact OpV.eqlID | exact OpV.neqID | exact OpV.eqlEv | exact OpV.eqlOp | exact OpV.eqlStr | exact OpV.neqStr | exact OpV.eqlNil | exact OpV.eqlBool | exact OpV.neqBool) rfl ?_ | (refine JR.alloc rfl ?_; intro _) | (refine JR.box rfl ?_; intro _) | refine JR.store ?_ | refine JC.cond_true ?_ | refine JC.cond_false ?_ | refine JC.skip ?_ | refine JC.exit ?_ | refine JC.block ?_ | refine CT.past ?_ | refine CT.hit ?_ | refine CT.miss rfl ?_ | refine CT.blockEnd ?_ | refine JC.ret ?_ | refine CT.ret ?_ | refine CT.blockRet ?_ | refine JO.omit rfl rfl ?_ | (refine JR.lit rfl ⟨rfl, by decide, by decide, by decide⟩ ?_; intro _))
    refine CT.done () ?_ (fun w ho => ho.ent)
    rw [List.take_of_length_le (by omega)] at hno
    rw [hno]; rfl

theorem contains_ids (w : World) (F : Nat → Prop) (a : Option Addr) (c : Nat) (L : List ID) (x : ID) (h : (sl a c L).holds F w) :
    GivesV Try.prog 37 [.slice a L.length c, .agg ⟨idc x⟩] w F (.bool (decide (x ∈ L))) := by
  refine gives_of Try.func37 rfl Try.ntmps37 rfl rfl [.st (sl a c L)] (.start1 h) ?_
  repeat (first | refine CT.next ?_ | refine JC.seq ?_ | refine JC.region ?_ | refine JO.nil ?_ | refine JO.go rfl ?_ | refine JR.val (by first | exact OpV.move | exact OpV.assign | exact OpV.load | exact OpV.fieldAddr | exact OpV.indexEl | exact OpV.len | exact OpV.lss | exact OpV.not | exact OpV.pick_true | exact OpV.pick_false | exact OpV.inc (by omega) | exact OpV.eql | exact OpV.neq | exact OpV.leq | exact OpV.gtr | exact OpV.geq | exact OpV.extract | exact OpV.makeFunc | exact OpV.addn (by omega) | exact OpV.add (by omega) | exact OpV.subn (by omega) | exact OpV.sub (by omega) | exact OpV.lens | exact OpV.eqlID | exact OpV.neqID | exact OpV.eqlEv | exact OpV.eqlOp | exact OpV.eqlStr | exact OpV.neqStr | exact OpV.eqlNil | exact OpV.eqlBool | exact OpV.neqBool) rfl ?_ | (refine JR.alloc rfl ?_; intro _) | (refine JR.box rfl ?_; intro _) | refine JR.store ?_ | refine JC.cond_true ?_ | refine JC.cond_false ?_ | refine JC.skip ?_ | refine JC.exit ?_ | refine JC.block ?_ | refine CT.past ?_ | refine CT.hit ?_ | refine CT.miss rfl ?_ | refine CT.blockEnd ?_ | refine JC.ret ?_ | refine CT.ret ?_ | refine CT.blockRet ?_ | refine JO.omit rfl rfl ?_ | (refine JR.lit rfl ⟨rfl, by decide, by decide, by decide⟩ ?_; intro _))
  refine JR.callV rfl (fun w1 hw => index_ids w1 _ a c L x hw.get) ?_
  repeat (first | refine CT.next ?_ | refine JC.seq ?_ | refine JC.region ?_ | refine JO.nil ?_ | refine JO.go rfl ?_ | refine JR.val (by first | exact OpV.move | exact OpV.assign | exact OpV.load | exact OpV.fieldAddr | exact OpV.indexEl | exact OpV.len | exact OpV.lss | exact OpV.not | exact OpV.pick_true | exact OpV.pick_false | exact OpV.inc (by omega) | exact OpV.eql | exact OpV.neq | exact OpV.leq | exact OpV.gtr | exact OpV.geq | exact OpV.extract | exact OpV.makeFunc | exact OpV.addn (by omega) | exact OpV.add (by omega) | exact OpV.subn (by omega) | exact OpV.sub (by omega) | exact OpV.lens | exact OpV.eqlID | exact OpV.neqID | exact OpV.eqlEv | exact OpV.eqlOp | exact OpV.eqlStr | exact OpV.neqStr | exact OpV.eqlNil | exact OpV.eqlBool | exact OpV.neqBool) rfl ?_ | (refine JR.alloc rfl ?_; intro _) | (refine JR.box rfl ?_; intro _) | refine JR.store ?_ | refine JC.cond_true ?_ | refine JC.cond_false ?_ | refine JC.skip ?_ | refine JC.exit ?_ | refine JC.block ?_ | refine CT.past ?_ | refine CT.hit ?_ | refine CT.miss rfl ?_ | refine CT.blockEnd ?_ | refine JC.ret ?_ | refine CT.ret ?_ | refine CT.blockRet ?_ | refine JO.omit rfl rfl ?_ | (refine JR.lit rfl ⟨rfl, by decide, by decide, by decide⟩ ?_; intro _))
  refine CT.done () ?_ (fun w ho => ho.ent)
  simp only [packed]
  congr 1
  cases hf : L.findIdx? (fun y => decide (x = y)) with
  | none =>
    have : ¬ x ∈ L := fun hx => by
      have := List.findIdx?_eq_none_iff.1 hf x hx
      simp at this
    simp [idxV, this]
  | some i =>
    have : x ∈ L := by
      obtain ⟨hi, h1, _⟩ := List.findIdx?_eq_some_iff_getElem.1 hf
      rw [of_decide_eq_true h1]; exact List.getElem_mem hi
    simp [idxV, this]

theorem has_ids (w : World) (F : Nat → Prop) (a : Option Addr) (c : Nat) (L : List ID) (x : ID) (h : (sl a c L).holds F w) :
    GivesV Try.prog 20 [.slice a L.length c, .agg ⟨idc x⟩] w F (.bool (decide (x ∈ L))) := by
  refine gives_of Try.func20 rfl Try.ntmps20 rfl rfl [.st (sl a c L)] (.start1 h) ?_
  repeat (first | refine CT.next ?_ | refine JC.seq ?_ | refine JC.region ?_ | refine JO.nil ?_ | refine JO.go rfl ?_ | refine JR.val (by first | exact OpV.move | exact OpV.assign | exact OpV.load | exact OpV.fieldAddr | exact OpV.indexEl | exact OpV.len | exact OpV.lss | exact OpV.not | exact OpV.pick_true | exact OpV.pick_false | exact OpV.inc (by omega) | exact OpV.eql | exact OpV.neq | exact OpV.leq | exact OpV.gtr | exact OpV.geq | exact OpV.extract | exact OpV.makeFunc | exact OpV.addn (by omega) | exact OpV.add (by omega) | exact OpV.subn (by omega) | exact OpV.sub (by omega) | exact OpV.lens | exact OpV.eqlID | exact OpV.neqID | exact OpV.eqlEv | exact OpV.eqlOp | exact OpV.eqlStr | exact OpV.neqStr | exact OpV.eqlNil | exact OpV.eqlBool | exact OpV.neqBool) rfl ?_ | (refine JR.alloc rfl ?_; intro _) | (refine JR.box rfl ?_; intro _) | refine JR.store ?_ | refine JC.cond_true ?_ | refine JC.cond_false ?_ | refine JC.skip ?_ | refine JC.exit ?_ | refine JC.block ?_ | refine CT.past ?_ | refine CT.hit ?_ | refine CT.miss rfl ?_ | refine CT.blockEnd ?_ | refine JC.ret ?_ | refine CT.ret ?_ | refine CT.blockRet ?_ | refine JO.omit rfl rfl ?_ | (refine JR.lit rfl ⟨rfl, by decide, by decide, by decide⟩ ?_; intro _))
  refine JR.callV rfl (fun w1 hw => contains_ids w1 _ a c L x hw.get) ?_
  repeat (first | refine CT.next ?_ | refine JC.seq ?_ | refine JC.region ?_ | refine JO.nil ?_ | refine JO.go rfl ?_ | refine JR.val (by first | exact OpV.move | exact OpV.assign | exact OpV.load | exact OpV.fieldAddr | exact OpV.indexEl | exact OpV.len | exact OpV.lss | exact OpV.not | exact OpV.pick_true | exact OpV.pick_false | exact OpV.inc (by omega) | exact OpV.eql | exact OpV.neq | exact OpV.leq | exact OpV.gtr | exact OpV.geq | exact OpV.extract | exact OpV.makeFunc | exact OpV.addn (by omega) | exact OpV.add (by omega) | exact OpV.subn (by omega) | exact OpV.sub (by omega) | exact OpV.lens | exact OpV.eqlID | exact OpV.neqID | exact OpV.eqlEv | exact OpV.eqlOp | exact OpV.eqlStr | exact OpV.neqStr | exact OpV.eqlNil | exact OpV.eqlBool | exact OpV.neqBool) rfl ?_ | (refine JR.alloc rfl ?_; intro _) | (refine JR.box rfl ?_; intro _) | refine JR.store ?_ | refine JC.cond_true ?_ | refine JC.cond_false ?_ | refine JC.skip ?_ | refine JC.exit ?_ | refine JC.block ?_ | refine CT.past ?_ | refine CT.hit ?_ | refine CT.miss rfl ?_ | refine CT.blockEnd ?_ | refine JC.ret ?_ | refine CT.ret ?_ | refine CT.blockRet ?_ | refine JO.omit rfl rfl ?_ | (refine JR.lit rfl ⟨rfl, by decide, by decide, by decide⟩ ?_; intro _))
  exact CT.done () rfl (fun w ho => ho.ent)
end Ab
end Go.Proofs.Ytcmfemfndadfmaa

/- Contracts: bytes.Compare, ids.order, ids.Less, ids.Rises, strings.IndexByte, ops.Key, commit.in. -/
namespace Go.Proofs.Ytcmfemfndadfmaa
namespace Ab
open Go Go.RowKit
set_option linter.unusedVariables false
set_option linter.unusedSimpArgs false
set_option synthInstance.maxSize 4000
set_option synthInstance.maxHeartbeats 400000
attribute [local irreducible] JC JO JR JQ andThen inBlock OpV Gives retTo JM JS

theorem run_bytealgCompare (w : World) {a b : Option Addr} {c k : Nat} {L M : List UInt8} {F G : Nat → Prop} (h : (sl a c L).holds F w) (h' : (sl b k M).holds G w) :
    (callFunc 86 ⟨[.slice a L.length c, .slice b M.length k]⟩).run Try.prog w = .ok (.value (.int .i64 (Lib.compareBytes L M))) w := by
  rw [run_callFunc_extern Try.func86 (by kernel_rfl) (by kernel_rfl) (by kernel_rfl) (e := Extern.BytealgCompare.compare) (by kernel_rfl)]
  have : (Extern.BytealgCompare.compare ⟨[.slice a L.length c, .slice b M.length k]⟩).run Try.prog w = .ok (.int .i64 (Lib.compareBytes L M)) w := by
    change Sem.run Try.prog (do pure (goInt (Extern.BytealgCompare.cmp (← Extern.Bytes.bytesOf (.slice a L.length c)) (← Extern.Bytes.bytesOf (.slice b M.length k))))) w = _
    simp only [Sem.run_bind, run_bytesOf h, run_bytesOf h', Result.andThen_ok, Sem.run_pure, Lib.cmp_eq, goInt]
  rw [this]; rfl

theorem compare_bytes (w : World) (F : Nat → Prop) (a b : Option Addr) (c k : Nat) (L M : List UInt8) (h : (sl a c L).holds F w) (h' : (sl b k M).holds F w) :
    GivesV Try.prog 76 [.slice a L.length c, .slice b M.length k] w F (.int .i64 (Lib.compareBytes L M)) := by
  refine gives_of Try.func76 rfl Try.ntmps76 rfl rfl [.st (sl a c L), .st (sl b k M)] (.start2 h h') ?_
  repeat (first | refine CT.next ?_ | refine JC.seq ?_ | refine JC.region ?_ | refine JO.nil ?_ | refine JO.go rfl ?_ | refine JR.val (by first | exact OpV.move | exact OpV.assign | exact OpV.load | exact OpV.fieldAddr | exact OpV.indexEl | exact OpV.len | exact OpV.lss | exact OpV.not | exact OpV.pick_true | exact OpV.pick_false | exact OpV.inc (by omega) | exact OpV.eql | exact OpV.neq | exact OpV.leq | exact OpV.gtr | exact OpV.geq | exact OpV.extract | exact OpV.makeFunc | exact OpV.addn (by omega) | exact OpV.add (by omega) | exact OpV.subn (by omega) | exact OpV.sub (by omega) | exact OpV.lens | exact OpV.eqlID | exact OpV.neqID | exact OpV.eqlEv | exact OpV.eqlOp | exact OpV.eqlStr | exact OpV.neqStr | exact OpV.eqlNil | exact OpV.eqlBool | exact OpV.neqBool) rfl ?_ | (refine JR.alloc rfl ?_; intro _) | (refine JR.box rfl ?_; intro _) | refine JR.store ?_ | refine JC.cond_true ?_ | refine JC.cond_false ?_ | refine JC.skip ?_ | refine JC.exit ?_ | refine JC.block ?_ | refine CT.past ?_ | refine CT.hit ?_ | refine CT.miss rfl ?_ | refine CT.blockEnd ?_ | refine JC.ret ?_ | refine CT.ret ?_ | refine CT.blockRet ?_ | refine JO.omit rfl rfl ?_ | (refine JR.lit rfl ⟨rfl, by decide, by decide, by decide⟩ ?_; intro _))
  refine JR.val (OpV.extern fun w1 hw => run_bytealgCompare w1 (hw.get (A := sl a c L)) (hw.get (A := sl b k M))) rfl ?_
  repeat (first | refine CT.next ?_ | refine JC.seq ?_ | refine JC.region ?_ | refine JO.nil ?_ | refine JO.go rfl ?_ | refine JR.val (by first | exact OpV.move | exact OpV.assign | exact OpV.load | exact OpV.fieldAddr | exact OpV.indexEl | exact OpV.len | exact OpV.lss | exact OpV.not | exact OpV.pick_true | exact OpV.pick_false | exact OpV.inc (by omega) | exact OpV.eql | exact OpV.neq | exact OpV.leq | exact OpV.gtr | exact OpV.geq | exact OpV.extract | exact OpV.makeFunc | exact OpV.addn (by omega) | exact OpV.add (by omega) | exact OpV.subn (by omega) | exact OpV.sub (by omega) | exact OpV.lens | exact OpV.eqlID | exact OpV.neqID | exact OpV.eqlEv | exact OpV.eqlOp | exact OpV.eqlStr | exact OpV.neqStr | exact OpV.eqlNil | exact OpV.eqlBool | exact OpV.neqBool) rfl ?_ | (refine JR.alloc rfl ?_; intro _) | (refine JR.box rfl ?_; intro _) | refine JR.store ?_ | refine JC.cond_true ?_ | refine JC.cond_false ?_ | refine JC.skip ?_ | refine JC.exit ?_ | refine JC.block ?_ | refine CT.past ?_ | refine CT.hit ?_ | refine CT.miss rfl ?_ | refine CT.blockEnd ?_ | refine JC.ret ?_ | refine CT.ret ?_ | refine CT.blockRet ?_ | refine JO.omit rfl rfl ?_ | (refine JR.lit rfl ⟨rfl, by decide, by decide, by decide⟩ ?_; intro _))
  exact CT.done () rfl (fun w ho => ho.ent)

theorem order_ids (w : World) (F : Nat → Prop) (a b : ID) : GivesV Try.prog 54 [.agg ⟨idc a⟩, .agg ⟨idc b⟩] w F (.int .i64 (idCmp a b)) := by
  refine gives_of Try.func54 rfl Try.ntmps54 rfl rfl [] (.start w F) ?_
  repeat (first | refine CT.next ?_ | refine JC.seq ?_ | refine JC.region ?_ | refine JO.nil ?_ | refine JO.go rfl ?_ | refine JR.val (by first | exact OpV.move | exact OpV.assign | exact OpV.load | exact OpV.fieldAddr | exact OpV.indexEl | exact OpV.len | exact OpV.lss | exact OpV.not | exact OpV.pick_true | exact OpV.pick_false | exact OpV.inc (by omega) | exact OpV.eql | exact OpV.neq | exact OpV.leq | exact OpV.gtr | exact OpV.geq | exact OpV.extract | exact OpV.makeFunc | exact OpV.addn (by omega) | exact OpV.add (by omega) | exact OpV.subn (by omega) | exact OpV.sub (by omega) | exact OpV.lens | exact OpV.eqlID | exact OpV.neqID | exact OpV.eqlEv | exact OpV.eqlOp | exact OpV.eqlStr | exact OpV.neqStr | exact OpV.eqlNil | exact OpV.eqlBool | exact OpV.neqBool) rfl ?_ | (refine JR.alloc rfl ?_; intro _) | (refine JR.box rfl ?_; intro _) | refine JR.store ?_ | refine JC.cond_true ?_ | refine JC.cond_false ?_ | refine JC.skip ?_ | refine JC.exit ?_ | refine JC.block ?_ | refine CT.past ?_ | refine CT.hit ?_ | refine CT.miss rfl ?_ | refine CT.blockEnd ?_ | refine JC.ret ?_ | refine CT.ret ?_ | refine CT.blockRet ?_ | refine JO.omit rfl rfl ?_ | (refine JR.lit rfl ⟨rfl, by decide, by decide, by decide⟩ ?_; intro _))
  rename_i bx by_
  refine JC.quiet mixed (by kernel_rfl) ?_
  refine JQ.val rfl (OpV.sliceArr (by decide)) rfl ?_
  refine JQ.val rfl (OpV.sliceArr (by decide)) rfl ?_
  refine JQ.call (v := .int .i64 (idCmp a b)) rfl rfl (fun w1 hw => ?_) ?_
  · have := (compare_bytes w1 (fun _ => True) (some ⟨bx, 0, none⟩) (some ⟨by_, 0, none⟩) 32 32 a.1 b.1
      (At.sl_bytes (Γ := [.own by_ _ (idc b), .own bx _ (idc a)]) inferInstance rfl hw a.2 (by decide)) (At.sl_bytes (Γ := [.own by_ _ (idc b), .own bx _ (idc a)]) inferInstance rfl hw b.2 (by decide))).any (G := fp w F [.own by_ 44 (idc b), .own bx 44 (idc a)])
    rw [a.2, b.2] at this
    exact this
  repeat (first | refine JQ.val rfl (by first | exact OpV.move | exact OpV.assign | exact OpV.load | exact OpV.fieldAddr | exact OpV.indexEl | exact OpV.len | exact OpV.lss | exact OpV.not | exact OpV.pick_true | exact OpV.pick_false | exact OpV.inc (by omega) | exact OpV.eql | exact OpV.neq | exact OpV.leq | exact OpV.gtr | exact OpV.geq | exact OpV.extract | exact OpV.makeFunc | exact OpV.addn (by omega) | exact OpV.add (by omega) | exact OpV.subn (by omega) | exact OpV.sub (by omega) | exact OpV.lens | exact OpV.eqlID | exact OpV.neqID | exact OpV.eqlEv | exact OpV.eqlOp | exact OpV.eqlStr | exact OpV.neqStr | exact OpV.eqlNil | exact OpV.eqlBool | exact OpV.neqBool) rfl ?_ | refine JQ.omit rfl rfl ?_ | refine JQ.nil ?_)
  repeat (first | refine CT.next ?_ | refine JC.seq ?_ | refine JC.region ?_ | refine JO.nil ?_ | refine JO.go rfl ?_ | refine JR.val (by first | exact OpV.move | exact OpV.assign | exact OpV.load | exact OpV.fieldAddr | exact OpV.indexEl | exact OpV.len | exact OpV.lss | exact OpV.not | exact OpV.pick_true | exact OpV.pick_false | exact OpV.inc (by omega) | exact OpV.eql | exact OpV.neq | exact OpV.leq | exact OpV.gtr | exact OpV.geq | exact OpV.extract | exact OpV.makeFunc | exact OpV.addn (by omega) | exact OpV.add (by omega) | exact OpV.subn (by omega) | exact OpV.sub (by omega) | exact OpV.lens | exact OpV.eqlID | exact OpV.neqID | exact OpV.eqlEv | exact OpV.eqlOp | exact OpV.eqlStr | exact OpV.neqStr | exact OpV.eqlNil | exact OpV.eqlBool | exact OpV.neqBool) rfl ?_ | (refine JR.alloc rfl ?_; intro _) | (refine JR.box rfl ?_; intro _) | refine JR.store ?_ | refine JC.cond_true ?_ | refine JC.cond_false ?_ | refine JC.skip ?_ | refine JC.exit ?_ | refine JC.block ?_ | refine CT.past ?_ | refine CT.hit ?_ | refine CT.miss rfl ?_ | refine CT.blockEnd ?_ | refine JC.ret ?_ | refine CT.ret ?_ | refine CT.blockRet ?_ | refine JO.omit rfl rfl ?_ | (refine JR.lit rfl ⟨rfl, by decide, by decide, by decide⟩ ?_; intro _))
  exact CT.done () rfl (fun w ho => ho.ent)

theorem less_ids (w : World) (F : Nat → Prop) (a b : ID) : GivesV Try.prog 38 [.agg ⟨idc a⟩, .agg ⟨idc b⟩] w F (.bool (idLt a b)) := by
  refine gives_of Try.func38 rfl Try.ntmps38 rfl rfl [] (.start w F) ?_
  repeat (first | refine CT.next ?_ | refine JC.seq ?_ | refine JC.region ?_ | refine JO.nil ?_ | refine JO.go rfl ?_ | refine JR.val (by first | exact OpV.move | exact OpV.assign | exact OpV.load | exact OpV.fieldAddr | exact OpV.indexEl | exact OpV.len | exact OpV.lss | exact OpV.not | exact OpV.pick_true | exact OpV.pick_false | exact OpV.inc (by omega) | exact OpV.eql | exact OpV.neq | exact OpV.leq | exact OpV.gtr | exact OpV.geq | exact OpV.extract | exact OpV.makeFunc | exact OpV.addn (by omega) | exact OpV.add (by omega) | exact OpV.subn (by omega) | exact OpV.sub (by omega) | exact OpV.lens | exact OpV.eqlID | exact OpV.neqID | exact OpV.eqlEv | exact OpV.eqlOp | exact OpV.eqlStr | exact OpV.neqStr | exact OpV.eqlNil | exact OpV.eqlBool | exact OpV.neqBool) rfl ?_ | (refine JR.alloc rfl ?_; intro _) | (refine JR.box rfl ?_; intro _) | refine JR.store ?_ | refine JC.cond_true ?_ | refine JC.cond_false ?_ | refine JC.skip ?_ | refine JC.exit ?_ | refine JC.block ?_ | refine CT.past ?_ | refine CT.hit ?_ | refine CT.miss rfl ?_ | refine CT.blockEnd ?_ | refine JC.ret ?_ | refine CT.ret ?_ | refine CT.blockRet ?_ | refine JO.omit rfl rfl ?_ | (refine JR.lit rfl ⟨rfl, by decide, by decide, by decide⟩ ?_; intro _))
  refine JR.callV rfl (fun w1 hw => order_ids w1 _ a b) ?_
  repeat (first | refine CT.next ?_ | refine JC.seq ?_ | refine JC.region ?_ | refine JO.nil ?_ | refine JO.go rfl ?_ | refine JR.val (by first | exact OpV.move | exact OpV.assign | exact OpV.load | exact OpV.fieldAddr | exact OpV.indexEl | exact OpV.len | exact OpV.lss | exact OpV.not | exact OpV.pick_true | exact OpV.pick_false | exact OpV.inc (by omega) | exact OpV.eql | exact OpV.neq | exact OpV.leq | exact OpV.gtr | exact OpV.geq | exact OpV.extract | exact OpV.makeFunc | exact OpV.addn (by omega) | exact OpV.add (by omega) | exact OpV.subn (by omega) | exact OpV.sub (by omega) | exact OpV.lens | exact OpV.eqlID | exact OpV.neqID | exact OpV.eqlEv | exact OpV.eqlOp | exact OpV.eqlStr | exact OpV.neqStr | exact OpV.eqlNil | exact OpV.eqlBool | exact OpV.neqBool) rfl ?_ | (refine JR.alloc rfl ?_; intro _) | (refine JR.box rfl ?_; intro _) | refine JR.store ?_ | refine JC.cond_true ?_ | refine JC.cond_false ?_ | refine JC.skip ?_ | refine JC.exit ?_ | refine JC.block ?_ | refine CT.past ?_ | refine CT.hit ?_ | refine CT.miss rfl ?_ | refine CT.blockEnd ?_ | refine JC.ret ?_ | refine CT.ret ?_ | refine CT.blockRet ?_ | refine JO.omit rfl rfl ?_ | (refine JR.lit rfl ⟨rfl, by decide, by decide, by decide⟩ ?_; intro _))
  exact CT.done () rfl (fun w ho => ho.ent)

theorem rises_take (L : List ID) (k : Nat) (h1 : 1 ≤ k) (hk : k < L.length) (h : rises (L.take k) = true) : rises (L.take (k + 1)) = idLt L[k - 1] L[k] ∧ (idLt L[k - 1] L[k] = false → rises L = false) := by
  induction L generalizing k with
  | nil => simp at hk
  | cons a L ih =>
    cases L with
    | nil => simp at hk; omega
    | cons b L =>
      match k, h1 with
      | 1, _ => 
        refine ⟨by simp [rises], fun h => ?_⟩
        simp at h
        simp [rises, h]
      | k + 2, _ =>
        have h' : idLt a b = true ∧ rises ((b :: L).take (k + 1)) = true := by
          simpa [rises] using h
        obtain ⟨i1, i2⟩ := ih (k + 1) (by omega) (by simpa using hk) h'.2
        refine ⟨?_, fun hf => ?_⟩
        · simp only [List.take_succ_cons, rises, h'.1, Bool.true_and] at i1 ⊢
          simpa using i1
        · have := i2 (by simpa using hf)
          simp [rises, h'.1, this]

theorem rises_short (L : List ID) (h : L.length ≤ 1) : rises L = true := by
  match L with
  | [] => rfl
  | [_] => rfl
  | _ :: _ :: _ => simp at h

theorem rises_ids (w : World) (F : Nat → Prop) (a : Option Addr) (c : Nat) (L : List ID) (h : (sl a c L).holds F w) :
    GivesV Try.prog 21 [.slice a L.length c] w F (.bool (rises L)) := by
  have hL : L.length < 9223372036854775807 := by have := h.2.2.1; simp only [lim] at this; omega
  refine gives_of Try.func21 rfl Try.ntmps21 rfl rfl [.st (sl a c L)] (.start1 h) ?_
  repeat (first | refine CT.next ?_ | refine JC.seq ?_ | refine JC.region ?_ | refine JO.nil ?_ | refine JO.go rfl ?_ | refine JR.val (by first | exact OpV.move | exact OpV.assign | exact OpV.load | exact OpV.fieldAddr | exact OpV.indexEl | exact OpV.len | exact OpV.lss | exact OpV.not | exact OpV.pick_true | exact OpV.pick_false | exact OpV.inc (by omega) | exact OpV.eql | exact OpV.neq | exact OpV.leq | exact OpV.gtr | exact OpV.geq | exact OpV.extract | exact OpV.makeFunc | exact OpV.addn (by omega) | exact OpV.add (by omega) | exact OpV.subn (by omega) | exact OpV.sub (by omega) | exact OpV.lens | exact OpV.eqlID | exact OpV.neqID | exact OpV.eqlEv | exact OpV.eqlOp | exact OpV.eqlStr | exact OpV.neqStr | exact OpV.eqlNil | exact OpV.eqlBool | exact OpV.neqBool) rfl ?_ | (refine JR.alloc rfl ?_; intro _) | (refine JR.box rfl ?_; intro _) | refine JR.store ?_ | refine JC.cond_true ?_ | refine JC.cond_false ?_ | refine JC.skip ?_ | refine JC.exit ?_ | refine JC.block ?_ | refine CT.past ?_ | refine CT.hit ?_ | refine CT.miss rfl ?_ | refine CT.blockEnd ?_ | refine JC.ret ?_ | refine CT.ret ?_ | refine CT.blockRet ?_ | refine JO.omit rfl rfl ?_ | (refine JR.lit rfl ⟨rfl, by decide, by decide, by decide⟩ ?_; intro _))
  refine JC.reslot 3 (.int .i64 ((1 : Nat) : Int)) rfl ?_
  refine JC.loop1 (fun k : Nat => [(0, .slice a L.length c), (3, .int .i64 (k : Int))]) (fun _ => [.st (sl a c L)])
    (fun k => 1 ≤ k ∧ (k ≤ L.length ∨ k = 1) ∧ rises (L.take k) = true) (fun k => L.length + 1 - k) 1 ⟨Nat.le_refl _, .inr rfl, rises_short _ (by simp; omega)⟩ inferInstance ?_
  intro k ⟨h1, hk, hr⟩
  repeat (first | refine CT.next ?_ | refine JC.seq ?_ | refine JC.region ?_ | refine JO.nil ?_ | refine JO.go rfl ?_ | refine JR.val (by first | exact OpV.move | exact OpV.assign | exact OpV.load | exact OpV.fieldAddr | exact OpV.indexEl | exact OpV.len | exact OpV.lss | exact OpV.not | exact OpV.pick_true | exact OpV.pick_false | exact OpV.inc (by omega) | exact OpV.eql | exact OpV.neq | exact OpV.leq | exact OpV.gtr | exact OpV.geq | exact OpV.extract | exact OpV.makeFunc | exact OpV.addn (by omega) | exact OpV.add (by omega) | exact OpV.subn (by omega) | exact OpV.sub (by omega) | exact OpV.lens | exact OpV.eqlID | exact OpV.neqID | exact OpV.eqlEv | exact OpV.eqlOp | exact OpV.eqlStr | exact OpV.neqStr | exact OpV.eqlNil | exact OpV.eqlBool | exact OpV.neqBool) rfl ?_ | (refine JR.alloc rfl ?_; intro _) | (refine JR.box rfl ?_; intro _) | refine JR.store ?_ | refine JC.cond_true ?_ | refine JC.cond_false ?_ | refine JC.skip ?_ | refine JC.exit ?_ | refine JC.block ?_ | refine CT.past ?_ | refine CT.hit ?_ | refine CT.miss rfl ?_ | refine CT.blockEnd ?_ | refine JC.ret ?_ | refine CT.ret ?_ | refine CT.blockRet ?_ | refine JO.omit rfl rfl ?_ | (refine JR.lit rfl ⟨rfl, by decide, by decide, by decide⟩ ?_; intro _))
  refine JC.test (fun hlt => ?_) (fun hge => ?_)
  · have hlt' : k < L.length := by omega
    have hr' := rises_take L k h1 hlt' hr
    repeat (first | refine CT.next ?_ | refine JC.seq ?_ | refine JC.region ?_ | refine JO.nil ?_ | refine JO.go rfl ?_ | refine JR.val (by first | exact OpV.move | exact OpV.assign | exact OpV.load | exact OpV.fieldAddr | exact OpV.indexEl | exact OpV.len | exact OpV.lss | exact OpV.not | exact OpV.pick_true | exact OpV.pick_false | exact OpV.inc (by omega) | exact OpV.eql | exact OpV.neq | exact OpV.leq | exact OpV.gtr | exact OpV.geq | exact OpV.extract | exact OpV.makeFunc | exact OpV.addn (by omega) | exact OpV.add (by omega) | exact OpV.subn (by omega) | exact OpV.sub (by omega) | exact OpV.lens | exact OpV.eqlID | exact OpV.neqID | exact OpV.eqlEv | exact OpV.eqlOp | exact OpV.eqlStr | exact OpV.neqStr | exact OpV.eqlNil | exact OpV.eqlBool | exact OpV.neqBool) rfl ?_ | (refine JR.alloc rfl ?_; intro _) | (refine JR.box rfl ?_; intro _) | refine JR.store ?_ | refine JC.cond_true ?_ | refine JC.cond_false ?_ | refine JC.skip ?_ | refine JC.exit ?_ | refine JC.block ?_ | refine CT.past ?_ | refine CT.hit ?_ | refine CT.miss rfl ?_ | refine CT.blockEnd ?_ | refine JC.ret ?_ | refine CT.ret ?_ | refine CT.blockRet ?_ | refine JO.omit rfl rfl ?_ | (refine JR.lit rfl ⟨rfl, by decide, by decide, by decide⟩ ?_; intro _))
    refine JC.openID (.slice a L.length c) (k - 1) (by omega) ?_
    intro b1 o1
    refine JC.openID (.slice a L.length c) k hlt' ?_
    intro b2 o2
    refine JC.quiet mixed (by kernel_rfl) ?_
    repeat (first | refine JQ.val rfl (by first | exact OpV.move | exact OpV.assign | exact OpV.load | exact OpV.fieldAddr | exact OpV.indexEl | exact OpV.len | exact OpV.lss | exact OpV.not | exact OpV.pick_true | exact OpV.pick_false | exact OpV.inc (by omega) | exact OpV.eql | exact OpV.neq | exact OpV.leq | exact OpV.gtr | exact OpV.geq | exact OpV.extract | exact OpV.makeFunc | exact OpV.addn (by omega) | exact OpV.add (by omega) | exact OpV.subn (by omega) | exact OpV.sub (by omega) | exact OpV.lens | exact OpV.eqlID | exact OpV.neqID | exact OpV.eqlEv | exact OpV.eqlOp | exact OpV.eqlStr | exact OpV.neqStr | exact OpV.eqlNil | exact OpV.eqlBool | exact OpV.neqBool) rfl ?_ | refine JQ.omit rfl rfl ?_ | refine JQ.nil ?_)
    refine JQ.call rfl rfl (fun w1 hw => less_ids w1 _ _ _) ?_
    repeat (first | refine JQ.val rfl (by first | exact OpV.move | exact OpV.assign | exact OpV.load | exact OpV.fieldAddr | exact OpV.indexEl | exact OpV.len | exact OpV.lss | exact OpV.not | exact OpV.pick_true | exact OpV.pick_false | exact OpV.inc (by omega) | exact OpV.eql | exact OpV.neq | exact OpV.leq | exact OpV.gtr | exact OpV.geq | exact OpV.extract | exact OpV.makeFunc | exact OpV.addn (by omega) | exact OpV.add (by omega) | exact OpV.subn (by omega) | exact OpV.sub (by omega) | exact OpV.lens | exact OpV.eqlID | exact OpV.neqID | exact OpV.eqlEv | exact OpV.eqlOp | exact OpV.eqlStr | exact OpV.neqStr | exact OpV.eqlNil | exact OpV.eqlBool | exact OpV.neqBool) rfl ?_ | refine JQ.omit rfl rfl ?_ | refine JQ.nil ?_)
    repeat (first | refine CT.next ?_ | refine JC.seq ?_ | refine JC.region ?_ | refine JO.nil ?_ | refine JO.go rfl ?_ | refine JR.val (by first | exact OpV.move | exact OpV.assign | exact OpV.load | exact OpV.fieldAddr | exact OpV.indexEl | exact OpV.len | exact OpV.lss | exact OpV.not | exact OpV.pick_true | exact OpV.pick_false | exact OpV.inc (by omega) | exact OpV.eql | exact OpV.neq | exact OpV.leq | exact OpV.gtr | exact OpV.geq | exact OpV.extract | exact OpV.makeFunc | exact OpV.addn (by omega) | exact OpV.add (by omega) | exact OpV.subn (by omega) | exact OpV.sub (by omega) | exact OpV.lens | exact OpV.eqlID | exact OpV.neqID | exact OpV.eqlEv | exact OpV.eqlOp | exact OpV.eqlStr | exact OpV.neqStr | exact OpV.eqlNil | exact OpV.eqlBool | exact OpV.neqBool) rfl ?_ | (refine JR.alloc rfl ?_; intro _) | (refine JR.box rfl ?_; intro _) | refine JR.store ?_ | refine JC.cond_true ?_ | refine JC.cond_false ?_ | refine JC.skip ?_ | refine JC.exit ?_ | refine JC.block ?_ | refine CT.past ?_ | refine CT.hit ?_ | refine CT.miss rfl ?_ | refine CT.blockEnd ?_ | refine JC.ret ?_ | refine CT.ret ?_ | refine CT.blockRet ?_ | refine JO.omit rfl rfl ?_ | (refine JR.lit rfl ⟨rfl, by decide, by decide, by decide⟩ ?_; intro _))
    refine JC.test (fun hne => ?_) (fun heq2 => ?_)
    · repeat (first | refine CT.next ?_ | refine JC.seq ?_ | refine JC.region ?_ | refine JO.nil ?_ | refine JO.go rfl ?_ | refine JR.val (by first | exact OpV.move | exact OpV.assign | exact OpV.load | exact OpV.fieldAddr | exact OpV.indexEl | exact OpV.len | exact OpV.lss | exact OpV.not | exact OpV.pick_true | exact OpV.pick_false | exact OpV.inc (by omega) | exact OpV.eql | exact OpV.neq | exact OpV.leq | exact OpV.gtr | exact OpV.geq | exact OpV.extract | exact OpV.makeFunc | exact OpV.addn (by omega) | exact OpV.add (by omega) | exact OpV.subn (by omega) | exact OpV.sub (by omega) | exact OpV.lens | exact OpV.eqlID | exact OpV.neqID | exact OpV.eqlEv | exact OpV.eqlOp | exact OpV.eqlStr | exact OpV.neqStr | exact OpV.eqlNil | exact OpV.eqlBool | exact OpV.neqBool) rfl ?_ | (refine JR.alloc rfl ?_; intro _) | (refine JR.box rfl ?_; intro _) | refine JR.store ?_ | refine JC.cond_true ?_ | refine JC.cond_false ?_ | refine JC.skip ?_ | refine JC.exit ?_ | refine JC.block ?_ | refine CT.past ?_ | refine CT.hit ?_ | refine CT.miss rfl ?_ | refine CT.blockEnd ?_ | refine JC.ret ?_ | refine CT.ret ?_ | refine CT.blockRet ?_ | refine JO.omit rfl rfl ?_ | (refine JR.lit rfl ⟨rfl, by decide, by decide, by decide⟩ ?_; intro _))
      refine CT.done () ?_ (fun w ho => ho.ent)
      simp [packed, hr'.2 (by simpa using hne)]
    · repeat (first | refine CT.next ?_ | refine JC.seq ?_ | refine JC.region ?_ | refine JO.nil ?_ | refine JO.go rfl ?_ | refine JR.val (by first | exact OpV.move | exact OpV.assign | exact OpV.load | exact OpV.fieldAddr | exact OpV.indexEl | exact OpV.len | exact OpV.lss | exact OpV.not | exact OpV.pick_true | exact OpV.pick_false | exact OpV.inc (by omega) | exact OpV.eql | exact OpV.neq | exact OpV.leq | exact OpV.gtr | exact OpV.geq | exact OpV.extract | exact OpV.makeFunc | exact OpV.addn (by omega) | exact OpV.add (by omega) | exact OpV.subn (by omega) | exact OpV.sub (by omega) | exact OpV.lens | exact OpV.eqlID | exact OpV.neqID | exact OpV.eqlEv | exact OpV.eqlOp | exact OpV.eqlStr | exact OpV.neqStr | exact OpV.eqlNil | exact OpV.eqlBool | exact OpV.neqBool) rfl ?_ | (refine JR.alloc rfl ?_; intro _) | (refine JR.box rfl ?_; intro _) | refine JR.store ?_ | refine JC.cond_true ?_ | refine JC.cond_false ?_ | refine JC.skip ?_ | refine JC.exit ?_ | refine JC.block ?_ | refine CT.past ?_ | refine CT.hit ?_ | refine CT.miss rfl ?_ | refine CT.blockEnd ?_ | refine JC.ret ?_ | refine CT.ret ?_ | refine CT.blockRet ?_ | refine JO.omit rfl rfl ?_ | (refine JR.lit rfl ⟨rfl, by decide, by decide, by decide⟩ ?_; intro _))
      exact ⟨k + 1, ⟨by omega, .inl (by omega), by rw [hr'.1]; simpa using heq2⟩, by omega, inferInstance⟩
  · repeat (first | refine CT.next ?_ | refine JC.seq ?_ | refine JC.region ?_ | refine JO.nil ?_ | refine JO.go rfl ?_ | refine JR.val (by first | exact OpV.move | exact OpV.assign | exact OpV.load | exact OpV.fieldAddr | exact OpV.indexEl | exact OpV.len | exact OpV.lss | exact OpV.not | exact OpV.pick_true | exact OpV.pick_false | exact OpV.inc (by omega) | exact OpV.eql | exact OpV.neq | exact OpV.leq | exact OpV.gtr | exact OpV.geq | exact OpV.extract | exact OpV.makeFunc | exact OpV.addn (by omega) | exact OpV.add (by omega) | exact OpV.subn (by omega) | exact OpV.sub (by omega) | exact OpV.lens | exact OpV.eqlID | exact OpV.neqID | exact OpV.eqlEv | exact OpV.eqlOp | exact OpV.eqlStr | exact OpV.neqStr | exact OpV.eqlNil | exact OpV.eqlBool | exact OpV.neqBool) rfl ?_ | (refine JR.alloc rfl ?_; intro _) | (refine JR.box rfl ?_; intro _) | refine JR.store ?_ | refine JC.cond_true ?_ | refine JC.cond_false ?_ | refine JC.skip ?_ | refine JC.exit ?_ | refine JC.block ?_ | refine CT.past ?_ | refine CT.hit ?_ | refine CT.miss rfl ?_ | refine CT.blockEnd ?_ | refine JC.ret ?_ | refine CT.ret ?_ | refine CT.blockRet ?_ | refine JO.omit rfl rfl ?_ | (refine JR.lit rfl ⟨rfl, by decide, by decide, by decide⟩ ?_; intro _))
    refine CT.done () ?_ (fun w ho => ho.ent)
    have : rises L = true := by
      rcases hk with hk | hk
      · rwa [List.take_of_length_le (by omega)] at hr
      · exact rises_short L (by omega)
    simp [packed, this]

theorem run_bytealgIndexByteString (w : World) (s : ByteArray) (c : UInt8) :
    (callFunc 87 ⟨[.string s, .int .u8 (c.toNat : Int)]⟩).run Try.prog w = .ok (.value (.int .i64 (Lib.indexByte s.data.toList c))) w := by
  rw [run_callFunc_extern Try.func87 (by kernel_rfl) (by kernel_rfl) (by kernel_rfl) (e := Extern.BytealgIndexByte.indexByte) (by kernel_rfl), Lib.run_indexByteString]
  simp

theorem liteIndexByte (w : World) (F : Nat → Prop) (s : ByteArray) (c : UInt8) : GivesV Try.prog 78 [.string s, .int .u8 (c.toNat : Int)] w F (.int .i64 (Lib.indexByte s.data.toList c)) := by
  refine gives_of Try.func78 rfl Try.ntmps78 rfl rfl [] (.start w F) ?_
  repeat (first | refine CT.next ?_ | refine JC.seq ?_ | refine JC.region ?_ | refine JO.nil ?_ | refine JO.go rfl ?_ | refine JR.val (by first | exact OpV.move | exact OpV.assign | exact OpV.load | exact OpV.fieldAddr | exact OpV.indexEl | exact OpV.len | exact OpV.lss | exact OpV.not | exact OpV.pick_true | exact OpV.pick_false | exact OpV.inc (by omega) | exact OpV.eql | exact OpV.neq | exact OpV.leq | exact OpV.gtr | exact OpV.geq | exact OpV.extract | exact OpV.makeFunc | exact OpV.addn (by omega) | exact OpV.add (by omega) | exact OpV.subn (by omega) | exact OpV.sub (by omega) | exact OpV.lens | exact OpV.eqlID | exact OpV.neqID | exact OpV.eqlEv | exact OpV.eqlOp | exact OpV.eqlStr | exact OpV.neqStr | exact OpV.eqlNil | exact OpV.eqlBool | exact OpV.neqBool) rfl ?_ | (refine JR.alloc rfl ?_; intro _) | (refine JR.box rfl ?_; intro _) | refine JR.store ?_ | refine JC.cond_true ?_ | refine JC.cond_false ?_ | refine JC.skip ?_ | refine JC.exit ?_ | refine JC.block ?_ | refine CT.past ?_ | refine CT.hit ?_ | refine CT.miss rfl ?_ | refine CT.blockEnd ?_ | refine JC.ret ?_ | refine CT.ret ?_ | refine CT.blockRet ?_ | refine JO.omit rfl rfl ?_ | (refine JR.lit rfl ⟨rfl, by decide, by decide, by decide⟩ ?_; intro _))
  refine JR.val (OpV.extern fun w1 hw => run_bytealgIndexByteString w1 s c) rfl ?_
  repeat (first | refine CT.next ?_ | refine JC.seq ?_ | refine JC.region ?_ | refine JO.nil ?_ | refine JO.go rfl ?_ | refine JR.val (by first | exact OpV.move | exact OpV.assign | exact OpV.load | exact OpV.fieldAddr | exact OpV.indexEl | exact OpV.len | exact OpV.lss | exact OpV.not | exact OpV.pick_true | exact OpV.pick_false | exact OpV.inc (by omega) | exact OpV.eql | exact OpV.neq | exact OpV.leq | exact OpV.gtr | exact OpV.geq | exact OpV.extract | exact OpV.makeFunc | exact OpV.addn (by omega) | exact OpV.add (by omega) | exact OpV.subn (by omega) | exact OpV.sub (by omega) | exact OpV.lens | exact OpV.eqlID | exact OpV.neqID | exact OpV.eqlEv | exact OpV.eqlOp | exact OpV.eqlStr | exact OpV.neqStr | exact OpV.eqlNil | exact OpV.eqlBool | exact OpV.neqBool) rfl ?_ | (refine JR.alloc rfl ?_; intro _) | (refine JR.box rfl ?_; intro _) | refine JR.store ?_ | refine JC.cond_true ?_ | refine JC.cond_false ?_ | refine JC.skip ?_ | refine JC.exit ?_ | refine JC.block ?_ | refine CT.past ?_ | refine CT.hit ?_ | refine CT.miss rfl ?_ | refine CT.blockEnd ?_ | refine JC.ret ?_ | refine CT.ret ?_ | refine CT.blockRet ?_ | refine JO.omit rfl rfl ?_ | (refine JR.lit rfl ⟨rfl, by decide, by decide, by decide⟩ ?_; intro _))
  exact CT.done () rfl (fun w ho => ho.ent)

theorem indexByte_strings (w : World) (F : Nat → Prop) (s : ByteArray) (c : UInt8) : GivesV Try.prog 65 [.string s, .int .u8 (c.toNat : Int)] w F (.int .i64 (Lib.indexByte s.data.toList c)) := by
  refine gives_of Try.func65 rfl Try.ntmps65 rfl rfl [] (.start w F) ?_
  repeat (first | refine CT.next ?_ | refine JC.seq ?_ | refine JC.region ?_ | refine JO.nil ?_ | refine JO.go rfl ?_ | refine JR.val (by first | exact OpV.move | exact OpV.assign | exact OpV.load | exact OpV.fieldAddr | exact OpV.indexEl | exact OpV.len | exact OpV.lss | exact OpV.not | exact OpV.pick_true | exact OpV.pick_false | exact OpV.inc (by omega) | exact OpV.eql | exact OpV.neq | exact OpV.leq | exact OpV.gtr | exact OpV.geq | exact OpV.extract | exact OpV.makeFunc | exact OpV.addn (by omega) | exact OpV.add (by omega) | exact OpV.subn (by omega) | exact OpV.sub (by omega) | exact OpV.lens | exact OpV.eqlID | exact OpV.neqID | exact OpV.eqlEv | exact OpV.eqlOp | exact OpV.eqlStr | exact OpV.neqStr | exact OpV.eqlNil | exact OpV.eqlBool | exact OpV.neqBool) rfl ?_ | (refine JR.alloc rfl ?_; intro _) | (refine JR.box rfl ?_; intro _) | refine JR.store ?_ | refine JC.cond_true ?_ | refine JC.cond_false ?_ | refine JC.skip ?_ | refine JC.exit ?_ | refine JC.block ?_ | refine CT.past ?_ | refine CT.hit ?_ | refine CT.miss rfl ?_ | refine CT.blockEnd ?_ | refine JC.ret ?_ | refine CT.ret ?_ | refine CT.blockRet ?_ | refine JO.omit rfl rfl ?_ | (refine JR.lit rfl ⟨rfl, by decide, by decide, by decide⟩ ?_; intro _))
  refine JR.callV rfl (fun w1 hw => liteIndexByte w1 _ s c) ?_
  repeat (first | refine CT.next ?_ | refine JC.seq ?_ | refine JC.region ?_ | refine JO.nil ?_ | refine JO.go rfl ?_ | refine JR.val (by first | exact OpV.move | exact OpV.assign | exact OpV.load | exact OpV.fieldAddr | exact OpV.indexEl | exact OpV.len | exact OpV.lss | exact OpV.not | exact OpV.pick_true | exact OpV.pick_false | exact OpV.inc (by omega) | exact OpV.eql | exact OpV.neq | exact OpV.leq | exact OpV.gtr | exact OpV.geq | exact OpV.extract | exact OpV.makeFunc | exact OpV.addn (by omega) | exact OpV.add (by omega) | exact OpV.subn (by omega) | exact OpV.sub (by omega) | exact OpV.lens | exact OpV.eqlID | exact OpV.neqID | exact OpV.eqlEv | exact OpV.eqlOp | exact OpV.eqlStr | exact OpV.neqStr | exact OpV.eqlNil | exact OpV.eqlBool | exact OpV.neqBool) rfl ?_ | (refine JR.alloc rfl ?_; intro _) | (refine JR.box rfl ?_; intro _) | refine JR.store ?_ | refine JC.cond_true ?_ | refine JC.cond_false ?_ | refine JC.skip ?_ | refine JC.exit ?_ | refine JC.block ?_ | refine CT.past ?_ | refine CT.hit ?_ | refine CT.miss rfl ?_ | refine CT.blockEnd ?_ | refine JC.ret ?_ | refine CT.ret ?_ | refine CT.blockRet ?_ | refine JO.omit rfl rfl ?_ | (refine JR.lit rfl ⟨rfl, by decide, by decide, by decide⟩ ?_; intro _))
  exact CT.done () rfl (fun w ho => ho.ent)

theorem indexByte_neg (l : List UInt8) (c : UInt8) : Lib.indexByte l c < 0 ↔ c ∉ l := by
  induction l with
  | nil => simp [Lib.indexByte]
  | cons b l ih =>
    have := Lib.indexByte_ge l c
    unfold Lib.indexByte
    by_cases hb : b = c
    · simp [hb]
    · have hb' : ¬ c = b := fun h => hb h.symm
      simp only [beq_iff_eq, hb, if_false, List.mem_cons, hb', false_or]
      split
      · rename_i h; rw [← ih]; simp [h]
      · rename_i h; rw [← ih]; omega

theorem key_ops (w : World) (F : Nat → Prop) (s : ByteArray) (hs : s.size < 4611686018427387904) : GivesV Try.prog 41 [.string s] w F (.bool (keyOk s)) := by
  refine gives_of Try.func41 rfl Try.ntmps41 rfl rfl [] (.start w F) ?_
  repeat (first | refine CT.next ?_ | refine JC.seq ?_ | refine JC.region ?_ | refine JO.nil ?_ | refine JO.go rfl ?_ | refine JR.val (by first | exact OpV.move | exact OpV.assign | exact OpV.load | exact OpV.fieldAddr | exact OpV.indexEl | exact OpV.len | exact OpV.lss | exact OpV.not | exact OpV.pick_true | exact OpV.pick_false | exact OpV.inc (by omega) | exact OpV.eql | exact OpV.neq | exact OpV.leq | exact OpV.gtr | exact OpV.geq | exact OpV.extract | exact OpV.makeFunc | exact OpV.addn (by omega) | exact OpV.add (by omega) | exact OpV.subn (by omega) | exact OpV.sub (by omega) | exact OpV.lens | exact OpV.eqlID | exact OpV.neqID | exact OpV.eqlEv | exact OpV.eqlOp | exact OpV.eqlStr | exact OpV.neqStr | exact OpV.eqlNil | exact OpV.eqlBool | exact OpV.neqBool) rfl ?_ | (refine JR.alloc rfl ?_; intro _) | (refine JR.box rfl ?_; intro _) | refine JR.store ?_ | refine JC.cond_true ?_ | refine JC.cond_false ?_ | refine JC.skip ?_ | refine JC.exit ?_ | refine JC.block ?_ | refine CT.past ?_ | refine CT.hit ?_ | refine CT.miss rfl ?_ | refine CT.blockEnd ?_ | refine JC.ret ?_ | refine CT.ret ?_ | refine CT.blockRet ?_ | refine JO.omit rfl rfl ?_ | (refine JR.lit rfl ⟨rfl, by decide, by decide, by decide⟩ ?_; intro _))
  refine JC.loop1 (fun k : Nat => [(0, .string s), (5, .int .i64 (s.size : Int)), (6, .int .i64 (k : Int))]) (fun _ => [])
    (fun k => k ≤ s.size ∧ (s.data.toList.take k).all (fun c => decide (c ∈ signs)) = true) (fun k => s.size - k) 0 ⟨Nat.zero_le _, by simp⟩ inferInstance ?_
  intro k ⟨hk, hin⟩
  have hlen : s.data.toList.length = s.size := rfl
  repeat (first | refine CT.next ?_ | refine JC.seq ?_ | refine JC.region ?_ | refine JO.nil ?_ | refine JO.go rfl ?_ | refine JR.val (by first | exact OpV.move | exact OpV.assign | exact OpV.load | exact OpV.fieldAddr | exact OpV.indexEl | exact OpV.len | exact OpV.lss | exact OpV.not | exact OpV.pick_true | exact OpV.pick_false | exact OpV.inc (by omega) | exact OpV.eql | exact OpV.neq | exact OpV.leq | exact OpV.gtr | exact OpV.geq | exact OpV.extract | exact OpV.makeFunc | exact OpV.addn (by omega) | exact OpV.add (by omega) | exact OpV.subn (by omega) | exact OpV.sub (by omega) | exact OpV.lens | exact OpV.eqlID | exact OpV.neqID | exact OpV.eqlEv | exact OpV.eqlOp | exact OpV.eqlStr | exact OpV.neqStr | exact OpV.eqlNil | exact OpV.eqlBool | exact OpV.neqBool) rfl ?_ | (refine JR.alloc rfl ?_; intro _) | (refine JR.box rfl ?_; intro _) | refine JR.store ?_ | refine JC.cond_true ?_ | refine JC.cond_false ?_ | refine JC.skip ?_ | refine JC.exit ?_ | refine JC.block ?_ | refine CT.past ?_ | refine CT.hit ?_ | refine CT.miss rfl ?_ | refine CT.blockEnd ?_ | refine JC.ret ?_ | refine CT.ret ?_ | refine CT.blockRet ?_ | refine JO.omit rfl rfl ?_ | (refine JR.lit rfl ⟨rfl, by decide, by decide, by decide⟩ ?_; intro _))
  refine JC.test (fun hlt => ?_) (fun hge => ?_)
  · have hlt' : k < s.size := by omega
    have hget : s.data.toList[k]'(by omega) = s[k] := rfl
    repeat (first | refine CT.next ?_ | refine JC.seq ?_ | refine JC.region ?_ | refine JO.nil ?_ | refine JO.go rfl ?_ | refine JR.val (by first | exact OpV.move | exact OpV.assign | exact OpV.load | exact OpV.fieldAddr | exact OpV.indexEl | exact OpV.len | exact OpV.lss | exact OpV.not | exact OpV.pick_true | exact OpV.pick_false | exact OpV.inc (by omega) | exact OpV.eql | exact OpV.neq | exact OpV.leq | exact OpV.gtr | exact OpV.geq | exact OpV.extract | exact OpV.makeFunc | exact OpV.addn (by omega) | exact OpV.add (by omega) | exact OpV.subn (by omega) | exact OpV.sub (by omega) | exact OpV.lens | exact OpV.eqlID | exact OpV.neqID | exact OpV.eqlEv | exact OpV.eqlOp | exact OpV.eqlStr | exact OpV.neqStr | exact OpV.eqlNil | exact OpV.eqlBool | exact OpV.neqBool) rfl ?_ | (refine JR.alloc rfl ?_; intro _) | (refine JR.box rfl ?_; intro _) | refine JR.store ?_ | refine JC.cond_true ?_ | refine JC.cond_false ?_ | refine JC.skip ?_ | refine JC.exit ?_ | refine JC.block ?_ | refine CT.past ?_ | refine CT.hit ?_ | refine CT.miss rfl ?_ | refine CT.blockEnd ?_ | refine JC.ret ?_ | refine CT.ret ?_ | refine CT.blockRet ?_ | refine JO.omit rfl rfl ?_ | (refine JR.lit rfl ⟨rfl, by decide, by decide, by decide⟩ ?_; intro _))
    refine JR.val (OpV.indexStr hlt') rfl ?_
    repeat (first | refine CT.next ?_ | refine JC.seq ?_ | refine JC.region ?_ | refine JO.nil ?_ | refine JO.go rfl ?_ | refine JR.val (by first | exact OpV.move | exact OpV.assign | exact OpV.load | exact OpV.fieldAddr | exact OpV.indexEl | exact OpV.len | exact OpV.lss | exact OpV.not | exact OpV.pick_true | exact OpV.pick_false | exact OpV.inc (by omega) | exact OpV.eql | exact OpV.neq | exact OpV.leq | exact OpV.gtr | exact OpV.geq | exact OpV.extract | exact OpV.makeFunc | exact OpV.addn (by omega) | exact OpV.add (by omega) | exact OpV.subn (by omega) | exact OpV.sub (by omega) | exact OpV.lens | exact OpV.eqlID | exact OpV.neqID | exact OpV.eqlEv | exact OpV.eqlOp | exact OpV.eqlStr | exact OpV.neqStr | exact OpV.eqlNil | exact OpV.eqlBool | exact OpV.neqBool) rfl ?_ | (refine JR.alloc rfl ?_; intro _) | (refine JR.box rfl ?_; intro _) | refine JR.store ?_ | refine JC.cond_true ?_ | refine JC.cond_false ?_ | refine JC.skip ?_ | refine JC.exit ?_ | refine JC.block ?_ | refine CT.past ?_ | refine CT.hit ?_ | refine CT.miss rfl ?_ | refine CT.blockEnd ?_ | refine JC.ret ?_ | refine CT.ret ?_ | refine CT.blockRet ?_ | refine JO.omit rfl rfl ?_ | (refine JR.lit rfl ⟨rfl, by decide, by decide, by decide⟩ ?_; intro _))
    refine JR.callV rfl (fun w1 hw => indexByte_strings w1 _ _ _) ?_
    repeat (first | refine CT.next ?_ | refine JC.seq ?_ | refine JC.region ?_ | refine JO.nil ?_ | refine JO.go rfl ?_ | refine JR.val (by first | exact OpV.move | exact OpV.assign | exact OpV.load | exact OpV.fieldAddr | exact OpV.indexEl | exact OpV.len | exact OpV.lss | exact OpV.not | exact OpV.pick_true | exact OpV.pick_false | exact OpV.inc (by omega) | exact OpV.eql | exact OpV.neq | exact OpV.leq | exact OpV.gtr | exact OpV.geq | exact OpV.extract | exact OpV.makeFunc | exact OpV.addn (by omega) | exact OpV.add (by omega) | exact OpV.subn (by omega) | exact OpV.sub (by omega) | exact OpV.lens | exact OpV.eqlID | exact OpV.neqID | exact OpV.eqlEv | exact OpV.eqlOp | exact OpV.eqlStr | exact OpV.neqStr | exact OpV.eqlNil | exact OpV.eqlBool | exact OpV.neqBool) rfl ?_ | (refine JR.alloc rfl ?_; intro _) | (refine JR.box rfl ?_; intro _) | refine JR.store ?_ | refine JC.cond_true ?_ | refine JC.cond_false ?_ | refine JC.skip ?_ | refine JC.exit ?_ | refine JC.block ?_ | refine CT.past ?_ | refine CT.hit ?_ | refine CT.miss rfl ?_ | refine CT.blockEnd ?_ | refine JC.ret ?_ | refine CT.ret ?_ | refine CT.blockRet ?_ | refine JO.omit rfl rfl ?_ | (refine JR.lit rfl ⟨rfl, by decide, by decide, by decide⟩ ?_; intro _))
    refine JC.test (fun hneg => ?_) (fun hpos => ?_)
    · repeat (first | refine CT.next ?_ | refine JC.seq ?_ | refine JC.region ?_ | refine JO.nil ?_ | refine JO.go rfl ?_ | refine JR.val (by first | exact OpV.move | exact OpV.assign | exact OpV.load | exact OpV.fieldAddr | exact OpV.indexEl | exact OpV.len | exact OpV.lss | exact OpV.not | exact OpV.pick_true | exact OpV.pick_false | exact OpV.inc (by omega) | exact OpV.eql | exact OpV.neq | exact OpV.leq | exact OpV.gtr | exact OpV.geq | exact OpV.extract | exact OpV.makeFunc | exact OpV.addn (by omega) | exact OpV.add (by omega) | exact OpV.subn (by omega) | exact OpV.sub (by omega) | exact OpV.lens | exact OpV.eqlID | exact OpV.neqID | exact OpV.eqlEv | exact OpV.eqlOp | exact OpV.eqlStr | exact OpV.neqStr | exact OpV.eqlNil | exact OpV.eqlBool | exact OpV.neqBool) rfl ?_ | (refine JR.alloc rfl ?_; intro _) | (refine JR.box rfl ?_; intro _) | refine JR.store ?_ | refine JC.cond_true ?_ | refine JC.cond_false ?_ | refine JC.skip ?_ | refine JC.exit ?_ | refine JC.block ?_ | refine CT.past ?_ | refine CT.hit ?_ | refine CT.miss rfl ?_ | refine CT.blockEnd ?_ | refine JC.ret ?_ | refine CT.ret ?_ | refine CT.blockRet ?_ | refine JO.omit rfl rfl ?_ | (refine JR.lit rfl ⟨rfl, by decide, by decide, by decide⟩ ?_; intro _))
      refine CT.done () ?_ (fun w ho => ho.ent)
      have h1 := (indexByte_neg _ _).1 hneg
      have h2 : s.data.toList.all (fun c => decide (c ∈ signs)) = false := by
        rw [List.all_eq_false]
        exact ⟨s[k], by rw [← hget]; exact List.getElem_mem _, fun h => h1 (of_decide_eq_true h)⟩
      simp [packed, keyOk, h2]
    · have h1 : s[k] ∈ signs := Classical.not_not.1 (mt (indexByte_neg _ _).2 hpos)
      repeat (first | refine CT.next ?_ | refine JC.seq ?_ | refine JC.region ?_ | refine JO.nil ?_ | refine JO.go rfl ?_ | refine JR.val (by first | exact OpV.move | exact OpV.assign | exact OpV.load | exact OpV.fieldAddr | exact OpV.indexEl | exact OpV.len | exact OpV.lss | exact OpV.not | exact OpV.pick_true | exact OpV.pick_false | exact OpV.inc (by omega) | exact OpV.eql | exact OpV.neq | exact OpV.leq | exact OpV.gtr | exact OpV.geq | exact OpV.extract | exact OpV.makeFunc | exact OpV.addn (by omega) | exact OpV.add (by omega) | exact OpV.subn (by omega) | exact OpV.sub (by omega) | exact OpV.lens | exact OpV.eqlID | exact OpV.neqID | exact OpV.eqlEv | exact OpV.eqlOp | exact OpV.eqlStr | exact OpV.neqStr | exact OpV.eqlNil | exact OpV.eqlBool | exact OpV.neqBool) rfl ?_ | (refine JR.alloc rfl ?_; intro _) | (refine JR.box rfl ?_; intro _) | refine JR.store ?_ | refine JC.cond_true ?_ | refine JC.cond_false ?_ | refine JC.skip ?_ | refine JC.exit ?_ | refine JC.block ?_ | refine CT.past ?_ | refine CT.hit ?_ | refine CT.miss rfl ?_ | refine CT.blockEnd ?_ | refine JC.ret ?_ | refine CT.ret ?_ | refine CT.blockRet ?_ | refine JO.omit rfl rfl ?_ | (refine JR.lit rfl ⟨rfl, by decide, by decide, by decide⟩ ?_; intro _))
      refine ⟨k + 1, ⟨by omega, ?_⟩, by omega, inferInstance⟩
      rw [List.take_succ_eq_append_getElem (by omega), List.all_append, hin, hget]
      simp [h1]
  · have hall : s.data.toList.all (fun c => decide (c ∈ signs)) = true := by
      rwa [List.take_of_length_le (by omega)] at hin
    repeat (first | refine CT.next ?_ | refine JC.seq ?_ | refine JC.region ?_ | refine JO.nil ?_ | refine JO.go rfl ?_ | refine JR.val (by first | exact OpV.move | exact OpV.assign | exact OpV.load | exact OpV.fieldAddr | exact OpV.indexEl | exact OpV.len | exact OpV.lss | exact OpV.not | exact OpV.pick_true | exact OpV.pick_false | exact OpV.inc (by omega) | exact OpV.eql | exact OpV.neq | exact OpV.leq | exact OpV.gtr | exact OpV.geq | exact OpV.extract | exact OpV.makeFunc | exact OpV.addn (by omega) | exact OpV.add (by omega) | exact OpV.subn (by omega) | exact OpV.sub (by omega) | exact OpV.lens | exact OpV.eqlID | exact OpV.neqID | exact OpV.eqlEv | exact OpV.eqlOp | exact OpV.eqlStr | exact OpV.neqStr | exact OpV.eqlNil | exact OpV.eqlBool | exact OpV.neqBool) rfl ?_ | (refine JR.alloc rfl ?_; intro _) | (refine JR.box rfl ?_; intro _) | refine JR.store ?_ | refine JC.cond_true ?_ | refine JC.cond_false ?_ | refine JC.skip ?_ | refine JC.exit ?_ | refine JC.block ?_ | refine CT.past ?_ | refine CT.hit ?_ | refine CT.miss rfl ?_ | refine CT.blockEnd ?_ | refine JC.ret ?_ | refine CT.ret ?_ | refine CT.blockRet ?_ | refine JO.omit rfl rfl ?_ | (refine JR.lit rfl ⟨rfl, by decide, by decide, by decide⟩ ?_; intro _))
    refine JO.test 17 (fun h => ?_) (fun h => ?_)
    · repeat (first | refine CT.next ?_ | refine JC.seq ?_ | refine JC.region ?_ | refine JO.nil ?_ | refine JO.go rfl ?_ | refine JR.val (by first | exact OpV.move | exact OpV.assign | exact OpV.load | exact OpV.fieldAddr | exact OpV.indexEl | exact OpV.len | exact OpV.lss | exact OpV.not | exact OpV.pick_true | exact OpV.pick_false | exact OpV.inc (by omega) | exact OpV.eql | exact OpV.neq | exact OpV.leq | exact OpV.gtr | exact OpV.geq | exact OpV.extract | exact OpV.makeFunc | exact OpV.addn (by omega) | exact OpV.add (by omega) | exact OpV.subn (by omega) | exact OpV.sub (by omega) | exact OpV.lens | exact OpV.eqlID | exact OpV.neqID | exact OpV.eqlEv | exact OpV.eqlOp | exact OpV.eqlStr | exact OpV.neqStr | exact OpV.eqlNil | exact OpV.eqlBool | exact OpV.neqBool) rfl ?_ | (refine JR.alloc rfl ?_; intro _) | (refine JR.box rfl ?_; intro _) | refine JR.store ?_ | refine JC.cond_true ?_ | refine JC.cond_false ?_ | refine JC.skip ?_ | refine JC.exit ?_ | refine JC.block ?_ | refine CT.past ?_ | refine CT.hit ?_ | refine CT.miss rfl ?_ | refine CT.blockEnd ?_ | refine JC.ret ?_ | refine CT.ret ?_ | refine CT.blockRet ?_ | refine JO.omit rfl rfl ?_ | (refine JR.lit rfl ⟨rfl, by decide, by decide, by decide⟩ ?_; intro _))
      refine CT.done () ?_ (fun w ho => ho.ent)
      have : s.size ≠ 0 := fun h0 => h (by apply ByteArray.ext; apply Array.eq_empty_of_size_eq_zero; exact h0)
      simp only [packed, keyOk, hall, Bool.true_and, this, decide_true, ne_eq, not_false_eq_true]
      simp
      omega
    · repeat (first | refine CT.next ?_ | refine JC.seq ?_ | refine JC.region ?_ | refine JO.nil ?_ | refine JO.go rfl ?_ | refine JR.val (by first | exact OpV.move | exact OpV.assign | exact OpV.load | exact OpV.fieldAddr | exact OpV.indexEl | exact OpV.len | exact OpV.lss | exact OpV.not | exact OpV.pick_true | exact OpV.pick_false | exact OpV.inc (by omega) | exact OpV.eql | exact OpV.neq | exact OpV.leq | exact OpV.gtr | exact OpV.geq | exact OpV.extract | exact OpV.makeFunc | exact OpV.addn (by omega) | exact OpV.add (by omega) | exact OpV.subn (by omega) | exact OpV.sub (by omega) | exact OpV.lens | exact OpV.eqlID | exact OpV.neqID | exact OpV.eqlEv | exact OpV.eqlOp | exact OpV.eqlStr | exact OpV.neqStr | exact OpV.eqlNil | exact OpV.eqlBool | exact OpV.neqBool) rfl ?_ | (refine JR.alloc rfl ?_; intro _) | (refine JR.box rfl ?_; intro _) | refine JR.store ?_ | refine JC.cond_true ?_ | refine JC.cond_false ?_ | refine JC.skip ?_ | refine JC.exit ?_ | refine JC.block ?_ | refine CT.past ?_ | refine CT.hit ?_ | refine CT.miss rfl ?_ | refine CT.blockEnd ?_ | refine JC.ret ?_ | refine CT.ret ?_ | refine CT.blockRet ?_ | refine JO.omit rfl rfl ?_ | (refine JR.lit rfl ⟨rfl, by decide, by decide, by decide⟩ ?_; intro _))
      refine CT.done () ?_ (fun w ho => ho.ent)
      have : s.size = 0 := by
        have h : s = ByteArray.mk #[] := by simpa using h
        rw [h]; rfl
      simp [packed, keyOk, this]

theorem in_commit (w : World) (F : Nat → Prop) (n lo hi : Int) : GivesV Try.prog 27 [.int .i64 n, .int .i64 lo, .int .i64 hi] w F (.bool (inB n lo hi)) := by
  refine gives_of Try.func27 rfl Try.ntmps27 rfl rfl [] (.start w F) ?_
  repeat (first | refine CT.next ?_ | refine JC.seq ?_ | refine JC.region ?_ | refine JO.nil ?_ | refine JO.go rfl ?_ | refine JR.val (by first | exact OpV.move | exact OpV.assign | exact OpV.load | exact OpV.fieldAddr | exact OpV.indexEl | exact OpV.len | exact OpV.lss | exact OpV.not | exact OpV.pick_true | exact OpV.pick_false | exact OpV.inc (by omega) | exact OpV.eql | exact OpV.neq | exact OpV.leq | exact OpV.gtr | exact OpV.geq | exact OpV.extract | exact OpV.makeFunc | exact OpV.addn (by omega) | exact OpV.add (by omega) | exact OpV.subn (by omega) | exact OpV.sub (by omega) | exact OpV.lens | exact OpV.eqlID | exact OpV.neqID | exact OpV.eqlEv | exact OpV.eqlOp | exact OpV.eqlStr | exact OpV.neqStr | exact OpV.eqlNil | exact OpV.eqlBool | exact OpV.neqBool) rfl ?_ | (refine JR.alloc rfl ?_; intro _) | (refine JR.box rfl ?_; intro _) | refine JR.store ?_ | refine JC.cond_true ?_ | refine JC.cond_false ?_ | refine JC.skip ?_ | refine JC.exit ?_ | refine JC.block ?_ | refine CT.past ?_ | refine CT.hit ?_ | refine CT.miss rfl ?_ | refine CT.blockEnd ?_ | refine JC.ret ?_ | refine CT.ret ?_ | refine CT.blockRet ?_ | refine JO.omit rfl rfl ?_ | (refine JR.lit rfl ⟨rfl, by decide, by decide, by decide⟩ ?_; intro _))
  refine JO.test 10 (fun h => ?_) (fun h => ?_)
  · repeat (first | refine CT.next ?_ | refine JC.seq ?_ | refine JC.region ?_ | refine JO.nil ?_ | refine JO.go rfl ?_ | refine JR.val (by first | exact OpV.move | exact OpV.assign | exact OpV.load | exact OpV.fieldAddr | exact OpV.indexEl | exact OpV.len | exact OpV.lss | exact OpV.not | exact OpV.pick_true | exact OpV.pick_false | exact OpV.inc (by omega) | exact OpV.eql | exact OpV.neq | exact OpV.leq | exact OpV.gtr | exact OpV.geq | exact OpV.extract | exact OpV.makeFunc | exact OpV.addn (by omega) | exact OpV.add (by omega) | exact OpV.subn (by omega) | exact OpV.sub (by omega) | exact OpV.lens | exact OpV.eqlID | exact OpV.neqID | exact OpV.eqlEv | exact OpV.eqlOp | exact OpV.eqlStr | exact OpV.neqStr | exact OpV.eqlNil | exact OpV.eqlBool | exact OpV.neqBool) rfl ?_ | (refine JR.alloc rfl ?_; intro _) | (refine JR.box rfl ?_; intro _) | refine JR.store ?_ | refine JC.cond_true ?_ | refine JC.cond_false ?_ | refine JC.skip ?_ | refine JC.exit ?_ | refine JC.block ?_ | refine CT.past ?_ | refine CT.hit ?_ | refine CT.miss rfl ?_ | refine CT.blockEnd ?_ | refine JC.ret ?_ | refine CT.ret ?_ | refine CT.blockRet ?_ | refine JO.omit rfl rfl ?_ | (refine JR.lit rfl ⟨rfl, by decide, by decide, by decide⟩ ?_; intro _))
    exact CT.done () (by simp [packed, inB, h]) (fun w ho => ho.ent)
  · repeat (first | refine CT.next ?_ | refine JC.seq ?_ | refine JC.region ?_ | refine JO.nil ?_ | refine JO.go rfl ?_ | refine JR.val (by first | exact OpV.move | exact OpV.assign | exact OpV.load | exact OpV.fieldAddr | exact OpV.indexEl | exact OpV.len | exact OpV.lss | exact OpV.not | exact OpV.pick_true | exact OpV.pick_false | exact OpV.inc (by omega) | exact OpV.eql | exact OpV.neq | exact OpV.leq | exact OpV.gtr | exact OpV.geq | exact OpV.extract | exact OpV.makeFunc | exact OpV.addn (by omega) | exact OpV.add (by omega) | exact OpV.subn (by omega) | exact OpV.sub (by omega) | exact OpV.lens | exact OpV.eqlID | exact OpV.neqID | exact OpV.eqlEv | exact OpV.eqlOp | exact OpV.eqlStr | exact OpV.neqStr | exact OpV.eqlNil | exact OpV.eqlBool | exact OpV.neqBool) rfl ?_ | (refine JR.alloc rfl ?_; intro _) | (refine JR.box rfl ?_; intro _) | refine JR.store ?_ | refine JC.cond_true ?_ | refine JC.cond_false ?_ | refine JC.skip ?_ | refine JC.exit ?_ | refine JC.block ?_ | refine CT.past ?_ | refine CT.hit ?_ | refine CT.miss rfl ?_ | refine CT.blockEnd ?_ | refine JC.ret ?_ | refine CT.ret ?_ | refine CT.blockRet ?_ | refine JO.omit rfl rfl ?_ | (refine JR.lit rfl ⟨rfl, by decide, by decide, by decide⟩ ?_; intro _))
    exact CT.done () (by simp [packed, inB, h]) (fun w ho => ho.ent)
end Ab
end Go.Proofs.Ytcmfemfndadfmaa

/- A row of the call's own, as the library's contracts on sorting want it, and as they leave it. Program-independent. -/
namespace Go.Proofs.Ytcmfemfndadfmaa
namespace Ab
open Go Go.RowKit Go.Sort
set_option linter.unusedVariables false
set_option linter.unusedSimpArgs false

theorem putRow_block (w : World) (g : Nat) (cur : Array Value) (el : TypeId) (F : Array Value) (hg : w.heap[g]? = some (.cells cur el (0, 0))) :
    (Go.Sort.putRow id w g 0 F).heap[g]? = some (.cells (Go.Sort.putCells id 0 F cur) el (0, 0)) := by
  simp [Go.Sort.putRow, Go.Sort.mapBlock, Go.Sort.onCells, Array.getElem?_modify, hg]
theorem putRow_other (w : World) (g k : Nat) (F : Array Value) (hk : k ≠ g) : (Go.Sort.putRow id w g 0 F).heap[k]? = w.heap[k]? := by
  simp [Go.Sort.putRow, Go.Sort.mapBlock, Array.getElem?_modify, Ne.symm hk]
theorem putCells_size (F cur : Array Value) : (Go.Sort.putCells id 0 F cur).size = cur.size := by simp [Go.Sort.putCells]
theorem putCells_get (F cur : Array Value) (k : Nat) (hk : k < F.size) (hc : F.size ≤ cur.size) : (Go.Sort.putCells id 0 F cur)[k]? = some F[k]! := by
  have : k < cur.size := by omega
  simp [Go.Sort.putCells, this, hk]

/-- The ids' cells, in a row. -/
def idFlat (L : List ID) : List Value := L.flatMap idc
theorem idFlat_length (L : List ID) : (idFlat L).length = L.length * 32 := by
  induction L with
  | nil => rfl
  | cons a L ih => simp only [idFlat, List.flatMap_cons, List.length_append, idc_length] at *; rw [ih]; simp; omega
theorem flat_ids (r : List (ID × Unit)) : flat (α := ID) r = idFlat (r.map (·.1)) := by
  induction r with
  | nil => rfl
  | cons p r ih => simp only [flat, ih, idFlat, List.map_cons, List.flatMap_cons]; rfl
theorem idFlat_get (L : List ID) (t : Nat) (h : t < L.length * 32) : (idFlat L)[t]? = some ((idc (L.toArray[t / 32]!))[t % 32]!) := by
  have hi : t / 32 < L.length := by omega
  have := flat_at (α := ID) (L.map fun x => (x, ())) (t / 32) (by simpa using hi) (t % 32) ((idc (L.toArray[t / 32]!))[t % 32]!) (by
    have hlt : t % 32 < (idc L[t / 32]).length := by rw [idc_length]; omega
    have e0 : Cell.cells (α := ID) ((L.map fun x => (x, ()))[t / 32]'(by simpa using hi)).1 ((L.map fun x => (x, ()))[t / 32]'(by simpa using hi)).2 = idc L[t / 32] := by simp [Cell.cells]
    rw [e0]
    rw [List.getElem?_eq_getElem hlt]
    congr 1
    have : L.toArray[t / 32]! = L[t / 32] := by simp [hi]
    rw [this]
    exact (getElem!_pos (idc L[t / 32]) (t % 32) hlt).symm)
  have e3 : flat (α := ID) (L.map fun x => (x, ())) = idFlat L := (flat_ids _).trans (congrArg idFlat (by simp [Function.comp_def]))
  rw [e3] at this
  have e2 : t / 32 * Cell.sz ID + t % 32 = t := by show t / 32 * 32 + t % 32 = t; omega
  rwa [e2] at this

/-- What a sort of a row of ids leaves. -/
theorem sort_hold {P : Program} {f g0 : FuncId} {w0 w : World} {F : Nat → Prop} {Γ : List Fact} {a : Option Addr} {c el : Nat} {L : List ID} (ho : Hold w0 F (.res (buf a c el L) :: Γ) w)
    (hnone : ∀ (p : Option Addr) (cap : Nat) (w : World), Calls P f #[.slice p 0 cap, .func (.func g0) #[] #[]] w fun e w' => e = .returned (.tuple #[]) ∧ w' = w)
    (hsort : ∀ (b cap : Nat) (d : Array ID), Go.Sort.HoldsK idc 32 w b 0 d → b < w.heap.size → d.size < 4611686018427387904 →
      Calls P f #[.slice (some ⟨b, 0, none⟩) d.size cap, .func (.func g0) #[] #[]] w fun e w' => e = .returned (.tuple #[]) ∧ ∃ n os, w' = Go.Proofs.sortWorldK idc 32 w b 0 n (sortL d.toList).toArray os) :
    Calls P f ⟨[.slice a L.length c, .func (.func g0) ⟨[]⟩ ⟨[]⟩]⟩ w fun x w' => ∃ y : Unit, x = .returned (.tuple ⟨[]⟩) ∧ Hold w0 F (.res (buf a c el (sortL L)) :: Γ) w' := by
  obtain ⟨h0, r, h1, h2, h3⟩ : (buf a c el L).holds _ w := ho.sat (.res (buf a c el L)) (by simp)
  by_cases hL : L = []
  · subst hL
    exact Calls.mono (hnone a c w) fun x w' ⟨hx, hw⟩ => ⟨(), hx, by rw [hw]; simpa [sortL] using ho⟩
  rcases h2.2 with ⟨hv, hn⟩ | ⟨b, cap, cur, hv, hb, hg, hc1, hc2, hc3, hc4⟩
  · exact (hL (List.eq_nil_of_length_eq_zero hn)).elim
  injection hv with e1 e2 e3
  subst e1 e3
  have hlt : b < w.heap.size := (Array.getElem?_eq_some_iff.1 hg).1
  have hfr : flat r = idFlat L := (flat_ids r).trans (congrArg idFlat h1)
  rw [hfr] at hc4
  have hsz : L.length * 32 ≤ cur.size := by rw [hc3]; exact Nat.mul_le_mul_right 32 hc1
  have hH : Go.Sort.HoldsK idc 32 w b 0 L.toArray := by
    intro j hj
    rw [Go.Sort.size_flatK] at hj
    have hj' : j < L.length * 32 := by simpa using hj
    rw [Go.Sort.get_flatK _ _ _ _ hj]
    constructor
    · rw [Nat.zero_add, cell_of_row w b j cur el _ hg]
      have := idFlat_get L j hj'
      rw [← hc4, List.getElem?_take] at this
      split at this
      · simpa using this
      · cases this
    · simp [World.frozen?, hg]
  have hlim : L.length ≤ 281474976710656 := h0
  have hs := hsort b c L.toArray hH hlt (by simp; omega)
  simp only [List.size_toArray] at hs
  refine Calls.mono hs ?_
  rintro x w' ⟨hx, n, os, rfl⟩
  refine ⟨(), hx, ?_⟩
  have hlen : (sortL L).length = L.length := sortL_length L
  have hgh : (Go.Sort.ahead w n).heap[b]? = some (.cells cur el (0, 0)) := hg
  have hF : (Go.Sort.flatK idc 32 (sortL L).toArray).size = L.length * 32 := by rw [Go.Sort.size_flatK]; simp [hlen]
  have hnew : (Go.Proofs.sortWorldK idc 32 w b 0 n (sortL L.toArray.toList).toArray os).heap[b]? = some (.cells (Go.Sort.putCells id 0 (Go.Sort.flatK idc 32 (sortL L).toArray) cur) el (0, 0)) := by
    unfold Go.Proofs.sortWorldK Go.Sort.putRowK
    rw [heap_grow_old]
    · exact putRow_block _ _ _ _ _ hgh
    · simp [Go.Sort.putRow, Go.Sort.mapBlock, Go.Sort.ahead]; exact hlt
  have hold : ∀ k, k < w.heap.size → k ≠ b → (Go.Proofs.sortWorldK idc 32 w b 0 n (sortL L.toArray.toList).toArray os).heap[k]? = w.heap[k]? := by
    intro k hk hkb
    unfold Go.Proofs.sortWorldK Go.Sort.putRowK
    rw [heap_grow_old]
    · exact putRow_other _ _ _ _ hkb
    · simp [Go.Sort.putRow, Go.Sort.mapBlock, Go.Sort.ahead]; exact hk
  have howns : ∀ (X : List ID) k, (buf (some ⟨b, 0, none⟩) c el X).owns k ↔ k = b := by
    intro X k
    constructor
    · rintro ⟨a', ha', rfl⟩; injection ha' with ha'; subst ha'; rfl
    · rintro rfl; exact ⟨_, rfl, rfl⟩
  have hb0 : w0.heap.size ≤ b := ho.new (.res (buf (some ⟨b, 0, none⟩) c el L)) (by simp) b ((howns L b).2 rfl)
  have hsize : w.heap.size ≤ (Go.Proofs.sortWorldK idc 32 w b 0 n (sortL L.toArray.toList).toArray os).heap.size := by
    unfold Go.Proofs.sortWorldK Go.Sort.putRowK
    simp [grow, Go.Sort.putRow, Go.Sort.mapBlock, Go.Sort.ahead]
  have hfree : ∀ k, fp w0 F (.res (buf (some ⟨b, 0, none⟩) c el L) :: Γ) k → fp w0 F (.res (buf (some ⟨b, 0, none⟩) c el (sortL L)) :: Γ) k := by
    refine fun k hk => ⟨hk.1, fun f' hf' hown => ?_⟩
    rcases List.mem_cons.1 hf' with rfl | hf'
    · exact hk.2 (.res (buf (some ⟨b, 0, none⟩) c el L)) (by simp) ((howns L k).2 ((howns _ k).1 hown))
    · exact hk.2 f' (by simp [hf']) hown
  have hp := List.pairwise_cons.1 ho.dis
  refine ⟨ho.below.trans ⟨rfl, rfl, rfl, hsize, fun k hk => hold k (by have := ho.below.size; omega) (by omega)⟩, fun f hf => ?_, ?_, ?_⟩
  · rcases List.mem_cons.1 hf with rfl | hf
    · refine ⟨by rw [hlen]; exact h0, (sortL L).map (fun x => (x, ())), by rw [List.map_map]; exact List.map_id _, ⟨by rw [flat_length]; simp, .inr ⟨b, c, _, rfl, Nat.zero_le _, hnew, by rw [hlen]; exact hc1, hc2, by rw [putCells_size]; exact hc3, ?_⟩⟩, fun p hp A hA => by simp [Cell.facts] at hA⟩
      have e5 : flat ((sortL L).map (fun x : ID => (x, ()))) = idFlat (sortL L) := by rw [flat_ids]; congr 1; simp [Function.comp_def]
      refine Eq.trans ?_ e5.symm
      rw [hlen]
      apply List.ext_getElem?
      intro j
      rw [List.getElem?_take]
      have e6 : Cell.sz ID = 32 := rfl
      rw [e6]
      split
      · rename_i hj
        rw [idFlat_get _ _ (by rw [hlen]; exact hj)]
        have := putCells_get (Go.Sort.flatK idc 32 (sortL L).toArray) cur j (by rw [hF]; exact hj) (by rw [hF]; exact hsz)
        rw [Go.Sort.get_flatK _ _ _ _ (by simp [hlen]; exact hj)] at this
        simpa using this
      · rename_i hj
        rw [List.getElem?_eq_none]
        rw [idFlat_length, hlen]; omega
    · refine Fact.sat_keep (ho.sat f (by simp [hf])) (fun k hk _ => hfree k hk) (fun k hklt hk => hold k hklt (fun e => ?_))
      rcases hk with hk | hk
      · exact hk.2 (.res (buf (some ⟨b, 0, none⟩) c el L)) (by simp) ((howns L k).2 e)
      · exact hp.1 f hf k ⟨(howns L k).2 e, hk⟩
  · exact List.pairwise_cons.2 ⟨fun f' hf' k hk => hp.1 f' hf' k ⟨(howns L k).2 ((howns _ k).1 hk.1), hk.2⟩, hp.2⟩
  · intro f' hf' k hk
    rcases List.mem_cons.1 hf' with rfl | hf'
    · have := (howns _ k).1 hk; omega
    · exact ho.new f' (by simp [hf']) k hk
end Ab
end Go.Proofs.Ytcmfemfndadfmaa

/- ids.order as the library's sorting contracts want it: what it leaves is draws and new blocks. -/
namespace Go.Proofs.Ytcmfemfndadfmaa
namespace Ab
open Go Go.RowKit Go.Sort Go.Shelf Go.Proofs
set_option linter.unusedVariables false
set_option linter.unusedSimpArgs false

theorem sl_cells {w : World} {b m : Nat} {L : List UInt8} {t : TypeId} (h : w.heap[b]? = some (.cells (L.map byteV).toArray t (0, 0))) (hm : L.length = m) (hmax : m ≤ 4096) : (sl (some ⟨b, 0, none⟩) m L).holds (fun _ => True) w := by
  refine ⟨by omega, by simp [maxLen]; omega, by simp only [lim]; omega, fun hne => ⟨b, 0, rfl, trivial, (Array.getElem?_eq_some_iff.1 h).1, fun i hi => ⟨(), ?_, by simp [Cell.facts]⟩⟩⟩
  intro j v hj
  simp only [Cell.cells, List.getElem?_singleton] at hj
  split at hj
  · rename_i h0; subst h0
    injection hj with hj
    subst hj
    rw [cell_of_row w b _ _ _ _ h]
    simp [Cell.sz, hi]
  · cases hj

theorem ord_cmp (W : World) {a b : Option Addr} {c k : Nat} {L M : List UInt8} {F G : Nat → Prop} (h : (sl a c L).holds F W) (h' : (sl b k M).holds G W) :
    Calls Try.prog 76 #[.slice a L.length c, .slice b M.length k] W fun e w' => e = .returned (.int .i64 (Lib.compareBytes L M)) ∧ w' = W := by
  have hx := run_bytealgCompare W h h'
  clear h h'
  generalize Lib.compareBytes L M = r at hx ⊢
  go_enter Try.func76, Try.ntmps76
  go_wp2
  go_ret
  exact ⟨rfl, rfl⟩

theorem ord_ids (W : World) (x y : ID) : Calls Try.prog 54 #[.agg (idc x).toArray, .agg (idc y).toArray] W fun e w' => e = .returned (.int .i64 (idCmp x y)) ∧ ∃ q os', w' = grow (W.drewN q) os' := by
  have hc : ∀ n, Calls Try.prog 76 #[.slice (some ⟨W.heap.size, 0, none⟩) 32 32, .slice (some ⟨W.heap.size + 1, 0, none⟩) 32 32] (((W.alloc (.cells (idc x).toArray 44)).alloc (.cells (idc y).toArray 44)).drewN n) fun e w' => e = .returned (.int .i64 (idCmp x y)) ∧ w' = ((W.alloc (.cells (idc x).toArray 44)).alloc (.cells (idc y).toArray 44)).drewN n := by
    intro n
    have h1 : (((W.alloc (.cells (idc x).toArray 44)).alloc (.cells (idc y).toArray 44)).drewN n).heap[W.heap.size]? = some (.cells (x.1.map byteV).toArray 44 (0, 0)) := by
      show ((W.heap.push _).push _)[W.heap.size]? = _
      rw [Array.getElem?_push, if_neg (by simp), Array.getElem?_push, if_pos rfl]; rfl
    have h2 : (((W.alloc (.cells (idc x).toArray 44)).alloc (.cells (idc y).toArray 44)).drewN n).heap[W.heap.size + 1]? = some (.cells (y.1.map byteV).toArray 44 (0, 0)) := by
      show ((W.heap.push _).push _)[W.heap.size + 1]? = _
      rw [Array.getElem?_push, if_pos (by simp)]; rfl
    have h := ord_cmp (((W.alloc (.cells (idc x).toArray 44)).alloc (.cells (idc y).toArray 44)).drewN n) (sl_cells h1 x.2 (by decide)) (sl_cells h2 y.2 (by decide))
    rw [x.2, y.2] at h
    exact h
  generalize idCmp x y = r at hc ⊢
  go_enter Try.func54, Try.ntmps54
  go_wp2
  go_quiet (first | (go_at_call 76; refine Calls.quiet_of_same (hc _)))
  rename_i nq
  go_wp2
  go_ret
  exact ⟨rfl, nq, _, by rw [alloc_eq_grow, alloc_eq_grow, grow_grow]; rfl⟩
end Ab
end Go.Proofs.Ytcmfemfndadfmaa

/- The library's sorting contracts laid at this seat's functions: written by genlay.py. -/
namespace Go.Proofs.Ytcmfemfndadfmaa
namespace Ab
open Go
def sortId_ren : Go.Shelf.Ren := ⟨fun | 6 => 66 | 14 => 79 | 15 => 80 | 20 => 88 | 21 => 89 | 22 => 90 | 23 => 91 | 24 => 92 | 25 => 93 | 26 => 94 | 27 => 95 | 28 => 96 | 29 => 97 | 46 => 98 | 47 => 99 | 48 => 100 | 49 => 101 | 50 => 102 | 57 => 103 | n => n, fun | 22 => 25 | 24 => 44 | 25 => 94 | 39 => 92 | 45 => 127 | 46 => 128 | 50 => 132 | 53 => 84 | 55 => 81 | 66 => 135 | 70 => 139 | 76 => 141 | 77 => 142 | n => n, fun | n => n⟩
open Go.Shelf Go.Proofs in
theorem sortId : SlLaysF0.n6 Try.prog sortId_ren where
  mixed := by kernel_rfl
  f6 := ⟨ "slices.SortFunc[[]anabranch/api.ID,anabranch/api.ID]", by decide, Try.func66.trans (congrArg some (by kernel_rfl))⟩
  f14 := ⟨ "slices.pdqsortCmpFunc[anabranch/api.ID]", by decide, Try.func79.trans (congrArg some (by kernel_rfl))⟩
  f15 := Try.func80.trans (congrArg some (by kernel_rfl))
  f20 := ⟨ "slices.insertionSortCmpFunc[anabranch/api.ID]", by decide, Try.func88.trans (congrArg some (by kernel_rfl))⟩
  f21 := ⟨ "slices.heapSortCmpFunc[anabranch/api.ID]", by decide, Try.func89.trans (congrArg some (by kernel_rfl))⟩
  f22 := ⟨ "slices.breakPatternsCmpFunc[anabranch/api.ID]", by decide, Try.func90.trans (congrArg some (by kernel_rfl))⟩
  f23 := ⟨ "slices.choosePivotCmpFunc[anabranch/api.ID]", by decide, Try.func91.trans (congrArg some (by kernel_rfl))⟩
  f24 := ⟨ "slices.reverseRangeCmpFunc[anabranch/api.ID]", by decide, Try.func92.trans (congrArg some (by kernel_rfl))⟩
  f25 := ⟨ "slices.partialInsertionSortCmpFunc[anabranch/api.ID]", by decide, Try.func93.trans (congrArg some (by kernel_rfl))⟩
  f26 := ⟨ "slices.partitionEqualCmpFunc[anabranch/api.ID]", by decide, Try.func94.trans (congrArg some (by kernel_rfl))⟩
  f27 := ⟨ "slices.partitionCmpFunc[anabranch/api.ID]", by decide, Try.func95.trans (congrArg some (by kernel_rfl))⟩
  f28 := Try.func96.trans (congrArg some (by kernel_rfl))
  f29 := Try.func97.trans (congrArg some (by kernel_rfl))
  f46 := ⟨ "slices.siftDownCmpFunc[anabranch/api.ID]", by decide, Try.func98.trans (congrArg some (by kernel_rfl))⟩
  f47 := Try.func99.trans (congrArg some (by kernel_rfl))
  f48 := Try.func100.trans (congrArg some (by kernel_rfl))
  f49 := ⟨ "slices.medianAdjacentCmpFunc[anabranch/api.ID]", by decide, Try.func101.trans (congrArg some (by kernel_rfl))⟩
  f50 := ⟨ "slices.medianCmpFunc[anabranch/api.ID]", by decide, Try.func102.trans (congrArg some (by kernel_rfl))⟩
  f57 := ⟨ "slices.order2CmpFunc[anabranch/api.ID]", by decide, Try.func103.trans (congrArg some (by kernel_rfl))⟩
  t0 := Try.underlying0
  a0 := Try.isAgg0
  z0 := Try.sizeOf0
  v0 := Try.zeroValue0
  t3 := Try.underlying3
  a3 := Try.isAgg3
  z3 := Try.sizeOf3
  v3 := Try.zeroValue3
  t4 := Try.underlying4
  a4 := Try.isAgg4
  z4 := Try.sizeOf4
  v4 := Try.zeroValue4
  t5 := Try.underlying5
  a5 := Try.isAgg5
  z5 := Try.sizeOf5
  v5 := Try.zeroValue5
  t9 := Try.underlying9
  a9 := Try.isAgg9
  z9 := Try.sizeOf9
  v9 := Try.zeroValue9
  t22 := Try.underlying25
  a22 := Try.isAgg25
  z22 := Try.sizeOf25
  v22 := Try.zeroValue25
  t25 := Try.underlying94
  a25 := Try.isAgg94
  z25 := Try.sizeOf94
  v25 := Try.zeroValue94
  t39 := Try.underlying92
  a39 := Try.isAgg92
  z39 := Try.sizeOf92
  v39 := Try.zeroValue92
  t45 := Try.underlying127
  a45 := Try.isAgg127
  z45 := Try.sizeOf127
  v45 := Try.zeroValue127
  t46 := Try.underlying128
  a46 := Try.isAgg128
  z46 := Try.sizeOf128
  v46 := Try.zeroValue128
  t50 := Try.underlying132
  a50 := Try.isAgg132
  z50 := Try.sizeOf132
  v50 := Try.zeroValue132
  t53 := Try.underlying84
  a53 := Try.isAgg84
  z53 := Try.sizeOf84
  v53 := Try.zeroValue84
  t55 := Try.underlying81
  a55 := Try.isAgg81
  z55 := Try.sizeOf81
  v55 := Try.zeroValue81
  t66 := Try.underlying135
  a66 := Try.isAgg135
  z66 := Try.sizeOf135
  v66 := Try.zeroValue135
  t70 := Try.underlying139
  a70 := Try.isAgg139
  z70 := Try.sizeOf139
  v70 := Try.zeroValue139
  t76 := Try.underlying141
  a76 := Try.isAgg141
  z76 := Try.sizeOf141
  v76 := Try.zeroValue141
  t77 := Try.underlying142
  a77 := Try.isAgg142
  z77 := Try.sizeOf142
  v77 := Try.zeroValue142
end Ab
end Go.Proofs.Ytcmfemfndadfmaa

/- Contracts: ids.of, ids.set.list, ids.Sort, ids.some, ids.Without, Common, Both. -/
namespace Go.Proofs.Ytcmfemfndadfmaa
namespace Ab
open Go Go.RowKit
set_option linter.unusedVariables false
set_option linter.unusedSimpArgs false
set_option synthInstance.maxSize 4000
set_option synthInstance.maxHeartbeats 400000
attribute [local irreducible] JC JO JR JQ andThen inBlock OpV Gives retTo JM JS

attribute [local irreducible] ents
/-- The ids of a row, each once, in the order in which they come first. -/
def setOf (L : List ID) : List ID := L.foldl addK []
theorem foldl_addK_nodup (L S : List ID) (h : S.Nodup) : (L.foldl addK S).Nodup := by
  induction L generalizing S with
  | nil => exact h
  | cons a L ih => exact ih _ (addK_nodup h a)
theorem mem_foldl_addK (L S : List ID) (x : ID) : x ∈ L.foldl addK S ↔ x ∈ S ∨ x ∈ L := by
  induction L generalizing S with
  | nil => simp
  | cons a L ih => rw [List.foldl_cons, ih, mem_addK]; simp [or_assoc]
theorem setOf_nodup (L : List ID) : (setOf L).Nodup := foldl_addK_nodup L [] List.nodup_nil
theorem mem_setOf (L : List ID) (x : ID) : x ∈ setOf L ↔ x ∈ L := by simp [setOf, mem_foldl_addK]
theorem setOf_nil : setOf [] = [] := rfl
theorem setOf_snoc (L : List ID) (x : ID) : setOf (L ++ [x]) = addK (setOf L) x := by simp [setOf]

theorem setOf_length (L : List ID) : (setOf L).length ≤ L.length := by
  have : ∀ (L S : List ID), (L.foldl addK S).length ≤ S.length + L.length := by
    intro L
    induction L with
    | nil => simp
    | cons a L ih =>
      intro S
      have h1 := ih (addK S a)
      have h2 : (addK S a).length ≤ S.length + 1 := by unfold addK; split <;> simp
      simp only [List.foldl_cons, List.length_cons]; omega
  simpa [setOf] using this L []

theorem of_ids (w : World) (F : Nat → Prop) (a : Option Addr) (c : Nat) (L : List ID) (h : (sl a c L).holds F w) :
    Gives Try.prog 43 [.slice a L.length c] w F (fun b : Nat => .map (some b)) (fun b => [.omap b (ents idV (sety (setOf L))) (setOf L).length]) := by
  have hL : L.length < 9223372036854775807 := by have := h.2.2.1; simp only [lim] at this; omega
  refine gives_of Try.func43 rfl Try.ntmps43 rfl rfl [.st (sl a c L)] (.start1 h) ?_
  repeat (first | refine CT.next ?_ | refine JC.seq ?_ | refine JC.region ?_ | refine JO.nil ?_ | refine JO.go rfl ?_ | refine JR.val (by first | exact OpV.move | exact OpV.assign | exact OpV.load | exact OpV.fieldAddr | exact OpV.indexEl | exact OpV.len | exact OpV.lss | exact OpV.not | exact OpV.pick_true | exact OpV.pick_false | exact OpV.inc (by omega) | exact OpV.eql | exact OpV.neq | exact OpV.leq | exact OpV.gtr | exact OpV.geq | exact OpV.extract | exact OpV.makeFunc | exact OpV.addn (by omega) | exact OpV.add (by omega) | exact OpV.subn (by omega) | exact OpV.sub (by omega) | exact OpV.lens | exact OpV.eqlID | exact OpV.neqID | exact OpV.eqlEv | exact OpV.eqlOp | exact OpV.eqlStr | exact OpV.neqStr | exact OpV.eqlNil | exact OpV.eqlBool | exact OpV.neqBool) rfl ?_ | (refine JR.alloc rfl ?_; intro _) | (refine JR.box rfl ?_; intro _) | refine JR.store ?_ | refine JC.cond_true ?_ | refine JC.cond_false ?_ | refine JC.skip ?_ | refine JC.exit ?_ | refine JC.block ?_ | refine CT.past ?_ | refine CT.hit ?_ | refine CT.miss rfl ?_ | refine CT.blockEnd ?_ | refine JC.ret ?_ | refine CT.ret ?_ | refine CT.blockRet ?_ | refine JO.omit rfl rfl ?_ | (refine JR.lit rfl ⟨rfl, by decide, by decide, by decide⟩ ?_; intro _))
  refine JR.makeSet idV rfl ?_
  intro m
  repeat (first | refine CT.next ?_ | refine JC.seq ?_ | refine JC.region ?_ | refine JO.nil ?_ | refine JO.go rfl ?_ | refine JR.val (by first | exact OpV.move | exact OpV.assign | exact OpV.load | exact OpV.fieldAddr | exact OpV.indexEl | exact OpV.len | exact OpV.lss | exact OpV.not | exact OpV.pick_true | exact OpV.pick_false | exact OpV.inc (by omega) | exact OpV.eql | exact OpV.neq | exact OpV.leq | exact OpV.gtr | exact OpV.geq | exact OpV.extract | exact OpV.makeFunc | exact OpV.addn (by omega) | exact OpV.add (by omega) | exact OpV.subn (by omega) | exact OpV.sub (by omega) | exact OpV.lens | exact OpV.eqlID | exact OpV.neqID | exact OpV.eqlEv | exact OpV.eqlOp | exact OpV.eqlStr | exact OpV.neqStr | exact OpV.eqlNil | exact OpV.eqlBool | exact OpV.neqBool) rfl ?_ | (refine JR.alloc rfl ?_; intro _) | (refine JR.box rfl ?_; intro _) | refine JR.store ?_ | refine JC.cond_true ?_ | refine JC.cond_false ?_ | refine JC.skip ?_ | refine JC.exit ?_ | refine JC.block ?_ | refine CT.past ?_ | refine CT.hit ?_ | refine CT.miss rfl ?_ | refine CT.blockEnd ?_ | refine JC.ret ?_ | refine CT.ret ?_ | refine CT.blockRet ?_ | refine JO.omit rfl rfl ?_ | (refine JR.lit rfl ⟨rfl, by decide, by decide, by decide⟩ ?_; intro _))
  refine JC.loop1 (fun k : Nat => [(3, .map (some m)), (7, .slice a L.length c), (8, .int .i64 (L.length : Int)), (9, .int .i64 (k : Int))])
    (fun k => [.omap m (ents idV (sety (setOf (L.take k)))) (setOf (L.take k)).length, .st (sl a c L)])
    (fun k => k ≤ L.length) (fun k => L.length - k) 0 (Nat.zero_le _) (by simp only [List.take_zero, setOf_nil]; exact inferInstance) ?_
  intro k hk
  repeat (first | refine CT.next ?_ | refine JC.seq ?_ | refine JC.region ?_ | refine JO.nil ?_ | refine JO.go rfl ?_ | refine JR.val (by first | exact OpV.move | exact OpV.assign | exact OpV.load | exact OpV.fieldAddr | exact OpV.indexEl | exact OpV.len | exact OpV.lss | exact OpV.not | exact OpV.pick_true | exact OpV.pick_false | exact OpV.inc (by omega) | exact OpV.eql | exact OpV.neq | exact OpV.leq | exact OpV.gtr | exact OpV.geq | exact OpV.extract | exact OpV.makeFunc | exact OpV.addn (by omega) | exact OpV.add (by omega) | exact OpV.subn (by omega) | exact OpV.sub (by omega) | exact OpV.lens | exact OpV.eqlID | exact OpV.neqID | exact OpV.eqlEv | exact OpV.eqlOp | exact OpV.eqlStr | exact OpV.neqStr | exact OpV.eqlNil | exact OpV.eqlBool | exact OpV.neqBool) rfl ?_ | (refine JR.alloc rfl ?_; intro _) | (refine JR.box rfl ?_; intro _) | refine JR.store ?_ | refine JC.cond_true ?_ | refine JC.cond_false ?_ | refine JC.skip ?_ | refine JC.exit ?_ | refine JC.block ?_ | refine CT.past ?_ | refine CT.hit ?_ | refine CT.miss rfl ?_ | refine CT.blockEnd ?_ | refine JC.ret ?_ | refine CT.ret ?_ | refine CT.blockRet ?_ | refine JO.omit rfl rfl ?_ | (refine JR.lit rfl ⟨rfl, by decide, by decide, by decide⟩ ?_; intro _))
  refine JC.test (fun hlt => ?_) (fun hge => ?_)
  · have hlt' : k < L.length := by omega
    repeat (first | refine CT.next ?_ | refine JC.seq ?_ | refine JC.region ?_ | refine JO.nil ?_ | refine JO.go rfl ?_ | refine JR.val (by first | exact OpV.move | exact OpV.assign | exact OpV.load | exact OpV.fieldAddr | exact OpV.indexEl | exact OpV.len | exact OpV.lss | exact OpV.not | exact OpV.pick_true | exact OpV.pick_false | exact OpV.inc (by omega) | exact OpV.eql | exact OpV.neq | exact OpV.leq | exact OpV.gtr | exact OpV.geq | exact OpV.extract | exact OpV.makeFunc | exact OpV.addn (by omega) | exact OpV.add (by omega) | exact OpV.subn (by omega) | exact OpV.sub (by omega) | exact OpV.lens | exact OpV.eqlID | exact OpV.neqID | exact OpV.eqlEv | exact OpV.eqlOp | exact OpV.eqlStr | exact OpV.neqStr | exact OpV.eqlNil | exact OpV.eqlBool | exact OpV.neqBool) rfl ?_ | (refine JR.alloc rfl ?_; intro _) | (refine JR.box rfl ?_; intro _) | refine JR.store ?_ | refine JC.cond_true ?_ | refine JC.cond_false ?_ | refine JC.skip ?_ | refine JC.exit ?_ | refine JC.block ?_ | refine CT.past ?_ | refine CT.hit ?_ | refine CT.miss rfl ?_ | refine CT.blockEnd ?_ | refine JC.ret ?_ | refine CT.ret ?_ | refine CT.blockRet ?_ | refine JO.omit rfl rfl ?_ | (refine JR.lit rfl ⟨rfl, by decide, by decide, by decide⟩ ?_; intro _))
    refine JR.indexID rfl hlt' ?_
    intro b o
    repeat (first | refine CT.next ?_ | refine JC.seq ?_ | refine JC.region ?_ | refine JO.nil ?_ | refine JO.go rfl ?_ | refine JR.val (by first | exact OpV.move | exact OpV.assign | exact OpV.load | exact OpV.fieldAddr | exact OpV.indexEl | exact OpV.len | exact OpV.lss | exact OpV.not | exact OpV.pick_true | exact OpV.pick_false | exact OpV.inc (by omega) | exact OpV.eql | exact OpV.neq | exact OpV.leq | exact OpV.gtr | exact OpV.geq | exact OpV.extract | exact OpV.makeFunc | exact OpV.addn (by omega) | exact OpV.add (by omega) | exact OpV.subn (by omega) | exact OpV.sub (by omega) | exact OpV.lens | exact OpV.eqlID | exact OpV.neqID | exact OpV.eqlEv | exact OpV.eqlOp | exact OpV.eqlStr | exact OpV.neqStr | exact OpV.eqlNil | exact OpV.eqlBool | exact OpV.neqBool) rfl ?_ | (refine JR.alloc rfl ?_; intro _) | (refine JR.box rfl ?_; intro _) | refine JR.store ?_ | refine JC.cond_true ?_ | refine JC.cond_false ?_ | refine JC.skip ?_ | refine JC.exit ?_ | refine JC.block ?_ | refine CT.past ?_ | refine CT.hit ?_ | refine CT.miss rfl ?_ | refine CT.blockEnd ?_ | refine JC.ret ?_ | refine CT.ret ?_ | refine CT.blockRet ?_ | refine JO.omit rfl rfl ?_ | (refine JR.lit rfl ⟨rfl, by decide, by decide, by decide⟩ ?_; intro _))
    refine JR.setAdd L[k] (setOf_nodup _) ?_
    repeat (first | refine CT.next ?_ | refine JC.seq ?_ | refine JC.region ?_ | refine JO.nil ?_ | refine JO.go rfl ?_ | refine JR.val (by first | exact OpV.move | exact OpV.assign | exact OpV.load | exact OpV.fieldAddr | exact OpV.indexEl | exact OpV.len | exact OpV.lss | exact OpV.not | exact OpV.pick_true | exact OpV.pick_false | exact OpV.inc (by omega) | exact OpV.eql | exact OpV.neq | exact OpV.leq | exact OpV.gtr | exact OpV.geq | exact OpV.extract | exact OpV.makeFunc | exact OpV.addn (by omega) | exact OpV.add (by omega) | exact OpV.subn (by omega) | exact OpV.sub (by omega) | exact OpV.lens | exact OpV.eqlID | exact OpV.neqID | exact OpV.eqlEv | exact OpV.eqlOp | exact OpV.eqlStr | exact OpV.neqStr | exact OpV.eqlNil | exact OpV.eqlBool | exact OpV.neqBool) rfl ?_ | (refine JR.alloc rfl ?_; intro _) | (refine JR.box rfl ?_; intro _) | refine JR.store ?_ | refine JC.cond_true ?_ | refine JC.cond_false ?_ | refine JC.skip ?_ | refine JC.exit ?_ | refine JC.block ?_ | refine CT.past ?_ | refine CT.hit ?_ | refine CT.miss rfl ?_ | refine CT.blockEnd ?_ | refine JC.ret ?_ | refine CT.ret ?_ | refine CT.blockRet ?_ | refine JO.omit rfl rfl ?_ | (refine JR.lit rfl ⟨rfl, by decide, by decide, by decide⟩ ?_; intro _))
    refine ⟨k + 1, by omega, by omega, ?_⟩
    rw [List.take_succ_eq_append_getElem hlt', setOf_snoc]
    exact inferInstance
  · repeat (first | refine CT.next ?_ | refine JC.seq ?_ | refine JC.region ?_ | refine JO.nil ?_ | refine JO.go rfl ?_ | refine JR.val (by first | exact OpV.move | exact OpV.assign | exact OpV.load | exact OpV.fieldAddr | exact OpV.indexEl | exact OpV.len | exact OpV.lss | exact OpV.not | exact OpV.pick_true | exact OpV.pick_false | exact OpV.inc (by omega) | exact OpV.eql | exact OpV.neq | exact OpV.leq | exact OpV.gtr | exact OpV.geq | exact OpV.extract | exact OpV.makeFunc | exact OpV.addn (by omega) | exact OpV.add (by omega) | exact OpV.subn (by omega) | exact OpV.sub (by omega) | exact OpV.lens | exact OpV.eqlID | exact OpV.neqID | exact OpV.eqlEv | exact OpV.eqlOp | exact OpV.eqlStr | exact OpV.neqStr | exact OpV.eqlNil | exact OpV.eqlBool | exact OpV.neqBool) rfl ?_ | (refine JR.alloc rfl ?_; intro _) | (refine JR.box rfl ?_; intro _) | refine JR.store ?_ | refine JC.cond_true ?_ | refine JC.cond_false ?_ | refine JC.skip ?_ | refine JC.exit ?_ | refine JC.block ?_ | refine CT.past ?_ | refine CT.hit ?_ | refine CT.miss rfl ?_ | refine CT.blockEnd ?_ | refine JC.ret ?_ | refine CT.ret ?_ | refine CT.blockRet ?_ | refine JO.omit rfl rfl ?_ | (refine JR.lit rfl ⟨rfl, by decide, by decide, by decide⟩ ?_; intro _))
    refine CT.done m rfl (fun w ho => ?_)
    rw [List.take_of_length_le (by omega)] at ho
    exact ho.ent

theorem swo_ids : Go.Sort.SWO (Go.Proofs.ltOf idCmp) where
  irrefl x := idLt_irrefl x
  trans x y z h1 h2 := idLt_trans h1 h2
  ntrans x y z h1 h2 := idLe_trans h2 h1

theorem sortFunc_ids {w0 w : World} {F : Nat → Prop} {Γ : List Fact} {a : Option Addr} {c el : Nat} {L : List ID} (ho : Hold w0 F (.res (buf a c el L) :: Γ) w) :
    Calls Try.prog 66 ⟨[.slice a L.length c, .func (.func 54) ⟨[]⟩ ⟨[]⟩]⟩ w fun x w' => ∃ y : Unit, x = .returned (.tuple ⟨[]⟩) ∧ Hold w0 F (.res (buf a c el (sortL L)) :: Γ) w' := by
  refine sort_hold ho (fun p cap w => Go.Proofs.AnyF.slices_SortFunc_none sortId p cap _ w) (fun b cap d hH hb hs => ?_)
  exact Go.Proofs.AnyQ.slices_SortFunc_total sortId 32 Try.isAgg44 Try.sizeOf44 idc idc_length (fun x => One.ok (cs := idc x)) idCmp swo_ids 54 #[] b 0 cap d w
    (Body.ok (P := Try.prog) (f := 54)) (fun m os dk _ x y => ord_ids (Go.Proofs.sortWorldK idc 32 w b 0 m dk os) x y) hH hb hs (fun x y h1 h2 => idLt_total h1 h2)

theorem nodup_le {S : List Nat} {n : Nat} (h : S.Nodup) (hlt : ∀ i ∈ S, i < n) : S.length ≤ n := by
  have hp : ((List.range n).filter (fun i => decide (i ∈ S))).Perm S := by
    refine (List.perm_ext_iff_of_nodup (List.nodup_range.filter _) h).2 fun i => ?_
    simp only [List.mem_filter, List.mem_range, decide_eq_true_eq]
    exact ⟨fun h => h.2, fun hi => ⟨hlt i hi, hi⟩⟩
  have := List.length_filter_le (fun i => decide (i ∈ S)) (List.range n)
  rw [hp.length_eq] at this
  simpa using this
theorem perm_range {S : List Nat} {n : Nat} (h : S.Nodup) (hlt : ∀ i ∈ S, i < n) (hall : ∀ i, i < n → i ∈ S) : S.Perm (List.range n) := by
  refine (List.perm_ext_iff_of_nodup h List.nodup_range).2 fun i => ?_
  rw [List.mem_range]
  exact ⟨hlt i, hall i⟩
theorem filterMap_range (L : List ID) : (List.range L.length).filterMap (L[·]?) = L := by
  induction L with
  | nil => rfl
  | cons a L ih =>
    rw [List.length_cons, List.range_succ_eq_map, List.filterMap_cons]
    simp only [List.getElem?_cons_zero, List.filterMap_map]
    congr 1

theorem list_ids (w : World) (F : Nat → Prop) (b : Nat) (L : List ID) (hnd : L.Nodup) (hl : L.length ≤ 34359738368) (h : (rmap b (ents idV (sety L)) L.length).holds F w) :
    GivesBuf Try.prog 44 [.map (some b)] w F 44 (sortL L) := by
  refine gives_of Try.func44 rfl Try.ntmps44 rfl rfl [.st (rmap b (ents idV (sety L)) L.length)] (.start1 h) ?_
  refine JC.buf_nil (α := ID) 44 ?_
  repeat (first | refine CT.next ?_ | refine JC.seq ?_ | refine JC.region ?_ | refine JO.nil ?_ | refine JO.go rfl ?_ | refine JR.val (by first | exact OpV.move | exact OpV.assign | exact OpV.load | exact OpV.fieldAddr | exact OpV.indexEl | exact OpV.len | exact OpV.lss | exact OpV.not | exact OpV.pick_true | exact OpV.pick_false | exact OpV.inc (by omega) | exact OpV.eql | exact OpV.neq | exact OpV.leq | exact OpV.gtr | exact OpV.geq | exact OpV.extract | exact OpV.makeFunc | exact OpV.addn (by omega) | exact OpV.add (by omega) | exact OpV.subn (by omega) | exact OpV.sub (by omega) | exact OpV.lens | exact OpV.eqlID | exact OpV.neqID | exact OpV.eqlEv | exact OpV.eqlOp | exact OpV.eqlStr | exact OpV.neqStr | exact OpV.eqlNil | exact OpV.eqlBool | exact OpV.neqBool) rfl ?_ | (refine JR.alloc rfl ?_; intro _) | (refine JR.box rfl ?_; intro _) | refine JR.store ?_ | refine JC.cond_true ?_ | refine JC.cond_false ?_ | refine JC.skip ?_ | refine JC.exit ?_ | refine JC.block ?_ | refine CT.past ?_ | refine CT.hit ?_ | refine CT.miss rfl ?_ | refine CT.blockEnd ?_ | refine JC.ret ?_ | refine CT.ret ?_ | refine CT.blockRet ?_ | refine JO.omit rfl rfl ?_ | (refine JR.lit rfl ⟨rfl, by decide, by decide, by decide⟩ ?_; intro _))
  refine JR.rangeS rfl ?_
  intro r
  repeat (first | refine CT.next ?_ | refine JC.seq ?_ | refine JC.region ?_ | refine JO.nil ?_ | refine JO.go rfl ?_ | refine JR.val (by first | exact OpV.move | exact OpV.assign | exact OpV.load | exact OpV.fieldAddr | exact OpV.indexEl | exact OpV.len | exact OpV.lss | exact OpV.not | exact OpV.pick_true | exact OpV.pick_false | exact OpV.inc (by omega) | exact OpV.eql | exact OpV.neq | exact OpV.leq | exact OpV.gtr | exact OpV.geq | exact OpV.extract | exact OpV.makeFunc | exact OpV.addn (by omega) | exact OpV.add (by omega) | exact OpV.subn (by omega) | exact OpV.sub (by omega) | exact OpV.lens | exact OpV.eqlID | exact OpV.neqID | exact OpV.eqlEv | exact OpV.eqlOp | exact OpV.eqlStr | exact OpV.neqStr | exact OpV.eqlNil | exact OpV.eqlBool | exact OpV.neqBool) rfl ?_ | (refine JR.alloc rfl ?_; intro _) | (refine JR.box rfl ?_; intro _) | refine JR.store ?_ | refine JC.cond_true ?_ | refine JC.cond_false ?_ | refine JC.skip ?_ | refine JC.exit ?_ | refine JC.block ?_ | refine CT.past ?_ | refine CT.hit ?_ | refine CT.miss rfl ?_ | refine CT.blockEnd ?_ | refine JC.ret ?_ | refine CT.ret ?_ | refine CT.blockRet ?_ | refine JO.omit rfl rfl ?_ | (refine JR.lit rfl ⟨rfl, by decide, by decide, by decide⟩ ?_; intro _))
  refine JC.loop4 (fun (S : List Nat) (out : List ID) p q => [(3, .slice p out.length q), (6, .pointer (some ⟨r, 0, none⟩))])
    (fun S out p q => [.res (buf p q 44 out), .obj r (.mapIter (some b) L.length S.toArray L.length), .st (rmap b (ents idV (sety L)) L.length)])
    (fun S out p q => S.Nodup ∧ (∀ i ∈ S, i < L.length) ∧ out = S.filterMap (L[·]?) ∧ out.length = S.length) (fun S _ _ _ => L.length - S.length) [] [] none 0 ⟨List.nodup_nil, by simp, rfl, rfl⟩ inferInstance ?_
  intro S out p q ⟨hS1, hS2, hout, hlen⟩
  have hSl : S.length ≤ L.length := nodup_le hS1 hS2
  repeat (first | refine CT.next ?_ | refine JC.seq ?_ | refine JC.region ?_ | refine JO.nil ?_ | refine JO.go rfl ?_ | refine JR.val (by first | exact OpV.move | exact OpV.assign | exact OpV.load | exact OpV.fieldAddr | exact OpV.indexEl | exact OpV.len | exact OpV.lss | exact OpV.not | exact OpV.pick_true | exact OpV.pick_false | exact OpV.inc (by omega) | exact OpV.eql | exact OpV.neq | exact OpV.leq | exact OpV.gtr | exact OpV.geq | exact OpV.extract | exact OpV.makeFunc | exact OpV.addn (by omega) | exact OpV.add (by omega) | exact OpV.subn (by omega) | exact OpV.sub (by omega) | exact OpV.lens | exact OpV.eqlID | exact OpV.neqID | exact OpV.eqlEv | exact OpV.eqlOp | exact OpV.eqlStr | exact OpV.neqStr | exact OpV.eqlNil | exact OpV.eqlBool | exact OpV.neqBool) rfl ?_ | (refine JR.alloc rfl ?_; intro _) | (refine JR.box rfl ?_; intro _) | refine JR.store ?_ | refine JC.cond_true ?_ | refine JC.cond_false ?_ | refine JC.skip ?_ | refine JC.exit ?_ | refine JC.block ?_ | refine CT.past ?_ | refine CT.hit ?_ | refine CT.miss rfl ?_ | refine CT.blockEnd ?_ | refine JC.ret ?_ | refine CT.ret ?_ | refine CT.blockRet ?_ | refine JO.omit rfl rfl ?_ | (refine JR.lit rfl ⟨rfl, by decide, by decide, by decide⟩ ?_; intro _))
  refine JR.nextS rfl hS2 (fun hall => ?_) (fun j hj hjS => ?_)
  · repeat (first | refine CT.next ?_ | refine JC.seq ?_ | refine JC.region ?_ | refine JO.nil ?_ | refine JO.go rfl ?_ | refine JR.val (by first | exact OpV.move | exact OpV.assign | exact OpV.load | exact OpV.fieldAddr | exact OpV.indexEl | exact OpV.len | exact OpV.lss | exact OpV.not | exact OpV.pick_true | exact OpV.pick_false | exact OpV.inc (by omega) | exact OpV.eql | exact OpV.neq | exact OpV.leq | exact OpV.gtr | exact OpV.geq | exact OpV.extract | exact OpV.makeFunc | exact OpV.addn (by omega) | exact OpV.add (by omega) | exact OpV.subn (by omega) | exact OpV.sub (by omega) | exact OpV.lens | exact OpV.eqlID | exact OpV.neqID | exact OpV.eqlEv | exact OpV.eqlOp | exact OpV.eqlStr | exact OpV.neqStr | exact OpV.eqlNil | exact OpV.eqlBool | exact OpV.neqBool) rfl ?_ | (refine JR.alloc rfl ?_; intro _) | (refine JR.box rfl ?_; intro _) | refine JR.store ?_ | refine JC.cond_true ?_ | refine JC.cond_false ?_ | refine JC.skip ?_ | refine JC.exit ?_ | refine JC.block ?_ | refine CT.past ?_ | refine CT.hit ?_ | refine CT.miss rfl ?_ | refine CT.blockEnd ?_ | refine JC.ret ?_ | refine CT.ret ?_ | refine CT.blockRet ?_ | refine JO.omit rfl rfl ?_ | (refine JR.lit rfl ⟨rfl, by decide, by decide, by decide⟩ ?_; intro _))
    refine JR.callW (v := fun _ : Unit => .tuple ⟨[]⟩) rfl (fun w1 hw => sortFunc_ids hw) ?_
    intro _
    repeat (first | refine CT.next ?_ | refine JC.seq ?_ | refine JC.region ?_ | refine JO.nil ?_ | refine JO.go rfl ?_ | refine JR.val (by first | exact OpV.move | exact OpV.assign | exact OpV.load | exact OpV.fieldAddr | exact OpV.indexEl | exact OpV.len | exact OpV.lss | exact OpV.not | exact OpV.pick_true | exact OpV.pick_false | exact OpV.inc (by omega) | exact OpV.eql | exact OpV.neq | exact OpV.leq | exact OpV.gtr | exact OpV.geq | exact OpV.extract | exact OpV.makeFunc | exact OpV.addn (by omega) | exact OpV.add (by omega) | exact OpV.subn (by omega) | exact OpV.sub (by omega) | exact OpV.lens | exact OpV.eqlID | exact OpV.neqID | exact OpV.eqlEv | exact OpV.eqlOp | exact OpV.eqlStr | exact OpV.neqStr | exact OpV.eqlNil | exact OpV.eqlBool | exact OpV.neqBool) rfl ?_ | (refine JR.alloc rfl ?_; intro _) | (refine JR.box rfl ?_; intro _) | refine JR.store ?_ | refine JC.cond_true ?_ | refine JC.cond_false ?_ | refine JC.skip ?_ | refine JC.exit ?_ | refine JC.block ?_ | refine CT.past ?_ | refine CT.hit ?_ | refine CT.miss rfl ?_ | refine CT.blockEnd ?_ | refine JC.ret ?_ | refine CT.ret ?_ | refine CT.blockRet ?_ | refine JO.omit rfl rfl ?_ | (refine JR.lit rfl ⟨rfl, by decide, by decide, by decide⟩ ?_; intro _))
    have hp : out.Perm L := by
      rw [hout]
      have h2 := (perm_range hS1 hS2 hall).filterMap (L[·]?)
      rwa [filterMap_range] at h2
    refine CT.done (p, q) ?_ (fun w ho => ?_)
    · simp only [packed, hp.length_eq, sortL_length]
    · rw [← sortL_perm hp]; exact ho.ent
  · repeat (first | refine CT.next ?_ | refine JC.seq ?_ | refine JC.region ?_ | refine JO.nil ?_ | refine JO.go rfl ?_ | refine JR.val (by first | exact OpV.move | exact OpV.assign | exact OpV.load | exact OpV.fieldAddr | exact OpV.indexEl | exact OpV.len | exact OpV.lss | exact OpV.not | exact OpV.pick_true | exact OpV.pick_false | exact OpV.inc (by omega) | exact OpV.eql | exact OpV.neq | exact OpV.leq | exact OpV.gtr | exact OpV.geq | exact OpV.extract | exact OpV.makeFunc | exact OpV.addn (by omega) | exact OpV.add (by omega) | exact OpV.subn (by omega) | exact OpV.sub (by omega) | exact OpV.lens | exact OpV.eqlID | exact OpV.neqID | exact OpV.eqlEv | exact OpV.eqlOp | exact OpV.eqlStr | exact OpV.neqStr | exact OpV.eqlNil | exact OpV.eqlBool | exact OpV.neqBool) rfl ?_ | (refine JR.alloc rfl ?_; intro _) | (refine JR.box rfl ?_; intro _) | refine JR.store ?_ | refine JC.cond_true ?_ | refine JC.cond_false ?_ | refine JC.skip ?_ | refine JC.exit ?_ | refine JC.block ?_ | refine CT.past ?_ | refine CT.hit ?_ | refine CT.miss rfl ?_ | refine CT.blockEnd ?_ | refine JC.ret ?_ | refine CT.ret ?_ | refine CT.blockRet ?_ | refine JO.omit rfl rfl ?_ | (refine JR.lit rfl ⟨rfl, by decide, by decide, by decide⟩ ?_; intro _))
    refine JR.val (OpV.entryS hj) rfl ?_
    repeat (first | refine CT.next ?_ | refine JC.seq ?_ | refine JC.region ?_ | refine JO.nil ?_ | refine JO.go rfl ?_ | refine JR.val (by first | exact OpV.move | exact OpV.assign | exact OpV.load | exact OpV.fieldAddr | exact OpV.indexEl | exact OpV.len | exact OpV.lss | exact OpV.not | exact OpV.pick_true | exact OpV.pick_false | exact OpV.inc (by omega) | exact OpV.eql | exact OpV.neq | exact OpV.leq | exact OpV.gtr | exact OpV.geq | exact OpV.extract | exact OpV.makeFunc | exact OpV.addn (by omega) | exact OpV.add (by omega) | exact OpV.subn (by omega) | exact OpV.sub (by omega) | exact OpV.lens | exact OpV.eqlID | exact OpV.neqID | exact OpV.eqlEv | exact OpV.eqlOp | exact OpV.eqlStr | exact OpV.neqStr | exact OpV.eqlNil | exact OpV.eqlBool | exact OpV.neqBool) rfl ?_ | (refine JR.alloc rfl ?_; intro _) | (refine JR.box rfl ?_; intro _) | refine JR.store ?_ | refine JC.cond_true ?_ | refine JC.cond_false ?_ | refine JC.skip ?_ | refine JC.exit ?_ | refine JC.block ?_ | refine CT.past ?_ | refine CT.hit ?_ | refine CT.miss rfl ?_ | refine CT.blockEnd ?_ | refine JC.ret ?_ | refine CT.ret ?_ | refine CT.blockRet ?_ | refine JO.omit rfl rfl ?_ | (refine JR.lit rfl ⟨rfl, by decide, by decide, by decide⟩ ?_; intro _))
    have hlt : S.length < L.length := by
      have := nodup_le (S := S ++ [j]) (n := L.length) (List.nodup_append.2 ⟨hS1, by simp, fun x hx y hy => by simp at hy; subst hy; exact fun e => hjS (e ▸ hx)⟩) (fun i hi => by
        rcases List.mem_append.1 hi with hi | hi
        · exact hS2 i hi
        · simp at hi; subst hi; exact hj)
      simp at this; omega
    refine JR.append1 rfl (by exact ⟨rfl, rfl, by decide⟩) (by omega) ?_
    intro a2 c2
    repeat (first | refine CT.next ?_ | refine JC.seq ?_ | refine JC.region ?_ | refine JO.nil ?_ | refine JO.go rfl ?_ | refine JR.val (by first | exact OpV.move | exact OpV.assign | exact OpV.load | exact OpV.fieldAddr | exact OpV.indexEl | exact OpV.len | exact OpV.lss | exact OpV.not | exact OpV.pick_true | exact OpV.pick_false | exact OpV.inc (by omega) | exact OpV.eql | exact OpV.neq | exact OpV.leq | exact OpV.gtr | exact OpV.geq | exact OpV.extract | exact OpV.makeFunc | exact OpV.addn (by omega) | exact OpV.add (by omega) | exact OpV.subn (by omega) | exact OpV.sub (by omega) | exact OpV.lens | exact OpV.eqlID | exact OpV.neqID | exact OpV.eqlEv | exact OpV.eqlOp | exact OpV.eqlStr | exact OpV.neqStr | exact OpV.eqlNil | exact OpV.eqlBool | exact OpV.neqBool) rfl ?_ | (refine JR.alloc rfl ?_; intro _) | (refine JR.box rfl ?_; intro _) | refine JR.store ?_ | refine JC.cond_true ?_ | refine JC.cond_false ?_ | refine JC.skip ?_ | refine JC.exit ?_ | refine JC.block ?_ | refine CT.past ?_ | refine CT.hit ?_ | refine CT.miss rfl ?_ | refine CT.blockEnd ?_ | refine JC.ret ?_ | refine CT.ret ?_ | refine CT.blockRet ?_ | refine JO.omit rfl rfl ?_ | (refine JR.lit rfl ⟨rfl, by decide, by decide, by decide⟩ ?_; intro _))
    refine ⟨S ++ [j], out ++ [L[j]], a2, c2, ⟨List.nodup_append.2 ⟨hS1, by simp, fun x hx y hy => by simp at hy; subst hy; exact fun e => hjS (e ▸ hx)⟩, fun i hi => ?_, ?_, by simp [hlen]⟩, by simp; omega, inferInstance⟩
    · rcases List.mem_append.1 hi with hi | hi
      · exact hS2 i hi
      · simp at hi; subst hi; exact hj
    · simp [hout, hj]

/-- Of the ids of a, in order and each once, those that are in b (or are not). -/
def pickIds (b : List ID) (want : Bool) (a : List ID) : List ID := a.filter (fun x => decide (x ∈ b) == want)
theorem pickIds_nil (b : List ID) (want : Bool) : pickIds b want [] = [] := rfl
theorem pickIds_take (b : List ID) (want : Bool) (L : List ID) (j : Nat) (h : j < L.length) : pickIds b want (L.take (j + 1)) = if decide (L[j] ∈ b) = want then pickIds b want (L.take j) ++ [L[j]] else pickIds b want (L.take j) := by
  rw [List.take_succ_eq_append_getElem h]
  simp only [pickIds, List.filter_append, List.filter_cons, List.filter_nil, beq_iff_eq]
  split <;> simp
theorem pickIds_length (b : List ID) (want : Bool) (L : List ID) : (pickIds b want L).length ≤ L.length := List.length_filter_le _ _
def someIds (a b : List ID) (want : Bool) : List ID := sortL (setOf (pickIds b want a))

theorem some_ids (w : World) (F : Nat → Prop) (a b : Option Addr) (c k : Nat) (L M : List ID) (want : Bool) (h : (sl a c L).holds F w) (h' : (sl b k M).holds F w) (hl : L.length ≤ 34359738368) :
    GivesBuf Try.prog 33 [.slice a L.length c, .slice b M.length k, .bool want] w F 44 (someIds L M want) := by
  refine gives_of Try.func33 rfl Try.ntmps33 rfl rfl [.st (sl a c L), .st (sl b k M)] (.start2 h h') ?_
  repeat (first | refine CT.next ?_ | refine JC.seq ?_ | refine JC.region ?_ | refine JO.nil ?_ | refine JO.go rfl ?_ | refine JR.val (by first | exact OpV.move | exact OpV.assign | exact OpV.load | exact OpV.fieldAddr | exact OpV.indexEl | exact OpV.len | exact OpV.lss | exact OpV.not | exact OpV.pick_true | exact OpV.pick_false | exact OpV.inc (by omega) | exact OpV.eql | exact OpV.neq | exact OpV.leq | exact OpV.gtr | exact OpV.geq | exact OpV.extract | exact OpV.makeFunc | exact OpV.addn (by omega) | exact OpV.add (by omega) | exact OpV.subn (by omega) | exact OpV.sub (by omega) | exact OpV.lens | exact OpV.eqlID | exact OpV.neqID | exact OpV.eqlEv | exact OpV.eqlOp | exact OpV.eqlStr | exact OpV.neqStr | exact OpV.eqlNil | exact OpV.eqlBool | exact OpV.neqBool) rfl ?_ | (refine JR.alloc rfl ?_; intro _) | (refine JR.box rfl ?_; intro _) | refine JR.store ?_ | refine JC.cond_true ?_ | refine JC.cond_false ?_ | refine JC.skip ?_ | refine JC.exit ?_ | refine JC.block ?_ | refine CT.past ?_ | refine CT.hit ?_ | refine CT.miss rfl ?_ | refine CT.blockEnd ?_ | refine JC.ret ?_ | refine CT.ret ?_ | refine CT.blockRet ?_ | refine JO.omit rfl rfl ?_ | (refine JR.lit rfl ⟨rfl, by decide, by decide, by decide⟩ ?_; intro _))
  refine JR.call1 rfl (fun w1 hw => of_ids w1 _ b k M hw.get) ?_
  intro m
  repeat (first | refine CT.next ?_ | refine JC.seq ?_ | refine JC.region ?_ | refine JO.nil ?_ | refine JO.go rfl ?_ | refine JR.val (by first | exact OpV.move | exact OpV.assign | exact OpV.load | exact OpV.fieldAddr | exact OpV.indexEl | exact OpV.len | exact OpV.lss | exact OpV.not | exact OpV.pick_true | exact OpV.pick_false | exact OpV.inc (by omega) | exact OpV.eql | exact OpV.neq | exact OpV.leq | exact OpV.gtr | exact OpV.geq | exact OpV.extract | exact OpV.makeFunc | exact OpV.addn (by omega) | exact OpV.add (by omega) | exact OpV.subn (by omega) | exact OpV.sub (by omega) | exact OpV.lens | exact OpV.eqlID | exact OpV.neqID | exact OpV.eqlEv | exact OpV.eqlOp | exact OpV.eqlStr | exact OpV.neqStr | exact OpV.eqlNil | exact OpV.eqlBool | exact OpV.neqBool) rfl ?_ | (refine JR.alloc rfl ?_; intro _) | (refine JR.box rfl ?_; intro _) | refine JR.store ?_ | refine JC.cond_true ?_ | refine JC.cond_false ?_ | refine JC.skip ?_ | refine JC.exit ?_ | refine JC.block ?_ | refine CT.past ?_ | refine CT.hit ?_ | refine CT.miss rfl ?_ | refine CT.blockEnd ?_ | refine JC.ret ?_ | refine CT.ret ?_ | refine CT.blockRet ?_ | refine JO.omit rfl rfl ?_ | (refine JR.lit rfl ⟨rfl, by decide, by decide, by decide⟩ ?_; intro _))
  refine JR.makeSet idV rfl ?_
  intro u
  repeat (first | refine CT.next ?_ | refine JC.seq ?_ | refine JC.region ?_ | refine JO.nil ?_ | refine JO.go rfl ?_ | refine JR.val (by first | exact OpV.move | exact OpV.assign | exact OpV.load | exact OpV.fieldAddr | exact OpV.indexEl | exact OpV.len | exact OpV.lss | exact OpV.not | exact OpV.pick_true | exact OpV.pick_false | exact OpV.inc (by omega) | exact OpV.eql | exact OpV.neq | exact OpV.leq | exact OpV.gtr | exact OpV.geq | exact OpV.extract | exact OpV.makeFunc | exact OpV.addn (by omega) | exact OpV.add (by omega) | exact OpV.subn (by omega) | exact OpV.sub (by omega) | exact OpV.lens | exact OpV.eqlID | exact OpV.neqID | exact OpV.eqlEv | exact OpV.eqlOp | exact OpV.eqlStr | exact OpV.neqStr | exact OpV.eqlNil | exact OpV.eqlBool | exact OpV.neqBool) rfl ?_ | (refine JR.alloc rfl ?_; intro _) | (refine JR.box rfl ?_; intro _) | refine JR.store ?_ | refine JC.cond_true ?_ | refine JC.cond_false ?_ | refine JC.skip ?_ | refine JC.exit ?_ | refine JC.block ?_ | refine CT.past ?_ | refine CT.hit ?_ | refine CT.miss rfl ?_ | refine CT.blockEnd ?_ | refine JC.ret ?_ | refine CT.ret ?_ | refine CT.blockRet ?_ | refine JO.omit rfl rfl ?_ | (refine JR.lit rfl ⟨rfl, by decide, by decide, by decide⟩ ?_; intro _))
  refine JC.loop1 (fun j : Nat => [(2, .bool want), (7, .map (some m)), (8, .map (some u)), (14, .slice a L.length c), (15, .int .i64 (L.length : Int)), (16, .int .i64 (j : Int))])
    (fun j => [.omap u (ents idV (sety (setOf (pickIds M want (L.take j))))) (setOf (pickIds M want (L.take j))).length, .omap m (ents idV (sety (setOf M))) (setOf M).length, .st (sl a c L)])
    (fun j => j ≤ L.length) (fun j => L.length - j) 0 (Nat.zero_le _) (by simp only [List.take_zero, pickIds_nil, setOf_nil]; exact inferInstance) ?_
  intro j hj
  repeat (first | refine CT.next ?_ | refine JC.seq ?_ | refine JC.region ?_ | refine JO.nil ?_ | refine JO.go rfl ?_ | refine JR.val (by first | exact OpV.move | exact OpV.assign | exact OpV.load | exact OpV.fieldAddr | exact OpV.indexEl | exact OpV.len | exact OpV.lss | exact OpV.not | exact OpV.pick_true | exact OpV.pick_false | exact OpV.inc (by omega) | exact OpV.eql | exact OpV.neq | exact OpV.leq | exact OpV.gtr | exact OpV.geq | exact OpV.extract | exact OpV.makeFunc | exact OpV.addn (by omega) | exact OpV.add (by omega) | exact OpV.subn (by omega) | exact OpV.sub (by omega) | exact OpV.lens | exact OpV.eqlID | exact OpV.neqID | exact OpV.eqlEv | exact OpV.eqlOp | exact OpV.eqlStr | exact OpV.neqStr | exact OpV.eqlNil | exact OpV.eqlBool | exact OpV.neqBool) rfl ?_ | (refine JR.alloc rfl ?_; intro _) | (refine JR.box rfl ?_; intro _) | refine JR.store ?_ | refine JC.cond_true ?_ | refine JC.cond_false ?_ | refine JC.skip ?_ | refine JC.exit ?_ | refine JC.block ?_ | refine CT.past ?_ | refine CT.hit ?_ | refine CT.miss rfl ?_ | refine CT.blockEnd ?_ | refine JC.ret ?_ | refine CT.ret ?_ | refine CT.blockRet ?_ | refine JO.omit rfl rfl ?_ | (refine JR.lit rfl ⟨rfl, by decide, by decide, by decide⟩ ?_; intro _))
  refine JC.test (fun hlt => ?_) (fun hge => ?_)
  · have hlt' : j < L.length := by omega
    repeat (first | refine CT.next ?_ | refine JC.seq ?_ | refine JC.region ?_ | refine JO.nil ?_ | refine JO.go rfl ?_ | refine JR.val (by first | exact OpV.move | exact OpV.assign | exact OpV.load | exact OpV.fieldAddr | exact OpV.indexEl | exact OpV.len | exact OpV.lss | exact OpV.not | exact OpV.pick_true | exact OpV.pick_false | exact OpV.inc (by omega) | exact OpV.eql | exact OpV.neq | exact OpV.leq | exact OpV.gtr | exact OpV.geq | exact OpV.extract | exact OpV.makeFunc | exact OpV.addn (by omega) | exact OpV.add (by omega) | exact OpV.subn (by omega) | exact OpV.sub (by omega) | exact OpV.lens | exact OpV.eqlID | exact OpV.neqID | exact OpV.eqlEv | exact OpV.eqlOp | exact OpV.eqlStr | exact OpV.neqStr | exact OpV.eqlNil | exact OpV.eqlBool | exact OpV.neqBool) rfl ?_ | (refine JR.alloc rfl ?_; intro _) | (refine JR.box rfl ?_; intro _) | refine JR.store ?_ | refine JC.cond_true ?_ | refine JC.cond_false ?_ | refine JC.skip ?_ | refine JC.exit ?_ | refine JC.block ?_ | refine CT.past ?_ | refine CT.hit ?_ | refine CT.miss rfl ?_ | refine CT.blockEnd ?_ | refine JC.ret ?_ | refine CT.ret ?_ | refine CT.blockRet ?_ | refine JO.omit rfl rfl ?_ | (refine JR.lit rfl ⟨rfl, by decide, by decide, by decide⟩ ?_; intro _))
    refine JR.indexID rfl hlt' ?_
    intro b1 o1
    repeat (first | refine CT.next ?_ | refine JC.seq ?_ | refine JC.region ?_ | refine JO.nil ?_ | refine JO.go rfl ?_ | refine JR.val (by first | exact OpV.move | exact OpV.assign | exact OpV.load | exact OpV.fieldAddr | exact OpV.indexEl | exact OpV.len | exact OpV.lss | exact OpV.not | exact OpV.pick_true | exact OpV.pick_false | exact OpV.inc (by omega) | exact OpV.eql | exact OpV.neq | exact OpV.leq | exact OpV.gtr | exact OpV.geq | exact OpV.extract | exact OpV.makeFunc | exact OpV.addn (by omega) | exact OpV.add (by omega) | exact OpV.subn (by omega) | exact OpV.sub (by omega) | exact OpV.lens | exact OpV.eqlID | exact OpV.neqID | exact OpV.eqlEv | exact OpV.eqlOp | exact OpV.eqlStr | exact OpV.neqStr | exact OpV.eqlNil | exact OpV.eqlBool | exact OpV.neqBool) rfl ?_ | (refine JR.alloc rfl ?_; intro _) | (refine JR.box rfl ?_; intro _) | refine JR.store ?_ | refine JC.cond_true ?_ | refine JC.cond_false ?_ | refine JC.skip ?_ | refine JC.exit ?_ | refine JC.block ?_ | refine CT.past ?_ | refine CT.hit ?_ | refine CT.miss rfl ?_ | refine CT.blockEnd ?_ | refine JC.ret ?_ | refine CT.ret ?_ | refine CT.blockRet ?_ | refine JO.omit rfl rfl ?_ | (refine JR.lit rfl ⟨rfl, by decide, by decide, by decide⟩ ?_; intro _))
    refine JR.val (OpV.setHas L[j] (setOf_nodup _)) rfl ?_
    repeat (first | refine CT.next ?_ | refine JC.seq ?_ | refine JC.region ?_ | refine JO.nil ?_ | refine JO.go rfl ?_ | refine JR.val (by first | exact OpV.move | exact OpV.assign | exact OpV.load | exact OpV.fieldAddr | exact OpV.indexEl | exact OpV.len | exact OpV.lss | exact OpV.not | exact OpV.pick_true | exact OpV.pick_false | exact OpV.inc (by omega) | exact OpV.eql | exact OpV.neq | exact OpV.leq | exact OpV.gtr | exact OpV.geq | exact OpV.extract | exact OpV.makeFunc | exact OpV.addn (by omega) | exact OpV.add (by omega) | exact OpV.subn (by omega) | exact OpV.sub (by omega) | exact OpV.lens | exact OpV.eqlID | exact OpV.neqID | exact OpV.eqlEv | exact OpV.eqlOp | exact OpV.eqlStr | exact OpV.neqStr | exact OpV.eqlNil | exact OpV.eqlBool | exact OpV.neqBool) rfl ?_ | (refine JR.alloc rfl ?_; intro _) | (refine JR.box rfl ?_; intro _) | refine JR.store ?_ | refine JC.cond_true ?_ | refine JC.cond_false ?_ | refine JC.skip ?_ | refine JC.exit ?_ | refine JC.block ?_ | refine CT.past ?_ | refine CT.hit ?_ | refine CT.miss rfl ?_ | refine CT.blockEnd ?_ | refine JC.ret ?_ | refine CT.ret ?_ | refine CT.blockRet ?_ | refine JO.omit rfl rfl ?_ | (refine JR.lit rfl ⟨rfl, by decide, by decide, by decide⟩ ?_; intro _))
    refine JC.test (fun hy => ?_) (fun hn => ?_)
    · repeat (first | refine CT.next ?_ | refine JC.seq ?_ | refine JC.region ?_ | refine JO.nil ?_ | refine JO.go rfl ?_ | refine JR.val (by first | exact OpV.move | exact OpV.assign | exact OpV.load | exact OpV.fieldAddr | exact OpV.indexEl | exact OpV.len | exact OpV.lss | exact OpV.not | exact OpV.pick_true | exact OpV.pick_false | exact OpV.inc (by omega) | exact OpV.eql | exact OpV.neq | exact OpV.leq | exact OpV.gtr | exact OpV.geq | exact OpV.extract | exact OpV.makeFunc | exact OpV.addn (by omega) | exact OpV.add (by omega) | exact OpV.subn (by omega) | exact OpV.sub (by omega) | exact OpV.lens | exact OpV.eqlID | exact OpV.neqID | exact OpV.eqlEv | exact OpV.eqlOp | exact OpV.eqlStr | exact OpV.neqStr | exact OpV.eqlNil | exact OpV.eqlBool | exact OpV.neqBool) rfl ?_ | (refine JR.alloc rfl ?_; intro _) | (refine JR.box rfl ?_; intro _) | refine JR.store ?_ | refine JC.cond_true ?_ | refine JC.cond_false ?_ | refine JC.skip ?_ | refine JC.exit ?_ | refine JC.block ?_ | refine CT.past ?_ | refine CT.hit ?_ | refine CT.miss rfl ?_ | refine CT.blockEnd ?_ | refine JC.ret ?_ | refine CT.ret ?_ | refine CT.blockRet ?_ | refine JO.omit rfl rfl ?_ | (refine JR.lit rfl ⟨rfl, by decide, by decide, by decide⟩ ?_; intro _))
      refine JR.setAdd L[j] (setOf_nodup _) ?_
      repeat (first | refine CT.next ?_ | refine JC.seq ?_ | refine JC.region ?_ | refine JO.nil ?_ | refine JO.go rfl ?_ | refine JR.val (by first | exact OpV.move | exact OpV.assign | exact OpV.load | exact OpV.fieldAddr | exact OpV.indexEl | exact OpV.len | exact OpV.lss | exact OpV.not | exact OpV.pick_true | exact OpV.pick_false | exact OpV.inc (by omega) | exact OpV.eql | exact OpV.neq | exact OpV.leq | exact OpV.gtr | exact OpV.geq | exact OpV.extract | exact OpV.makeFunc | exact OpV.addn (by omega) | exact OpV.add (by omega) | exact OpV.subn (by omega) | exact OpV.sub (by omega) | exact OpV.lens | exact OpV.eqlID | exact OpV.neqID | exact OpV.eqlEv | exact OpV.eqlOp | exact OpV.eqlStr | exact OpV.neqStr | exact OpV.eqlNil | exact OpV.eqlBool | exact OpV.neqBool) rfl ?_ | (refine JR.alloc rfl ?_; intro _) | (refine JR.box rfl ?_; intro _) | refine JR.store ?_ | refine JC.cond_true ?_ | refine JC.cond_false ?_ | refine JC.skip ?_ | refine JC.exit ?_ | refine JC.block ?_ | refine CT.past ?_ | refine CT.hit ?_ | refine CT.miss rfl ?_ | refine CT.blockEnd ?_ | refine JC.ret ?_ | refine CT.ret ?_ | refine CT.blockRet ?_ | refine JO.omit rfl rfl ?_ | (refine JR.lit rfl ⟨rfl, by decide, by decide, by decide⟩ ?_; intro _))
      refine ⟨j + 1, by omega, by omega, ?_⟩
      have : decide (L[j] ∈ M) = want := by simpa [mem_setOf] using hy
      rw [pickIds_take M want L j hlt', if_pos this, setOf_snoc]
      exact inferInstance
    · repeat (first | refine CT.next ?_ | refine JC.seq ?_ | refine JC.region ?_ | refine JO.nil ?_ | refine JO.go rfl ?_ | refine JR.val (by first | exact OpV.move | exact OpV.assign | exact OpV.load | exact OpV.fieldAddr | exact OpV.indexEl | exact OpV.len | exact OpV.lss | exact OpV.not | exact OpV.pick_true | exact OpV.pick_false | exact OpV.inc (by omega) | exact OpV.eql | exact OpV.neq | exact OpV.leq | exact OpV.gtr | exact OpV.geq | exact OpV.extract | exact OpV.makeFunc | exact OpV.addn (by omega) | exact OpV.add (by omega) | exact OpV.subn (by omega) | exact OpV.sub (by omega) | exact OpV.lens | exact OpV.eqlID | exact OpV.neqID | exact OpV.eqlEv | exact OpV.eqlOp | exact OpV.eqlStr | exact OpV.neqStr | exact OpV.eqlNil | exact OpV.eqlBool | exact OpV.neqBool) rfl ?_ | (refine JR.alloc rfl ?_; intro _) | (refine JR.box rfl ?_; intro _) | refine JR.store ?_ | refine JC.cond_true ?_ | refine JC.cond_false ?_ | refine JC.skip ?_ | refine JC.exit ?_ | refine JC.block ?_ | refine CT.past ?_ | refine CT.hit ?_ | refine CT.miss rfl ?_ | refine CT.blockEnd ?_ | refine JC.ret ?_ | refine CT.ret ?_ | refine CT.blockRet ?_ | refine JO.omit rfl rfl ?_ | (refine JR.lit rfl ⟨rfl, by decide, by decide, by decide⟩ ?_; intro _))
      refine ⟨j + 1, by omega, by omega, ?_⟩
      have : ¬ decide (L[j] ∈ M) = want := by simpa [mem_setOf] using hn
      rw [pickIds_take M want L j hlt', if_neg this]
      exact inferInstance
  · refine JC.more (fun w ho => ho.pubMap) ?_
    repeat (first | refine CT.next ?_ | refine JC.seq ?_ | refine JC.region ?_ | refine JO.nil ?_ | refine JO.go rfl ?_ | refine JR.val (by first | exact OpV.move | exact OpV.assign | exact OpV.load | exact OpV.fieldAddr | exact OpV.indexEl | exact OpV.len | exact OpV.lss | exact OpV.not | exact OpV.pick_true | exact OpV.pick_false | exact OpV.inc (by omega) | exact OpV.eql | exact OpV.neq | exact OpV.leq | exact OpV.gtr | exact OpV.geq | exact OpV.extract | exact OpV.makeFunc | exact OpV.addn (by omega) | exact OpV.add (by omega) | exact OpV.subn (by omega) | exact OpV.sub (by omega) | exact OpV.lens | exact OpV.eqlID | exact OpV.neqID | exact OpV.eqlEv | exact OpV.eqlOp | exact OpV.eqlStr | exact OpV.neqStr | exact OpV.eqlNil | exact OpV.eqlBool | exact OpV.neqBool) rfl ?_ | (refine JR.alloc rfl ?_; intro _) | (refine JR.box rfl ?_; intro _) | refine JR.store ?_ | refine JC.cond_true ?_ | refine JC.cond_false ?_ | refine JC.skip ?_ | refine JC.exit ?_ | refine JC.block ?_ | refine CT.past ?_ | refine CT.hit ?_ | refine CT.miss rfl ?_ | refine CT.blockEnd ?_ | refine JC.ret ?_ | refine CT.ret ?_ | refine CT.blockRet ?_ | refine JO.omit rfl rfl ?_ | (refine JR.lit rfl ⟨rfl, by decide, by decide, by decide⟩ ?_; intro _))
    refine JR.callBuf rfl (fun w1 hw => list_ids w1 _ u (setOf (pickIds M want (L.take j))) (setOf_nodup _) (Nat.le_trans (setOf_length _) (Nat.le_trans (pickIds_length _ _ _) (Nat.le_trans (List.length_take_le' _ _) hl))) hw.get) ?_
    intro a2 c2
    repeat (first | refine CT.next ?_ | refine JC.seq ?_ | refine JC.region ?_ | refine JO.nil ?_ | refine JO.go rfl ?_ | refine JR.val (by first | exact OpV.move | exact OpV.assign | exact OpV.load | exact OpV.fieldAddr | exact OpV.indexEl | exact OpV.len | exact OpV.lss | exact OpV.not | exact OpV.pick_true | exact OpV.pick_false | exact OpV.inc (by omega) | exact OpV.eql | exact OpV.neq | exact OpV.leq | exact OpV.gtr | exact OpV.geq | exact OpV.extract | exact OpV.makeFunc | exact OpV.addn (by omega) | exact OpV.add (by omega) | exact OpV.subn (by omega) | exact OpV.sub (by omega) | exact OpV.lens | exact OpV.eqlID | exact OpV.neqID | exact OpV.eqlEv | exact OpV.eqlOp | exact OpV.eqlStr | exact OpV.neqStr | exact OpV.eqlNil | exact OpV.eqlBool | exact OpV.neqBool) rfl ?_ | (refine JR.alloc rfl ?_; intro _) | (refine JR.box rfl ?_; intro _) | refine JR.store ?_ | refine JC.cond_true ?_ | refine JC.cond_false ?_ | refine JC.skip ?_ | refine JC.exit ?_ | refine JC.block ?_ | refine CT.past ?_ | refine CT.hit ?_ | refine CT.miss rfl ?_ | refine CT.blockEnd ?_ | refine JC.ret ?_ | refine CT.ret ?_ | refine CT.blockRet ?_ | refine JO.omit rfl rfl ?_ | (refine JR.lit rfl ⟨rfl, by decide, by decide, by decide⟩ ?_; intro _))
    have : L.take j = L := List.take_of_length_le (by omega)
    rw [this]
    exact CT.done (a2, c2) rfl (fun w ho => by unfold someIds; exact ho.ent)
end Ab
end Go.Proofs.Ytcmfemfndadfmaa
