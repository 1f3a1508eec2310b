/- The statement WaitBoundSaid: for every input WaitBound returns true and leaves its arguments as they were. -/
import Derived.Test.YtcmfemfndadfmaaWb6
import Derived.Test.YtcmfemfndadfmaaWb2
import Derived.SizedLaws
import Derived.ChangeArms
import Derived.KernelRfl
import Derived.OpenShut
import Derived.Test.YtcmfemfndadfmaaWb4
import Derived.Test.YtcmfemfndadfmaaRows
import Derived.ProofKit
import Derived.Carry
/- The law WaitBound returns true. -/
namespace Go.Proofs.Ytcmfemfndadfmaa
namespace Ab
open Go Go.RowKit
set_option linter.unusedVariables false
set_option linter.unusedSimpArgs false
set_option synthInstance.maxSize 4000
set_option synthInstance.maxHeartbeats 400000
attribute [local irreducible] JC JO JR JQ andThen inBlock OpV Gives retTo JM JS

attribute [local irreducible] hashC idA l0 l1
theorem any_nextB {α : Type} (L : List α) (p : α → Bool) (i : Nat) (h : i < L.length) : (L.take (i + 1)).any p = ((L.take i).any p || p L[i]) := by
  rw [List.take_succ_eq_append_getElem h, List.any_append]; simp
theorem waitPut_new {L : List Commit} {c : Commit} (h : may c = true) (h1 : merge c = false) (h2 : c ∉ L) (h3 : L.length ≤ 8) : waitPut L c = L.drop (L.length + 1 - 8) ++ [c] := by
  simp only [waitPut, h, h1, any_mem, h2, Bool.not_true, decide_false, Bool.or_self, Bool.false_eq_true, if_false]
  rw [List.drop_append_of_le_length (by omega)]
theorem waitPut_old {L : List Commit} {c : Commit} (h : may c = false ∨ merge c = true ∨ c ∈ L) : waitPut L c = L := by
  rw [waitPut, if_pos]
  rw [any_mem]
  rcases h with h | h | h <;> simp [h]
theorem waitPut_len {L : List Commit} {c : Commit} (h : L.length ≤ 8) : (waitPut L c).length ≤ 8 ∧ L.length ≤ (waitPut L c).length := by
  by_cases hs : may c = false ∨ merge c = true ∨ c ∈ L
  · rw [waitPut_old hs]; omega
  · simp only [not_or, Bool.not_eq_false, Bool.not_eq_true] at hs
    rw [waitPut_new hs.1 hs.2.1 hs.2.2 h]
    simp
    omega

set_option maxHeartbeats 4000000 in
theorem law_bound (w : World) (F : Nat → Prop) (a b : Option Addr) (k m : Nat) (L : List Commit) (c : Commit) (h : (sl a k L).holds F w) (h' : (sl b m c.parents).holds F w) :
    GivesV Try.prog 3 [.slice a L.length k, commitV c b m] w F (.bool true) := by
  refine gives_of Try.func3 rfl Try.ntmps3 rfl rfl [.st (sl a k L), .st (sl b m c.parents)] (.start2 h h') ?_
  repeat (first | refine CT.next ?_ | refine JC.seq ?_ | refine JC.region ?_ | refine JO.nil ?_ | refine JO.go rfl ?_ | refine JR.val (by first | exact OpV.move | exact OpV.assign | exact OpV.load | exact OpV.fieldAddr | exact OpV.indexEl | exact OpV.len | exact OpV.lss | exact OpV.not | exact OpV.pick_true | exact OpV.pick_false | exact OpV.inc (by omega) | exact OpV.eql | exact OpV.neq | exact OpV.leq | exact OpV.gtr | exact OpV.geq | exact OpV.extract | exact OpV.makeFunc | exact OpV.addn (by omega) | exact OpV.add (by omega) | exact OpV.subn (by omega) | exact OpV.sub (by omega) | exact OpV.lens | exact OpV.eqlID | exact OpV.neqID | exact OpV.eqlEv | exact OpV.eqlOp | exact OpV.eqlStr | exact OpV.neqStr | exact OpV.eqlNil | exact OpV.eqlBool | exact OpV.neqBool) rfl ?_ | (refine JR.alloc rfl ?_; intro _) | (refine JR.box rfl ?_; intro _) | refine JR.store ?_ | refine JC.cond_true ?_ | refine JC.cond_false ?_ | refine JC.skip ?_ | refine JC.exit ?_ | refine JC.block ?_ | refine CT.past ?_ | refine CT.hit ?_ | refine CT.miss rfl ?_ | refine CT.blockEnd ?_ | refine JC.ret ?_ | refine CT.ret ?_ | refine CT.blockRet ?_ | refine JO.omit rfl rfl ?_ | (refine JR.lit rfl ⟨rfl, by decide, by decide, by decide⟩ ?_; intro _))
  rename_i bc
  refine JR.callV rfl (fun w1 hw => awake_wait w1 _) ?_
  repeat (first | refine CT.next ?_ | refine JC.seq ?_ | refine JC.region ?_ | refine JO.nil ?_ | refine JO.go rfl ?_ | refine JR.val (by first | exact OpV.move | exact OpV.assign | exact OpV.load | exact OpV.fieldAddr | exact OpV.indexEl | exact OpV.len | exact OpV.lss | exact OpV.not | exact OpV.pick_true | exact OpV.pick_false | exact OpV.inc (by omega) | exact OpV.eql | exact OpV.neq | exact OpV.leq | exact OpV.gtr | exact OpV.geq | exact OpV.extract | exact OpV.makeFunc | exact OpV.addn (by omega) | exact OpV.add (by omega) | exact OpV.subn (by omega) | exact OpV.sub (by omega) | exact OpV.lens | exact OpV.eqlID | exact OpV.neqID | exact OpV.eqlEv | exact OpV.eqlOp | exact OpV.eqlStr | exact OpV.neqStr | exact OpV.eqlNil | exact OpV.eqlBool | exact OpV.neqBool) rfl ?_ | (refine JR.alloc rfl ?_; intro _) | (refine JR.box rfl ?_; intro _) | refine JR.store ?_ | refine JC.cond_true ?_ | refine JC.cond_false ?_ | refine JC.skip ?_ | refine JC.exit ?_ | refine JC.block ?_ | refine CT.past ?_ | refine CT.hit ?_ | refine CT.miss rfl ?_ | refine CT.blockEnd ?_ | refine JC.ret ?_ | refine CT.ret ?_ | refine CT.blockRet ?_ | refine JO.omit rfl rfl ?_ | (refine JR.lit rfl ⟨rfl, by decide, by decide, by decide⟩ ?_; intro _))
  refine JR.callV rfl (fun w1 hw => few_all w1 _ a k L 8 hw.get) ?_
  repeat (first | refine CT.next ?_ | refine JC.seq ?_ | refine JC.region ?_ | refine JO.nil ?_ | refine JO.go rfl ?_ | refine JR.val (by first | exact OpV.move | exact OpV.assign | exact OpV.load | exact OpV.fieldAddr | exact OpV.indexEl | exact OpV.len | exact OpV.lss | exact OpV.not | exact OpV.pick_true | exact OpV.pick_false | exact OpV.inc (by omega) | exact OpV.eql | exact OpV.neq | exact OpV.leq | exact OpV.gtr | exact OpV.geq | exact OpV.extract | exact OpV.makeFunc | exact OpV.addn (by omega) | exact OpV.add (by omega) | exact OpV.subn (by omega) | exact OpV.sub (by omega) | exact OpV.lens | exact OpV.eqlID | exact OpV.neqID | exact OpV.eqlEv | exact OpV.eqlOp | exact OpV.eqlStr | exact OpV.neqStr | exact OpV.eqlNil | exact OpV.eqlBool | exact OpV.neqBool) rfl ?_ | (refine JR.alloc rfl ?_; intro _) | (refine JR.box rfl ?_; intro _) | refine JR.store ?_ | refine JC.cond_true ?_ | refine JC.cond_false ?_ | refine JC.skip ?_ | refine JC.exit ?_ | refine JC.block ?_ | refine CT.past ?_ | refine CT.hit ?_ | refine CT.miss rfl ?_ | refine CT.blockEnd ?_ | refine JC.ret ?_ | refine CT.ret ?_ | refine CT.blockRet ?_ | refine JO.omit rfl rfl ?_ | (refine JR.lit rfl ⟨rfl, by decide, by decide, by decide⟩ ?_; intro _))
  refine JR.callV rfl (fun w1 hw => few_one w1 _ c b m) ?_
  cases hfew : fewL L 8 with
  | false =>
    repeat (first | refine CT.next ?_ | refine JC.seq ?_ | refine JC.region ?_ | refine JO.nil ?_ | refine JO.go rfl ?_ | refine JR.val (by first | exact OpV.move | exact OpV.assign | exact OpV.load | exact OpV.fieldAddr | exact OpV.indexEl | exact OpV.len | exact OpV.lss | exact OpV.not | exact OpV.pick_true | exact OpV.pick_false | exact OpV.inc (by omega) | exact OpV.eql | exact OpV.neq | exact OpV.leq | exact OpV.gtr | exact OpV.geq | exact OpV.extract | exact OpV.makeFunc | exact OpV.addn (by omega) | exact OpV.add (by omega) | exact OpV.subn (by omega) | exact OpV.sub (by omega) | exact OpV.lens | exact OpV.eqlID | exact OpV.neqID | exact OpV.eqlEv | exact OpV.eqlOp | exact OpV.eqlStr | exact OpV.neqStr | exact OpV.eqlNil | exact OpV.eqlBool | exact OpV.neqBool) rfl ?_ | (refine JR.alloc rfl ?_; intro _) | (refine JR.box rfl ?_; intro _) | refine JR.store ?_ | refine JC.cond_true ?_ | refine JC.cond_false ?_ | refine JC.skip ?_ | refine JC.exit ?_ | refine JC.block ?_ | refine CT.past ?_ | refine CT.hit ?_ | refine CT.miss rfl ?_ | refine CT.blockEnd ?_ | refine JC.ret ?_ | refine CT.ret ?_ | refine CT.blockRet ?_ | refine JO.omit rfl rfl ?_ | (refine JR.lit rfl ⟨rfl, by decide, by decide, by decide⟩ ?_; intro _) | refine JO.skip rfl rfl ?_)
    exact CT.done () rfl (fun w ho => ho.ent)
  | true =>
  cases hone : fewC c with
  | false =>
    repeat (first | refine CT.next ?_ | refine JC.seq ?_ | refine JC.region ?_ | refine JO.nil ?_ | refine JO.go rfl ?_ | refine JR.val (by first | exact OpV.move | exact OpV.assign | exact OpV.load | exact OpV.fieldAddr | exact OpV.indexEl | exact OpV.len | exact OpV.lss | exact OpV.not | exact OpV.pick_true | exact OpV.pick_false | exact OpV.inc (by omega) | exact OpV.eql | exact OpV.neq | exact OpV.leq | exact OpV.gtr | exact OpV.geq | exact OpV.extract | exact OpV.makeFunc | exact OpV.addn (by omega) | exact OpV.add (by omega) | exact OpV.subn (by omega) | exact OpV.sub (by omega) | exact OpV.lens | exact OpV.eqlID | exact OpV.neqID | exact OpV.eqlEv | exact OpV.eqlOp | exact OpV.eqlStr | exact OpV.neqStr | exact OpV.eqlNil | exact OpV.eqlBool | exact OpV.neqBool) rfl ?_ | (refine JR.alloc rfl ?_; intro _) | (refine JR.box rfl ?_; intro _) | refine JR.store ?_ | refine JC.cond_true ?_ | refine JC.cond_false ?_ | refine JC.skip ?_ | refine JC.exit ?_ | refine JC.block ?_ | refine CT.past ?_ | refine CT.hit ?_ | refine CT.miss rfl ?_ | refine CT.blockEnd ?_ | refine JC.ret ?_ | refine CT.ret ?_ | refine CT.blockRet ?_ | refine JO.omit rfl rfl ?_ | (refine JR.lit rfl ⟨rfl, by decide, by decide, by decide⟩ ?_; intro _) | refine JO.skip rfl rfl ?_)
    exact CT.done () rfl (fun w ho => ho.ent)
  | true =>
    obtain ⟨hL, hf⟩ := few_fine hfew
    have hfc := fine_few hone
    obtain ⟨v, hv⟩ : ∃ v, waitPut L c = v := ⟨_, rfl⟩
    have hvl := waitPut_len (c := c) hL
    repeat (first | refine CT.next ?_ | refine JC.seq ?_ | refine JC.region ?_ | refine JO.nil ?_ | refine JO.go rfl ?_ | refine JR.val (by first | exact OpV.move | exact OpV.assign | exact OpV.load | exact OpV.fieldAddr | exact OpV.indexEl | exact OpV.len | exact OpV.lss | exact OpV.not | exact OpV.pick_true | exact OpV.pick_false | exact OpV.inc (by omega) | exact OpV.eql | exact OpV.neq | exact OpV.leq | exact OpV.gtr | exact OpV.geq | exact OpV.extract | exact OpV.makeFunc | exact OpV.addn (by omega) | exact OpV.add (by omega) | exact OpV.subn (by omega) | exact OpV.sub (by omega) | exact OpV.lens | exact OpV.eqlID | exact OpV.neqID | exact OpV.eqlEv | exact OpV.eqlOp | exact OpV.eqlStr | exact OpV.neqStr | exact OpV.eqlNil | exact OpV.eqlBool | exact OpV.neqBool) rfl ?_ | (refine JR.alloc rfl ?_; intro _) | (refine JR.box rfl ?_; intro _) | refine JR.store ?_ | refine JC.cond_true ?_ | refine JC.cond_false ?_ | refine JC.skip ?_ | refine JC.exit ?_ | refine JC.block ?_ | refine CT.past ?_ | refine CT.hit ?_ | refine CT.miss rfl ?_ | refine CT.blockEnd ?_ | refine JC.ret ?_ | refine CT.ret ?_ | refine CT.blockRet ?_ | refine JO.omit rfl rfl ?_ | (refine JR.lit rfl ⟨rfl, by decide, by decide, by decide⟩ ?_; intro _))
    refine JR.callSl rfl (fun w1 hw => put_wait w1 _ a b k m L c hw.get hw.get (by omega) hf hfc) ?_
    intro p q
    rw [hv] at hvl ⊢
    repeat (first | refine CT.next ?_ | refine JC.seq ?_ | refine JC.region ?_ | refine JO.nil ?_ | refine JO.go rfl ?_ | refine JR.val (by first | exact OpV.move | exact OpV.assign | exact OpV.load | exact OpV.fieldAddr | exact OpV.indexEl | exact OpV.len | exact OpV.lss | exact OpV.not | exact OpV.pick_true | exact OpV.pick_false | exact OpV.inc (by omega) | exact OpV.eql | exact OpV.neq | exact OpV.leq | exact OpV.gtr | exact OpV.geq | exact OpV.extract | exact OpV.makeFunc | exact OpV.addn (by omega) | exact OpV.add (by omega) | exact OpV.subn (by omega) | exact OpV.sub (by omega) | exact OpV.lens | exact OpV.eqlID | exact OpV.neqID | exact OpV.eqlEv | exact OpV.eqlOp | exact OpV.eqlStr | exact OpV.neqStr | exact OpV.eqlNil | exact OpV.eqlBool | exact OpV.neqBool) rfl ?_ | (refine JR.alloc rfl ?_; intro _) | (refine JR.box rfl ?_; intro _) | refine JR.store ?_ | refine JC.cond_true ?_ | refine JC.cond_false ?_ | refine JC.skip ?_ | refine JC.exit ?_ | refine JC.block ?_ | refine CT.past ?_ | refine CT.hit ?_ | refine CT.miss rfl ?_ | refine CT.blockEnd ?_ | refine JC.ret ?_ | refine CT.ret ?_ | refine CT.blockRet ?_ | refine JO.omit rfl rfl ?_ | (refine JR.lit rfl ⟨rfl, by decide, by decide, by decide⟩ ?_; intro _))
    refine JO.reslot 36 (.bool false) (by congr 1; simp only [decide_eq_false_iff_not]; omega) ?_
    repeat (first | refine CT.next ?_ | refine JC.seq ?_ | refine JC.region ?_ | refine JO.nil ?_ | refine JO.go rfl ?_ | refine JR.val (by first | exact OpV.move | exact OpV.assign | exact OpV.load | exact OpV.fieldAddr | exact OpV.indexEl | exact OpV.len | exact OpV.lss | exact OpV.not | exact OpV.pick_true | exact OpV.pick_false | exact OpV.inc (by omega) | exact OpV.eql | exact OpV.neq | exact OpV.leq | exact OpV.gtr | exact OpV.geq | exact OpV.extract | exact OpV.makeFunc | exact OpV.addn (by omega) | exact OpV.add (by omega) | exact OpV.subn (by omega) | exact OpV.sub (by omega) | exact OpV.lens | exact OpV.eqlID | exact OpV.neqID | exact OpV.eqlEv | exact OpV.eqlOp | exact OpV.eqlStr | exact OpV.neqStr | exact OpV.eqlNil | exact OpV.eqlBool | exact OpV.neqBool) rfl ?_ | (refine JR.alloc rfl ?_; intro _) | (refine JR.box rfl ?_; intro _) | refine JR.store ?_ | refine JC.cond_true ?_ | refine JC.cond_false ?_ | refine JC.skip ?_ | refine JC.exit ?_ | refine JC.block ?_ | refine CT.past ?_ | refine CT.hit ?_ | refine CT.miss rfl ?_ | refine CT.blockEnd ?_ | refine JC.ret ?_ | refine CT.ret ?_ | refine CT.blockRet ?_ | refine JO.omit rfl rfl ?_ | (refine JR.lit rfl ⟨rfl, by decide, by decide, by decide⟩ ?_; intro _))
    refine JC.reslot 42 (.bool false) (by congr 1; simp only [decide_eq_false_iff_not]; omega) ?_
    repeat (first | refine CT.next ?_ | refine JC.seq ?_ | refine JC.region ?_ | refine JO.nil ?_ | refine JO.go rfl ?_ | refine JR.val (by first | exact OpV.move | exact OpV.assign | exact OpV.load | exact OpV.fieldAddr | exact OpV.indexEl | exact OpV.len | exact OpV.lss | exact OpV.not | exact OpV.pick_true | exact OpV.pick_false | exact OpV.inc (by omega) | exact OpV.eql | exact OpV.neq | exact OpV.leq | exact OpV.gtr | exact OpV.geq | exact OpV.extract | exact OpV.makeFunc | exact OpV.addn (by omega) | exact OpV.add (by omega) | exact OpV.subn (by omega) | exact OpV.sub (by omega) | exact OpV.lens | exact OpV.eqlID | exact OpV.neqID | exact OpV.eqlEv | exact OpV.eqlOp | exact OpV.eqlStr | exact OpV.neqStr | exact OpV.eqlNil | exact OpV.eqlBool | exact OpV.neqBool) rfl ?_ | (refine JR.alloc rfl ?_; intro _) | (refine JR.box rfl ?_; intro _) | refine JR.store ?_ | refine JC.cond_true ?_ | refine JC.cond_false ?_ | refine JC.skip ?_ | refine JC.exit ?_ | refine JC.block ?_ | refine CT.past ?_ | refine CT.hit ?_ | refine CT.miss rfl ?_ | refine CT.blockEnd ?_ | refine JC.ret ?_ | refine CT.ret ?_ | refine CT.blockRet ?_ | refine JO.omit rfl rfl ?_ | (refine JR.lit rfl ⟨rfl, by decide, by decide, by decide⟩ ?_; intro _))
    refine JC.loop2 (fun (i : Nat) (th : Bool) => [(0, .slice a L.length k), (3, .pointer (some ⟨bc, 0, none⟩)), (8, .slice p v.length q), (9, .bool th), (10, .int .i64 (i : Int))])
      (fun i th => [.st (sl a k L), .st (sl b m c.parents), .own bc 29 [.int .i64 c.ev.node, .int .i64 c.ev.seq, .int .i64 c.gen, .slice b c.parents.length m, .int .i64 c.op.kind, .string c.op.key, .string c.op.elem, .int .i64 c.op.n], .st (sl p q v)])
      (fun i th => i ≤ L.length ∧ th = (L.take i).any (fun d => decide (d = c))) (fun i _ => L.length - i) 0 false ⟨Nat.zero_le _, rfl⟩ inferInstance ?_
    intro i th ⟨hi, hth⟩
    repeat (first | refine CT.next ?_ | refine JC.seq ?_ | refine JC.region ?_ | refine JO.nil ?_ | refine JO.go rfl ?_ | refine JR.val (by first | exact OpV.move | exact OpV.assign | exact OpV.load | exact OpV.fieldAddr | exact OpV.indexEl | exact OpV.len | exact OpV.lss | exact OpV.not | exact OpV.pick_true | exact OpV.pick_false | exact OpV.inc (by omega) | exact OpV.eql | exact OpV.neq | exact OpV.leq | exact OpV.gtr | exact OpV.geq | exact OpV.extract | exact OpV.makeFunc | exact OpV.addn (by omega) | exact OpV.add (by omega) | exact OpV.subn (by omega) | exact OpV.sub (by omega) | exact OpV.lens | exact OpV.eqlID | exact OpV.neqID | exact OpV.eqlEv | exact OpV.eqlOp | exact OpV.eqlStr | exact OpV.neqStr | exact OpV.eqlNil | exact OpV.eqlBool | exact OpV.neqBool) rfl ?_ | (refine JR.alloc rfl ?_; intro _) | (refine JR.box rfl ?_; intro _) | refine JR.store ?_ | refine JC.cond_true ?_ | refine JC.cond_false ?_ | refine JC.skip ?_ | refine JC.exit ?_ | refine JC.block ?_ | refine CT.past ?_ | refine CT.hit ?_ | refine CT.miss rfl ?_ | refine CT.blockEnd ?_ | refine JC.ret ?_ | refine CT.ret ?_ | refine CT.blockRet ?_ | refine JO.omit rfl rfl ?_ | (refine JR.lit rfl ⟨rfl, by decide, by decide, by decide⟩ ?_; intro _))
    refine JC.test (fun hlt => ?_) (fun hge => ?_)
    · have hlt' : i < L.length := by omega
      repeat (first | refine CT.next ?_ | refine JC.seq ?_ | refine JC.region ?_ | refine JO.nil ?_ | refine JO.go rfl ?_ | refine JR.val (by first | exact OpV.move | exact OpV.assign | exact OpV.load | exact OpV.fieldAddr | exact OpV.indexEl | exact OpV.len | exact OpV.lss | exact OpV.not | exact OpV.pick_true | exact OpV.pick_false | exact OpV.inc (by omega) | exact OpV.eql | exact OpV.neq | exact OpV.leq | exact OpV.gtr | exact OpV.geq | exact OpV.extract | exact OpV.makeFunc | exact OpV.addn (by omega) | exact OpV.add (by omega) | exact OpV.subn (by omega) | exact OpV.sub (by omega) | exact OpV.lens | exact OpV.eqlID | exact OpV.neqID | exact OpV.eqlEv | exact OpV.eqlOp | exact OpV.eqlStr | exact OpV.neqStr | exact OpV.eqlNil | exact OpV.eqlBool | exact OpV.neqBool) rfl ?_ | (refine JR.alloc rfl ?_; intro _) | (refine JR.box rfl ?_; intro _) | refine JR.store ?_ | refine JC.cond_true ?_ | refine JC.cond_false ?_ | refine JC.skip ?_ | refine JC.exit ?_ | refine JC.block ?_ | refine CT.past ?_ | refine CT.hit ?_ | refine CT.miss rfl ?_ | refine CT.blockEnd ?_ | refine JC.ret ?_ | refine CT.ret ?_ | refine CT.blockRet ?_ | refine JO.omit rfl rfl ?_ | (refine JR.lit rfl ⟨rfl, by decide, by decide, by decide⟩ ?_; intro _))
      refine JC.openCommit (L := L) (.slice a L.length k) i hlt' ?_
      intro b1 o1 p1 q1
      refine JC.quiet mixed (by kernel_rfl) ?_
      repeat (first | refine JQ.val rfl (by first | exact OpV.move | exact OpV.assign | exact OpV.load | exact OpV.fieldAddr | exact OpV.indexEl | exact OpV.len | exact OpV.lss | exact OpV.not | exact OpV.pick_true | exact OpV.pick_false | exact OpV.inc (by omega) | exact OpV.eql | exact OpV.neq | exact OpV.leq | exact OpV.gtr | exact OpV.geq | exact OpV.extract | exact OpV.makeFunc | exact OpV.addn (by omega) | exact OpV.add (by omega) | exact OpV.subn (by omega) | exact OpV.sub (by omega) | exact OpV.lens | exact OpV.eqlID | exact OpV.neqID | exact OpV.eqlEv | exact OpV.eqlOp | exact OpV.eqlStr | exact OpV.neqStr | exact OpV.eqlNil | exact OpV.eqlBool | exact OpV.neqBool) rfl ?_ | refine JQ.omit rfl rfl ?_ | refine JQ.nil ?_)
      cases th with
      | true =>
        repeat (first | refine JQ.val rfl (by first | exact OpV.move | exact OpV.assign | exact OpV.load | exact OpV.fieldAddr | exact OpV.indexEl | exact OpV.len | exact OpV.lss | exact OpV.not | exact OpV.pick_true | exact OpV.pick_false | exact OpV.inc (by omega) | exact OpV.eql | exact OpV.neq | exact OpV.leq | exact OpV.gtr | exact OpV.geq | exact OpV.extract | exact OpV.makeFunc | exact OpV.addn (by omega) | exact OpV.add (by omega) | exact OpV.subn (by omega) | exact OpV.sub (by omega) | exact OpV.lens | exact OpV.eqlID | exact OpV.neqID | exact OpV.eqlEv | exact OpV.eqlOp | exact OpV.eqlStr | exact OpV.neqStr | exact OpV.eqlNil | exact OpV.eqlBool | exact OpV.neqBool) rfl ?_ | refine JQ.omit rfl rfl ?_ | refine JQ.skip rfl rfl ?_ | refine JQ.nil ?_)
        repeat (first | refine CT.next ?_ | refine JC.seq ?_ | refine JC.region ?_ | refine JO.nil ?_ | refine JO.go rfl ?_ | refine JR.val (by first | exact OpV.move | exact OpV.assign | exact OpV.load | exact OpV.fieldAddr | exact OpV.indexEl | exact OpV.len | exact OpV.lss | exact OpV.not | exact OpV.pick_true | exact OpV.pick_false | exact OpV.inc (by omega) | exact OpV.eql | exact OpV.neq | exact OpV.leq | exact OpV.gtr | exact OpV.geq | exact OpV.extract | exact OpV.makeFunc | exact OpV.addn (by omega) | exact OpV.add (by omega) | exact OpV.subn (by omega) | exact OpV.sub (by omega) | exact OpV.lens | exact OpV.eqlID | exact OpV.neqID | exact OpV.eqlEv | exact OpV.eqlOp | exact OpV.eqlStr | exact OpV.neqStr | exact OpV.eqlNil | exact OpV.eqlBool | exact OpV.neqBool) rfl ?_ | (refine JR.alloc rfl ?_; intro _) | (refine JR.box rfl ?_; intro _) | refine JR.store ?_ | refine JC.cond_true ?_ | refine JC.cond_false ?_ | refine JC.skip ?_ | refine JC.exit ?_ | refine JC.block ?_ | refine CT.past ?_ | refine CT.hit ?_ | refine CT.miss rfl ?_ | refine CT.blockEnd ?_ | refine JC.ret ?_ | refine CT.ret ?_ | refine CT.blockRet ?_ | refine JO.omit rfl rfl ?_ | (refine JR.lit rfl ⟨rfl, by decide, by decide, by decide⟩ ?_; intro _))
        exact ⟨i + 1, true, ⟨by omega, by rw [any_nextB _ _ _ hlt', ← hth]; rfl⟩, by omega, inferInstance⟩
      | false =>
        repeat (first | refine JQ.val rfl (by first | exact OpV.move | exact OpV.assign | exact OpV.load | exact OpV.fieldAddr | exact OpV.indexEl | exact OpV.len | exact OpV.lss | exact OpV.not | exact OpV.pick_true | exact OpV.pick_false | exact OpV.inc (by omega) | exact OpV.eql | exact OpV.neq | exact OpV.leq | exact OpV.gtr | exact OpV.geq | exact OpV.extract | exact OpV.makeFunc | exact OpV.addn (by omega) | exact OpV.add (by omega) | exact OpV.subn (by omega) | exact OpV.sub (by omega) | exact OpV.lens | exact OpV.eqlID | exact OpV.neqID | exact OpV.eqlEv | exact OpV.eqlOp | exact OpV.eqlStr | exact OpV.neqStr | exact OpV.eqlNil | exact OpV.eqlBool | exact OpV.neqBool) rfl ?_ | refine JQ.omit rfl rfl ?_ | refine JQ.skip rfl rfl ?_ | refine JQ.nil ?_)
        refine JQ.call rfl rfl (fun w1 hw => same_commit w1 _ (L[i]) c p1 b q1 m hw.get hw.get) ?_
        repeat (first | refine JQ.val rfl (by first | exact OpV.move | exact OpV.assign | exact OpV.load | exact OpV.fieldAddr | exact OpV.indexEl | exact OpV.len | exact OpV.lss | exact OpV.not | exact OpV.pick_true | exact OpV.pick_false | exact OpV.inc (by omega) | exact OpV.eql | exact OpV.neq | exact OpV.leq | exact OpV.gtr | exact OpV.geq | exact OpV.extract | exact OpV.makeFunc | exact OpV.addn (by omega) | exact OpV.add (by omega) | exact OpV.subn (by omega) | exact OpV.sub (by omega) | exact OpV.lens | exact OpV.eqlID | exact OpV.neqID | exact OpV.eqlEv | exact OpV.eqlOp | exact OpV.eqlStr | exact OpV.neqStr | exact OpV.eqlNil | exact OpV.eqlBool | exact OpV.neqBool) rfl ?_ | refine JQ.omit rfl rfl ?_ | refine JQ.skip rfl rfl ?_ | refine JQ.nil ?_)
        repeat (first | refine CT.next ?_ | refine JC.seq ?_ | refine JC.region ?_ | refine JO.nil ?_ | refine JO.go rfl ?_ | refine JR.val (by first | exact OpV.move | exact OpV.assign | exact OpV.load | exact OpV.fieldAddr | exact OpV.indexEl | exact OpV.len | exact OpV.lss | exact OpV.not | exact OpV.pick_true | exact OpV.pick_false | exact OpV.inc (by omega) | exact OpV.eql | exact OpV.neq | exact OpV.leq | exact OpV.gtr | exact OpV.geq | exact OpV.extract | exact OpV.makeFunc | exact OpV.addn (by omega) | exact OpV.add (by omega) | exact OpV.subn (by omega) | exact OpV.sub (by omega) | exact OpV.lens | exact OpV.eqlID | exact OpV.neqID | exact OpV.eqlEv | exact OpV.eqlOp | exact OpV.eqlStr | exact OpV.neqStr | exact OpV.eqlNil | exact OpV.eqlBool | exact OpV.neqBool) rfl ?_ | (refine JR.alloc rfl ?_; intro _) | (refine JR.box rfl ?_; intro _) | refine JR.store ?_ | refine JC.cond_true ?_ | refine JC.cond_false ?_ | refine JC.skip ?_ | refine JC.exit ?_ | refine JC.block ?_ | refine CT.past ?_ | refine CT.hit ?_ | refine CT.miss rfl ?_ | refine CT.blockEnd ?_ | refine JC.ret ?_ | refine CT.ret ?_ | refine CT.blockRet ?_ | refine JO.omit rfl rfl ?_ | (refine JR.lit rfl ⟨rfl, by decide, by decide, by decide⟩ ?_; intro _))
        exact ⟨i + 1, decide (L[i] = c), ⟨by omega, by rw [any_nextB _ _ _ hlt', ← hth]; rfl⟩, by omega, inferInstance⟩
    obtain rfl : i = L.length := by omega
    rw [List.take_length] at hth
    have hthm : th = decide (c ∈ L) := by rw [hth, Bool.eq_iff_iff]; simp
    repeat (first | refine CT.next ?_ | refine JC.seq ?_ | refine JC.region ?_ | refine JO.nil ?_ | refine JO.go rfl ?_ | refine JR.val (by first | exact OpV.move | exact OpV.assign | exact OpV.load | exact OpV.fieldAddr | exact OpV.indexEl | exact OpV.len | exact OpV.lss | exact OpV.not | exact OpV.pick_true | exact OpV.pick_false | exact OpV.inc (by omega) | exact OpV.eql | exact OpV.neq | exact OpV.leq | exact OpV.gtr | exact OpV.geq | exact OpV.extract | exact OpV.makeFunc | exact OpV.addn (by omega) | exact OpV.add (by omega) | exact OpV.subn (by omega) | exact OpV.sub (by omega) | exact OpV.lens | exact OpV.eqlID | exact OpV.neqID | exact OpV.eqlEv | exact OpV.eqlOp | exact OpV.eqlStr | exact OpV.neqStr | exact OpV.eqlNil | exact OpV.eqlBool | exact OpV.neqBool) rfl ?_ | (refine JR.alloc rfl ?_; intro _) | (refine JR.box rfl ?_; intro _) | refine JR.store ?_ | refine JC.cond_true ?_ | refine JC.cond_false ?_ | refine JC.skip ?_ | refine JC.exit ?_ | refine JC.block ?_ | refine CT.past ?_ | refine CT.hit ?_ | refine CT.miss rfl ?_ | refine CT.blockEnd ?_ | refine JC.ret ?_ | refine CT.ret ?_ | refine CT.blockRet ?_ | refine JO.omit rfl rfl ?_ | (refine JR.lit rfl ⟨rfl, by decide, by decide, by decide⟩ ?_; intro _))
    refine JR.callV rfl (fun w1 hw => may_commit w1 _ c b m hw.get hfc.1) ?_
    cases hmay : may c with
    | false =>
      have hold : may c = false ∨ merge c = true ∨ c ∈ L := .inl hmay
      rw [waitPut_old hold] at hv
      subst hv
      repeat (first | refine CT.next ?_ | refine JC.seq ?_ | refine JC.region ?_ | refine JO.nil ?_ | refine JO.go rfl ?_ | refine JR.val (by first | exact OpV.move | exact OpV.assign | exact OpV.load | exact OpV.fieldAddr | exact OpV.indexEl | exact OpV.len | exact OpV.lss | exact OpV.not | exact OpV.pick_true | exact OpV.pick_false | exact OpV.inc (by omega) | exact OpV.eql | exact OpV.neq | exact OpV.leq | exact OpV.gtr | exact OpV.geq | exact OpV.extract | exact OpV.makeFunc | exact OpV.addn (by omega) | exact OpV.add (by omega) | exact OpV.subn (by omega) | exact OpV.sub (by omega) | exact OpV.lens | exact OpV.eqlID | exact OpV.neqID | exact OpV.eqlEv | exact OpV.eqlOp | exact OpV.eqlStr | exact OpV.neqStr | exact OpV.eqlNil | exact OpV.eqlBool | exact OpV.neqBool) rfl ?_ | (refine JR.alloc rfl ?_; intro _) | (refine JR.box rfl ?_; intro _) | refine JR.store ?_ | refine JC.cond_true ?_ | refine JC.cond_false ?_ | refine JC.skip ?_ | refine JC.exit ?_ | refine JC.block ?_ | refine CT.past ?_ | refine CT.hit ?_ | refine CT.miss rfl ?_ | refine CT.blockEnd ?_ | refine JC.ret ?_ | refine CT.ret ?_ | refine CT.blockRet ?_ | refine JO.omit rfl rfl ?_ | (refine JR.lit rfl ⟨rfl, by decide, by decide, by decide⟩ ?_; intro _) | refine JO.skip rfl rfl ?_)
      refine JR.callV rfl (fun w1 hw => list_ref w1 _ p a q k L L hw.get hw.get) ?_
      refine JO.reslot 70 (.bool true) (by simp) ?_
      repeat (first | refine CT.next ?_ | refine JC.seq ?_ | refine JC.region ?_ | refine JO.nil ?_ | refine JO.go rfl ?_ | refine JR.val (by first | exact OpV.move | exact OpV.assign | exact OpV.load | exact OpV.fieldAddr | exact OpV.indexEl | exact OpV.len | exact OpV.lss | exact OpV.not | exact OpV.pick_true | exact OpV.pick_false | exact OpV.inc (by omega) | exact OpV.eql | exact OpV.neq | exact OpV.leq | exact OpV.gtr | exact OpV.geq | exact OpV.extract | exact OpV.makeFunc | exact OpV.addn (by omega) | exact OpV.add (by omega) | exact OpV.subn (by omega) | exact OpV.sub (by omega) | exact OpV.lens | exact OpV.eqlID | exact OpV.neqID | exact OpV.eqlEv | exact OpV.eqlOp | exact OpV.eqlStr | exact OpV.neqStr | exact OpV.eqlNil | exact OpV.eqlBool | exact OpV.neqBool) rfl ?_ | (refine JR.alloc rfl ?_; intro _) | (refine JR.box rfl ?_; intro _) | refine JR.store ?_ | refine JC.cond_true ?_ | refine JC.cond_false ?_ | refine JC.skip ?_ | refine JC.exit ?_ | refine JC.block ?_ | refine CT.past ?_ | refine CT.hit ?_ | refine CT.miss rfl ?_ | refine CT.blockEnd ?_ | refine JC.ret ?_ | refine CT.ret ?_ | refine CT.blockRet ?_ | refine JO.omit rfl rfl ?_ | (refine JR.lit rfl ⟨rfl, by decide, by decide, by decide⟩ ?_; intro _) | refine JO.skip rfl rfl ?_)
      exact CT.done () rfl (fun w ho => ho.ent)
    | true =>
    repeat (first | refine CT.next ?_ | refine JC.seq ?_ | refine JC.region ?_ | refine JO.nil ?_ | refine JO.go rfl ?_ | refine JR.val (by first | exact OpV.move | exact OpV.assign | exact OpV.load | exact OpV.fieldAddr | exact OpV.indexEl | exact OpV.len | exact OpV.lss | exact OpV.not | exact OpV.pick_true | exact OpV.pick_false | exact OpV.inc (by omega) | exact OpV.eql | exact OpV.neq | exact OpV.leq | exact OpV.gtr | exact OpV.geq | exact OpV.extract | exact OpV.makeFunc | exact OpV.addn (by omega) | exact OpV.add (by omega) | exact OpV.subn (by omega) | exact OpV.sub (by omega) | exact OpV.lens | exact OpV.eqlID | exact OpV.neqID | exact OpV.eqlEv | exact OpV.eqlOp | exact OpV.eqlStr | exact OpV.neqStr | exact OpV.eqlNil | exact OpV.eqlBool | exact OpV.neqBool) rfl ?_ | (refine JR.alloc rfl ?_; intro _) | (refine JR.box rfl ?_; intro _) | refine JR.store ?_ | refine JC.cond_true ?_ | refine JC.cond_false ?_ | refine JC.skip ?_ | refine JC.exit ?_ | refine JC.block ?_ | refine CT.past ?_ | refine CT.hit ?_ | refine CT.miss rfl ?_ | refine CT.blockEnd ?_ | refine JC.ret ?_ | refine CT.ret ?_ | refine CT.blockRet ?_ | refine JO.omit rfl rfl ?_ | (refine JR.lit rfl ⟨rfl, by decide, by decide, by decide⟩ ?_; intro _) | refine JO.skip rfl rfl ?_)
    refine JR.callV rfl (fun w1 hw => merge_commit w1 _ c b m hw.get hfc.1) ?_
    cases hmer : merge c with
    | true =>
      have hold : may c = false ∨ merge c = true ∨ c ∈ L := .inr (.inl hmer)
      rw [waitPut_old hold] at hv
      subst hv
      repeat (first | refine CT.next ?_ | refine JC.seq ?_ | refine JC.region ?_ | refine JO.nil ?_ | refine JO.go rfl ?_ | refine JR.val (by first | exact OpV.move | exact OpV.assign | exact OpV.load | exact OpV.fieldAddr | exact OpV.indexEl | exact OpV.len | exact OpV.lss | exact OpV.not | exact OpV.pick_true | exact OpV.pick_false | exact OpV.inc (by omega) | exact OpV.eql | exact OpV.neq | exact OpV.leq | exact OpV.gtr | exact OpV.geq | exact OpV.extract | exact OpV.makeFunc | exact OpV.addn (by omega) | exact OpV.add (by omega) | exact OpV.subn (by omega) | exact OpV.sub (by omega) | exact OpV.lens | exact OpV.eqlID | exact OpV.neqID | exact OpV.eqlEv | exact OpV.eqlOp | exact OpV.eqlStr | exact OpV.neqStr | exact OpV.eqlNil | exact OpV.eqlBool | exact OpV.neqBool) rfl ?_ | (refine JR.alloc rfl ?_; intro _) | (refine JR.box rfl ?_; intro _) | refine JR.store ?_ | refine JC.cond_true ?_ | refine JC.cond_false ?_ | refine JC.skip ?_ | refine JC.exit ?_ | refine JC.block ?_ | refine CT.past ?_ | refine CT.hit ?_ | refine CT.miss rfl ?_ | refine CT.blockEnd ?_ | refine JC.ret ?_ | refine CT.ret ?_ | refine CT.blockRet ?_ | refine JO.omit rfl rfl ?_ | (refine JR.lit rfl ⟨rfl, by decide, by decide, by decide⟩ ?_; intro _) | refine JO.skip rfl rfl ?_)
      refine JR.callV rfl (fun w1 hw => list_ref w1 _ p a q k L L hw.get hw.get) ?_
      refine JO.reslot 70 (.bool true) (by simp) ?_
      repeat (first | refine CT.next ?_ | refine JC.seq ?_ | refine JC.region ?_ | refine JO.nil ?_ | refine JO.go rfl ?_ | refine JR.val (by first | exact OpV.move | exact OpV.assign | exact OpV.load | exact OpV.fieldAddr | exact OpV.indexEl | exact OpV.len | exact OpV.lss | exact OpV.not | exact OpV.pick_true | exact OpV.pick_false | exact OpV.inc (by omega) | exact OpV.eql | exact OpV.neq | exact OpV.leq | exact OpV.gtr | exact OpV.geq | exact OpV.extract | exact OpV.makeFunc | exact OpV.addn (by omega) | exact OpV.add (by omega) | exact OpV.subn (by omega) | exact OpV.sub (by omega) | exact OpV.lens | exact OpV.eqlID | exact OpV.neqID | exact OpV.eqlEv | exact OpV.eqlOp | exact OpV.eqlStr | exact OpV.neqStr | exact OpV.eqlNil | exact OpV.eqlBool | exact OpV.neqBool) rfl ?_ | (refine JR.alloc rfl ?_; intro _) | (refine JR.box rfl ?_; intro _) | refine JR.store ?_ | refine JC.cond_true ?_ | refine JC.cond_false ?_ | refine JC.skip ?_ | refine JC.exit ?_ | refine JC.block ?_ | refine CT.past ?_ | refine CT.hit ?_ | refine CT.miss rfl ?_ | refine CT.blockEnd ?_ | refine JC.ret ?_ | refine CT.ret ?_ | refine CT.blockRet ?_ | refine JO.omit rfl rfl ?_ | (refine JR.lit rfl ⟨rfl, by decide, by decide, by decide⟩ ?_; intro _) | refine JO.skip rfl rfl ?_)
      exact CT.done () rfl (fun w ho => ho.ent)
    | false =>
    cases th with
    | true =>
      have hold : may c = false ∨ merge c = true ∨ c ∈ L := .inr (.inr (by simpa using hthm.symm))
      rw [waitPut_old hold] at hv
      subst hv
      repeat (first | refine CT.next ?_ | refine JC.seq ?_ | refine JC.region ?_ | refine JO.nil ?_ | refine JO.go rfl ?_ | refine JR.val (by first | exact OpV.move | exact OpV.assign | exact OpV.load | exact OpV.fieldAddr | exact OpV.indexEl | exact OpV.len | exact OpV.lss | exact OpV.not | exact OpV.pick_true | exact OpV.pick_false | exact OpV.inc (by omega) | exact OpV.eql | exact OpV.neq | exact OpV.leq | exact OpV.gtr | exact OpV.geq | exact OpV.extract | exact OpV.makeFunc | exact OpV.addn (by omega) | exact OpV.add (by omega) | exact OpV.subn (by omega) | exact OpV.sub (by omega) | exact OpV.lens | exact OpV.eqlID | exact OpV.neqID | exact OpV.eqlEv | exact OpV.eqlOp | exact OpV.eqlStr | exact OpV.neqStr | exact OpV.eqlNil | exact OpV.eqlBool | exact OpV.neqBool) rfl ?_ | (refine JR.alloc rfl ?_; intro _) | (refine JR.box rfl ?_; intro _) | refine JR.store ?_ | refine JC.cond_true ?_ | refine JC.cond_false ?_ | refine JC.skip ?_ | refine JC.exit ?_ | refine JC.block ?_ | refine CT.past ?_ | refine CT.hit ?_ | refine CT.miss rfl ?_ | refine CT.blockEnd ?_ | refine JC.ret ?_ | refine CT.ret ?_ | refine CT.blockRet ?_ | refine JO.omit rfl rfl ?_ | (refine JR.lit rfl ⟨rfl, by decide, by decide, by decide⟩ ?_; intro _) | refine JO.skip rfl rfl ?_)
      refine JR.callV rfl (fun w1 hw => list_ref w1 _ p a q k L L hw.get hw.get) ?_
      refine JO.reslot 70 (.bool true) (by simp) ?_
      repeat (first | refine CT.next ?_ | refine JC.seq ?_ | refine JC.region ?_ | refine JO.nil ?_ | refine JO.go rfl ?_ | refine JR.val (by first | exact OpV.move | exact OpV.assign | exact OpV.load | exact OpV.fieldAddr | exact OpV.indexEl | exact OpV.len | exact OpV.lss | exact OpV.not | exact OpV.pick_true | exact OpV.pick_false | exact OpV.inc (by omega) | exact OpV.eql | exact OpV.neq | exact OpV.leq | exact OpV.gtr | exact OpV.geq | exact OpV.extract | exact OpV.makeFunc | exact OpV.addn (by omega) | exact OpV.add (by omega) | exact OpV.subn (by omega) | exact OpV.sub (by omega) | exact OpV.lens | exact OpV.eqlID | exact OpV.neqID | exact OpV.eqlEv | exact OpV.eqlOp | exact OpV.eqlStr | exact OpV.neqStr | exact OpV.eqlNil | exact OpV.eqlBool | exact OpV.neqBool) rfl ?_ | (refine JR.alloc rfl ?_; intro _) | (refine JR.box rfl ?_; intro _) | refine JR.store ?_ | refine JC.cond_true ?_ | refine JC.cond_false ?_ | refine JC.skip ?_ | refine JC.exit ?_ | refine JC.block ?_ | refine CT.past ?_ | refine CT.hit ?_ | refine CT.miss rfl ?_ | refine CT.blockEnd ?_ | refine JC.ret ?_ | refine CT.ret ?_ | refine CT.blockRet ?_ | refine JO.omit rfl rfl ?_ | (refine JR.lit rfl ⟨rfl, by decide, by decide, by decide⟩ ?_; intro _) | refine JO.skip rfl rfl ?_)
      exact CT.done () rfl (fun w ho => ho.ent)
    | false =>
    have hnot : c ∉ L := by simpa using hthm.symm
    rw [waitPut_new hmay hmer hnot hL] at hv
    obtain ⟨D, hD⟩ : ∃ D, L.length + 1 - 8 = D := ⟨_, rfl⟩
    have hDL : D ≤ L.length := by omega
    rw [hD] at hv
    have hvl2 : v.length = L.length - D + 1 := by rw [← hv]; simp
    repeat (first | refine CT.next ?_ | refine JC.seq ?_ | refine JC.region ?_ | refine JO.nil ?_ | refine JO.go rfl ?_ | refine JR.val (by first | exact OpV.move | exact OpV.assign | exact OpV.load | exact OpV.fieldAddr | exact OpV.indexEl | exact OpV.len | exact OpV.lss | exact OpV.not | exact OpV.pick_true | exact OpV.pick_false | exact OpV.inc (by omega) | exact OpV.eql | exact OpV.neq | exact OpV.leq | exact OpV.gtr | exact OpV.geq | exact OpV.extract | exact OpV.makeFunc | exact OpV.addn (by omega) | exact OpV.add (by omega) | exact OpV.subn (by omega) | exact OpV.sub (by omega) | exact OpV.lens | exact OpV.eqlID | exact OpV.neqID | exact OpV.eqlEv | exact OpV.eqlOp | exact OpV.eqlStr | exact OpV.neqStr | exact OpV.eqlNil | exact OpV.eqlBool | exact OpV.neqBool) rfl ?_ | (refine JR.alloc rfl ?_; intro _) | (refine JR.box rfl ?_; intro _) | refine JR.store ?_ | refine JC.cond_true ?_ | refine JC.cond_false ?_ | refine JC.skip ?_ | refine JC.exit ?_ | refine JC.block ?_ | refine CT.past ?_ | refine CT.hit ?_ | refine CT.miss rfl ?_ | refine CT.blockEnd ?_ | refine JC.ret ?_ | refine CT.ret ?_ | refine CT.blockRet ?_ | refine JO.omit rfl rfl ?_ | (refine JR.lit rfl ⟨rfl, by decide, by decide, by decide⟩ ?_; intro _) | refine JO.skip rfl rfl ?_)
    refine JC.reslot 12 (.int .i64 ((D : Nat) : Int)) (by congr 1; omega) ?_
    refine JC.more (Γ' := [.st (sl p q (v.take (v.length - 1))), .st (sl (fromA a k D 8) (k - D) (L.drop D)), .st (sl a k L), .st (sl b m c.parents), .own bc 29 [.int .i64 c.ev.node, .int .i64 c.ev.seq, .int .i64 c.gen, .slice b c.parents.length m, .int .i64 c.op.kind, .string c.op.key, .string c.op.elem, .int .i64 c.op.n], .st (sl p q v)]) (fun w1 ho => ?_) ?_
    · have hs : (sl a k L).holds _ w1 := ho.get
      have h3 := ho.add (A := sl (fromA a k D 8) (k - D) (L.drop D)) (sl_from hs (by omega))
      have hs2 : (sl p q v).holds _ w1 := h3.get
      exact (h3.add (A := sl p q (v.take (v.length - 1))) (sl_take hs2 (by omega) ⟨by have := hs2.1; omega, Nat.le_refl _⟩)).ent
    have hvt : v.take (v.length - 1) = L.drop D := by
      rw [← hv]
      simp
    rw [hvt]
    refine JC.quiet mixed (by kernel_rfl) ?_
    repeat (first | refine JQ.val rfl (by first | exact OpV.move | exact OpV.assign | exact OpV.load | exact OpV.fieldAddr | exact OpV.indexEl | exact OpV.len | exact OpV.lss | exact OpV.not | exact OpV.pick_true | exact OpV.pick_false | exact OpV.inc (by omega) | exact OpV.eql | exact OpV.neq | exact OpV.leq | exact OpV.gtr | exact OpV.geq | exact OpV.extract | exact OpV.makeFunc | exact OpV.addn (by omega) | exact OpV.add (by omega) | exact OpV.subn (by omega) | exact OpV.sub (by omega) | exact OpV.lens | exact OpV.eqlID | exact OpV.neqID | exact OpV.eqlEv | exact OpV.eqlOp | exact OpV.eqlStr | exact OpV.neqStr | exact OpV.eqlNil | exact OpV.eqlBool | exact OpV.neqBool) rfl ?_ | refine JQ.omit rfl rfl ?_ | refine JQ.nil ?_)
    refine JQ.val rfl (OpV.sliceToV (k := v.length - 1) (fun w1 ho => by have := (Hold.get (A := sl p q v) ho).1; omega)) rfl ?_
    refine JQ.reslot 82 (.slice p (L.drop D).length q) (by rw [List.length_drop]; congr 1 <;> omega) ?_
    repeat (first | refine JQ.val rfl (by first | exact OpV.move | exact OpV.assign | exact OpV.load | exact OpV.fieldAddr | exact OpV.indexEl | exact OpV.len | exact OpV.lss | exact OpV.not | exact OpV.pick_true | exact OpV.pick_false | exact OpV.inc (by omega) | exact OpV.eql | exact OpV.neq | exact OpV.leq | exact OpV.gtr | exact OpV.geq | exact OpV.extract | exact OpV.makeFunc | exact OpV.addn (by omega) | exact OpV.add (by omega) | exact OpV.subn (by omega) | exact OpV.sub (by omega) | exact OpV.lens | exact OpV.eqlID | exact OpV.neqID | exact OpV.eqlEv | exact OpV.eqlOp | exact OpV.eqlStr | exact OpV.neqStr | exact OpV.eqlNil | exact OpV.eqlBool | exact OpV.neqBool) rfl ?_ | refine JQ.omit rfl rfl ?_ | refine JQ.nil ?_)
    refine JQ.val rfl (OpV.sliceFromA (l := D) (s := 8) rfl (fun w1 ho => ⟨by omega, (Hold.get (A := sl a k L) ho).1⟩)) rfl ?_
    refine JQ.reslot 85 (.slice (fromA a k D 8) (L.drop D).length (k - D)) (by rw [List.length_drop]) ?_
    refine JQ.call rfl rfl (fun w1 hw => list_ref w1 _ p (fromA a k D 8) q (k - D) (L.drop D) (L.drop D) hw.get hw.get) ?_
    refine JQ.reslot 86 (.bool true) (by simp) ?_
    repeat (first | refine JQ.val rfl (by first | exact OpV.move | exact OpV.assign | exact OpV.load | exact OpV.fieldAddr | exact OpV.indexEl | exact OpV.len | exact OpV.lss | exact OpV.not | exact OpV.pick_true | exact OpV.pick_false | exact OpV.inc (by omega) | exact OpV.eql | exact OpV.neq | exact OpV.leq | exact OpV.gtr | exact OpV.geq | exact OpV.extract | exact OpV.makeFunc | exact OpV.addn (by omega) | exact OpV.add (by omega) | exact OpV.subn (by omega) | exact OpV.sub (by omega) | exact OpV.lens | exact OpV.eqlID | exact OpV.neqID | exact OpV.eqlEv | exact OpV.eqlOp | exact OpV.eqlStr | exact OpV.neqStr | exact OpV.eqlNil | exact OpV.eqlBool | exact OpV.neqBool) rfl ?_ | refine JQ.omit rfl rfl ?_ | refine JQ.nil ?_)
    repeat (first | refine CT.next ?_ | refine JC.seq ?_ | refine JC.region ?_ | refine JO.nil ?_ | refine JO.go rfl ?_ | refine JR.val (by first | exact OpV.move | exact OpV.assign | exact OpV.load | exact OpV.fieldAddr | exact OpV.indexEl | exact OpV.len | exact OpV.lss | exact OpV.not | exact OpV.pick_true | exact OpV.pick_false | exact OpV.inc (by omega) | exact OpV.eql | exact OpV.neq | exact OpV.leq | exact OpV.gtr | exact OpV.geq | exact OpV.extract | exact OpV.makeFunc | exact OpV.addn (by omega) | exact OpV.add (by omega) | exact OpV.subn (by omega) | exact OpV.sub (by omega) | exact OpV.lens | exact OpV.eqlID | exact OpV.neqID | exact OpV.eqlEv | exact OpV.eqlOp | exact OpV.eqlStr | exact OpV.neqStr | exact OpV.eqlNil | exact OpV.eqlBool | exact OpV.neqBool) rfl ?_ | (refine JR.alloc rfl ?_; intro _) | (refine JR.box rfl ?_; intro _) | refine JR.store ?_ | refine JC.cond_true ?_ | refine JC.cond_false ?_ | refine JC.skip ?_ | refine JC.exit ?_ | refine JC.block ?_ | refine CT.past ?_ | refine CT.hit ?_ | refine CT.miss rfl ?_ | refine CT.blockEnd ?_ | refine JC.ret ?_ | refine CT.ret ?_ | refine CT.blockRet ?_ | refine JO.omit rfl rfl ?_ | (refine JR.lit rfl ⟨rfl, by decide, by decide, by decide⟩ ?_; intro _))
    have hlast : v.length - 1 < v.length := by omega
    have hvc : v[v.length - 1] = c := by
      subst hv
      simp
    refine JC.openCommit (L := v) (.slice p v.length q) (v.length - 1) hlast ?_
    intro b2 o2 p2 q2
    rw [hvc]
    refine JC.quiet mixed (by kernel_rfl) ?_
    repeat (first | refine JQ.val rfl (by first | exact OpV.move | exact OpV.assign | exact OpV.load | exact OpV.fieldAddr | exact OpV.indexEl | exact OpV.len | exact OpV.lss | exact OpV.not | exact OpV.pick_true | exact OpV.pick_false | exact OpV.inc (by omega) | exact OpV.eql | exact OpV.neq | exact OpV.leq | exact OpV.gtr | exact OpV.geq | exact OpV.extract | exact OpV.makeFunc | exact OpV.addn (by omega) | exact OpV.add (by omega) | exact OpV.subn (by omega) | exact OpV.sub (by omega) | exact OpV.lens | exact OpV.eqlID | exact OpV.neqID | exact OpV.eqlEv | exact OpV.eqlOp | exact OpV.eqlStr | exact OpV.neqStr | exact OpV.eqlNil | exact OpV.eqlBool | exact OpV.neqBool) rfl ?_ | refine JQ.omit rfl rfl ?_ | refine JQ.nil ?_)
    refine JQ.call rfl rfl (fun w1 hw => same_commit w1 _ c c p2 b q2 m hw.get hw.get) ?_
    refine JQ.reslot 96 (.bool true) (by simp) ?_
    repeat (first | refine JQ.val rfl (by first | exact OpV.move | exact OpV.assign | exact OpV.load | exact OpV.fieldAddr | exact OpV.indexEl | exact OpV.len | exact OpV.lss | exact OpV.not | exact OpV.pick_true | exact OpV.pick_false | exact OpV.inc (by omega) | exact OpV.eql | exact OpV.neq | exact OpV.leq | exact OpV.gtr | exact OpV.geq | exact OpV.extract | exact OpV.makeFunc | exact OpV.addn (by omega) | exact OpV.add (by omega) | exact OpV.subn (by omega) | exact OpV.sub (by omega) | exact OpV.lens | exact OpV.eqlID | exact OpV.neqID | exact OpV.eqlEv | exact OpV.eqlOp | exact OpV.eqlStr | exact OpV.neqStr | exact OpV.eqlNil | exact OpV.eqlBool | exact OpV.neqBool) rfl ?_ | refine JQ.omit rfl rfl ?_ | refine JQ.nil ?_)
    repeat (first | refine CT.next ?_ | refine JC.seq ?_ | refine JC.region ?_ | refine JO.nil ?_ | refine JO.go rfl ?_ | refine JR.val (by first | exact OpV.move | exact OpV.assign | exact OpV.load | exact OpV.fieldAddr | exact OpV.indexEl | exact OpV.len | exact OpV.lss | exact OpV.not | exact OpV.pick_true | exact OpV.pick_false | exact OpV.inc (by omega) | exact OpV.eql | exact OpV.neq | exact OpV.leq | exact OpV.gtr | exact OpV.geq | exact OpV.extract | exact OpV.makeFunc | exact OpV.addn (by omega) | exact OpV.add (by omega) | exact OpV.subn (by omega) | exact OpV.sub (by omega) | exact OpV.lens | exact OpV.eqlID | exact OpV.neqID | exact OpV.eqlEv | exact OpV.eqlOp | exact OpV.eqlStr | exact OpV.neqStr | exact OpV.eqlNil | exact OpV.eqlBool | exact OpV.neqBool) rfl ?_ | (refine JR.alloc rfl ?_; intro _) | (refine JR.box rfl ?_; intro _) | refine JR.store ?_ | refine JC.cond_true ?_ | refine JC.cond_false ?_ | refine JC.skip ?_ | refine JC.exit ?_ | refine JC.block ?_ | refine CT.past ?_ | refine CT.hit ?_ | refine CT.miss rfl ?_ | refine CT.blockEnd ?_ | refine JC.ret ?_ | refine CT.ret ?_ | refine CT.blockRet ?_ | refine JO.omit rfl rfl ?_ | (refine JR.lit rfl ⟨rfl, by decide, by decide, by decide⟩ ?_; intro _))
    exact CT.done () rfl (fun w ho => ho.ent)
end Ab
end Go.Proofs.Ytcmfemfndadfmaa
/- Arguments that read as data, told as the layer tells memory. -/
namespace Go.Proofs.Ytcmfemfndadfmaa
namespace Ab
open Go Go.RowKit
set_option linter.unusedVariables false
set_option linter.unusedSimpArgs false

/-- Cells of type t that read as data are those of some element. -/
structure OpenT (P : Program) (α : Type) [Cell α] (t : TypeId) : Prop where
  ok : ∀ {H : Type} {enc : TypeId × Value → H} {w : World} {sp : Nat → Bool} {held : Bool} {fuel : Nat} {cs : List Value} {x : DataW H × List MemPlace},
    DataW.trod enc P w 0 sp held fuel t cs = some x → (∀ n ∈ x.1.weights P t, n ≤ reachBytes) → ∃ (u : α) (y : Cell.Ix α), cs = Cell.cells u y ∧ ∀ A ∈ Cell.facts u y, A.holds (fun _ => True) w

theorem weightsAll_mem {H : Type} {P : Program} {e : TypeId} {d : DataW H} {n : Nat} (hn : n ∈ d.weights P e) : ∀ {ds : List (DataW H)}, d ∈ ds → n ∈ DataW.weightsAll P e ds
  | [], h => by cases h
  | d' :: ds, h => by
    simp only [DataW.weightsAll, List.mem_append]
    rcases List.mem_cons.1 h with rfl | h
    · exact .inl hn
    · exact .inr (weightsAll_mem hn h)

theorem add_zero_addr (a : Addr) : (a.add 0).add 0 = a := by simp [Addr.add]
theorem cells_get {w : World} {a : Addr} {n : Nat} {ci : List Value} (h : w.cells? 0 a n = some ci) (j : Nat) (v : Value) (hv : ci[j]? = some v) : w.cell? (a.add j) = some v := by
  unfold World.cells? at h
  rw [if_pos (Nat.zero_le _)] at h
  have hl := mapM_some_length h
  have hj : j < n := by
    have := (List.getElem?_eq_some_iff.1 hv).1
    rw [hl, List.length_range] at this
    exact this
  have := mapM_some_get h j j (by simp [hj])
  rw [this, hv]

theorem OpenT.slice {P : Program} {α : Type} [Cell α] {t e : TypeId} (hO : OpenT P α e) (ht : P.underlying t = some (.slice e)) (hc : P.cellsOf e = Cell.sz α) (hb : 1 ≤ P.bytesOf e)
    {H : Type} {enc : TypeId × Value → H} {w : World} {sp : Nat → Bool} {held : Bool} {fuel : Nat} {cs : List Value} {x : DataW H × List MemPlace}
    (h : DataW.trod enc P w 0 sp held fuel t cs = some x) (hw : ∀ n ∈ x.1.weights P t, n ≤ reachBytes) :
    ∃ (a : Option Addr) (c : Nat) (L : List α), cs = [.slice a L.length c] ∧ (sl a c L).holds (fun _ => True) w := by
  rcases DataW.trod_slice ht h with ⟨rfl, rfl⟩ | ⟨a, len, cap, elems, rest, n, _, rfl, rfl, _, hlc, hcm, hlen, helems, _, _⟩
  · exact ⟨none, 0, [], rfl, sl_nil⟩
  · simp only [DataW.weights, ht] at hw
    have hw1 : len ≤ reachBytes := by
      have := hw _ (List.mem_cons_self ..)
      simp only [List.length_map] at this
      have h2 : (elems.length + rest.length) * 1 ≤ (elems.length + rest.length) * P.bytesOf e := Nat.mul_le_mul_left _ hb
      omega
    have key : ∀ i (hi : i < len), ∃ (u : α), ∃ (y : Cell.Ix α), (∀ j v, (Cell.cells u y)[j]? = some v → w.cell? ((a.add (i * Cell.sz α)).add j) = some v) ∧ ∀ A ∈ Cell.facts u y, A.holds (fun _ => True) w := by
      intro i hi
      have h1 := helems i hi
      have hi' : i < elems.length := by omega
      rw [List.getElem?_eq_getElem hi', hc] at h1
      obtain ⟨ci, hci, hd⟩ := Option.bind_eq_some_iff.1 h1
      obtain ⟨u, y, rfl, hf⟩ := hO.ok hd (fun n hn => hw n (List.mem_cons_of_mem _ (List.mem_append_left _ (weightsAll_mem hn (List.mem_map_of_mem (List.getElem_mem hi'))))))
      exact ⟨u, y, fun j v hv => cells_get hci j v hv, hf⟩
    obtain ⟨f, hf⟩ := Classical.axiomOfChoice (fun i : Fin len => key i.1 i.2)
    refine ⟨some a, cap, List.ofFn f, by simp, ?_⟩
    have hR : reachBytes = 140737488351232 := rfl
    refine ⟨by simpa using hlc, hcm, by simp only [List.length_ofFn, lim]; omega, fun hne => ?_⟩
    have h0 : 0 < len := by
      have := List.length_pos_iff.2 hne
      simpa using this
    obtain ⟨y0, hy0, _⟩ := hf ⟨0, h0⟩
    have hpos : 0 < (Cell.cells (f ⟨0, h0⟩) y0).length := by rw [Cell.len]; exact Cell.pos
    have hc0 := hy0 0 _ (List.getElem?_eq_getElem hpos)
    simp only [Nat.zero_mul, add_zero_addr] at hc0
    obtain ⟨b, off, spot⟩ := a
    have hspot : spot = none := by
      cases spot with
      | none => rfl
      | some s =>
        unfold World.cell? at hc0
        split at hc0
        · simp at hc0
        · cases hc0
    subst hspot
    refine ⟨b, off, rfl, trivial, ?_, fun i hi => ?_⟩
    · rcases Nat.lt_or_ge b w.heap.size with h | h
      · exact h
      · unfold World.cell? at hc0
        simp [Array.getElem?_eq_none h] at hc0
    · have hi' : i < len := by simpa using hi
      obtain ⟨y, hy, hfa⟩ := hf ⟨i, hi'⟩
      refine ⟨y, fun j v hv => ?_, fun A hA => ?_⟩
      · simp only [List.getElem_ofFn] at hv
        have := hy j v hv
        rw [Addr.add_mid, Addr.add_mid] at this
        exact this
      · simp only [List.getElem_ofFn] at hA
        exact hfa A hA

theorem open_byte : OpenT Try.prog UInt8 5 := ⟨fun h _ => by
  obtain ⟨n, rfl, _, hw⟩ := DataW.trod_int Try.underlying5 h
  have hb : 0 ≤ n ∧ n ≤ 255 := by simpa [Lit.wf, IntKind.min, IntKind.max, IntKind.signed, IntKind.bits] using hw
  refine ⟨UInt8.ofNat n.toNat, (), ?_, by simp [Cell.facts]⟩
  show _ = [byteV _]
  simp only [byteV, List.cons.injEq, and_true, Value.int.injEq, true_and]
  rw [UInt8.toNat_ofNat']
  omega⟩

theorem weightsEach_mem {H : Type} {P : Program} {n : Nat} {d : DataW H} {t : TypeId} (hn : n ∈ d.weights P t) : ∀ {ts : List TypeId} {ds : List (DataW H)} (i : Nat), ts[i]? = some t → ds[i]? = some d → n ∈ DataW.weightsEach P ts ds :=
  fun i h1 h2 => DataW.weights_mem_each h1 h2 n hn

def byteOfV : Value → UInt8
  | .int _ n => UInt8.ofNat n.toNat
  | _ => 0
set_option maxRecDepth 100000 in
theorem open_id : OpenT Try.prog ID 44 := ⟨fun {H enc w sp held fuel cs x} h _ => by
  have hcell : Try.prog.cellsOf 5 = 1 := by kernel_rfl
  have hcell2 : Try.prog.cellsOf 44 = 32 := by kernel_rfl
  obtain ⟨xs, m, rfl, rfl, hl, hlx, hx⟩ := DataW.trod_array Try.underlying44 h
  rw [hcell2] at hl
  have key : ∀ i (hi : i < cs.length), cs[i] = byteV (byteOfV cs[i]) := by
    intro i hi
    have h1 := hx i (by omega)
    rw [hcell, Nat.mul_one, List.getElem?_eq_getElem (by omega)] at h1
    have h2 : (cs.drop i).take 1 = [cs[i]] := by
      rw [List.drop_eq_getElem_cons hi]; rfl
    rw [h2] at h1
    obtain ⟨n, hn, _, hw⟩ := DataW.trod_int Try.underlying5 h1
    injection hn with hn
    have hb : 0 ≤ n ∧ n ≤ 255 := by simpa [Lit.wf, IntKind.min, IntKind.max, IntKind.signed, IntKind.bits] using hw
    rw [hn]
    simp only [byteOfV, byteV, Value.int.injEq, true_and]
    rw [UInt8.toNat_ofNat']
    omega
  refine ⟨⟨cs.map byteOfV, by rw [List.length_map]; exact hl⟩, (), ?_, by simp [Cell.facts]⟩
  show cs = (cs.map byteOfV).map byteV
  apply List.ext_getElem
  · simp
  · intro i h1 h2
    simp only [List.getElem_map]
    exact key i h1⟩

set_option maxRecDepth 100000 in
theorem open_commit : OpenT Try.prog Commit 29 := ⟨fun {H enc w sp held fuel cs x} h hw => by
  have c24 : Try.prog.cellsOf 24 = 2 := by kernel_rfl
  have c27 : Try.prog.cellsOf 27 = 4 := by kernel_rfl
  have c29 : Try.prog.cellsOf 29 = 8 := by kernel_rfl
  have c25 : Try.prog.cellsOf 25 = 1 := by kernel_rfl
  have c3 : Try.prog.cellsOf 3 = 1 := by kernel_rfl
  have c9 : Try.prog.cellsOf 9 = 1 := by kernel_rfl
  obtain ⟨xs, m, rfl, rfl, hl, hlx, hx⟩ := DataW.trod_struct Try.underlying29 h
  rw [c29] at hl
  match cs, hl with
  | [v0, v1, v2, v3, v4, v5, v6, v7], _ =>
  match xs, hlx with
  | [x0, x1, x2, x3], _ =>
  have h0 := hx 0 _ rfl
  have h1 := hx 1 _ rfl
  have h2 := hx 2 _ rfl
  have h3 := hx 3 _ rfl
  simp only [List.getElem_toArray, List.getElem_cons_zero, List.getElem_cons_succ, c24, c3, c25, c27, List.drop_zero, List.drop_succ_cons, List.take_succ_cons, List.take_zero, List.getElem?_cons_zero, List.getElem?_cons_succ] at h0 h1 h2 h3
  obtain ⟨ys, m', rfl, rfl, _, hly, hy⟩ := DataW.trod_struct Try.underlying24 h0
  match ys, hly with
  | [y0, y1], _ =>
  have e0 := hy 0 _ rfl
  have e1 := hy 1 _ rfl
  simp only [List.getElem_toArray, List.getElem_cons_zero, List.getElem_cons_succ, c3, List.drop_zero, List.drop_succ_cons, List.take_succ_cons, List.take_zero, List.getElem?_cons_zero, List.getElem?_cons_succ] at e0 e1
  obtain ⟨n0, q0, _, _⟩ := DataW.trod_int Try.underlying3 e0
  obtain ⟨n1, q1, _, _⟩ := DataW.trod_int Try.underlying3 e1
  obtain ⟨n2, q2, _, _⟩ := DataW.trod_int Try.underlying3 h1
  obtain ⟨zs, m2, hm2, rfl, _, hlz, hz⟩ := DataW.trod_struct Try.underlying27 h3
  match zs, hlz with
  | [z0, z1, z2, z3], _ =>
  have g0 := hz 0 _ rfl
  have g1 := hz 1 _ rfl
  have g2 := hz 2 _ rfl
  have g3 := hz 3 _ rfl
  simp only [List.getElem_toArray, List.getElem_cons_zero, List.getElem_cons_succ, c3, c9, List.drop_zero, List.drop_succ_cons, List.take_succ_cons, List.take_zero, List.getElem?_cons_zero, List.getElem?_cons_succ] at g0 g1 g2 g3
  obtain ⟨k0, r0, _, _⟩ := DataW.trod_int Try.underlying3 g0
  obtain ⟨s1, r1, r1x, _⟩ := DataW.trod_string Try.underlying9 g1
  obtain ⟨s2, r2, r2x, _⟩ := DataW.trod_string Try.underlying9 g2
  obtain ⟨k3, r3, _, _⟩ := DataW.trod_int Try.underlying3 g3
  simp only [DataW.weights, Try.underlying29, List.map_cons, List.map_nil, DataW.weightsEach, List.append_nil, List.mem_append, List.map_toArray] at hw
  obtain ⟨pa, pc, L, q3, hsl⟩ := open_id.slice Try.underlying25 (by kernel_rfl) (by rw [show Try.prog.bytesOf 44 = 32 by kernel_rfl]; decide) h2 (fun n hn => hw n (by simp [hn]))
  injection q0 with q0
  injection q1 with q1
  injection q2 with q2
  injection q3 with q3
  injection r0 with r0
  injection r1 with r1
  injection r2 with r2
  injection r3 with r3
  subst q0 q1 q2 q3 r0 r1 r2 r3
  exact ⟨⟨⟨n0, n1⟩, n2, L, ⟨k0, s1, s2, k3⟩⟩, (pa, pc), rfl, fun A hA => by simp only [Cell.facts, List.mem_singleton] at hA; subst hA; exact hsl⟩⟩
end Ab
end Go.Proofs.Ytcmfemfndadfmaa

/- Arguments of the laws, opened. -/
namespace Go.Proofs.Ytcmfemfndadfmaa
open Go Go.ChangeShapes Go.WideShapes Go.ChangeAt Go.RowKit
set_option linter.unusedVariables false

theorem knobs : ownKnob Try.prog.godebug = none := by kernel_rfl
theorem laid : laidOutB Try.prog = true := by kernel_rfl

theorem arg_sl {P : Program} {H : Type} {enc : TypeId × Value → H} {W : World} {α : Type} [Ab.Cell α] {t e : TypeId} (hO : Ab.OpenT P α e) (ht : P.underlying t = some (.slice e)) (hc : P.cellsOf e = Ab.Cell.sz α) (hb : 1 ≤ P.bytesOf e)
    {r : Reach} {base : Nat} {v : Value} {d : DataW H} {p : List MemPlace} (hv : Value.okWide P W r base t v) (h : DataW.Trod enc P W 0 (fun _ => true) true t v d p) (hw : ∀ n ∈ d.weights P t, n ≤ reachBytes) :
    ∃ (a : Option Addr) (c : Nat) (L : List α), v = .slice a L.length c ∧ (Ab.sl a c L).holds (fun _ => True) W := by
  obtain ⟨a, len, cap, rfl⟩ := okWide_slice ht hv
  obtain ⟨fuel, hf⟩ := h
  obtain ⟨a', c', L, hcs, hsl⟩ := hO.slice ht hc hb hf hw
  simp [Value.cells] at hcs
  obtain ⟨rfl, rfl, rfl⟩ := hcs
  exact ⟨_, _, L, rfl, hsl⟩

theorem bytes_commit : Try.prog.bytesOf 29 = 96 := by kernel_rfl
theorem bytes_id : Try.prog.bytesOf 44 = 32 := by kernel_rfl
section
variable {H : Type} {enc : TypeId × Value → H} {W : World} {r : Reach} {base : Nat} {v : Value} {d : DataW H} {p : List MemPlace}
set_option maxRecDepth 100000 in
theorem arg_commits (hv : Value.okWide Try.prog W r base 22 v) (h : DataW.Trod enc Try.prog W 0 (fun _ => true) true 22 v d p) (hw : ∀ n ∈ d.weights Try.prog 22, n ≤ reachBytes) :
    ∃ (a : Option Addr) (c : Nat) (L : List Ab.Commit), v = .slice a L.length c ∧ (Ab.sl a c L).holds (fun _ => True) W :=
  arg_sl Ab.open_commit Try.underlying22 (by kernel_rfl) (by rw [bytes_commit]; decide) hv h hw
set_option maxRecDepth 100000 in
theorem arg_ids (hv : Value.okWide Try.prog W r base 25 v) (h : DataW.Trod enc Try.prog W 0 (fun _ => true) true 25 v d p) (hw : ∀ n ∈ d.weights Try.prog 25, n ≤ reachBytes) :
    ∃ (a : Option Addr) (c : Nat) (L : List Ab.ID), v = .slice a L.length c ∧ (Ab.sl a c L).holds (fun _ => True) W :=
  arg_sl Ab.open_id Try.underlying25 (by kernel_rfl) (by rw [bytes_id]; decide) hv h hw
set_option maxRecDepth 100000 in
theorem arg_id (hv : Value.okWide Try.prog W r base 44 v) (h : DataW.Trod enc Try.prog W 0 (fun _ => true) true 44 v d p) (hw : ∀ n ∈ d.weights Try.prog 44, n ≤ reachBytes) :
    ∃ x : Ab.ID, v = .agg ⟨Ab.idc x⟩ := by
  unfold Value.okWide at hv
  rw [Try.underlying44] at hv
  obtain ⟨cs, rfl, _, _⟩ := hv
  obtain ⟨fuel, hf⟩ := h
  obtain ⟨u, y, hcs, _⟩ := Ab.open_id.ok hf hw
  have hcs' : cs.toList = Ab.idc u := hcs
  exact ⟨u, by rw [← hcs']⟩
set_option maxRecDepth 100000 in
theorem arg_commit (hv : Value.okWide Try.prog W r base 29 v) (h : DataW.Trod enc Try.prog W 0 (fun _ => true) true 29 v d p) (hw : ∀ n ∈ d.weights Try.prog 29, n ≤ reachBytes) :
    ∃ (c : Ab.Commit) (a : Option Addr) (k : Nat), v = Ab.commitV c a k ∧ (Ab.sl a k c.parents).holds (fun _ => True) W := by
  unfold Value.okWide at hv
  rw [Try.underlying29] at hv
  obtain ⟨cs, rfl, _, _⟩ := hv
  obtain ⟨fuel, hf⟩ := h
  obtain ⟨u, y, hcs, hfa⟩ := Ab.open_commit.ok hf hw
  have hcs' : cs.toList = Ab.Cell.cells u y := hcs
  refine ⟨u, y.1, y.2, ?_, hfa _ (by simp [Ab.Cell.facts])⟩
  show Value.agg cs = .agg ⟨Ab.Cell.cells u y⟩
  rw [← hcs']
end
end Go.Proofs.Ytcmfemfndadfmaa

/- The statement WaitBoundSaid: for every input WaitBound returns true and leaves its arguments as they were. -/
namespace Go.Proofs.Ytcmfemfndadfmaa
open Go Go.ChangeShapes Go.WideShapes Go.ChangeAt Go.RowKit
set_option linter.unusedVariables false

set_option maxRecDepth 100000 in
theorem waitBound_contract (H : Type) (enc : TypeId × Value → H) (W : World) (base : Nat) (args : Array Value) (ds gs : List (DataW H)) (before : List MemPlace)
    (hval : ∀ (j : Nat) t v, Try.f3.params[j]? = some t → args[j]? = some v → Value.okWide Try.prog W .any base t v)
    (hW : DataW.Whole enc Try.prog Try.f3.params.toList Rows.waitBoundSpec.vars false W args.toList ds gs before)
    (hsz : (DataW.weightsEach Try.prog (Try.f3.params.toList ++ Rows.waitBoundSpec.plain.varTypes Try.prog) (ds ++ gs)).all (· ≤ reachBytes) = true) :
    Calls Try.prog 3 args W fun e W' => ∃ v, e = .returned v ∧ Rows.waitBoundSpec.post enc Try.prog Try.f3 false true false false W args v W' := by
  have hW' := hW
  obtain ⟨p, q, hA0, hV, rfl, _, _⟩ := hW
  have hA : DataW.TrodAll enc Try.prog W 0 (fun _ => true) true Try.f3.params.toList args.toList ds p := hA0
  rw [Try.params3] at hA hval hsz
  obtain ⟨v0, v1, d0, d1, p0, p1, rfl, rfl, rfl, h0, h1⟩ := trodAll_two hA
  obtain ⟨rfl, rfl⟩ := trodVars_none hV
  have hall := List.all_eq_true.1 hsz
  have w0 : ∀ n ∈ d0.weights Try.prog 22, n ≤ reachBytes := fun n hn => by simpa using hall n (DataW.weights_mem_each (j := 0) rfl rfl n hn)
  have w1 : ∀ n ∈ d1.weights Try.prog 29, n ≤ reachBytes := fun n hn => by simpa using hall n (DataW.weights_mem_each (j := 1) rfl rfl n hn)
  obtain ⟨a0, k0, x0, rfl, s0⟩ := arg_commits (hval 0 _ v0 rfl rfl) h0 w0
  obtain ⟨x1, a1, k1, rfl, s1⟩ := arg_commit (hval 1 _ v1 rfl rfl) h1 w1
  clear hA0
  simp only [List.append_nil] at hW'
  have hlt : ∀ x ∈ p0 ++ p1, x.block < W.heap.size := fun x hx => by simpa using hW'.lt x (by simpa using hx)
  refine Calls.mono (Ab.law_bound W (fun _ => True) a0 a1 k0 k1 x0 x1 s0 s1) ?_
  rintro e W' ⟨y, he, hbel, _⟩
  subst he
  have hB := hbel.below
  refine ⟨_, rfl, _, _, _, [], _, [], hW', ?_, trodAll_mk2 (Below.trod laid (by kernel_rfl) (of_decide_eq_true (by kernel_rfl)) h0 hB (fun x hx => hlt x (List.mem_append_left _ hx))) (Below.trod laid (by kernel_rfl) (of_decide_eq_true (by kernel_rfl)) h1 hB (fun x hx => hlt x (List.mem_append_right _ hx))), rfl, hB.frame _, fun h => by cases h⟩
  exact trodAll_cons_mk (shut_bool Try.underlying4 _) trodAll_mk0

set_option maxRecDepth 100000 in
theorem waitBound_lifted (os : Os) (started : os.Started) (H : Type) (enc : TypeId × Value → H) :
    ReturnsInHanded {} Try.checked os 3 .any (Rows.waitBoundSpec.pre6 enc Try.prog Try.f3 Rows.waitBoundRow.domain false) (Rows.waitBoundSpec.post enc Try.prog Try.f3 false true false false) := by
  refine returnsInHanded_of_change_sized (C := Try.checked) knobs started (by kernel_rfl) Try.func3
    (ChangeSpec.witness6 (enc := enc) (C := Try.checked) false ⟨#[], #[.slice none 0 0, .agg #[.int .i64 0, .int .i64 0, .int .i64 0, .slice none 0 0, .int .i64 0, .string .empty, .string .empty, .int .i64 0]], []⟩ 8 (by kernel_rfl) (by kernel_rfl) (by kernel_rfl) (by kernel_rfl)) ?_
  intro W base args ds gs before hval hW _ hsz _
  exact waitBound_contract H enc W base args ds gs before hval hW hsz

theorem waitBound_holds : Rows.WaitBoundSaid :=
  OpenClaim.holds_of_wide 3 Try.f3 rfl rfl rfl rfl rfl rfl rfl ⟨rfl, rfl, rfl, rfl, rfl⟩ rfl rfl rfl rfl rfl (by kernel_rfl) Try.func3 (by kernel_rfl)
    (of_decide_eq_true (by kernel_rfl)) (by unfold Func.isWrapper; first | (rw [if_pos (by decide +kernel)]; kernel_rfl) | (rw [if_neg (by decide +kernel)]; exact ⟨rfl, rfl⟩))
    (fun os started H enc _ => waitBound_lifted os started H enc)
end Go.Proofs.Ytcmfemfndadfmaa
