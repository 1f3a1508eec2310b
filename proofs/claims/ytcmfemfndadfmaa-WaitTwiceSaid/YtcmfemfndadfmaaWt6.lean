/- The statement WaitTwiceSaid: for every input WaitTwice returns true and leaves its arguments as they were. -/
import Derived.Test.YtcmfemfndadfmaaWt5
import Derived.Test.YtcmfemfndadfmaaWt4
import Derived.Test.YtcmfemfndadfmaaWt2
import Derived.SizedLaws
import Derived.ChangeArms
import Derived.KernelRfl
import Derived.OpenShut
import Derived.Test.YtcmfemfndadfmaaRows
import Derived.ProofKit
import Derived.Carry
/- Contracts: wait.Missing. -/
namespace Go.Proofs.Ytcmfemfndadfmaa
namespace Ab
open Go Go.RowKit
set_option linter.unusedVariables false
set_option linter.unusedSimpArgs false
set_option synthInstance.maxSize 4000
set_option synthInstance.maxHeartbeats 400000
attribute [local irreducible] JC JO JR JQ andThen inBlock OpV Gives retTo JM JS

attribute [local irreducible] sumI hashC
def hashO (c : Commit) : Option ID := if (hashC c).2 = 0 then some (hashC c).1 else none
/-- The ids of those of some commits that have one. -/
def hashes (L : List Commit) : List ID := L.filterMap hashO
def parentsL (L : List Commit) : List ID := L.flatMap (·.parents)
def missL (L : List Commit) (H : List ID) : List ID := someIds (parentsL L) (H ++ hashes L) false
theorem hashes_next (L : List Commit) (k : Nat) (hk : k < L.length) : hashes (L.take (k + 1)) = hashes (L.take k) ++ (hashO L[k]).toList := by
  rw [hashes, hashes, List.take_succ_eq_append_getElem hk, List.filterMap_append]
  congr 1
theorem parentsL_next (L : List Commit) (k : Nat) (hk : k < L.length) : parentsL (L.take (k + 1)) = parentsL (L.take k) ++ L[k].parents := by
  rw [parentsL, parentsL, List.take_succ_eq_append_getElem hk, List.flatMap_append]
  simp
theorem hashes_le (L : List Commit) : (hashes L).length ≤ L.length := List.length_filterMap_le _ _
theorem parentsL_le (L : List Commit) (k : Nat) : (parentsL (L.take k)).length ≤ (parentsL L).length := by
  have h1 := congrArg (fun l => (parentsL l).length) (List.take_append_drop k L)
  simp only [parentsL, List.flatMap_append, List.length_append] at h1 ⊢
  omega

set_option maxHeartbeats 2000000 in
theorem missing_wait (w : World) (F : Nat → Prop) (a b : Option Addr) (k m : Nat) (L : List Commit) (H : List ID) (h : (sl a k L).holds F w) (h' : (sl b m H).holds F w) (hl : L.length + H.length ≤ 34359738360) (hp : (parentsL L).length ≤ 34359738360) (hf : ∀ x ∈ L, fine x) :
    GivesBuf Try.prog 18 [.slice a L.length k, .slice b H.length m] w F 44 (missL L H) := by
  refine gives_of Try.func18 rfl Try.ntmps18 rfl rfl [.st (sl a k L), .st (sl b m H)] (.start2 h h') ?_
  repeat (first | refine CT.next ?_ | refine JC.seq ?_ | refine JC.region ?_ | refine JO.nil ?_ | refine JO.go rfl ?_ | refine JR.val (by first | exact OpV.move | exact OpV.assign | exact OpV.load | exact OpV.fieldAddr | exact OpV.indexEl | exact OpV.len | exact OpV.lss | exact OpV.not | exact OpV.pick_true | exact OpV.pick_false | exact OpV.inc (by omega) | exact OpV.eql | exact OpV.neq | exact OpV.leq | exact OpV.gtr | exact OpV.geq | exact OpV.extract | exact OpV.makeFunc | exact OpV.addn (by omega) | exact OpV.add (by omega) | exact OpV.subn (by omega) | exact OpV.sub (by omega) | exact OpV.lens | exact OpV.eqlID | exact OpV.neqID | exact OpV.eqlEv | exact OpV.eqlOp | exact OpV.eqlStr | exact OpV.neqStr | exact OpV.eqlNil | exact OpV.eqlBool | exact OpV.neqBool) rfl ?_ | (refine JR.alloc rfl ?_; intro _) | (refine JR.box rfl ?_; intro _) | refine JR.store ?_ | refine JC.cond_true ?_ | refine JC.cond_false ?_ | refine JC.skip ?_ | refine JC.exit ?_ | refine JC.block ?_ | refine CT.past ?_ | refine CT.hit ?_ | refine CT.miss rfl ?_ | refine CT.blockEnd ?_ | refine JC.ret ?_ | refine CT.ret ?_ | refine CT.blockRet ?_ | refine JO.omit rfl rfl ?_ | (refine JR.lit rfl ⟨rfl, by decide, by decide, by decide⟩ ?_; intro _))
  refine JR.callBuf rfl (fun w1 hw => clone_ids_buf w1 _ b m H hw.get (by omega)) ?_
  intro a2 c2
  repeat (first | refine CT.next ?_ | refine JC.seq ?_ | refine JC.region ?_ | refine JO.nil ?_ | refine JO.go rfl ?_ | refine JR.val (by first | exact OpV.move | exact OpV.assign | exact OpV.load | exact OpV.fieldAddr | exact OpV.indexEl | exact OpV.len | exact OpV.lss | exact OpV.not | exact OpV.pick_true | exact OpV.pick_false | exact OpV.inc (by omega) | exact OpV.eql | exact OpV.neq | exact OpV.leq | exact OpV.gtr | exact OpV.geq | exact OpV.extract | exact OpV.makeFunc | exact OpV.addn (by omega) | exact OpV.add (by omega) | exact OpV.subn (by omega) | exact OpV.sub (by omega) | exact OpV.lens | exact OpV.eqlID | exact OpV.neqID | exact OpV.eqlEv | exact OpV.eqlOp | exact OpV.eqlStr | exact OpV.neqStr | exact OpV.eqlNil | exact OpV.eqlBool | exact OpV.neqBool) rfl ?_ | (refine JR.alloc rfl ?_; intro _) | (refine JR.box rfl ?_; intro _) | refine JR.store ?_ | refine JC.cond_true ?_ | refine JC.cond_false ?_ | refine JC.skip ?_ | refine JC.exit ?_ | refine JC.block ?_ | refine CT.past ?_ | refine CT.hit ?_ | refine CT.miss rfl ?_ | refine CT.blockEnd ?_ | refine JC.ret ?_ | refine CT.ret ?_ | refine CT.blockRet ?_ | refine JO.omit rfl rfl ?_ | (refine JR.lit rfl ⟨rfl, by decide, by decide, by decide⟩ ?_; intro _))
  refine JC.buf_nil (α := ID) 44 ?_
  refine JC.loop5 (fun (i : Nat) p q r s => [(5, .slice p (parentsL (L.take i)).length q), (6, .slice r (H ++ hashes (L.take i)).length s), (13, .slice a L.length k), (14, .int .i64 (L.length : Int)), (15, .int .i64 (i : Int))])
    (fun i p q r s => [.st (sl a k L), .res (buf p q 44 (parentsL (L.take i))), .res (buf r s 44 (H ++ hashes (L.take i)))])
    (fun i _ _ _ _ => i ≤ L.length) (fun i _ _ _ _ => L.length - i) 0 none 0 a2 c2 (Nat.zero_le _) (by rw [List.take_zero, show parentsL [] = [] from rfl, show hashes [] = [] from rfl, List.append_nil]; infer_instance) ?_
  intro i p q r s hi
  repeat (first | refine CT.next ?_ | refine JC.seq ?_ | refine JC.region ?_ | refine JO.nil ?_ | refine JO.go rfl ?_ | refine JR.val (by first | exact OpV.move | exact OpV.assign | exact OpV.load | exact OpV.fieldAddr | exact OpV.indexEl | exact OpV.len | exact OpV.lss | exact OpV.not | exact OpV.pick_true | exact OpV.pick_false | exact OpV.inc (by omega) | exact OpV.eql | exact OpV.neq | exact OpV.leq | exact OpV.gtr | exact OpV.geq | exact OpV.extract | exact OpV.makeFunc | exact OpV.addn (by omega) | exact OpV.add (by omega) | exact OpV.subn (by omega) | exact OpV.sub (by omega) | exact OpV.lens | exact OpV.eqlID | exact OpV.neqID | exact OpV.eqlEv | exact OpV.eqlOp | exact OpV.eqlStr | exact OpV.neqStr | exact OpV.eqlNil | exact OpV.eqlBool | exact OpV.neqBool) rfl ?_ | (refine JR.alloc rfl ?_; intro _) | (refine JR.box rfl ?_; intro _) | refine JR.store ?_ | refine JC.cond_true ?_ | refine JC.cond_false ?_ | refine JC.skip ?_ | refine JC.exit ?_ | refine JC.block ?_ | refine CT.past ?_ | refine CT.hit ?_ | refine CT.miss rfl ?_ | refine CT.blockEnd ?_ | refine JC.ret ?_ | refine CT.ret ?_ | refine CT.blockRet ?_ | refine JO.omit rfl rfl ?_ | (refine JR.lit rfl ⟨rfl, by decide, by decide, by decide⟩ ?_; intro _))
  refine JC.test (fun hlt => ?_) (fun hge => ?_)
  · have hlt' : i < L.length := by omega
    have hfx := hf _ (List.getElem_mem hlt')
    have h1 := hashes_le (L.take i)
    rw [List.length_take] at h1
    have h2 := parentsL_le L (i + 1)
    rw [parentsL_next L i hlt', List.length_append] at h2
    repeat (first | refine CT.next ?_ | refine JC.seq ?_ | refine JC.region ?_ | refine JO.nil ?_ | refine JO.go rfl ?_ | refine JR.val (by first | exact OpV.move | exact OpV.assign | exact OpV.load | exact OpV.fieldAddr | exact OpV.indexEl | exact OpV.len | exact OpV.lss | exact OpV.not | exact OpV.pick_true | exact OpV.pick_false | exact OpV.inc (by omega) | exact OpV.eql | exact OpV.neq | exact OpV.leq | exact OpV.gtr | exact OpV.geq | exact OpV.extract | exact OpV.makeFunc | exact OpV.addn (by omega) | exact OpV.add (by omega) | exact OpV.subn (by omega) | exact OpV.sub (by omega) | exact OpV.lens | exact OpV.eqlID | exact OpV.neqID | exact OpV.eqlEv | exact OpV.eqlOp | exact OpV.eqlStr | exact OpV.neqStr | exact OpV.eqlNil | exact OpV.eqlBool | exact OpV.neqBool) rfl ?_ | (refine JR.alloc rfl ?_; intro _) | (refine JR.box rfl ?_; intro _) | refine JR.store ?_ | refine JC.cond_true ?_ | refine JC.cond_false ?_ | refine JC.skip ?_ | refine JC.exit ?_ | refine JC.block ?_ | refine CT.past ?_ | refine CT.hit ?_ | refine CT.miss rfl ?_ | refine CT.blockEnd ?_ | refine JC.ret ?_ | refine CT.ret ?_ | refine CT.blockRet ?_ | refine JO.omit rfl rfl ?_ | (refine JR.lit rfl ⟨rfl, by decide, by decide, by decide⟩ ?_; intro _))
    refine JR.indexCommit rfl hlt' ?_
    intro b2 o2 p2 q2
    repeat (first | refine CT.next ?_ | refine JC.seq ?_ | refine JC.region ?_ | refine JO.nil ?_ | refine JO.go rfl ?_ | refine JR.val (by first | exact OpV.move | exact OpV.assign | exact OpV.load | exact OpV.fieldAddr | exact OpV.indexEl | exact OpV.len | exact OpV.lss | exact OpV.not | exact OpV.pick_true | exact OpV.pick_false | exact OpV.inc (by omega) | exact OpV.eql | exact OpV.neq | exact OpV.leq | exact OpV.gtr | exact OpV.geq | exact OpV.extract | exact OpV.makeFunc | exact OpV.addn (by omega) | exact OpV.add (by omega) | exact OpV.subn (by omega) | exact OpV.sub (by omega) | exact OpV.lens | exact OpV.eqlID | exact OpV.neqID | exact OpV.eqlEv | exact OpV.eqlOp | exact OpV.eqlStr | exact OpV.neqStr | exact OpV.eqlNil | exact OpV.eqlBool | exact OpV.neqBool) rfl ?_ | (refine JR.alloc rfl ?_; intro _) | (refine JR.box rfl ?_; intro _) | refine JR.store ?_ | refine JC.cond_true ?_ | refine JC.cond_false ?_ | refine JC.skip ?_ | refine JC.exit ?_ | refine JC.block ?_ | refine CT.past ?_ | refine CT.hit ?_ | refine CT.miss rfl ?_ | refine CT.blockEnd ?_ | refine JC.ret ?_ | refine CT.ret ?_ | refine CT.blockRet ?_ | refine JO.omit rfl rfl ?_ | (refine JR.lit rfl ⟨rfl, by decide, by decide, by decide⟩ ?_; intro _))
    rename_i bc
    refine JR.callV rfl (fun w1 hw => hash_commit w1 _ (L[i]) p2 q2 hw.get hfx.1) ?_
    repeat (first | refine CT.next ?_ | refine JC.seq ?_ | refine JC.region ?_ | refine JO.nil ?_ | refine JO.go rfl ?_ | refine JR.val (by first | exact OpV.move | exact OpV.assign | exact OpV.load | exact OpV.fieldAddr | exact OpV.indexEl | exact OpV.len | exact OpV.lss | exact OpV.not | exact OpV.pick_true | exact OpV.pick_false | exact OpV.inc (by omega) | exact OpV.eql | exact OpV.neq | exact OpV.leq | exact OpV.gtr | exact OpV.geq | exact OpV.extract | exact OpV.makeFunc | exact OpV.addn (by omega) | exact OpV.add (by omega) | exact OpV.subn (by omega) | exact OpV.sub (by omega) | exact OpV.lens | exact OpV.eqlID | exact OpV.neqID | exact OpV.eqlEv | exact OpV.eqlOp | exact OpV.eqlStr | exact OpV.neqStr | exact OpV.eqlNil | exact OpV.eqlBool | exact OpV.neqBool) rfl ?_ | (refine JR.alloc rfl ?_; intro _) | (refine JR.box rfl ?_; intro _) | refine JR.store ?_ | refine JC.cond_true ?_ | refine JC.cond_false ?_ | refine JC.skip ?_ | refine JC.exit ?_ | refine JC.block ?_ | refine CT.past ?_ | refine CT.hit ?_ | refine CT.miss rfl ?_ | refine CT.blockEnd ?_ | refine JC.ret ?_ | refine CT.ret ?_ | refine CT.blockRet ?_ | refine JO.omit rfl rfl ?_ | (refine JR.lit rfl ⟨rfl, by decide, by decide, by decide⟩ ?_; intro _))
    refine JC.test (fun h0 => ?_) (fun h0 => ?_)
    · have ho : hashO L[i] = some (hashC L[i]).1 := by simp [hashO, h0]
      have hnx : H ++ hashes (L.take (i + 1)) = H ++ hashes (L.take i) ++ [(hashC L[i]).1] := by rw [hashes_next _ _ hlt', ho, List.append_assoc]; rfl
      repeat (first | refine CT.next ?_ | refine JC.seq ?_ | refine JC.region ?_ | refine JO.nil ?_ | refine JO.go rfl ?_ | refine JR.val (by first | exact OpV.move | exact OpV.assign | exact OpV.load | exact OpV.fieldAddr | exact OpV.indexEl | exact OpV.len | exact OpV.lss | exact OpV.not | exact OpV.pick_true | exact OpV.pick_false | exact OpV.inc (by omega) | exact OpV.eql | exact OpV.neq | exact OpV.leq | exact OpV.gtr | exact OpV.geq | exact OpV.extract | exact OpV.makeFunc | exact OpV.addn (by omega) | exact OpV.add (by omega) | exact OpV.subn (by omega) | exact OpV.sub (by omega) | exact OpV.lens | exact OpV.eqlID | exact OpV.neqID | exact OpV.eqlEv | exact OpV.eqlOp | exact OpV.eqlStr | exact OpV.neqStr | exact OpV.eqlNil | exact OpV.eqlBool | exact OpV.neqBool) rfl ?_ | (refine JR.alloc rfl ?_; intro _) | (refine JR.box rfl ?_; intro _) | refine JR.store ?_ | refine JC.cond_true ?_ | refine JC.cond_false ?_ | refine JC.skip ?_ | refine JC.exit ?_ | refine JC.block ?_ | refine CT.past ?_ | refine CT.hit ?_ | refine CT.miss rfl ?_ | refine CT.blockEnd ?_ | refine JC.ret ?_ | refine CT.ret ?_ | refine CT.blockRet ?_ | refine JO.omit rfl rfl ?_ | (refine JR.lit rfl ⟨rfl, by decide, by decide, by decide⟩ ?_; intro _))
      refine JR.append1 rfl (by exact ⟨rfl, rfl, by decide⟩) (by rw [List.length_append]; omega) ?_
      intro r3 s3
      repeat (first | refine CT.next ?_ | refine JC.seq ?_ | refine JC.region ?_ | refine JO.nil ?_ | refine JO.go rfl ?_ | refine JR.val (by first | exact OpV.move | exact OpV.assign | exact OpV.load | exact OpV.fieldAddr | exact OpV.indexEl | exact OpV.len | exact OpV.lss | exact OpV.not | exact OpV.pick_true | exact OpV.pick_false | exact OpV.inc (by omega) | exact OpV.eql | exact OpV.neq | exact OpV.leq | exact OpV.gtr | exact OpV.geq | exact OpV.extract | exact OpV.makeFunc | exact OpV.addn (by omega) | exact OpV.add (by omega) | exact OpV.subn (by omega) | exact OpV.sub (by omega) | exact OpV.lens | exact OpV.eqlID | exact OpV.neqID | exact OpV.eqlEv | exact OpV.eqlOp | exact OpV.eqlStr | exact OpV.neqStr | exact OpV.eqlNil | exact OpV.eqlBool | exact OpV.neqBool) rfl ?_ | (refine JR.alloc rfl ?_; intro _) | (refine JR.box rfl ?_; intro _) | refine JR.store ?_ | refine JC.cond_true ?_ | refine JC.cond_false ?_ | refine JC.skip ?_ | refine JC.exit ?_ | refine JC.block ?_ | refine CT.past ?_ | refine CT.hit ?_ | refine CT.miss rfl ?_ | refine CT.blockEnd ?_ | refine JC.ret ?_ | refine CT.ret ?_ | refine CT.blockRet ?_ | refine JO.omit rfl rfl ?_ | (refine JR.lit rfl ⟨rfl, by decide, by decide, by decide⟩ ?_; intro _))
      refine JR.appendSl rfl (by exact ⟨rfl, rfl, by decide⟩) (by omega) ?_
      intro p3 q3
      repeat (first | refine CT.next ?_ | refine JC.seq ?_ | refine JC.region ?_ | refine JO.nil ?_ | refine JO.go rfl ?_ | refine JR.val (by first | exact OpV.move | exact OpV.assign | exact OpV.load | exact OpV.fieldAddr | exact OpV.indexEl | exact OpV.len | exact OpV.lss | exact OpV.not | exact OpV.pick_true | exact OpV.pick_false | exact OpV.inc (by omega) | exact OpV.eql | exact OpV.neq | exact OpV.leq | exact OpV.gtr | exact OpV.geq | exact OpV.extract | exact OpV.makeFunc | exact OpV.addn (by omega) | exact OpV.add (by omega) | exact OpV.subn (by omega) | exact OpV.sub (by omega) | exact OpV.lens | exact OpV.eqlID | exact OpV.neqID | exact OpV.eqlEv | exact OpV.eqlOp | exact OpV.eqlStr | exact OpV.neqStr | exact OpV.eqlNil | exact OpV.eqlBool | exact OpV.neqBool) rfl ?_ | (refine JR.alloc rfl ?_; intro _) | (refine JR.box rfl ?_; intro _) | refine JR.store ?_ | refine JC.cond_true ?_ | refine JC.cond_false ?_ | refine JC.skip ?_ | refine JC.exit ?_ | refine JC.block ?_ | refine CT.past ?_ | refine CT.hit ?_ | refine CT.miss rfl ?_ | refine CT.blockEnd ?_ | refine JC.ret ?_ | refine CT.ret ?_ | refine CT.blockRet ?_ | refine JO.omit rfl rfl ?_ | (refine JR.lit rfl ⟨rfl, by decide, by decide, by decide⟩ ?_; intro _))
      exact ⟨i + 1, p3, q3, r3, s3, by omega, by omega, by rw [hnx, parentsL_next _ _ hlt']; infer_instance⟩
    · have ho : hashO L[i] = none := by simp [hashO, h0]
      have hnx : H ++ hashes (L.take (i + 1)) = H ++ hashes (L.take i) := by rw [hashes_next _ _ hlt', ho]; simp
      obtain ⟨r3, hr3⟩ : ∃ r3, r3 = r := ⟨_, rfl⟩
      obtain ⟨s3, hs3⟩ : ∃ s3, s3 = s := ⟨_, rfl⟩
      subst hr3 hs3
      repeat (first | refine CT.next ?_ | refine JC.seq ?_ | refine JC.region ?_ | refine JO.nil ?_ | refine JO.go rfl ?_ | refine JR.val (by first | exact OpV.move | exact OpV.assign | exact OpV.load | exact OpV.fieldAddr | exact OpV.indexEl | exact OpV.len | exact OpV.lss | exact OpV.not | exact OpV.pick_true | exact OpV.pick_false | exact OpV.inc (by omega) | exact OpV.eql | exact OpV.neq | exact OpV.leq | exact OpV.gtr | exact OpV.geq | exact OpV.extract | exact OpV.makeFunc | exact OpV.addn (by omega) | exact OpV.add (by omega) | exact OpV.subn (by omega) | exact OpV.sub (by omega) | exact OpV.lens | exact OpV.eqlID | exact OpV.neqID | exact OpV.eqlEv | exact OpV.eqlOp | exact OpV.eqlStr | exact OpV.neqStr | exact OpV.eqlNil | exact OpV.eqlBool | exact OpV.neqBool) rfl ?_ | (refine JR.alloc rfl ?_; intro _) | (refine JR.box rfl ?_; intro _) | refine JR.store ?_ | refine JC.cond_true ?_ | refine JC.cond_false ?_ | refine JC.skip ?_ | refine JC.exit ?_ | refine JC.block ?_ | refine CT.past ?_ | refine CT.hit ?_ | refine CT.miss rfl ?_ | refine CT.blockEnd ?_ | refine JC.ret ?_ | refine CT.ret ?_ | refine CT.blockRet ?_ | refine JO.omit rfl rfl ?_ | (refine JR.lit rfl ⟨rfl, by decide, by decide, by decide⟩ ?_; intro _))
      refine JR.appendSl rfl (by exact ⟨rfl, rfl, by decide⟩) (by omega) ?_
      intro p3 q3
      repeat (first | refine CT.next ?_ | refine JC.seq ?_ | refine JC.region ?_ | refine JO.nil ?_ | refine JO.go rfl ?_ | refine JR.val (by first | exact OpV.move | exact OpV.assign | exact OpV.load | exact OpV.fieldAddr | exact OpV.indexEl | exact OpV.len | exact OpV.lss | exact OpV.not | exact OpV.pick_true | exact OpV.pick_false | exact OpV.inc (by omega) | exact OpV.eql | exact OpV.neq | exact OpV.leq | exact OpV.gtr | exact OpV.geq | exact OpV.extract | exact OpV.makeFunc | exact OpV.addn (by omega) | exact OpV.add (by omega) | exact OpV.subn (by omega) | exact OpV.sub (by omega) | exact OpV.lens | exact OpV.eqlID | exact OpV.neqID | exact OpV.eqlEv | exact OpV.eqlOp | exact OpV.eqlStr | exact OpV.neqStr | exact OpV.eqlNil | exact OpV.eqlBool | exact OpV.neqBool) rfl ?_ | (refine JR.alloc rfl ?_; intro _) | (refine JR.box rfl ?_; intro _) | refine JR.store ?_ | refine JC.cond_true ?_ | refine JC.cond_false ?_ | refine JC.skip ?_ | refine JC.exit ?_ | refine JC.block ?_ | refine CT.past ?_ | refine CT.hit ?_ | refine CT.miss rfl ?_ | refine CT.blockEnd ?_ | refine JC.ret ?_ | refine CT.ret ?_ | refine CT.blockRet ?_ | refine JO.omit rfl rfl ?_ | (refine JR.lit rfl ⟨rfl, by decide, by decide, by decide⟩ ?_; intro _))
      exact ⟨i + 1, p3, q3, r3, s3, by omega, by omega, by rw [hnx, parentsL_next _ _ hlt']; infer_instance⟩
  · obtain rfl : i = L.length := by omega
    rw [List.take_length]
    repeat (first | refine CT.next ?_ | refine CT.past ?_ | refine CT.hit ?_ | refine CT.miss rfl ?_ | refine CT.blockEnd ?_ | refine JC.exit ?_)
    refine JC.more (Γ' := [.st (sl r s (H ++ hashes L)), .st (sl p q (parentsL L))]) (fun w1 ho => ?_) ?_
    · have h1 : Hold _ _ [.res (buf p q 44 (parentsL L)), .res (buf r s 44 (H ++ hashes L))] w1 := ho.ent
      have h2 : Hold _ _ [.res (buf r s 44 (H ++ hashes L)), .st (sl p q (parentsL L))] w1 := (h1.pub).ent
      exact h2.pub
    repeat (first | refine CT.next ?_ | refine JC.seq ?_ | refine JC.region ?_ | refine JO.nil ?_ | refine JO.go rfl ?_ | refine JR.val (by first | exact OpV.move | exact OpV.assign | exact OpV.load | exact OpV.fieldAddr | exact OpV.indexEl | exact OpV.len | exact OpV.lss | exact OpV.not | exact OpV.pick_true | exact OpV.pick_false | exact OpV.inc (by omega) | exact OpV.eql | exact OpV.neq | exact OpV.leq | exact OpV.gtr | exact OpV.geq | exact OpV.extract | exact OpV.makeFunc | exact OpV.addn (by omega) | exact OpV.add (by omega) | exact OpV.subn (by omega) | exact OpV.sub (by omega) | exact OpV.lens | exact OpV.eqlID | exact OpV.neqID | exact OpV.eqlEv | exact OpV.eqlOp | exact OpV.eqlStr | exact OpV.neqStr | exact OpV.eqlNil | exact OpV.eqlBool | exact OpV.neqBool) rfl ?_ | (refine JR.alloc rfl ?_; intro _) | (refine JR.box rfl ?_; intro _) | refine JR.store ?_ | refine JC.cond_true ?_ | refine JC.cond_false ?_ | refine JC.skip ?_ | refine JC.exit ?_ | refine JC.block ?_ | refine CT.past ?_ | refine CT.hit ?_ | refine CT.miss rfl ?_ | refine CT.blockEnd ?_ | refine JC.ret ?_ | refine CT.ret ?_ | refine CT.blockRet ?_ | refine JO.omit rfl rfl ?_ | (refine JR.lit rfl ⟨rfl, by decide, by decide, by decide⟩ ?_; intro _))
    refine JR.callBuf rfl (fun w1 hw => without_ids w1 _ p r q s (parentsL L) (H ++ hashes L) hw.get hw.get (by omega)) ?_
    intro a5 c5
    repeat (first | refine CT.next ?_ | refine JC.seq ?_ | refine JC.region ?_ | refine JO.nil ?_ | refine JO.go rfl ?_ | refine JR.val (by first | exact OpV.move | exact OpV.assign | exact OpV.load | exact OpV.fieldAddr | exact OpV.indexEl | exact OpV.len | exact OpV.lss | exact OpV.not | exact OpV.pick_true | exact OpV.pick_false | exact OpV.inc (by omega) | exact OpV.eql | exact OpV.neq | exact OpV.leq | exact OpV.gtr | exact OpV.geq | exact OpV.extract | exact OpV.makeFunc | exact OpV.addn (by omega) | exact OpV.add (by omega) | exact OpV.subn (by omega) | exact OpV.sub (by omega) | exact OpV.lens | exact OpV.eqlID | exact OpV.neqID | exact OpV.eqlEv | exact OpV.eqlOp | exact OpV.eqlStr | exact OpV.neqStr | exact OpV.eqlNil | exact OpV.eqlBool | exact OpV.neqBool) rfl ?_ | (refine JR.alloc rfl ?_; intro _) | (refine JR.box rfl ?_; intro _) | refine JR.store ?_ | refine JC.cond_true ?_ | refine JC.cond_false ?_ | refine JC.skip ?_ | refine JC.exit ?_ | refine JC.block ?_ | refine CT.past ?_ | refine CT.hit ?_ | refine CT.miss rfl ?_ | refine CT.blockEnd ?_ | refine JC.ret ?_ | refine CT.ret ?_ | refine CT.blockRet ?_ | refine JO.omit rfl rfl ?_ | (refine JR.lit rfl ⟨rfl, by decide, by decide, by decide⟩ ?_; intro _))
    exact CT.done (a5, c5) rfl (fun w ho => (ho.ent : Hold _ _ [.res (buf a5 c5 44 (someIds (parentsL L) (H ++ hashes L) false))] w))
end Ab
end Go.Proofs.Ytcmfemfndadfmaa

/- Contracts: the document's Same and List, the laws' Few. -/
namespace Go.Proofs.Ytcmfemfndadfmaa
namespace Ab
open Go Go.RowKit
set_option linter.unusedVariables false
set_option linter.unusedSimpArgs false
set_option synthInstance.maxSize 4000
set_option synthInstance.maxHeartbeats 400000
attribute [local irreducible] JC JO JR JQ andThen inBlock OpV Gives retTo JM JS

theorem sameIds_ref (w : World) (F : Nat → Prop) (a b : Option Addr) (c k : Nat) (L M : List ID) (h : (sl a c L).holds F w) (h' : (sl b k M).holds F w) :
    GivesV Try.prog 42 [.slice a L.length c, .slice b M.length k] w F (.bool (decide (L = M))) := by
  have hL : L.length < 9223372036854775807 := by have := h.2.2.1; simp only [lim] at this; omega
  refine gives_of Try.func42 rfl Try.ntmps42 rfl rfl [.st (sl a c L), .st (sl b k M)] (.start2 h h') ?_
  repeat (first | refine CT.next ?_ | refine JC.seq ?_ | refine JC.region ?_ | refine JO.nil ?_ | refine JO.go rfl ?_ | refine JR.val (by first | exact OpV.move | exact OpV.assign | exact OpV.load | exact OpV.fieldAddr | exact OpV.indexEl | exact OpV.len | exact OpV.lss | exact OpV.not | exact OpV.pick_true | exact OpV.pick_false | exact OpV.inc (by omega) | exact OpV.eql | exact OpV.neq | exact OpV.leq | exact OpV.gtr | exact OpV.geq | exact OpV.extract | exact OpV.makeFunc | exact OpV.addn (by omega) | exact OpV.add (by omega) | exact OpV.subn (by omega) | exact OpV.sub (by omega) | exact OpV.lens | exact OpV.eqlID | exact OpV.neqID | exact OpV.eqlEv | exact OpV.eqlOp | exact OpV.eqlStr | exact OpV.neqStr | exact OpV.eqlNil | exact OpV.eqlBool | exact OpV.neqBool) rfl ?_ | (refine JR.alloc rfl ?_; intro _) | (refine JR.box rfl ?_; intro _) | refine JR.store ?_ | refine JC.cond_true ?_ | refine JC.cond_false ?_ | refine JC.skip ?_ | refine JC.exit ?_ | refine JC.block ?_ | refine CT.past ?_ | refine CT.hit ?_ | refine CT.miss rfl ?_ | refine CT.blockEnd ?_ | refine JC.ret ?_ | refine CT.ret ?_ | refine CT.blockRet ?_ | refine JO.omit rfl rfl ?_ | (refine JR.lit rfl ⟨rfl, by decide, by decide, by decide⟩ ?_; intro _))
  refine JC.test (fun hne => ?_) (fun he => ?_)
  · repeat (first | refine CT.next ?_ | refine JC.seq ?_ | refine JC.region ?_ | refine JO.nil ?_ | refine JO.go rfl ?_ | refine JR.val (by first | exact OpV.move | exact OpV.assign | exact OpV.load | exact OpV.fieldAddr | exact OpV.indexEl | exact OpV.len | exact OpV.lss | exact OpV.not | exact OpV.pick_true | exact OpV.pick_false | exact OpV.inc (by omega) | exact OpV.eql | exact OpV.neq | exact OpV.leq | exact OpV.gtr | exact OpV.geq | exact OpV.extract | exact OpV.makeFunc | exact OpV.addn (by omega) | exact OpV.add (by omega) | exact OpV.subn (by omega) | exact OpV.sub (by omega) | exact OpV.lens | exact OpV.eqlID | exact OpV.neqID | exact OpV.eqlEv | exact OpV.eqlOp | exact OpV.eqlStr | exact OpV.neqStr | exact OpV.eqlNil | exact OpV.eqlBool | exact OpV.neqBool) rfl ?_ | (refine JR.alloc rfl ?_; intro _) | (refine JR.box rfl ?_; intro _) | refine JR.store ?_ | refine JC.cond_true ?_ | refine JC.cond_false ?_ | refine JC.skip ?_ | refine JC.exit ?_ | refine JC.block ?_ | refine CT.past ?_ | refine CT.hit ?_ | refine CT.miss rfl ?_ | refine CT.blockEnd ?_ | refine JC.ret ?_ | refine CT.ret ?_ | refine CT.blockRet ?_ | refine JO.omit rfl rfl ?_ | (refine JR.lit rfl ⟨rfl, by decide, by decide, by decide⟩ ?_; intro _))
    refine CT.done () ?_ (fun w ho => ho.ent)
    have : ¬ L = M := fun h => hne (by rw [h])
    simp [packed, this]
  · have hlen : L.length = M.length := by omega
    repeat (first | refine CT.next ?_ | refine JC.seq ?_ | refine JC.region ?_ | refine JO.nil ?_ | refine JO.go rfl ?_ | refine JR.val (by first | exact OpV.move | exact OpV.assign | exact OpV.load | exact OpV.fieldAddr | exact OpV.indexEl | exact OpV.len | exact OpV.lss | exact OpV.not | exact OpV.pick_true | exact OpV.pick_false | exact OpV.inc (by omega) | exact OpV.eql | exact OpV.neq | exact OpV.leq | exact OpV.gtr | exact OpV.geq | exact OpV.extract | exact OpV.makeFunc | exact OpV.addn (by omega) | exact OpV.add (by omega) | exact OpV.subn (by omega) | exact OpV.sub (by omega) | exact OpV.lens | exact OpV.eqlID | exact OpV.neqID | exact OpV.eqlEv | exact OpV.eqlOp | exact OpV.eqlStr | exact OpV.neqStr | exact OpV.eqlNil | exact OpV.eqlBool | exact OpV.neqBool) rfl ?_ | (refine JR.alloc rfl ?_; intro _) | (refine JR.box rfl ?_; intro _) | refine JR.store ?_ | refine JC.cond_true ?_ | refine JC.cond_false ?_ | refine JC.skip ?_ | refine JC.exit ?_ | refine JC.block ?_ | refine CT.past ?_ | refine CT.hit ?_ | refine CT.miss rfl ?_ | refine CT.blockEnd ?_ | refine JC.ret ?_ | refine CT.ret ?_ | refine CT.blockRet ?_ | refine JO.omit rfl rfl ?_ | (refine JR.lit rfl ⟨rfl, by decide, by decide, by decide⟩ ?_; intro _))
    refine JC.loop1 (fun k0 : Nat => [(0, .slice a L.length c), (1, .slice b M.length k), (5, .int .i64 (k0 : Int))]) (fun _ => [.st (sl a c L), .st (sl b k M)])
      (fun k0 => k0 ≤ L.length ∧ L.take k0 = M.take k0) (fun k0 => L.length - k0) 0 ⟨Nat.zero_le _, rfl⟩ inferInstance ?_
    intro k0 ⟨hk, heq⟩
    repeat (first | refine CT.next ?_ | refine JC.seq ?_ | refine JC.region ?_ | refine JO.nil ?_ | refine JO.go rfl ?_ | refine JR.val (by first | exact OpV.move | exact OpV.assign | exact OpV.load | exact OpV.fieldAddr | exact OpV.indexEl | exact OpV.len | exact OpV.lss | exact OpV.not | exact OpV.pick_true | exact OpV.pick_false | exact OpV.inc (by omega) | exact OpV.eql | exact OpV.neq | exact OpV.leq | exact OpV.gtr | exact OpV.geq | exact OpV.extract | exact OpV.makeFunc | exact OpV.addn (by omega) | exact OpV.add (by omega) | exact OpV.subn (by omega) | exact OpV.sub (by omega) | exact OpV.lens | exact OpV.eqlID | exact OpV.neqID | exact OpV.eqlEv | exact OpV.eqlOp | exact OpV.eqlStr | exact OpV.neqStr | exact OpV.eqlNil | exact OpV.eqlBool | exact OpV.neqBool) rfl ?_ | (refine JR.alloc rfl ?_; intro _) | (refine JR.box rfl ?_; intro _) | refine JR.store ?_ | refine JC.cond_true ?_ | refine JC.cond_false ?_ | refine JC.skip ?_ | refine JC.exit ?_ | refine JC.block ?_ | refine CT.past ?_ | refine CT.hit ?_ | refine CT.miss rfl ?_ | refine CT.blockEnd ?_ | refine JC.ret ?_ | refine CT.ret ?_ | refine CT.blockRet ?_ | refine JO.omit rfl rfl ?_ | (refine JR.lit rfl ⟨rfl, by decide, by decide, by decide⟩ ?_; intro _))
    refine JC.test (fun hlt => ?_) (fun hge => ?_)
    · have hlt' : k0 < L.length := by omega
      repeat (first | refine CT.next ?_ | refine JC.seq ?_ | refine JC.region ?_ | refine JO.nil ?_ | refine JO.go rfl ?_ | refine JR.val (by first | exact OpV.move | exact OpV.assign | exact OpV.load | exact OpV.fieldAddr | exact OpV.indexEl | exact OpV.len | exact OpV.lss | exact OpV.not | exact OpV.pick_true | exact OpV.pick_false | exact OpV.inc (by omega) | exact OpV.eql | exact OpV.neq | exact OpV.leq | exact OpV.gtr | exact OpV.geq | exact OpV.extract | exact OpV.makeFunc | exact OpV.addn (by omega) | exact OpV.add (by omega) | exact OpV.subn (by omega) | exact OpV.sub (by omega) | exact OpV.lens | exact OpV.eqlID | exact OpV.neqID | exact OpV.eqlEv | exact OpV.eqlOp | exact OpV.eqlStr | exact OpV.neqStr | exact OpV.eqlNil | exact OpV.eqlBool | exact OpV.neqBool) rfl ?_ | (refine JR.alloc rfl ?_; intro _) | (refine JR.box rfl ?_; intro _) | refine JR.store ?_ | refine JC.cond_true ?_ | refine JC.cond_false ?_ | refine JC.skip ?_ | refine JC.exit ?_ | refine JC.block ?_ | refine CT.past ?_ | refine CT.hit ?_ | refine CT.miss rfl ?_ | refine CT.blockEnd ?_ | refine JC.ret ?_ | refine CT.ret ?_ | refine CT.blockRet ?_ | refine JO.omit rfl rfl ?_ | (refine JR.lit rfl ⟨rfl, by decide, by decide, by decide⟩ ?_; intro _))
      refine JC.openID (.slice a L.length c) k0 hlt' ?_
      intro b1 o1
      refine JC.openID (.slice b M.length k) k0 (by omega) ?_
      intro b2 o2
      refine JC.quiet mixed (by kernel_rfl) ?_
      repeat (first | refine JQ.val rfl (by first | exact OpV.move | exact OpV.assign | exact OpV.load | exact OpV.fieldAddr | exact OpV.indexEl | exact OpV.len | exact OpV.lss | exact OpV.not | exact OpV.pick_true | exact OpV.pick_false | exact OpV.inc (by omega) | exact OpV.eql | exact OpV.neq | exact OpV.leq | exact OpV.gtr | exact OpV.geq | exact OpV.extract | exact OpV.makeFunc | exact OpV.addn (by omega) | exact OpV.add (by omega) | exact OpV.subn (by omega) | exact OpV.sub (by omega) | exact OpV.lens | exact OpV.eqlID | exact OpV.neqID | exact OpV.eqlEv | exact OpV.eqlOp | exact OpV.eqlStr | exact OpV.neqStr | exact OpV.eqlNil | exact OpV.eqlBool | exact OpV.neqBool) rfl ?_ | refine JQ.omit rfl rfl ?_ | refine JQ.nil ?_)
      repeat (first | refine CT.next ?_ | refine JC.seq ?_ | refine JC.region ?_ | refine JO.nil ?_ | refine JO.go rfl ?_ | refine JR.val (by first | exact OpV.move | exact OpV.assign | exact OpV.load | exact OpV.fieldAddr | exact OpV.indexEl | exact OpV.len | exact OpV.lss | exact OpV.not | exact OpV.pick_true | exact OpV.pick_false | exact OpV.inc (by omega) | exact OpV.eql | exact OpV.neq | exact OpV.leq | exact OpV.gtr | exact OpV.geq | exact OpV.extract | exact OpV.makeFunc | exact OpV.addn (by omega) | exact OpV.add (by omega) | exact OpV.subn (by omega) | exact OpV.sub (by omega) | exact OpV.lens | exact OpV.eqlID | exact OpV.neqID | exact OpV.eqlEv | exact OpV.eqlOp | exact OpV.eqlStr | exact OpV.neqStr | exact OpV.eqlNil | exact OpV.eqlBool | exact OpV.neqBool) rfl ?_ | (refine JR.alloc rfl ?_; intro _) | (refine JR.box rfl ?_; intro _) | refine JR.store ?_ | refine JC.cond_true ?_ | refine JC.cond_false ?_ | refine JC.skip ?_ | refine JC.exit ?_ | refine JC.block ?_ | refine CT.past ?_ | refine CT.hit ?_ | refine CT.miss rfl ?_ | refine CT.blockEnd ?_ | refine JC.ret ?_ | refine CT.ret ?_ | refine CT.blockRet ?_ | refine JO.omit rfl rfl ?_ | (refine JR.lit rfl ⟨rfl, by decide, by decide, by decide⟩ ?_; intro _))
      refine JC.test (fun hne => ?_) (fun heq2 => ?_)
      · repeat (first | refine CT.next ?_ | refine JC.seq ?_ | refine JC.region ?_ | refine JO.nil ?_ | refine JO.go rfl ?_ | refine JR.val (by first | exact OpV.move | exact OpV.assign | exact OpV.load | exact OpV.fieldAddr | exact OpV.indexEl | exact OpV.len | exact OpV.lss | exact OpV.not | exact OpV.pick_true | exact OpV.pick_false | exact OpV.inc (by omega) | exact OpV.eql | exact OpV.neq | exact OpV.leq | exact OpV.gtr | exact OpV.geq | exact OpV.extract | exact OpV.makeFunc | exact OpV.addn (by omega) | exact OpV.add (by omega) | exact OpV.subn (by omega) | exact OpV.sub (by omega) | exact OpV.lens | exact OpV.eqlID | exact OpV.neqID | exact OpV.eqlEv | exact OpV.eqlOp | exact OpV.eqlStr | exact OpV.neqStr | exact OpV.eqlNil | exact OpV.eqlBool | exact OpV.neqBool) rfl ?_ | (refine JR.alloc rfl ?_; intro _) | (refine JR.box rfl ?_; intro _) | refine JR.store ?_ | refine JC.cond_true ?_ | refine JC.cond_false ?_ | refine JC.skip ?_ | refine JC.exit ?_ | refine JC.block ?_ | refine CT.past ?_ | refine CT.hit ?_ | refine CT.miss rfl ?_ | refine CT.blockEnd ?_ | refine JC.ret ?_ | refine CT.ret ?_ | refine CT.blockRet ?_ | refine JO.omit rfl rfl ?_ | (refine JR.lit rfl ⟨rfl, by decide, by decide, by decide⟩ ?_; intro _))
        refine CT.done () ?_ (fun w ho => ho.ent)
        have : ¬ L = M := fun h => by subst h; exact hne rfl
        simp [packed, this]
      · repeat (first | refine CT.next ?_ | refine JC.seq ?_ | refine JC.region ?_ | refine JO.nil ?_ | refine JO.go rfl ?_ | refine JR.val (by first | exact OpV.move | exact OpV.assign | exact OpV.load | exact OpV.fieldAddr | exact OpV.indexEl | exact OpV.len | exact OpV.lss | exact OpV.not | exact OpV.pick_true | exact OpV.pick_false | exact OpV.inc (by omega) | exact OpV.eql | exact OpV.neq | exact OpV.leq | exact OpV.gtr | exact OpV.geq | exact OpV.extract | exact OpV.makeFunc | exact OpV.addn (by omega) | exact OpV.add (by omega) | exact OpV.subn (by omega) | exact OpV.sub (by omega) | exact OpV.lens | exact OpV.eqlID | exact OpV.neqID | exact OpV.eqlEv | exact OpV.eqlOp | exact OpV.eqlStr | exact OpV.neqStr | exact OpV.eqlNil | exact OpV.eqlBool | exact OpV.neqBool) rfl ?_ | (refine JR.alloc rfl ?_; intro _) | (refine JR.box rfl ?_; intro _) | refine JR.store ?_ | refine JC.cond_true ?_ | refine JC.cond_false ?_ | refine JC.skip ?_ | refine JC.exit ?_ | refine JC.block ?_ | refine CT.past ?_ | refine CT.hit ?_ | refine CT.miss rfl ?_ | refine CT.blockEnd ?_ | refine JC.ret ?_ | refine CT.ret ?_ | refine CT.blockRet ?_ | refine JO.omit rfl rfl ?_ | (refine JR.lit rfl ⟨rfl, by decide, by decide, by decide⟩ ?_; intro _))
        refine ⟨k0 + 1, ⟨by omega, ?_⟩, by omega, inferInstance⟩
        have heq2 : L[k0] = M[k0] := by simpa using heq2
        rw [List.take_succ_eq_append_getElem hlt', List.take_succ_eq_append_getElem (by omega), heq, heq2]
    · have hk0 : k0 = L.length := by omega
      repeat (first | refine CT.next ?_ | refine JC.seq ?_ | refine JC.region ?_ | refine JO.nil ?_ | refine JO.go rfl ?_ | refine JR.val (by first | exact OpV.move | exact OpV.assign | exact OpV.load | exact OpV.fieldAddr | exact OpV.indexEl | exact OpV.len | exact OpV.lss | exact OpV.not | exact OpV.pick_true | exact OpV.pick_false | exact OpV.inc (by omega) | exact OpV.eql | exact OpV.neq | exact OpV.leq | exact OpV.gtr | exact OpV.geq | exact OpV.extract | exact OpV.makeFunc | exact OpV.addn (by omega) | exact OpV.add (by omega) | exact OpV.subn (by omega) | exact OpV.sub (by omega) | exact OpV.lens | exact OpV.eqlID | exact OpV.neqID | exact OpV.eqlEv | exact OpV.eqlOp | exact OpV.eqlStr | exact OpV.neqStr | exact OpV.eqlNil | exact OpV.eqlBool | exact OpV.neqBool) rfl ?_ | (refine JR.alloc rfl ?_; intro _) | (refine JR.box rfl ?_; intro _) | refine JR.store ?_ | refine JC.cond_true ?_ | refine JC.cond_false ?_ | refine JC.skip ?_ | refine JC.exit ?_ | refine JC.block ?_ | refine CT.past ?_ | refine CT.hit ?_ | refine CT.miss rfl ?_ | refine CT.blockEnd ?_ | refine JC.ret ?_ | refine CT.ret ?_ | refine CT.blockRet ?_ | refine JO.omit rfl rfl ?_ | (refine JR.lit rfl ⟨rfl, by decide, by decide, by decide⟩ ?_; intro _))
      refine CT.done () ?_ (fun w ho => ho.ent)
      have : L = M := by
        rw [List.take_of_length_le (by omega), List.take_of_length_le (by omega)] at heq
        exact heq
      simp [packed, this]

theorem op_eq (a b : Op_) : (decide (a.kind = b.kind) && (decide (a.key = b.key) && (decide (a.elem = b.elem) && decide (a.n = b.n)))) = decide (a = b) := by
  obtain ⟨a1, a2, a3, a4⟩ := a
  obtain ⟨b1, b2, b3, b4⟩ := b
  rw [Bool.eq_iff_iff]
  simp

theorem same_ref (w : World) (F : Nat → Prop) (c d : Commit) (a b : Option Addr) (k m : Nat) (h : (sl a k c.parents).holds F w) (h' : (sl b m d.parents).holds F w) :
    GivesV Try.prog 29 [commitV c a k, commitV d b m] w F (.bool (decide (c = d))) := by
  have key : ∀ (c d : Commit), c = d ↔ c.ev = d.ev ∧ c.gen = d.gen ∧ c.op = d.op ∧ c.parents = d.parents := by
    intro c d
    cases c; cases d
    simp only [Commit.mk.injEq]
    constructor
    · rintro ⟨h1, h2, h3, h4⟩; exact ⟨h1, h2, h4, h3⟩
    · rintro ⟨h1, h2, h3, h4⟩; exact ⟨h1, h2, h4, h3⟩
  refine gives_of Try.func29 rfl Try.ntmps29 rfl rfl [.st (sl a k c.parents), .st (sl b m d.parents)] (.start2 h h') ?_
  repeat (first | refine CT.next ?_ | refine JC.seq ?_ | refine JC.region ?_ | refine JO.nil ?_ | refine JO.go rfl ?_ | refine JR.val (by first | exact OpV.move | exact OpV.assign | exact OpV.load | exact OpV.fieldAddr | exact OpV.indexEl | exact OpV.len | exact OpV.lss | exact OpV.not | exact OpV.pick_true | exact OpV.pick_false | exact OpV.inc (by omega) | exact OpV.eql | exact OpV.neq | exact OpV.leq | exact OpV.gtr | exact OpV.geq | exact OpV.extract | exact OpV.makeFunc | exact OpV.addn (by omega) | exact OpV.add (by omega) | exact OpV.subn (by omega) | exact OpV.sub (by omega) | exact OpV.lens | exact OpV.eqlID | exact OpV.neqID | exact OpV.eqlEv | exact OpV.eqlOp | exact OpV.eqlStr | exact OpV.neqStr | exact OpV.eqlNil | exact OpV.eqlBool | exact OpV.neqBool) rfl ?_ | (refine JR.alloc rfl ?_; intro _) | (refine JR.box rfl ?_; intro _) | refine JR.store ?_ | refine JC.cond_true ?_ | refine JC.cond_false ?_ | refine JC.skip ?_ | refine JC.exit ?_ | refine JC.block ?_ | refine CT.past ?_ | refine CT.hit ?_ | refine CT.miss rfl ?_ | refine CT.blockEnd ?_ | refine JC.ret ?_ | refine CT.ret ?_ | refine CT.blockRet ?_ | refine JO.omit rfl rfl ?_ | (refine JR.lit rfl ⟨rfl, by decide, by decide, by decide⟩ ?_; intro _))
  refine JR.callV rfl (fun w1 hw => sameIds_ref w1 _ a b k m _ _ hw.get hw.get) ?_
  repeat (first | refine CT.next ?_ | refine JC.seq ?_ | refine JC.region ?_ | refine JO.nil ?_ | refine JO.go rfl ?_ | refine JR.val (by first | exact OpV.move | exact OpV.assign | exact OpV.load | exact OpV.fieldAddr | exact OpV.indexEl | exact OpV.len | exact OpV.lss | exact OpV.not | exact OpV.pick_true | exact OpV.pick_false | exact OpV.inc (by omega) | exact OpV.eql | exact OpV.neq | exact OpV.leq | exact OpV.gtr | exact OpV.geq | exact OpV.extract | exact OpV.makeFunc | exact OpV.addn (by omega) | exact OpV.add (by omega) | exact OpV.subn (by omega) | exact OpV.sub (by omega) | exact OpV.lens | exact OpV.eqlID | exact OpV.neqID | exact OpV.eqlEv | exact OpV.eqlOp | exact OpV.eqlStr | exact OpV.neqStr | exact OpV.eqlNil | exact OpV.eqlBool | exact OpV.neqBool) rfl ?_ | (refine JR.alloc rfl ?_; intro _) | (refine JR.box rfl ?_; intro _) | refine JR.store ?_ | refine JC.cond_true ?_ | refine JC.cond_false ?_ | refine JC.skip ?_ | refine JC.exit ?_ | refine JC.block ?_ | refine CT.past ?_ | refine CT.hit ?_ | refine CT.miss rfl ?_ | refine CT.blockEnd ?_ | refine JC.ret ?_ | refine CT.ret ?_ | refine CT.blockRet ?_ | refine JO.omit rfl rfl ?_ | (refine JR.lit rfl ⟨rfl, by decide, by decide, by decide⟩ ?_; intro _))
  refine JO.test 12 (fun h1 => ?_) (fun h1 => ?_)
  · repeat (first | refine CT.next ?_ | refine JC.seq ?_ | refine JC.region ?_ | refine JO.nil ?_ | refine JO.go rfl ?_ | refine JR.val (by first | exact OpV.move | exact OpV.assign | exact OpV.load | exact OpV.fieldAddr | exact OpV.indexEl | exact OpV.len | exact OpV.lss | exact OpV.not | exact OpV.pick_true | exact OpV.pick_false | exact OpV.inc (by omega) | exact OpV.eql | exact OpV.neq | exact OpV.leq | exact OpV.gtr | exact OpV.geq | exact OpV.extract | exact OpV.makeFunc | exact OpV.addn (by omega) | exact OpV.add (by omega) | exact OpV.subn (by omega) | exact OpV.sub (by omega) | exact OpV.lens | exact OpV.eqlID | exact OpV.neqID | exact OpV.eqlEv | exact OpV.eqlOp | exact OpV.eqlStr | exact OpV.neqStr | exact OpV.eqlNil | exact OpV.eqlBool | exact OpV.neqBool) rfl ?_ | (refine JR.alloc rfl ?_; intro _) | (refine JR.box rfl ?_; intro _) | refine JR.store ?_ | refine JC.cond_true ?_ | refine JC.cond_false ?_ | refine JC.skip ?_ | refine JC.exit ?_ | refine JC.block ?_ | refine CT.past ?_ | refine CT.hit ?_ | refine CT.miss rfl ?_ | refine CT.blockEnd ?_ | refine JC.ret ?_ | refine CT.ret ?_ | refine CT.blockRet ?_ | refine JO.omit rfl rfl ?_ | (refine JR.lit rfl ⟨rfl, by decide, by decide, by decide⟩ ?_; intro _))
    refine JO.test 19 (fun h2 => ?_) (fun h2 => ?_)
    · repeat (first | refine CT.next ?_ | refine JC.seq ?_ | refine JC.region ?_ | refine JO.nil ?_ | refine JO.go rfl ?_ | refine JR.val (by first | exact OpV.move | exact OpV.assign | exact OpV.load | exact OpV.fieldAddr | exact OpV.indexEl | exact OpV.len | exact OpV.lss | exact OpV.not | exact OpV.pick_true | exact OpV.pick_false | exact OpV.inc (by omega) | exact OpV.eql | exact OpV.neq | exact OpV.leq | exact OpV.gtr | exact OpV.geq | exact OpV.extract | exact OpV.makeFunc | exact OpV.addn (by omega) | exact OpV.add (by omega) | exact OpV.subn (by omega) | exact OpV.sub (by omega) | exact OpV.lens | exact OpV.eqlID | exact OpV.neqID | exact OpV.eqlEv | exact OpV.eqlOp | exact OpV.eqlStr | exact OpV.neqStr | exact OpV.eqlNil | exact OpV.eqlBool | exact OpV.neqBool) rfl ?_ | (refine JR.alloc rfl ?_; intro _) | (refine JR.box rfl ?_; intro _) | refine JR.store ?_ | refine JC.cond_true ?_ | refine JC.cond_false ?_ | refine JC.skip ?_ | refine JC.exit ?_ | refine JC.block ?_ | refine CT.past ?_ | refine CT.hit ?_ | refine CT.miss rfl ?_ | refine CT.blockEnd ?_ | refine JC.ret ?_ | refine CT.ret ?_ | refine CT.blockRet ?_ | refine JO.omit rfl rfl ?_ | (refine JR.lit rfl ⟨rfl, by decide, by decide, by decide⟩ ?_; intro _))
      refine JO.test 26 (fun h3 => ?_) (fun h3 => ?_)
      · repeat (first | refine CT.next ?_ | refine JC.seq ?_ | refine JC.region ?_ | refine JO.nil ?_ | refine JO.go rfl ?_ | refine JR.val (by first | exact OpV.move | exact OpV.assign | exact OpV.load | exact OpV.fieldAddr | exact OpV.indexEl | exact OpV.len | exact OpV.lss | exact OpV.not | exact OpV.pick_true | exact OpV.pick_false | exact OpV.inc (by omega) | exact OpV.eql | exact OpV.neq | exact OpV.leq | exact OpV.gtr | exact OpV.geq | exact OpV.extract | exact OpV.makeFunc | exact OpV.addn (by omega) | exact OpV.add (by omega) | exact OpV.subn (by omega) | exact OpV.sub (by omega) | exact OpV.lens | exact OpV.eqlID | exact OpV.neqID | exact OpV.eqlEv | exact OpV.eqlOp | exact OpV.eqlStr | exact OpV.neqStr | exact OpV.eqlNil | exact OpV.eqlBool | exact OpV.neqBool) rfl ?_ | (refine JR.alloc rfl ?_; intro _) | (refine JR.box rfl ?_; intro _) | refine JR.store ?_ | refine JC.cond_true ?_ | refine JC.cond_false ?_ | refine JC.skip ?_ | refine JC.exit ?_ | refine JC.block ?_ | refine CT.past ?_ | refine CT.hit ?_ | refine CT.miss rfl ?_ | refine CT.blockEnd ?_ | refine JC.ret ?_ | refine CT.ret ?_ | refine CT.blockRet ?_ | refine JO.omit rfl rfl ?_ | (refine JR.lit rfl ⟨rfl, by decide, by decide, by decide⟩ ?_; intro _))
        refine CT.done () ?_ (fun w ho => ho.ent)
        have h1 : c.parents = d.parents := by simpa using h1
        have h2 : c.ev = d.ev := h2
        simp [packed, key, h1, h2, h3]
        exact op_eq _ _
      · repeat (first | refine CT.next ?_ | refine JC.seq ?_ | refine JC.region ?_ | refine JO.nil ?_ | refine JO.go rfl ?_ | refine JR.val (by first | exact OpV.move | exact OpV.assign | exact OpV.load | exact OpV.fieldAddr | exact OpV.indexEl | exact OpV.len | exact OpV.lss | exact OpV.not | exact OpV.pick_true | exact OpV.pick_false | exact OpV.inc (by omega) | exact OpV.eql | exact OpV.neq | exact OpV.leq | exact OpV.gtr | exact OpV.geq | exact OpV.extract | exact OpV.makeFunc | exact OpV.addn (by omega) | exact OpV.add (by omega) | exact OpV.subn (by omega) | exact OpV.sub (by omega) | exact OpV.lens | exact OpV.eqlID | exact OpV.neqID | exact OpV.eqlEv | exact OpV.eqlOp | exact OpV.eqlStr | exact OpV.neqStr | exact OpV.eqlNil | exact OpV.eqlBool | exact OpV.neqBool) rfl ?_ | (refine JR.alloc rfl ?_; intro _) | (refine JR.box rfl ?_; intro _) | refine JR.store ?_ | refine JC.cond_true ?_ | refine JC.cond_false ?_ | refine JC.skip ?_ | refine JC.exit ?_ | refine JC.block ?_ | refine CT.past ?_ | refine CT.hit ?_ | refine CT.miss rfl ?_ | refine CT.blockEnd ?_ | refine JC.ret ?_ | refine CT.ret ?_ | refine CT.blockRet ?_ | refine JO.omit rfl rfl ?_ | (refine JR.lit rfl ⟨rfl, by decide, by decide, by decide⟩ ?_; intro _))
        refine CT.done () ?_ (fun w ho => ho.ent)
        simp [packed, key, h3]
    · repeat (first | refine CT.next ?_ | refine JC.seq ?_ | refine JC.region ?_ | refine JO.nil ?_ | refine JO.go rfl ?_ | refine JR.val (by first | exact OpV.move | exact OpV.assign | exact OpV.load | exact OpV.fieldAddr | exact OpV.indexEl | exact OpV.len | exact OpV.lss | exact OpV.not | exact OpV.pick_true | exact OpV.pick_false | exact OpV.inc (by omega) | exact OpV.eql | exact OpV.neq | exact OpV.leq | exact OpV.gtr | exact OpV.geq | exact OpV.extract | exact OpV.makeFunc | exact OpV.addn (by omega) | exact OpV.add (by omega) | exact OpV.subn (by omega) | exact OpV.sub (by omega) | exact OpV.lens | exact OpV.eqlID | exact OpV.neqID | exact OpV.eqlEv | exact OpV.eqlOp | exact OpV.eqlStr | exact OpV.neqStr | exact OpV.eqlNil | exact OpV.eqlBool | exact OpV.neqBool) rfl ?_ | (refine JR.alloc rfl ?_; intro _) | (refine JR.box rfl ?_; intro _) | refine JR.store ?_ | refine JC.cond_true ?_ | refine JC.cond_false ?_ | refine JC.skip ?_ | refine JC.exit ?_ | refine JC.block ?_ | refine CT.past ?_ | refine CT.hit ?_ | refine CT.miss rfl ?_ | refine CT.blockEnd ?_ | refine JC.ret ?_ | refine CT.ret ?_ | refine CT.blockRet ?_ | refine JO.omit rfl rfl ?_ | (refine JR.lit rfl ⟨rfl, by decide, by decide, by decide⟩ ?_; intro _))
      refine CT.done () ?_ (fun w ho => ho.ent)
      have h2 : ¬ c.ev = d.ev := h2
      simp [packed, key, h2]
  · repeat (first | refine CT.next ?_ | refine JC.seq ?_ | refine JC.region ?_ | refine JO.nil ?_ | refine JO.go rfl ?_ | refine JR.val (by first | exact OpV.move | exact OpV.assign | exact OpV.load | exact OpV.fieldAddr | exact OpV.indexEl | exact OpV.len | exact OpV.lss | exact OpV.not | exact OpV.pick_true | exact OpV.pick_false | exact OpV.inc (by omega) | exact OpV.eql | exact OpV.neq | exact OpV.leq | exact OpV.gtr | exact OpV.geq | exact OpV.extract | exact OpV.makeFunc | exact OpV.addn (by omega) | exact OpV.add (by omega) | exact OpV.subn (by omega) | exact OpV.sub (by omega) | exact OpV.lens | exact OpV.eqlID | exact OpV.neqID | exact OpV.eqlEv | exact OpV.eqlOp | exact OpV.eqlStr | exact OpV.neqStr | exact OpV.eqlNil | exact OpV.eqlBool | exact OpV.neqBool) rfl ?_ | (refine JR.alloc rfl ?_; intro _) | (refine JR.box rfl ?_; intro _) | refine JR.store ?_ | refine JC.cond_true ?_ | refine JC.cond_false ?_ | refine JC.skip ?_ | refine JC.exit ?_ | refine JC.block ?_ | refine CT.past ?_ | refine CT.hit ?_ | refine CT.miss rfl ?_ | refine CT.blockEnd ?_ | refine JC.ret ?_ | refine CT.ret ?_ | refine CT.blockRet ?_ | refine JO.omit rfl rfl ?_ | (refine JR.lit rfl ⟨rfl, by decide, by decide, by decide⟩ ?_; intro _))
    refine CT.done () ?_ (fun w ho => ho.ent)
    have h1 : ¬ c.parents = d.parents := by simpa using h1
    simp [packed, key, h1]
end Ab
end Go.Proofs.Ytcmfemfndadfmaa

/- Contracts: the document's List, the laws' Few. -/
namespace Go.Proofs.Ytcmfemfndadfmaa
namespace Ab
open Go Go.RowKit
set_option linter.unusedVariables false
set_option linter.unusedSimpArgs false
set_option synthInstance.maxSize 4000
set_option synthInstance.maxHeartbeats 400000
attribute [local irreducible] JC JO JR JQ andThen inBlock OpV Gives retTo JM JS

theorem list_ref (w : World) (F : Nat → Prop) (a b : Option Addr) (c k : Nat) (L M : List Commit) (h : (sl a c L).holds F w) (h' : (sl b k M).holds F w) :
    GivesV Try.prog 15 [.slice a L.length c, .slice b M.length k] w F (.bool (decide (L = M))) := by
  have hL : L.length < 9223372036854775807 := by have := h.2.2.1; simp only [lim] at this; omega
  refine gives_of Try.func15 rfl Try.ntmps15 rfl rfl [.st (sl a c L), .st (sl b k M)] (.start2 h h') ?_
  repeat (first | refine CT.next ?_ | refine JC.seq ?_ | refine JC.region ?_ | refine JO.nil ?_ | refine JO.go rfl ?_ | refine JR.val (by first | exact OpV.move | exact OpV.assign | exact OpV.load | exact OpV.fieldAddr | exact OpV.indexEl | exact OpV.len | exact OpV.lss | exact OpV.not | exact OpV.pick_true | exact OpV.pick_false | exact OpV.inc (by omega) | exact OpV.eql | exact OpV.neq | exact OpV.leq | exact OpV.gtr | exact OpV.geq | exact OpV.extract | exact OpV.makeFunc | exact OpV.addn (by omega) | exact OpV.add (by omega) | exact OpV.subn (by omega) | exact OpV.sub (by omega) | exact OpV.lens | exact OpV.eqlID | exact OpV.neqID | exact OpV.eqlEv | exact OpV.eqlOp | exact OpV.eqlStr | exact OpV.neqStr | exact OpV.eqlNil | exact OpV.eqlBool | exact OpV.neqBool) rfl ?_ | (refine JR.alloc rfl ?_; intro _) | (refine JR.box rfl ?_; intro _) | refine JR.store ?_ | refine JC.cond_true ?_ | refine JC.cond_false ?_ | refine JC.skip ?_ | refine JC.exit ?_ | refine JC.block ?_ | refine CT.past ?_ | refine CT.hit ?_ | refine CT.miss rfl ?_ | refine CT.blockEnd ?_ | refine JC.ret ?_ | refine CT.ret ?_ | refine CT.blockRet ?_ | refine JO.omit rfl rfl ?_ | (refine JR.lit rfl ⟨rfl, by decide, by decide, by decide⟩ ?_; intro _))
  refine JC.test (fun hne => ?_) (fun he => ?_)
  · repeat (first | refine CT.next ?_ | refine JC.seq ?_ | refine JC.region ?_ | refine JO.nil ?_ | refine JO.go rfl ?_ | refine JR.val (by first | exact OpV.move | exact OpV.assign | exact OpV.load | exact OpV.fieldAddr | exact OpV.indexEl | exact OpV.len | exact OpV.lss | exact OpV.not | exact OpV.pick_true | exact OpV.pick_false | exact OpV.inc (by omega) | exact OpV.eql | exact OpV.neq | exact OpV.leq | exact OpV.gtr | exact OpV.geq | exact OpV.extract | exact OpV.makeFunc | exact OpV.addn (by omega) | exact OpV.add (by omega) | exact OpV.subn (by omega) | exact OpV.sub (by omega) | exact OpV.lens | exact OpV.eqlID | exact OpV.neqID | exact OpV.eqlEv | exact OpV.eqlOp | exact OpV.eqlStr | exact OpV.neqStr | exact OpV.eqlNil | exact OpV.eqlBool | exact OpV.neqBool) rfl ?_ | (refine JR.alloc rfl ?_; intro _) | (refine JR.box rfl ?_; intro _) | refine JR.store ?_ | refine JC.cond_true ?_ | refine JC.cond_false ?_ | refine JC.skip ?_ | refine JC.exit ?_ | refine JC.block ?_ | refine CT.past ?_ | refine CT.hit ?_ | refine CT.miss rfl ?_ | refine CT.blockEnd ?_ | refine JC.ret ?_ | refine CT.ret ?_ | refine CT.blockRet ?_ | refine JO.omit rfl rfl ?_ | (refine JR.lit rfl ⟨rfl, by decide, by decide, by decide⟩ ?_; intro _))
    refine CT.done () ?_ (fun w ho => ho.ent)
    have : ¬ L = M := fun h => hne (by rw [h])
    simp [packed, this]
  · have hlen : L.length = M.length := by omega
    repeat (first | refine CT.next ?_ | refine JC.seq ?_ | refine JC.region ?_ | refine JO.nil ?_ | refine JO.go rfl ?_ | refine JR.val (by first | exact OpV.move | exact OpV.assign | exact OpV.load | exact OpV.fieldAddr | exact OpV.indexEl | exact OpV.len | exact OpV.lss | exact OpV.not | exact OpV.pick_true | exact OpV.pick_false | exact OpV.inc (by omega) | exact OpV.eql | exact OpV.neq | exact OpV.leq | exact OpV.gtr | exact OpV.geq | exact OpV.extract | exact OpV.makeFunc | exact OpV.addn (by omega) | exact OpV.add (by omega) | exact OpV.subn (by omega) | exact OpV.sub (by omega) | exact OpV.lens | exact OpV.eqlID | exact OpV.neqID | exact OpV.eqlEv | exact OpV.eqlOp | exact OpV.eqlStr | exact OpV.neqStr | exact OpV.eqlNil | exact OpV.eqlBool | exact OpV.neqBool) rfl ?_ | (refine JR.alloc rfl ?_; intro _) | (refine JR.box rfl ?_; intro _) | refine JR.store ?_ | refine JC.cond_true ?_ | refine JC.cond_false ?_ | refine JC.skip ?_ | refine JC.exit ?_ | refine JC.block ?_ | refine CT.past ?_ | refine CT.hit ?_ | refine CT.miss rfl ?_ | refine CT.blockEnd ?_ | refine JC.ret ?_ | refine CT.ret ?_ | refine CT.blockRet ?_ | refine JO.omit rfl rfl ?_ | (refine JR.lit rfl ⟨rfl, by decide, by decide, by decide⟩ ?_; intro _))
    refine JC.loop1 (fun k0 : Nat => [(0, .slice a L.length c), (1, .slice b M.length k), (5, .int .i64 (k0 : Int))]) (fun _ => [.st (sl a c L), .st (sl b k M)])
      (fun k0 => k0 ≤ L.length ∧ L.take k0 = M.take k0) (fun k0 => L.length - k0) 0 ⟨Nat.zero_le _, rfl⟩ inferInstance ?_
    intro k0 ⟨hk, heq⟩
    repeat (first | refine CT.next ?_ | refine JC.seq ?_ | refine JC.region ?_ | refine JO.nil ?_ | refine JO.go rfl ?_ | refine JR.val (by first | exact OpV.move | exact OpV.assign | exact OpV.load | exact OpV.fieldAddr | exact OpV.indexEl | exact OpV.len | exact OpV.lss | exact OpV.not | exact OpV.pick_true | exact OpV.pick_false | exact OpV.inc (by omega) | exact OpV.eql | exact OpV.neq | exact OpV.leq | exact OpV.gtr | exact OpV.geq | exact OpV.extract | exact OpV.makeFunc | exact OpV.addn (by omega) | exact OpV.add (by omega) | exact OpV.subn (by omega) | exact OpV.sub (by omega) | exact OpV.lens | exact OpV.eqlID | exact OpV.neqID | exact OpV.eqlEv | exact OpV.eqlOp | exact OpV.eqlStr | exact OpV.neqStr | exact OpV.eqlNil | exact OpV.eqlBool | exact OpV.neqBool) rfl ?_ | (refine JR.alloc rfl ?_; intro _) | (refine JR.box rfl ?_; intro _) | refine JR.store ?_ | refine JC.cond_true ?_ | refine JC.cond_false ?_ | refine JC.skip ?_ | refine JC.exit ?_ | refine JC.block ?_ | refine CT.past ?_ | refine CT.hit ?_ | refine CT.miss rfl ?_ | refine CT.blockEnd ?_ | refine JC.ret ?_ | refine CT.ret ?_ | refine CT.blockRet ?_ | refine JO.omit rfl rfl ?_ | (refine JR.lit rfl ⟨rfl, by decide, by decide, by decide⟩ ?_; intro _))
    refine JC.test (fun hlt => ?_) (fun hge => ?_)
    · have hlt' : k0 < L.length := by omega
      repeat (first | refine CT.next ?_ | refine JC.seq ?_ | refine JC.region ?_ | refine JO.nil ?_ | refine JO.go rfl ?_ | refine JR.val (by first | exact OpV.move | exact OpV.assign | exact OpV.load | exact OpV.fieldAddr | exact OpV.indexEl | exact OpV.len | exact OpV.lss | exact OpV.not | exact OpV.pick_true | exact OpV.pick_false | exact OpV.inc (by omega) | exact OpV.eql | exact OpV.neq | exact OpV.leq | exact OpV.gtr | exact OpV.geq | exact OpV.extract | exact OpV.makeFunc | exact OpV.addn (by omega) | exact OpV.add (by omega) | exact OpV.subn (by omega) | exact OpV.sub (by omega) | exact OpV.lens | exact OpV.eqlID | exact OpV.neqID | exact OpV.eqlEv | exact OpV.eqlOp | exact OpV.eqlStr | exact OpV.neqStr | exact OpV.eqlNil | exact OpV.eqlBool | exact OpV.neqBool) rfl ?_ | (refine JR.alloc rfl ?_; intro _) | (refine JR.box rfl ?_; intro _) | refine JR.store ?_ | refine JC.cond_true ?_ | refine JC.cond_false ?_ | refine JC.skip ?_ | refine JC.exit ?_ | refine JC.block ?_ | refine CT.past ?_ | refine CT.hit ?_ | refine CT.miss rfl ?_ | refine CT.blockEnd ?_ | refine JC.ret ?_ | refine CT.ret ?_ | refine CT.blockRet ?_ | refine JO.omit rfl rfl ?_ | (refine JR.lit rfl ⟨rfl, by decide, by decide, by decide⟩ ?_; intro _))
      refine JC.openCommit (.slice a L.length c) k0 hlt' ?_
      intro b1 o1 p1 q1
      refine JC.openCommit (.slice b M.length k) k0 (by omega) ?_
      intro b2 o2 p2 q2
      refine JC.quiet mixed (by kernel_rfl) ?_
      repeat (first | refine JQ.val rfl (by first | exact OpV.move | exact OpV.assign | exact OpV.load | exact OpV.fieldAddr | exact OpV.indexEl | exact OpV.len | exact OpV.lss | exact OpV.not | exact OpV.pick_true | exact OpV.pick_false | exact OpV.inc (by omega) | exact OpV.eql | exact OpV.neq | exact OpV.leq | exact OpV.gtr | exact OpV.geq | exact OpV.extract | exact OpV.makeFunc | exact OpV.addn (by omega) | exact OpV.add (by omega) | exact OpV.subn (by omega) | exact OpV.sub (by omega) | exact OpV.lens | exact OpV.eqlID | exact OpV.neqID | exact OpV.eqlEv | exact OpV.eqlOp | exact OpV.eqlStr | exact OpV.neqStr | exact OpV.eqlNil | exact OpV.eqlBool | exact OpV.neqBool) rfl ?_ | refine JQ.omit rfl rfl ?_ | refine JQ.nil ?_)
      refine JQ.call rfl rfl (fun w1 hw => same_ref w1 _ L[k0] (M[k0]'(by omega)) p1 p2 q1 q2 hw.get hw.get) ?_
      repeat (first | refine JQ.val rfl (by first | exact OpV.move | exact OpV.assign | exact OpV.load | exact OpV.fieldAddr | exact OpV.indexEl | exact OpV.len | exact OpV.lss | exact OpV.not | exact OpV.pick_true | exact OpV.pick_false | exact OpV.inc (by omega) | exact OpV.eql | exact OpV.neq | exact OpV.leq | exact OpV.gtr | exact OpV.geq | exact OpV.extract | exact OpV.makeFunc | exact OpV.addn (by omega) | exact OpV.add (by omega) | exact OpV.subn (by omega) | exact OpV.sub (by omega) | exact OpV.lens | exact OpV.eqlID | exact OpV.neqID | exact OpV.eqlEv | exact OpV.eqlOp | exact OpV.eqlStr | exact OpV.neqStr | exact OpV.eqlNil | exact OpV.eqlBool | exact OpV.neqBool) rfl ?_ | refine JQ.omit rfl rfl ?_ | refine JQ.nil ?_)
      repeat (first | refine CT.next ?_ | refine JC.seq ?_ | refine JC.region ?_ | refine JO.nil ?_ | refine JO.go rfl ?_ | refine JR.val (by first | exact OpV.move | exact OpV.assign | exact OpV.load | exact OpV.fieldAddr | exact OpV.indexEl | exact OpV.len | exact OpV.lss | exact OpV.not | exact OpV.pick_true | exact OpV.pick_false | exact OpV.inc (by omega) | exact OpV.eql | exact OpV.neq | exact OpV.leq | exact OpV.gtr | exact OpV.geq | exact OpV.extract | exact OpV.makeFunc | exact OpV.addn (by omega) | exact OpV.add (by omega) | exact OpV.subn (by omega) | exact OpV.sub (by omega) | exact OpV.lens | exact OpV.eqlID | exact OpV.neqID | exact OpV.eqlEv | exact OpV.eqlOp | exact OpV.eqlStr | exact OpV.neqStr | exact OpV.eqlNil | exact OpV.eqlBool | exact OpV.neqBool) rfl ?_ | (refine JR.alloc rfl ?_; intro _) | (refine JR.box rfl ?_; intro _) | refine JR.store ?_ | refine JC.cond_true ?_ | refine JC.cond_false ?_ | refine JC.skip ?_ | refine JC.exit ?_ | refine JC.block ?_ | refine CT.past ?_ | refine CT.hit ?_ | refine CT.miss rfl ?_ | refine CT.blockEnd ?_ | refine JC.ret ?_ | refine CT.ret ?_ | refine CT.blockRet ?_ | refine JO.omit rfl rfl ?_ | (refine JR.lit rfl ⟨rfl, by decide, by decide, by decide⟩ ?_; intro _))
      refine JC.test (fun hne => ?_) (fun heq2 => ?_)
      · repeat (first | refine CT.next ?_ | refine JC.seq ?_ | refine JC.region ?_ | refine JO.nil ?_ | refine JO.go rfl ?_ | refine JR.val (by first | exact OpV.move | exact OpV.assign | exact OpV.load | exact OpV.fieldAddr | exact OpV.indexEl | exact OpV.len | exact OpV.lss | exact OpV.not | exact OpV.pick_true | exact OpV.pick_false | exact OpV.inc (by omega) | exact OpV.eql | exact OpV.neq | exact OpV.leq | exact OpV.gtr | exact OpV.geq | exact OpV.extract | exact OpV.makeFunc | exact OpV.addn (by omega) | exact OpV.add (by omega) | exact OpV.subn (by omega) | exact OpV.sub (by omega) | exact OpV.lens | exact OpV.eqlID | exact OpV.neqID | exact OpV.eqlEv | exact OpV.eqlOp | exact OpV.eqlStr | exact OpV.neqStr | exact OpV.eqlNil | exact OpV.eqlBool | exact OpV.neqBool) rfl ?_ | (refine JR.alloc rfl ?_; intro _) | (refine JR.box rfl ?_; intro _) | refine JR.store ?_ | refine JC.cond_true ?_ | refine JC.cond_false ?_ | refine JC.skip ?_ | refine JC.exit ?_ | refine JC.block ?_ | refine CT.past ?_ | refine CT.hit ?_ | refine CT.miss rfl ?_ | refine CT.blockEnd ?_ | refine JC.ret ?_ | refine CT.ret ?_ | refine CT.blockRet ?_ | refine JO.omit rfl rfl ?_ | (refine JR.lit rfl ⟨rfl, by decide, by decide, by decide⟩ ?_; intro _))
        refine CT.done () ?_ (fun w ho => ho.ent)
        have : ¬ L = M := fun h => by subst h; simp at hne
        simp [packed, this]
      · repeat (first | refine CT.next ?_ | refine JC.seq ?_ | refine JC.region ?_ | refine JO.nil ?_ | refine JO.go rfl ?_ | refine JR.val (by first | exact OpV.move | exact OpV.assign | exact OpV.load | exact OpV.fieldAddr | exact OpV.indexEl | exact OpV.len | exact OpV.lss | exact OpV.not | exact OpV.pick_true | exact OpV.pick_false | exact OpV.inc (by omega) | exact OpV.eql | exact OpV.neq | exact OpV.leq | exact OpV.gtr | exact OpV.geq | exact OpV.extract | exact OpV.makeFunc | exact OpV.addn (by omega) | exact OpV.add (by omega) | exact OpV.subn (by omega) | exact OpV.sub (by omega) | exact OpV.lens | exact OpV.eqlID | exact OpV.neqID | exact OpV.eqlEv | exact OpV.eqlOp | exact OpV.eqlStr | exact OpV.neqStr | exact OpV.eqlNil | exact OpV.eqlBool | exact OpV.neqBool) rfl ?_ | (refine JR.alloc rfl ?_; intro _) | (refine JR.box rfl ?_; intro _) | refine JR.store ?_ | refine JC.cond_true ?_ | refine JC.cond_false ?_ | refine JC.skip ?_ | refine JC.exit ?_ | refine JC.block ?_ | refine CT.past ?_ | refine CT.hit ?_ | refine CT.miss rfl ?_ | refine CT.blockEnd ?_ | refine JC.ret ?_ | refine CT.ret ?_ | refine CT.blockRet ?_ | refine JO.omit rfl rfl ?_ | (refine JR.lit rfl ⟨rfl, by decide, by decide, by decide⟩ ?_; intro _))
        refine ⟨k0 + 1, ⟨by omega, ?_⟩, by omega, inferInstance⟩
        have heq2 : L[k0] = M[k0] := by simpa using heq2
        rw [List.take_succ_eq_append_getElem hlt', List.take_succ_eq_append_getElem (by omega), heq, heq2]
    · have hk0 : k0 = L.length := by omega
      repeat (first | refine CT.next ?_ | refine JC.seq ?_ | refine JC.region ?_ | refine JO.nil ?_ | refine JO.go rfl ?_ | refine JR.val (by first | exact OpV.move | exact OpV.assign | exact OpV.load | exact OpV.fieldAddr | exact OpV.indexEl | exact OpV.len | exact OpV.lss | exact OpV.not | exact OpV.pick_true | exact OpV.pick_false | exact OpV.inc (by omega) | exact OpV.eql | exact OpV.neq | exact OpV.leq | exact OpV.gtr | exact OpV.geq | exact OpV.extract | exact OpV.makeFunc | exact OpV.addn (by omega) | exact OpV.add (by omega) | exact OpV.subn (by omega) | exact OpV.sub (by omega) | exact OpV.lens | exact OpV.eqlID | exact OpV.neqID | exact OpV.eqlEv | exact OpV.eqlOp | exact OpV.eqlStr | exact OpV.neqStr | exact OpV.eqlNil | exact OpV.eqlBool | exact OpV.neqBool) rfl ?_ | (refine JR.alloc rfl ?_; intro _) | (refine JR.box rfl ?_; intro _) | refine JR.store ?_ | refine JC.cond_true ?_ | refine JC.cond_false ?_ | refine JC.skip ?_ | refine JC.exit ?_ | refine JC.block ?_ | refine CT.past ?_ | refine CT.hit ?_ | refine CT.miss rfl ?_ | refine CT.blockEnd ?_ | refine JC.ret ?_ | refine CT.ret ?_ | refine CT.blockRet ?_ | refine JO.omit rfl rfl ?_ | (refine JR.lit rfl ⟨rfl, by decide, by decide, by decide⟩ ?_; intro _))
      refine CT.done () ?_ (fun w ho => ho.ent)
      have : L = M := by
        rw [List.take_of_length_le (by omega), List.take_of_length_le (by omega)] at heq
        exact heq
      simp [packed, this]

/-- At most 20 parents, and texts of at most 100 bytes. -/
def fewC (c : Commit) : Bool := decide (c.parents.length ≤ 20) && decide (c.op.key.size ≤ 100) && decide (c.op.elem.size ≤ 100)
theorem few_one (w : World) (F : Nat → Prop) (c : Commit) (a : Option Addr) (k : Nat) : GivesV Try.prog 10 [commitV c a k] w F (.bool (fewC c)) := by
  refine gives_of Try.func10 rfl Try.ntmps10 rfl rfl [] (.start w F) ?_
  repeat (first | refine CT.next ?_ | refine JC.seq ?_ | refine JC.region ?_ | refine JO.nil ?_ | refine JO.go rfl ?_ | refine JR.val (by first | exact OpV.move | exact OpV.assign | exact OpV.load | exact OpV.fieldAddr | exact OpV.indexEl | exact OpV.len | exact OpV.lss | exact OpV.not | exact OpV.pick_true | exact OpV.pick_false | exact OpV.inc (by omega) | exact OpV.eql | exact OpV.neq | exact OpV.leq | exact OpV.gtr | exact OpV.geq | exact OpV.extract | exact OpV.makeFunc | exact OpV.addn (by omega) | exact OpV.add (by omega) | exact OpV.subn (by omega) | exact OpV.sub (by omega) | exact OpV.lens | exact OpV.eqlID | exact OpV.neqID | exact OpV.eqlEv | exact OpV.eqlOp | exact OpV.eqlStr | exact OpV.neqStr | exact OpV.eqlNil | exact OpV.eqlBool | exact OpV.neqBool) rfl ?_ | (refine JR.alloc rfl ?_; intro _) | (refine JR.box rfl ?_; intro _) | refine JR.store ?_ | refine JC.cond_true ?_ | refine JC.cond_false ?_ | refine JC.skip ?_ | refine JC.exit ?_ | refine JC.block ?_ | refine CT.past ?_ | refine CT.hit ?_ | refine CT.miss rfl ?_ | refine CT.blockEnd ?_ | refine JC.ret ?_ | refine CT.ret ?_ | refine CT.blockRet ?_ | refine JO.omit rfl rfl ?_ | (refine JR.lit rfl ⟨rfl, by decide, by decide, by decide⟩ ?_; intro _))
  refine JO.test 7 (fun h1 => ?_) (fun h1 => ?_)
  · repeat (first | refine CT.next ?_ | refine JC.seq ?_ | refine JC.region ?_ | refine JO.nil ?_ | refine JO.go rfl ?_ | refine JR.val (by first | exact OpV.move | exact OpV.assign | exact OpV.load | exact OpV.fieldAddr | exact OpV.indexEl | exact OpV.len | exact OpV.lss | exact OpV.not | exact OpV.pick_true | exact OpV.pick_false | exact OpV.inc (by omega) | exact OpV.eql | exact OpV.neq | exact OpV.leq | exact OpV.gtr | exact OpV.geq | exact OpV.extract | exact OpV.makeFunc | exact OpV.addn (by omega) | exact OpV.add (by omega) | exact OpV.subn (by omega) | exact OpV.sub (by omega) | exact OpV.lens | exact OpV.eqlID | exact OpV.neqID | exact OpV.eqlEv | exact OpV.eqlOp | exact OpV.eqlStr | exact OpV.neqStr | exact OpV.eqlNil | exact OpV.eqlBool | exact OpV.neqBool) rfl ?_ | (refine JR.alloc rfl ?_; intro _) | (refine JR.box rfl ?_; intro _) | refine JR.store ?_ | refine JC.cond_true ?_ | refine JC.cond_false ?_ | refine JC.skip ?_ | refine JC.exit ?_ | refine JC.block ?_ | refine CT.past ?_ | refine CT.hit ?_ | refine CT.miss rfl ?_ | refine CT.blockEnd ?_ | refine JC.ret ?_ | refine CT.ret ?_ | refine CT.blockRet ?_ | refine JO.omit rfl rfl ?_ | (refine JR.lit rfl ⟨rfl, by decide, by decide, by decide⟩ ?_; intro _))
    refine JO.test 14 (fun h2 => ?_) (fun h2 => ?_)
    · repeat (first | refine CT.next ?_ | refine JC.seq ?_ | refine JC.region ?_ | refine JO.nil ?_ | refine JO.go rfl ?_ | refine JR.val (by first | exact OpV.move | exact OpV.assign | exact OpV.load | exact OpV.fieldAddr | exact OpV.indexEl | exact OpV.len | exact OpV.lss | exact OpV.not | exact OpV.pick_true | exact OpV.pick_false | exact OpV.inc (by omega) | exact OpV.eql | exact OpV.neq | exact OpV.leq | exact OpV.gtr | exact OpV.geq | exact OpV.extract | exact OpV.makeFunc | exact OpV.addn (by omega) | exact OpV.add (by omega) | exact OpV.subn (by omega) | exact OpV.sub (by omega) | exact OpV.lens | exact OpV.eqlID | exact OpV.neqID | exact OpV.eqlEv | exact OpV.eqlOp | exact OpV.eqlStr | exact OpV.neqStr | exact OpV.eqlNil | exact OpV.eqlBool | exact OpV.neqBool) rfl ?_ | (refine JR.alloc rfl ?_; intro _) | (refine JR.box rfl ?_; intro _) | refine JR.store ?_ | refine JC.cond_true ?_ | refine JC.cond_false ?_ | refine JC.skip ?_ | refine JC.exit ?_ | refine JC.block ?_ | refine CT.past ?_ | refine CT.hit ?_ | refine CT.miss rfl ?_ | refine CT.blockEnd ?_ | refine JC.ret ?_ | refine CT.ret ?_ | refine CT.blockRet ?_ | refine JO.omit rfl rfl ?_ | (refine JR.lit rfl ⟨rfl, by decide, by decide, by decide⟩ ?_; intro _))
      refine CT.done () ?_ (fun w ho => ho.ent)
      have h1 : c.parents.length ≤ 20 := by omega
      have h2 : c.op.key.size ≤ 100 := by omega
      have h3 : ((c.op.elem.size : Int) ≤ 100) ↔ c.op.elem.size ≤ 100 := by omega
      simp [packed, fewC, h1, h2, h3]
    · repeat (first | refine CT.next ?_ | refine JC.seq ?_ | refine JC.region ?_ | refine JO.nil ?_ | refine JO.go rfl ?_ | refine JR.val (by first | exact OpV.move | exact OpV.assign | exact OpV.load | exact OpV.fieldAddr | exact OpV.indexEl | exact OpV.len | exact OpV.lss | exact OpV.not | exact OpV.pick_true | exact OpV.pick_false | exact OpV.inc (by omega) | exact OpV.eql | exact OpV.neq | exact OpV.leq | exact OpV.gtr | exact OpV.geq | exact OpV.extract | exact OpV.makeFunc | exact OpV.addn (by omega) | exact OpV.add (by omega) | exact OpV.subn (by omega) | exact OpV.sub (by omega) | exact OpV.lens | exact OpV.eqlID | exact OpV.neqID | exact OpV.eqlEv | exact OpV.eqlOp | exact OpV.eqlStr | exact OpV.neqStr | exact OpV.eqlNil | exact OpV.eqlBool | exact OpV.neqBool) rfl ?_ | (refine JR.alloc rfl ?_; intro _) | (refine JR.box rfl ?_; intro _) | refine JR.store ?_ | refine JC.cond_true ?_ | refine JC.cond_false ?_ | refine JC.skip ?_ | refine JC.exit ?_ | refine JC.block ?_ | refine CT.past ?_ | refine CT.hit ?_ | refine CT.miss rfl ?_ | refine CT.blockEnd ?_ | refine JC.ret ?_ | refine CT.ret ?_ | refine CT.blockRet ?_ | refine JO.omit rfl rfl ?_ | (refine JR.lit rfl ⟨rfl, by decide, by decide, by decide⟩ ?_; intro _))
      refine CT.done () ?_ (fun w ho => ho.ent)
      have h2 : ¬ c.op.key.size ≤ 100 := by omega
      simp [packed, fewC, h2]
  · repeat (first | refine CT.next ?_ | refine JC.seq ?_ | refine JC.region ?_ | refine JO.nil ?_ | refine JO.go rfl ?_ | refine JR.val (by first | exact OpV.move | exact OpV.assign | exact OpV.load | exact OpV.fieldAddr | exact OpV.indexEl | exact OpV.len | exact OpV.lss | exact OpV.not | exact OpV.pick_true | exact OpV.pick_false | exact OpV.inc (by omega) | exact OpV.eql | exact OpV.neq | exact OpV.leq | exact OpV.gtr | exact OpV.geq | exact OpV.extract | exact OpV.makeFunc | exact OpV.addn (by omega) | exact OpV.add (by omega) | exact OpV.subn (by omega) | exact OpV.sub (by omega) | exact OpV.lens | exact OpV.eqlID | exact OpV.neqID | exact OpV.eqlEv | exact OpV.eqlOp | exact OpV.eqlStr | exact OpV.neqStr | exact OpV.eqlNil | exact OpV.eqlBool | exact OpV.neqBool) rfl ?_ | (refine JR.alloc rfl ?_; intro _) | (refine JR.box rfl ?_; intro _) | refine JR.store ?_ | refine JC.cond_true ?_ | refine JC.cond_false ?_ | refine JC.skip ?_ | refine JC.exit ?_ | refine JC.block ?_ | refine CT.past ?_ | refine CT.hit ?_ | refine CT.miss rfl ?_ | refine CT.blockEnd ?_ | refine JC.ret ?_ | refine CT.ret ?_ | refine CT.blockRet ?_ | refine JO.omit rfl rfl ?_ | (refine JR.lit rfl ⟨rfl, by decide, by decide, by decide⟩ ?_; intro _))
    refine CT.done () ?_ (fun w ho => ho.ent)
    have h1 : ¬ c.parents.length ≤ 20 := by omega
    simp [packed, fewC, h1]

def fewL (L : List Commit) (m : Nat) : Bool := decide (L.length ≤ m) && L.all fewC
theorem few_all (w : World) (F : Nat → Prop) (a : Option Addr) (c : Nat) (L : List Commit) (m : Nat) (h : (sl a c L).holds F w) :
    GivesV Try.prog 9 [.slice a L.length c, .int .i64 (m : Int)] w F (.bool (fewL L m)) := by
  have hL : L.length < 9223372036854775807 := by have := h.2.2.1; simp only [lim] at this; omega
  refine gives_of Try.func9 rfl Try.ntmps9 rfl rfl [.st (sl a c L)] (.start1 h) ?_
  repeat (first | refine CT.next ?_ | refine JC.seq ?_ | refine JC.region ?_ | refine JO.nil ?_ | refine JO.go rfl ?_ | refine JR.val (by first | exact OpV.move | exact OpV.assign | exact OpV.load | exact OpV.fieldAddr | exact OpV.indexEl | exact OpV.len | exact OpV.lss | exact OpV.not | exact OpV.pick_true | exact OpV.pick_false | exact OpV.inc (by omega) | exact OpV.eql | exact OpV.neq | exact OpV.leq | exact OpV.gtr | exact OpV.geq | exact OpV.extract | exact OpV.makeFunc | exact OpV.addn (by omega) | exact OpV.add (by omega) | exact OpV.subn (by omega) | exact OpV.sub (by omega) | exact OpV.lens | exact OpV.eqlID | exact OpV.neqID | exact OpV.eqlEv | exact OpV.eqlOp | exact OpV.eqlStr | exact OpV.neqStr | exact OpV.eqlNil | exact OpV.eqlBool | exact OpV.neqBool) rfl ?_ | (refine JR.alloc rfl ?_; intro _) | (refine JR.box rfl ?_; intro _) | refine JR.store ?_ | refine JC.cond_true ?_ | refine JC.cond_false ?_ | refine JC.skip ?_ | refine JC.exit ?_ | refine JC.block ?_ | refine CT.past ?_ | refine CT.hit ?_ | refine CT.miss rfl ?_ | refine CT.blockEnd ?_ | refine JC.ret ?_ | refine CT.ret ?_ | refine CT.blockRet ?_ | refine JO.omit rfl rfl ?_ | (refine JR.lit rfl ⟨rfl, by decide, by decide, by decide⟩ ?_; intro _))
  refine JC.test (fun h1 => ?_) (fun h1 => ?_)
  · repeat (first | refine CT.next ?_ | refine JC.seq ?_ | refine JC.region ?_ | refine JO.nil ?_ | refine JO.go rfl ?_ | refine JR.val (by first | exact OpV.move | exact OpV.assign | exact OpV.load | exact OpV.fieldAddr | exact OpV.indexEl | exact OpV.len | exact OpV.lss | exact OpV.not | exact OpV.pick_true | exact OpV.pick_false | exact OpV.inc (by omega) | exact OpV.eql | exact OpV.neq | exact OpV.leq | exact OpV.gtr | exact OpV.geq | exact OpV.extract | exact OpV.makeFunc | exact OpV.addn (by omega) | exact OpV.add (by omega) | exact OpV.subn (by omega) | exact OpV.sub (by omega) | exact OpV.lens | exact OpV.eqlID | exact OpV.neqID | exact OpV.eqlEv | exact OpV.eqlOp | exact OpV.eqlStr | exact OpV.neqStr | exact OpV.eqlNil | exact OpV.eqlBool | exact OpV.neqBool) rfl ?_ | (refine JR.alloc rfl ?_; intro _) | (refine JR.box rfl ?_; intro _) | refine JR.store ?_ | refine JC.cond_true ?_ | refine JC.cond_false ?_ | refine JC.skip ?_ | refine JC.exit ?_ | refine JC.block ?_ | refine CT.past ?_ | refine CT.hit ?_ | refine CT.miss rfl ?_ | refine CT.blockEnd ?_ | refine JC.ret ?_ | refine CT.ret ?_ | refine CT.blockRet ?_ | refine JO.omit rfl rfl ?_ | (refine JR.lit rfl ⟨rfl, by decide, by decide, by decide⟩ ?_; intro _))
    refine CT.done () ?_ (fun w ho => ho.ent)
    have h1 : ¬ L.length ≤ m := by omega
    simp [packed, fewL, h1]
  · have h1 : L.length ≤ m := by omega
    repeat (first | refine CT.next ?_ | refine JC.seq ?_ | refine JC.region ?_ | refine JO.nil ?_ | refine JO.go rfl ?_ | refine JR.val (by first | exact OpV.move | exact OpV.assign | exact OpV.load | exact OpV.fieldAddr | exact OpV.indexEl | exact OpV.len | exact OpV.lss | exact OpV.not | exact OpV.pick_true | exact OpV.pick_false | exact OpV.inc (by omega) | exact OpV.eql | exact OpV.neq | exact OpV.leq | exact OpV.gtr | exact OpV.geq | exact OpV.extract | exact OpV.makeFunc | exact OpV.addn (by omega) | exact OpV.add (by omega) | exact OpV.subn (by omega) | exact OpV.sub (by omega) | exact OpV.lens | exact OpV.eqlID | exact OpV.neqID | exact OpV.eqlEv | exact OpV.eqlOp | exact OpV.eqlStr | exact OpV.neqStr | exact OpV.eqlNil | exact OpV.eqlBool | exact OpV.neqBool) rfl ?_ | (refine JR.alloc rfl ?_; intro _) | (refine JR.box rfl ?_; intro _) | refine JR.store ?_ | refine JC.cond_true ?_ | refine JC.cond_false ?_ | refine JC.skip ?_ | refine JC.exit ?_ | refine JC.block ?_ | refine CT.past ?_ | refine CT.hit ?_ | refine CT.miss rfl ?_ | refine CT.blockEnd ?_ | refine JC.ret ?_ | refine CT.ret ?_ | refine CT.blockRet ?_ | refine JO.omit rfl rfl ?_ | (refine JR.lit rfl ⟨rfl, by decide, by decide, by decide⟩ ?_; intro _))
    refine JC.loop1 (fun k0 : Nat => [(0, .slice a L.length c), (5, .int .i64 (k0 : Int))]) (fun _ => [.st (sl a c L)])
      (fun k0 => k0 ≤ L.length ∧ (L.take k0).all fewC = true) (fun k0 => L.length - k0) 0 ⟨Nat.zero_le _, rfl⟩ inferInstance ?_
    intro k0 ⟨hk, heq⟩
    repeat (first | refine CT.next ?_ | refine JC.seq ?_ | refine JC.region ?_ | refine JO.nil ?_ | refine JO.go rfl ?_ | refine JR.val (by first | exact OpV.move | exact OpV.assign | exact OpV.load | exact OpV.fieldAddr | exact OpV.indexEl | exact OpV.len | exact OpV.lss | exact OpV.not | exact OpV.pick_true | exact OpV.pick_false | exact OpV.inc (by omega) | exact OpV.eql | exact OpV.neq | exact OpV.leq | exact OpV.gtr | exact OpV.geq | exact OpV.extract | exact OpV.makeFunc | exact OpV.addn (by omega) | exact OpV.add (by omega) | exact OpV.subn (by omega) | exact OpV.sub (by omega) | exact OpV.lens | exact OpV.eqlID | exact OpV.neqID | exact OpV.eqlEv | exact OpV.eqlOp | exact OpV.eqlStr | exact OpV.neqStr | exact OpV.eqlNil | exact OpV.eqlBool | exact OpV.neqBool) rfl ?_ | (refine JR.alloc rfl ?_; intro _) | (refine JR.box rfl ?_; intro _) | refine JR.store ?_ | refine JC.cond_true ?_ | refine JC.cond_false ?_ | refine JC.skip ?_ | refine JC.exit ?_ | refine JC.block ?_ | refine CT.past ?_ | refine CT.hit ?_ | refine CT.miss rfl ?_ | refine CT.blockEnd ?_ | refine JC.ret ?_ | refine CT.ret ?_ | refine CT.blockRet ?_ | refine JO.omit rfl rfl ?_ | (refine JR.lit rfl ⟨rfl, by decide, by decide, by decide⟩ ?_; intro _))
    refine JC.test (fun hlt => ?_) (fun hge => ?_)
    · have hlt' : k0 < L.length := by omega
      repeat (first | refine CT.next ?_ | refine JC.seq ?_ | refine JC.region ?_ | refine JO.nil ?_ | refine JO.go rfl ?_ | refine JR.val (by first | exact OpV.move | exact OpV.assign | exact OpV.load | exact OpV.fieldAddr | exact OpV.indexEl | exact OpV.len | exact OpV.lss | exact OpV.not | exact OpV.pick_true | exact OpV.pick_false | exact OpV.inc (by omega) | exact OpV.eql | exact OpV.neq | exact OpV.leq | exact OpV.gtr | exact OpV.geq | exact OpV.extract | exact OpV.makeFunc | exact OpV.addn (by omega) | exact OpV.add (by omega) | exact OpV.subn (by omega) | exact OpV.sub (by omega) | exact OpV.lens | exact OpV.eqlID | exact OpV.neqID | exact OpV.eqlEv | exact OpV.eqlOp | exact OpV.eqlStr | exact OpV.neqStr | exact OpV.eqlNil | exact OpV.eqlBool | exact OpV.neqBool) rfl ?_ | (refine JR.alloc rfl ?_; intro _) | (refine JR.box rfl ?_; intro _) | refine JR.store ?_ | refine JC.cond_true ?_ | refine JC.cond_false ?_ | refine JC.skip ?_ | refine JC.exit ?_ | refine JC.block ?_ | refine CT.past ?_ | refine CT.hit ?_ | refine CT.miss rfl ?_ | refine CT.blockEnd ?_ | refine JC.ret ?_ | refine CT.ret ?_ | refine CT.blockRet ?_ | refine JO.omit rfl rfl ?_ | (refine JR.lit rfl ⟨rfl, by decide, by decide, by decide⟩ ?_; intro _))
      refine JR.indexCommit rfl hlt' ?_
      intro b1 o1 p1 q1
      repeat (first | refine CT.next ?_ | refine JC.seq ?_ | refine JC.region ?_ | refine JO.nil ?_ | refine JO.go rfl ?_ | refine JR.val (by first | exact OpV.move | exact OpV.assign | exact OpV.load | exact OpV.fieldAddr | exact OpV.indexEl | exact OpV.len | exact OpV.lss | exact OpV.not | exact OpV.pick_true | exact OpV.pick_false | exact OpV.inc (by omega) | exact OpV.eql | exact OpV.neq | exact OpV.leq | exact OpV.gtr | exact OpV.geq | exact OpV.extract | exact OpV.makeFunc | exact OpV.addn (by omega) | exact OpV.add (by omega) | exact OpV.subn (by omega) | exact OpV.sub (by omega) | exact OpV.lens | exact OpV.eqlID | exact OpV.neqID | exact OpV.eqlEv | exact OpV.eqlOp | exact OpV.eqlStr | exact OpV.neqStr | exact OpV.eqlNil | exact OpV.eqlBool | exact OpV.neqBool) rfl ?_ | (refine JR.alloc rfl ?_; intro _) | (refine JR.box rfl ?_; intro _) | refine JR.store ?_ | refine JC.cond_true ?_ | refine JC.cond_false ?_ | refine JC.skip ?_ | refine JC.exit ?_ | refine JC.block ?_ | refine CT.past ?_ | refine CT.hit ?_ | refine CT.miss rfl ?_ | refine CT.blockEnd ?_ | refine JC.ret ?_ | refine CT.ret ?_ | refine CT.blockRet ?_ | refine JO.omit rfl rfl ?_ | (refine JR.lit rfl ⟨rfl, by decide, by decide, by decide⟩ ?_; intro _))
      refine JR.callV rfl (fun w1 hw => few_one w1 _ L[k0] p1 q1) ?_
      repeat (first | refine CT.next ?_ | refine JC.seq ?_ | refine JC.region ?_ | refine JO.nil ?_ | refine JO.go rfl ?_ | refine JR.val (by first | exact OpV.move | exact OpV.assign | exact OpV.load | exact OpV.fieldAddr | exact OpV.indexEl | exact OpV.len | exact OpV.lss | exact OpV.not | exact OpV.pick_true | exact OpV.pick_false | exact OpV.inc (by omega) | exact OpV.eql | exact OpV.neq | exact OpV.leq | exact OpV.gtr | exact OpV.geq | exact OpV.extract | exact OpV.makeFunc | exact OpV.addn (by omega) | exact OpV.add (by omega) | exact OpV.subn (by omega) | exact OpV.sub (by omega) | exact OpV.lens | exact OpV.eqlID | exact OpV.neqID | exact OpV.eqlEv | exact OpV.eqlOp | exact OpV.eqlStr | exact OpV.neqStr | exact OpV.eqlNil | exact OpV.eqlBool | exact OpV.neqBool) rfl ?_ | (refine JR.alloc rfl ?_; intro _) | (refine JR.box rfl ?_; intro _) | refine JR.store ?_ | refine JC.cond_true ?_ | refine JC.cond_false ?_ | refine JC.skip ?_ | refine JC.exit ?_ | refine JC.block ?_ | refine CT.past ?_ | refine CT.hit ?_ | refine CT.miss rfl ?_ | refine CT.blockEnd ?_ | refine JC.ret ?_ | refine CT.ret ?_ | refine CT.blockRet ?_ | refine JO.omit rfl rfl ?_ | (refine JR.lit rfl ⟨rfl, by decide, by decide, by decide⟩ ?_; intro _))
      refine JC.test (fun hne => ?_) (fun heq2 => ?_)
      · repeat (first | refine CT.next ?_ | refine JC.seq ?_ | refine JC.region ?_ | refine JO.nil ?_ | refine JO.go rfl ?_ | refine JR.val (by first | exact OpV.move | exact OpV.assign | exact OpV.load | exact OpV.fieldAddr | exact OpV.indexEl | exact OpV.len | exact OpV.lss | exact OpV.not | exact OpV.pick_true | exact OpV.pick_false | exact OpV.inc (by omega) | exact OpV.eql | exact OpV.neq | exact OpV.leq | exact OpV.gtr | exact OpV.geq | exact OpV.extract | exact OpV.makeFunc | exact OpV.addn (by omega) | exact OpV.add (by omega) | exact OpV.subn (by omega) | exact OpV.sub (by omega) | exact OpV.lens | exact OpV.eqlID | exact OpV.neqID | exact OpV.eqlEv | exact OpV.eqlOp | exact OpV.eqlStr | exact OpV.neqStr | exact OpV.eqlNil | exact OpV.eqlBool | exact OpV.neqBool) rfl ?_ | (refine JR.alloc rfl ?_; intro _) | (refine JR.box rfl ?_; intro _) | refine JR.store ?_ | refine JC.cond_true ?_ | refine JC.cond_false ?_ | refine JC.skip ?_ | refine JC.exit ?_ | refine JC.block ?_ | refine CT.past ?_ | refine CT.hit ?_ | refine CT.miss rfl ?_ | refine CT.blockEnd ?_ | refine JC.ret ?_ | refine CT.ret ?_ | refine CT.blockRet ?_ | refine JO.omit rfl rfl ?_ | (refine JR.lit rfl ⟨rfl, by decide, by decide, by decide⟩ ?_; intro _))
        refine CT.done () ?_ (fun w ho => ho.ent)
        have h3 : L.all fewC = false := by
          rw [← Bool.not_eq_true]
          intro h4
          exact hne (List.all_eq_true.1 h4 _ (List.getElem_mem hlt'))
        simp only [packed, fewL, h3, Bool.and_false]
      · repeat (first | refine CT.next ?_ | refine JC.seq ?_ | refine JC.region ?_ | refine JO.nil ?_ | refine JO.go rfl ?_ | refine JR.val (by first | exact OpV.move | exact OpV.assign | exact OpV.load | exact OpV.fieldAddr | exact OpV.indexEl | exact OpV.len | exact OpV.lss | exact OpV.not | exact OpV.pick_true | exact OpV.pick_false | exact OpV.inc (by omega) | exact OpV.eql | exact OpV.neq | exact OpV.leq | exact OpV.gtr | exact OpV.geq | exact OpV.extract | exact OpV.makeFunc | exact OpV.addn (by omega) | exact OpV.add (by omega) | exact OpV.subn (by omega) | exact OpV.sub (by omega) | exact OpV.lens | exact OpV.eqlID | exact OpV.neqID | exact OpV.eqlEv | exact OpV.eqlOp | exact OpV.eqlStr | exact OpV.neqStr | exact OpV.eqlNil | exact OpV.eqlBool | exact OpV.neqBool) rfl ?_ | (refine JR.alloc rfl ?_; intro _) | (refine JR.box rfl ?_; intro _) | refine JR.store ?_ | refine JC.cond_true ?_ | refine JC.cond_false ?_ | refine JC.skip ?_ | refine JC.exit ?_ | refine JC.block ?_ | refine CT.past ?_ | refine CT.hit ?_ | refine CT.miss rfl ?_ | refine CT.blockEnd ?_ | refine JC.ret ?_ | refine CT.ret ?_ | refine CT.blockRet ?_ | refine JO.omit rfl rfl ?_ | (refine JR.lit rfl ⟨rfl, by decide, by decide, by decide⟩ ?_; intro _))
        refine ⟨k0 + 1, ⟨by omega, ?_⟩, by omega, inferInstance⟩
        have heq2 : fewC L[k0] = true := by simpa using heq2
        rw [List.take_succ_eq_append_getElem hlt', List.all_append, heq]
        simp [heq2]
    · have hk0 : k0 = L.length := by omega
      subst hk0
      rw [List.take_length] at heq
      repeat (first | refine CT.next ?_ | refine JC.seq ?_ | refine JC.region ?_ | refine JO.nil ?_ | refine JO.go rfl ?_ | refine JR.val (by first | exact OpV.move | exact OpV.assign | exact OpV.load | exact OpV.fieldAddr | exact OpV.indexEl | exact OpV.len | exact OpV.lss | exact OpV.not | exact OpV.pick_true | exact OpV.pick_false | exact OpV.inc (by omega) | exact OpV.eql | exact OpV.neq | exact OpV.leq | exact OpV.gtr | exact OpV.geq | exact OpV.extract | exact OpV.makeFunc | exact OpV.addn (by omega) | exact OpV.add (by omega) | exact OpV.subn (by omega) | exact OpV.sub (by omega) | exact OpV.lens | exact OpV.eqlID | exact OpV.neqID | exact OpV.eqlEv | exact OpV.eqlOp | exact OpV.eqlStr | exact OpV.neqStr | exact OpV.eqlNil | exact OpV.eqlBool | exact OpV.neqBool) rfl ?_ | (refine JR.alloc rfl ?_; intro _) | (refine JR.box rfl ?_; intro _) | refine JR.store ?_ | refine JC.cond_true ?_ | refine JC.cond_false ?_ | refine JC.skip ?_ | refine JC.exit ?_ | refine JC.block ?_ | refine CT.past ?_ | refine CT.hit ?_ | refine CT.miss rfl ?_ | refine CT.blockEnd ?_ | refine JC.ret ?_ | refine CT.ret ?_ | refine CT.blockRet ?_ | refine JO.omit rfl rfl ?_ | (refine JR.lit rfl ⟨rfl, by decide, by decide, by decide⟩ ?_; intro _))
      refine CT.done () ?_ (fun w ho => ho.ent)
      simp only [packed, fewL, heq, h1, decide_true, Bool.and_self]
end Ab
end Go.Proofs.Ytcmfemfndadfmaa

/- Contracts: the laws' two commits. -/
namespace Go.Proofs.Ytcmfemfndadfmaa
namespace Ab
open Go Go.RowKit
set_option linter.unusedVariables false
set_option linter.unusedSimpArgs false
set_option synthInstance.maxSize 4000
set_option synthInstance.maxHeartbeats 400000
attribute [local irreducible] JC JO JR JQ andThen inBlock OpV Gives retTo JM JS

attribute [local irreducible] hashC
theorem Hold.pubRow {α : Type} [ic : Cell α] {w0 w : World} {F : Nat → Prop} {Γ : List Fact} {b : Nat} {t : TypeId} {vs : List Value} (r : List (α × Cell.Ix α)) (h : Hold w0 F (.own b t vs :: Γ) w) (hvs : vs = flat r)
    (hf : ∀ p ∈ r, ∀ A ∈ Cell.facts p.1 p.2, .st A ∈ Γ) (hl : r.length ≤ 1048576) : Hold w0 F (.st (sl (some ⟨b, 0, none⟩) r.length (r.map (·.1))) :: Γ) w := by
  have hw : w.heap[b]? = some (.cells vs.toArray t (0, 0)) := h.sat (.own b t _) (by simp)
  refine h.publish fun hk => ?_
  have hb := hk b (.inr rfl)
  refine ⟨by simp, by simp only [maxLen]; omega, by simp only [List.length_map, lim]; omega, fun hne => ⟨b, 0, rfl, hb, (Array.getElem?_eq_some_iff.1 hw).1, fun i hi => ?_⟩⟩
  have hi' : i < r.length := by simpa using hi
  refine ⟨(r[i]).2, ?_, fun A hA => ?_⟩
  · intro j v hv
    simp only [List.getElem_map] at hv
    have := flat_at r i hi' j v hv
    rw [cell_of_row w b _ _ _ _ hw, hvs]
    simpa using this
  · simp only [List.getElem_map] at hA
    exact h.tail.sat (.st A) (hf _ (List.getElem_mem hi') A hA)

def keyA : ByteArray := ⟨#[97]⟩
def l0 : Commit := ⟨⟨0, 1⟩, 1, [], ⟨0, keyA, .empty, 1⟩⟩
def idA : ID := (hashC l0).1
def l1 : Commit := ⟨⟨0, 2⟩, 2, [idA], ⟨0, keyA, .empty, 2⟩⟩

theorem some_law (w : World) (F : Nat → Prop) : GivesV Try.prog 39 [] w F (commitV l0 none 0) := by
  refine gives_of Try.func39 rfl Try.ntmps39 rfl rfl [] (.start w F) ?_
  repeat (first | refine CT.next ?_ | refine JC.seq ?_ | refine JC.region ?_ | refine JO.nil ?_ | refine JO.go rfl ?_ | refine JR.val (by first | exact OpV.move | exact OpV.assign | exact OpV.load | exact OpV.fieldAddr | exact OpV.indexEl | exact OpV.len | exact OpV.lss | exact OpV.not | exact OpV.pick_true | exact OpV.pick_false | exact OpV.inc (by omega) | exact OpV.eql | exact OpV.neq | exact OpV.leq | exact OpV.gtr | exact OpV.geq | exact OpV.extract | exact OpV.makeFunc | exact OpV.addn (by omega) | exact OpV.add (by omega) | exact OpV.subn (by omega) | exact OpV.sub (by omega) | exact OpV.lens | exact OpV.eqlID | exact OpV.neqID | exact OpV.eqlEv | exact OpV.eqlOp | exact OpV.eqlStr | exact OpV.neqStr | exact OpV.eqlNil | exact OpV.eqlBool | exact OpV.neqBool) rfl ?_ | (refine JR.alloc rfl ?_; intro _) | (refine JR.box rfl ?_; intro _) | refine JR.store ?_ | refine JC.cond_true ?_ | refine JC.cond_false ?_ | refine JC.skip ?_ | refine JC.exit ?_ | refine JC.block ?_ | refine CT.past ?_ | refine CT.hit ?_ | refine CT.miss rfl ?_ | refine CT.blockEnd ?_ | refine JC.ret ?_ | refine CT.ret ?_ | refine CT.blockRet ?_ | refine JO.omit rfl rfl ?_ | (refine JR.lit rfl ⟨rfl, by decide, by decide, by decide⟩ ?_; intro _))
  refine JR.val (OpV.build [.int .i64 0, .int .i64 1] (by kernel_rfl)) rfl ?_
  repeat (first | refine CT.next ?_ | refine JC.seq ?_ | refine JC.region ?_ | refine JO.nil ?_ | refine JO.go rfl ?_ | refine JR.val (by first | exact OpV.move | exact OpV.assign | exact OpV.load | exact OpV.fieldAddr | exact OpV.indexEl | exact OpV.len | exact OpV.lss | exact OpV.not | exact OpV.pick_true | exact OpV.pick_false | exact OpV.inc (by omega) | exact OpV.eql | exact OpV.neq | exact OpV.leq | exact OpV.gtr | exact OpV.geq | exact OpV.extract | exact OpV.makeFunc | exact OpV.addn (by omega) | exact OpV.add (by omega) | exact OpV.subn (by omega) | exact OpV.sub (by omega) | exact OpV.lens | exact OpV.eqlID | exact OpV.neqID | exact OpV.eqlEv | exact OpV.eqlOp | exact OpV.eqlStr | exact OpV.neqStr | exact OpV.eqlNil | exact OpV.eqlBool | exact OpV.neqBool) rfl ?_ | (refine JR.alloc rfl ?_; intro _) | (refine JR.box rfl ?_; intro _) | refine JR.store ?_ | refine JC.cond_true ?_ | refine JC.cond_false ?_ | refine JC.skip ?_ | refine JC.exit ?_ | refine JC.block ?_ | refine CT.past ?_ | refine CT.hit ?_ | refine CT.miss rfl ?_ | refine CT.blockEnd ?_ | refine JC.ret ?_ | refine CT.ret ?_ | refine CT.blockRet ?_ | refine JO.omit rfl rfl ?_ | (refine JR.lit rfl ⟨rfl, by decide, by decide, by decide⟩ ?_; intro _))
  refine JR.val (OpV.build [.int .i64 0, .string keyA, .string .empty, .int .i64 1] (by kernel_rfl)) rfl ?_
  repeat (first | refine CT.next ?_ | refine JC.seq ?_ | refine JC.region ?_ | refine JO.nil ?_ | refine JO.go rfl ?_ | refine JR.val (by first | exact OpV.move | exact OpV.assign | exact OpV.load | exact OpV.fieldAddr | exact OpV.indexEl | exact OpV.len | exact OpV.lss | exact OpV.not | exact OpV.pick_true | exact OpV.pick_false | exact OpV.inc (by omega) | exact OpV.eql | exact OpV.neq | exact OpV.leq | exact OpV.gtr | exact OpV.geq | exact OpV.extract | exact OpV.makeFunc | exact OpV.addn (by omega) | exact OpV.add (by omega) | exact OpV.subn (by omega) | exact OpV.sub (by omega) | exact OpV.lens | exact OpV.eqlID | exact OpV.neqID | exact OpV.eqlEv | exact OpV.eqlOp | exact OpV.eqlStr | exact OpV.neqStr | exact OpV.eqlNil | exact OpV.eqlBool | exact OpV.neqBool) rfl ?_ | (refine JR.alloc rfl ?_; intro _) | (refine JR.box rfl ?_; intro _) | refine JR.store ?_ | refine JC.cond_true ?_ | refine JC.cond_false ?_ | refine JC.skip ?_ | refine JC.exit ?_ | refine JC.block ?_ | refine CT.past ?_ | refine CT.hit ?_ | refine CT.miss rfl ?_ | refine CT.blockEnd ?_ | refine JC.ret ?_ | refine CT.ret ?_ | refine CT.blockRet ?_ | refine JO.omit rfl rfl ?_ | (refine JR.lit rfl ⟨rfl, by decide, by decide, by decide⟩ ?_; intro _))
  refine JR.val (OpV.build [.int .i64 0, .int .i64 1, .int .i64 1, .slice none 0 0, .int .i64 0, .string keyA, .string .empty, .int .i64 1] (by kernel_rfl)) rfl ?_
  repeat (first | refine CT.next ?_ | refine JC.seq ?_ | refine JC.region ?_ | refine JO.nil ?_ | refine JO.go rfl ?_ | refine JR.val (by first | exact OpV.move | exact OpV.assign | exact OpV.load | exact OpV.fieldAddr | exact OpV.indexEl | exact OpV.len | exact OpV.lss | exact OpV.not | exact OpV.pick_true | exact OpV.pick_false | exact OpV.inc (by omega) | exact OpV.eql | exact OpV.neq | exact OpV.leq | exact OpV.gtr | exact OpV.geq | exact OpV.extract | exact OpV.makeFunc | exact OpV.addn (by omega) | exact OpV.add (by omega) | exact OpV.subn (by omega) | exact OpV.sub (by omega) | exact OpV.lens | exact OpV.eqlID | exact OpV.neqID | exact OpV.eqlEv | exact OpV.eqlOp | exact OpV.eqlStr | exact OpV.neqStr | exact OpV.eqlNil | exact OpV.eqlBool | exact OpV.neqBool) rfl ?_ | (refine JR.alloc rfl ?_; intro _) | (refine JR.box rfl ?_; intro _) | refine JR.store ?_ | refine JC.cond_true ?_ | refine JC.cond_false ?_ | refine JC.skip ?_ | refine JC.exit ?_ | refine JC.block ?_ | refine CT.past ?_ | refine CT.hit ?_ | refine CT.miss rfl ?_ | refine CT.blockEnd ?_ | refine JC.ret ?_ | refine CT.ret ?_ | refine CT.blockRet ?_ | refine JO.omit rfl rfl ?_ | (refine JR.lit rfl ⟨rfl, by decide, by decide, by decide⟩ ?_; intro _))
  exact CT.done () rfl (fun w ho => ho.ent)

set_option maxHeartbeats 1000000 in
theorem two_law (w : World) (F : Nat → Prop) : GivesSl Try.prog 22 [] w F [l0, l1] := by
  refine gives_of Try.func22 rfl Try.ntmps22 rfl rfl [] (.start w F) ?_
  repeat (first | refine CT.next ?_ | refine JC.seq ?_ | refine JC.region ?_ | refine JO.nil ?_ | refine JO.go rfl ?_ | refine JR.val (by first | exact OpV.move | exact OpV.assign | exact OpV.load | exact OpV.fieldAddr | exact OpV.indexEl | exact OpV.len | exact OpV.lss | exact OpV.not | exact OpV.pick_true | exact OpV.pick_false | exact OpV.inc (by omega) | exact OpV.eql | exact OpV.neq | exact OpV.leq | exact OpV.gtr | exact OpV.geq | exact OpV.extract | exact OpV.makeFunc | exact OpV.addn (by omega) | exact OpV.add (by omega) | exact OpV.subn (by omega) | exact OpV.sub (by omega) | exact OpV.lens | exact OpV.eqlID | exact OpV.neqID | exact OpV.eqlEv | exact OpV.eqlOp | exact OpV.eqlStr | exact OpV.neqStr | exact OpV.eqlNil | exact OpV.eqlBool | exact OpV.neqBool) rfl ?_ | (refine JR.alloc rfl ?_; intro _) | (refine JR.box rfl ?_; intro _) | refine JR.store ?_ | refine JC.cond_true ?_ | refine JC.cond_false ?_ | refine JC.skip ?_ | refine JC.exit ?_ | refine JC.block ?_ | refine CT.past ?_ | refine CT.hit ?_ | refine CT.miss rfl ?_ | refine CT.blockEnd ?_ | refine JC.ret ?_ | refine CT.ret ?_ | refine CT.blockRet ?_ | refine JO.omit rfl rfl ?_ | (refine JR.lit rfl ⟨rfl, by decide, by decide, by decide⟩ ?_; intro _))
  refine JR.callV rfl (fun w1 hw => some_law w1 _) ?_
  repeat (first | refine CT.next ?_ | refine JC.seq ?_ | refine JC.region ?_ | refine JO.nil ?_ | refine JO.go rfl ?_ | refine JR.val (by first | exact OpV.move | exact OpV.assign | exact OpV.load | exact OpV.fieldAddr | exact OpV.indexEl | exact OpV.len | exact OpV.lss | exact OpV.not | exact OpV.pick_true | exact OpV.pick_false | exact OpV.inc (by omega) | exact OpV.eql | exact OpV.neq | exact OpV.leq | exact OpV.gtr | exact OpV.geq | exact OpV.extract | exact OpV.makeFunc | exact OpV.addn (by omega) | exact OpV.add (by omega) | exact OpV.subn (by omega) | exact OpV.sub (by omega) | exact OpV.lens | exact OpV.eqlID | exact OpV.neqID | exact OpV.eqlEv | exact OpV.eqlOp | exact OpV.eqlStr | exact OpV.neqStr | exact OpV.eqlNil | exact OpV.eqlBool | exact OpV.neqBool) rfl ?_ | (refine JR.alloc rfl ?_; intro _) | (refine JR.box rfl ?_; intro _) | refine JR.store ?_ | refine JC.cond_true ?_ | refine JC.cond_false ?_ | refine JC.skip ?_ | refine JC.exit ?_ | refine JC.block ?_ | refine CT.past ?_ | refine CT.hit ?_ | refine CT.miss rfl ?_ | refine CT.blockEnd ?_ | refine JC.ret ?_ | refine CT.ret ?_ | refine CT.blockRet ?_ | refine JO.omit rfl rfl ?_ | (refine JR.lit rfl ⟨rfl, by decide, by decide, by decide⟩ ?_; intro _))
  rename_i b0
  refine JR.callV rfl (fun w1 hw => hash_commit w1 _ l0 none 0 sl_nil ⟨by decide, by decide⟩) ?_
  repeat (first | refine CT.next ?_ | refine JC.seq ?_ | refine JC.region ?_ | refine JO.nil ?_ | refine JO.go rfl ?_ | refine JR.val (by first | exact OpV.move | exact OpV.assign | exact OpV.load | exact OpV.fieldAddr | exact OpV.indexEl | exact OpV.len | exact OpV.lss | exact OpV.not | exact OpV.pick_true | exact OpV.pick_false | exact OpV.inc (by omega) | exact OpV.eql | exact OpV.neq | exact OpV.leq | exact OpV.gtr | exact OpV.geq | exact OpV.extract | exact OpV.makeFunc | exact OpV.addn (by omega) | exact OpV.add (by omega) | exact OpV.subn (by omega) | exact OpV.sub (by omega) | exact OpV.lens | exact OpV.eqlID | exact OpV.neqID | exact OpV.eqlEv | exact OpV.eqlOp | exact OpV.eqlStr | exact OpV.neqStr | exact OpV.eqlNil | exact OpV.eqlBool | exact OpV.neqBool) rfl ?_ | (refine JR.alloc rfl ?_; intro _) | (refine JR.box rfl ?_; intro _) | refine JR.store ?_ | refine JC.cond_true ?_ | refine JC.cond_false ?_ | refine JC.skip ?_ | refine JC.exit ?_ | refine JC.block ?_ | refine CT.past ?_ | refine CT.hit ?_ | refine CT.miss rfl ?_ | refine CT.blockEnd ?_ | refine JC.ret ?_ | refine CT.ret ?_ | refine CT.blockRet ?_ | refine JO.omit rfl rfl ?_ | (refine JR.lit rfl ⟨rfl, by decide, by decide, by decide⟩ ?_; intro _))
  refine JR.val (OpV.build [.int .i64 0, .int .i64 2] (by kernel_rfl)) rfl ?_
  repeat (first | refine CT.next ?_ | refine JC.seq ?_ | refine JC.region ?_ | refine JO.nil ?_ | refine JO.go rfl ?_ | refine JR.val (by first | exact OpV.move | exact OpV.assign | exact OpV.load | exact OpV.fieldAddr | exact OpV.indexEl | exact OpV.len | exact OpV.lss | exact OpV.not | exact OpV.pick_true | exact OpV.pick_false | exact OpV.inc (by omega) | exact OpV.eql | exact OpV.neq | exact OpV.leq | exact OpV.gtr | exact OpV.geq | exact OpV.extract | exact OpV.makeFunc | exact OpV.addn (by omega) | exact OpV.add (by omega) | exact OpV.subn (by omega) | exact OpV.sub (by omega) | exact OpV.lens | exact OpV.eqlID | exact OpV.neqID | exact OpV.eqlEv | exact OpV.eqlOp | exact OpV.eqlStr | exact OpV.neqStr | exact OpV.eqlNil | exact OpV.eqlBool | exact OpV.neqBool) rfl ?_ | (refine JR.alloc rfl ?_; intro _) | (refine JR.box rfl ?_; intro _) | refine JR.store ?_ | refine JC.cond_true ?_ | refine JC.cond_false ?_ | refine JC.skip ?_ | refine JC.exit ?_ | refine JC.block ?_ | refine CT.past ?_ | refine CT.hit ?_ | refine CT.miss rfl ?_ | refine CT.blockEnd ?_ | refine JC.ret ?_ | refine CT.ret ?_ | refine CT.blockRet ?_ | refine JO.omit rfl rfl ?_ | (refine JR.lit rfl ⟨rfl, by decide, by decide, by decide⟩ ?_; intro _))
  rename_i bi bl
  refine JR.val (OpV.build [.int .i64 0, .string keyA, .string .empty, .int .i64 2] (by kernel_rfl)) rfl ?_
  repeat (first | refine CT.next ?_ | refine JC.seq ?_ | refine JC.region ?_ | refine JO.nil ?_ | refine JO.go rfl ?_ | refine JR.val (by first | exact OpV.move | exact OpV.assign | exact OpV.load | exact OpV.fieldAddr | exact OpV.indexEl | exact OpV.len | exact OpV.lss | exact OpV.not | exact OpV.pick_true | exact OpV.pick_false | exact OpV.inc (by omega) | exact OpV.eql | exact OpV.neq | exact OpV.leq | exact OpV.gtr | exact OpV.geq | exact OpV.extract | exact OpV.makeFunc | exact OpV.addn (by omega) | exact OpV.add (by omega) | exact OpV.subn (by omega) | exact OpV.sub (by omega) | exact OpV.lens | exact OpV.eqlID | exact OpV.neqID | exact OpV.eqlEv | exact OpV.eqlOp | exact OpV.eqlStr | exact OpV.neqStr | exact OpV.eqlNil | exact OpV.eqlBool | exact OpV.neqBool) rfl ?_ | (refine JR.alloc rfl ?_; intro _) | (refine JR.box rfl ?_; intro _) | refine JR.store ?_ | refine JC.cond_true ?_ | refine JC.cond_false ?_ | refine JC.skip ?_ | refine JC.exit ?_ | refine JC.block ?_ | refine CT.past ?_ | refine CT.hit ?_ | refine CT.miss rfl ?_ | refine CT.blockEnd ?_ | refine JC.ret ?_ | refine CT.ret ?_ | refine CT.blockRet ?_ | refine JO.omit rfl rfl ?_ | (refine JR.lit rfl ⟨rfl, by decide, by decide, by decide⟩ ?_; intro _))
  refine JR.val (OpV.build [.int .i64 0, .int .i64 2, .int .i64 2, .slice (some ⟨bl, 0, none⟩) 1 1, .int .i64 0, .string keyA, .string .empty, .int .i64 2] (by kernel_rfl)) rfl ?_
  repeat (first | refine CT.next ?_ | refine JC.seq ?_ | refine JC.region ?_ | refine JO.nil ?_ | refine JO.go rfl ?_ | refine JR.val (by first | exact OpV.move | exact OpV.assign | exact OpV.load | exact OpV.fieldAddr | exact OpV.indexEl | exact OpV.len | exact OpV.lss | exact OpV.not | exact OpV.pick_true | exact OpV.pick_false | exact OpV.inc (by omega) | exact OpV.eql | exact OpV.neq | exact OpV.leq | exact OpV.gtr | exact OpV.geq | exact OpV.extract | exact OpV.makeFunc | exact OpV.addn (by omega) | exact OpV.add (by omega) | exact OpV.subn (by omega) | exact OpV.sub (by omega) | exact OpV.lens | exact OpV.eqlID | exact OpV.neqID | exact OpV.eqlEv | exact OpV.eqlOp | exact OpV.eqlStr | exact OpV.neqStr | exact OpV.eqlNil | exact OpV.eqlBool | exact OpV.neqBool) rfl ?_ | (refine JR.alloc rfl ?_; intro _) | (refine JR.box rfl ?_; intro _) | refine JR.store ?_ | refine JC.cond_true ?_ | refine JC.cond_false ?_ | refine JC.skip ?_ | refine JC.exit ?_ | refine JC.block ?_ | refine CT.past ?_ | refine CT.hit ?_ | refine CT.miss rfl ?_ | refine CT.blockEnd ?_ | refine JC.ret ?_ | refine CT.ret ?_ | refine CT.blockRet ?_ | refine JO.omit rfl rfl ?_ | (refine JR.lit rfl ⟨rfl, by decide, by decide, by decide⟩ ?_; intro _))
  rename_i lb
  refine CT.done (some ⟨lb, 0, none⟩, 2) rfl (fun w ho => ?_)
  have h0 : Hold _ _ [.own bl 44 (idc (hashC l0).1), .own lb 29 [.int .i64 l0.ev.node, .int .i64 l0.ev.seq, .int .i64 l0.gen, .slice none l0.parents.length 0, .int .i64 l0.op.kind, .string l0.op.key, .string l0.op.elem, .int .i64 l0.op.n, .int .i64 0, .int .i64 2, .int .i64 2, .slice (some ⟨bl, 0, none⟩) 1 1, .int .i64 0, .string keyA, .string .empty, .int .i64 2]] w := ho.ent
  have h1 : Hold _ _ [.own bl 44 (idc idA), .own lb 29 (commitCells l0 none 0 ++ commitCells l1 (some ⟨bl, 0, none⟩) 1)] w := h0
  have h2 := Hold.pubRow [(idA, (() : Cell.Ix ID))] h1 (by simp [flat]; rfl) (by simp [Cell.facts]) (by decide)
  have h3 : Hold _ _ [.own lb 29 (commitCells l0 none 0 ++ commitCells l1 (some ⟨bl, 0, none⟩) 1), .st (sl (some ⟨bl, 0, none⟩) 1 [idA])] w := h2.perm (List.Perm.swap _ _ _)
  have h4 : Hold _ _ (.own lb 29 (commitCells l0 none 0 ++ commitCells l1 (some ⟨bl, 0, none⟩) 1) :: [.st (sl none 0 ([] : List ID)), .st (sl (some ⟨bl, 0, none⟩) 1 [idA])]) w :=
    (h3.add (A := sl none 0 ([] : List ID)) sl_nil).perm (List.Perm.swap _ _ _)
  have h5 := Hold.pubRow [(l0, ((none, 0) : Cell.Ix Commit)), (l1, ((some ⟨bl, 0, none⟩, 1) : Cell.Ix Commit))] h4 (by simp [flat]; rfl) (by simp [Cell.facts, l0, l1]) (by simp)
  exact Hold.left (Γ := [.st (sl (some ⟨lb, 0, none⟩) 2 [l0, l1])]) h5
end Ab
end Go.Proofs.Ytcmfemfndadfmaa

/- The laws' example: its two commits have two ids (evaluated by the kernel); awake returns true. -/
namespace Go.Proofs.Ytcmfemfndadfmaa
namespace Ab
open Go Go.RowKit
set_option linter.unusedVariables false
set_option linter.unusedSimpArgs false
set_option synthInstance.maxSize 4000
set_option synthInstance.maxHeartbeats 400000
attribute [local irreducible] JC JO JR JQ andThen inBlock OpV Gives retTo JM JS

theorem may_l0 : may l0 = true := by decide +kernel
theorem idA_eq : idA = sumI (commitPut l0) := by simp only [idA, hashC, may_l0, if_true]
theorem hash_l0 : hashC l0 = (idA, 0) := by
  have h : (hashC l0).2 = 0 := by simp only [hashC, may_l0, if_true]
  rw [← h]; rfl
set_option maxRecDepth 100000 in
theorem may_l1 : may l1 = true := by decide +kernel
def idB : ID := (hashC l1).1
theorem hash_l1 : hashC l1 = (idB, 0) := by
  have h : (hashC l1).2 = 0 := by simp only [hashC, may_l1, if_true]
  rw [← h]; rfl
set_option maxRecDepth 100000 in
theorem sums_differ : sumL (commitPut l0) ≠ sumL (commitPut l1) := by decide +kernel
theorem idA_ne : idA ≠ idB := by
  intro h
  have h1 : idB = sumI (commitPut l1) := by simp only [idB, hashC, may_l1, if_true]
  rw [idA_eq, h1] at h
  exact sums_differ (congrArg (·.1) h)
theorem some_one (x : ID) (M : List ID) (h : x ∉ M) : someIds [x] M false = [x] := by
  simp [someIds, pickIds, setOf, h, addK, sortL]
theorem some_none (x : ID) (M : List ID) (h : x ∈ M) : someIds [x] M false = [] := by
  simp [someIds, pickIds, setOf, h, addK, sortL]
theorem put_l1 : waitPut [] l1 = [l1] := by
  have h : merge l1 = false := by simp [merge, l1]
  simp [waitPut, may_l1, h]
theorem hashes_l1 : hashes [l1] = [idB] := by simp [hashes, hashO, hash_l1]
theorem miss_l1 : missL [l1] [] = [idA] := by
  rw [missL, hashes_l1]
  exact some_one idA _ (by simpa using idA_ne)
theorem ready_no : waitReady [l1] [] = (commit0, [l1], false) := by
  have h : isReady [] l1 = false := by
    have := some_one idA [] (by simp)
    simp [isReady, l1, this]
  simp [waitReady, List.findIdx?_cons, h]
theorem ready_yes : waitReady [l1] [idA] = (l1, [], true) := by
  have h : isReady [idA] l1 = true := by
    have := some_none idA [idA] (by simp)
    simp [isReady, l1, this]
  simp [waitReady, List.findIdx?_cons, h]
theorem texts_l0 : texts l0 := ⟨by decide, by decide⟩
theorem fine_l0 : fine l0 := ⟨texts_l0, by decide⟩
theorem par_l1 : l1.parents.length = 1 := rfl
theorem fine_l1 : fine l1 := ⟨⟨by decide, by decide⟩, by simp [l1]⟩
attribute [local irreducible] hashC idA l0 l1

theorem put_1st (w : World) (F : Nat → Prop) (b : Option Addr) (m : Nat) (h : (sl b m l1.parents).holds F w) : GivesSl Try.prog 11 [.slice none 0 0, commitV l1 b m] w F [l1] := by
  have := put_wait w F none b 0 m [] l1 sl_nil h (by decide) (by simp) fine_l1
  rw [put_l1] at this
  exact this
theorem hash_1st (w : World) (F : Nat → Prop) (a : Option Addr) (k : Nat) (h : (sl a k l0.parents).holds F w) : GivesV Try.prog 19 [commitV l0 a k] w F (.tuple ⟨[.agg ⟨idc idA⟩, .int .i64 0]⟩) := by
  have := hash_commit w F l0 a k h texts_l0
  rw [hash_l0] at this
  exact this
theorem miss_1st (w : World) (F : Nat → Prop) (a : Option Addr) (k : Nat) (h : (sl a k [l1]).holds F w) : GivesBuf Try.prog 18 [.slice a [l1].length k, .slice none 0 0] w F 44 [idA] := by
  have := missing_wait w F a none k 0 [l1] [] h sl_nil (by decide) (by simp [parentsL, par_l1]) (by simp [fine_l1])
  rw [miss_l1] at this
  exact this
theorem ready_1st (w : World) (F : Nat → Prop) (a : Option Addr) (k : Nat) (h : (sl a k [l1]).holds F w) :
    Gives Try.prog 16 [.slice a [l1].length k, .slice none 0 0] w F
      (fun y : (Option Addr × Nat) × (Option Addr × Nat) => .tuple ⟨[commitV commit0 y.1.1 y.1.2, .slice y.2.1 [l1].length y.2.2, .bool false]⟩) (fun y => [.st (sl y.1.1 y.1.2 commit0.parents), .st (sl y.2.1 y.2.2 [l1])]) := by
  have := ready_wait w F a none k 0 [l1] [] h sl_nil (by simp) (by simp [fine_l1])
  rw [ready_no] at this
  exact this
theorem ready_2nd (w : World) (F : Nat → Prop) (a b : Option Addr) (k m : Nat) (h : (sl a k [l1]).holds F w) (h' : (sl b m [idA]).holds F w) :
    Gives Try.prog 16 [.slice a [l1].length k, .slice b [idA].length m] w F
      (fun y : (Option Addr × Nat) × (Option Addr × Nat) => .tuple ⟨[commitV l1 y.1.1 y.1.2, .slice y.2.1 ([] : List Commit).length y.2.2, .bool true]⟩) (fun y => [.st (sl y.1.1 y.1.2 l1.parents), .st (sl y.2.1 y.2.2 ([] : List Commit))]) := by
  have := ready_wait w F a b k m [l1] [idA] h h' (by simp) (by simp [fine_l1])
  rw [ready_yes] at this
  exact this

theorem sl_of_ro {F : Nat → Prop} {w : World} {b : Nat} {x : ID} (h : (ro b 0 (idc x)).holds F w) : (sl (some ⟨b, 0, none⟩) 1 [x]).holds F w := by
  refine ⟨by simp, by simp [maxLen], by simp [lim], fun _ => ⟨b, 0, rfl, h.1, h.2.1, fun i hi => ⟨(), ?_, by simp [Cell.facts]⟩⟩⟩
  have h0 : i = 0 := by simpa using hi
  subst h0
  rw [Nat.zero_mul, Nat.add_zero]
  exact h.2.2

set_option maxHeartbeats 4000000 in
theorem awake_wait (w : World) (F : Nat → Prop) : GivesV Try.prog 8 [] w F (.bool true) := by
  refine gives_of Try.func8 rfl Try.ntmps8 rfl rfl [] (.start w F) ?_
  repeat (first | refine CT.next ?_ | refine JC.seq ?_ | refine JC.region ?_ | refine JO.nil ?_ | refine JO.go rfl ?_ | refine JR.val (by first | exact OpV.move | exact OpV.assign | exact OpV.load | exact OpV.fieldAddr | exact OpV.indexEl | exact OpV.len | exact OpV.lss | exact OpV.not | exact OpV.pick_true | exact OpV.pick_false | exact OpV.inc (by omega) | exact OpV.eql | exact OpV.neq | exact OpV.leq | exact OpV.gtr | exact OpV.geq | exact OpV.extract | exact OpV.makeFunc | exact OpV.addn (by omega) | exact OpV.add (by omega) | exact OpV.subn (by omega) | exact OpV.sub (by omega) | exact OpV.lens | exact OpV.eqlID | exact OpV.neqID | exact OpV.eqlEv | exact OpV.eqlOp | exact OpV.eqlStr | exact OpV.neqStr | exact OpV.eqlNil | exact OpV.eqlBool | exact OpV.neqBool) rfl ?_ | (refine JR.alloc rfl ?_; intro _) | (refine JR.box rfl ?_; intro _) | refine JR.store ?_ | refine JC.cond_true ?_ | refine JC.cond_false ?_ | refine JC.skip ?_ | refine JC.exit ?_ | refine JC.block ?_ | refine CT.past ?_ | refine CT.hit ?_ | refine CT.miss rfl ?_ | refine CT.blockEnd ?_ | refine JC.ret ?_ | refine CT.ret ?_ | refine CT.blockRet ?_ | refine JO.omit rfl rfl ?_ | (refine JR.lit rfl ⟨rfl, by decide, by decide, by decide⟩ ?_; intro _))
  refine JR.callSl (L := [l0, l1]) rfl (fun w1 hw => two_law w1 _) ?_
  intro al cl
  repeat (first | refine CT.next ?_ | refine JC.seq ?_ | refine JC.region ?_ | refine JO.nil ?_ | refine JO.go rfl ?_ | refine JR.val (by first | exact OpV.move | exact OpV.assign | exact OpV.load | exact OpV.fieldAddr | exact OpV.indexEl | exact OpV.len | exact OpV.lss | exact OpV.not | exact OpV.pick_true | exact OpV.pick_false | exact OpV.inc (by omega) | exact OpV.eql | exact OpV.neq | exact OpV.leq | exact OpV.gtr | exact OpV.geq | exact OpV.extract | exact OpV.makeFunc | exact OpV.addn (by omega) | exact OpV.add (by omega) | exact OpV.subn (by omega) | exact OpV.sub (by omega) | exact OpV.lens | exact OpV.eqlID | exact OpV.neqID | exact OpV.eqlEv | exact OpV.eqlOp | exact OpV.eqlStr | exact OpV.neqStr | exact OpV.eqlNil | exact OpV.eqlBool | exact OpV.neqBool) rfl ?_ | (refine JR.alloc rfl ?_; intro _) | (refine JR.box rfl ?_; intro _) | refine JR.store ?_ | refine JC.cond_true ?_ | refine JC.cond_false ?_ | refine JC.skip ?_ | refine JC.exit ?_ | refine JC.block ?_ | refine CT.past ?_ | refine CT.hit ?_ | refine CT.miss rfl ?_ | refine CT.blockEnd ?_ | refine JC.ret ?_ | refine CT.ret ?_ | refine CT.blockRet ?_ | refine JO.omit rfl rfl ?_ | (refine JR.lit rfl ⟨rfl, by decide, by decide, by decide⟩ ?_; intro _))
  refine JR.indexCommit (L := [l0, l1]) (k := 1) rfl (by decide) ?_
  intro b1 o1 p1 q1
  simp only [List.getElem_cons_succ, List.getElem_cons_zero]
  repeat (first | refine CT.next ?_ | refine JC.seq ?_ | refine JC.region ?_ | refine JO.nil ?_ | refine JO.go rfl ?_ | refine JR.val (by first | exact OpV.move | exact OpV.assign | exact OpV.load | exact OpV.fieldAddr | exact OpV.indexEl | exact OpV.len | exact OpV.lss | exact OpV.not | exact OpV.pick_true | exact OpV.pick_false | exact OpV.inc (by omega) | exact OpV.eql | exact OpV.neq | exact OpV.leq | exact OpV.gtr | exact OpV.geq | exact OpV.extract | exact OpV.makeFunc | exact OpV.addn (by omega) | exact OpV.add (by omega) | exact OpV.subn (by omega) | exact OpV.sub (by omega) | exact OpV.lens | exact OpV.eqlID | exact OpV.neqID | exact OpV.eqlEv | exact OpV.eqlOp | exact OpV.eqlStr | exact OpV.neqStr | exact OpV.eqlNil | exact OpV.eqlBool | exact OpV.neqBool) rfl ?_ | (refine JR.alloc rfl ?_; intro _) | (refine JR.box rfl ?_; intro _) | refine JR.store ?_ | refine JC.cond_true ?_ | refine JC.cond_false ?_ | refine JC.skip ?_ | refine JC.exit ?_ | refine JC.block ?_ | refine CT.past ?_ | refine CT.hit ?_ | refine CT.miss rfl ?_ | refine CT.blockEnd ?_ | refine JC.ret ?_ | refine CT.ret ?_ | refine CT.blockRet ?_ | refine JO.omit rfl rfl ?_ | (refine JR.lit rfl ⟨rfl, by decide, by decide, by decide⟩ ?_; intro _))
  refine JR.callSl (L := [l1]) rfl (fun w1 hw => put_1st w1 _ p1 q1 hw.get) ?_
  intro aw cw
  repeat (first | refine CT.next ?_ | refine JC.seq ?_ | refine JC.region ?_ | refine JO.nil ?_ | refine JO.go rfl ?_ | refine JR.val (by first | exact OpV.move | exact OpV.assign | exact OpV.load | exact OpV.fieldAddr | exact OpV.indexEl | exact OpV.len | exact OpV.lss | exact OpV.not | exact OpV.pick_true | exact OpV.pick_false | exact OpV.inc (by omega) | exact OpV.eql | exact OpV.neq | exact OpV.leq | exact OpV.gtr | exact OpV.geq | exact OpV.extract | exact OpV.makeFunc | exact OpV.addn (by omega) | exact OpV.add (by omega) | exact OpV.subn (by omega) | exact OpV.sub (by omega) | exact OpV.lens | exact OpV.eqlID | exact OpV.neqID | exact OpV.eqlEv | exact OpV.eqlOp | exact OpV.eqlStr | exact OpV.neqStr | exact OpV.eqlNil | exact OpV.eqlBool | exact OpV.neqBool) rfl ?_ | (refine JR.alloc rfl ?_; intro _) | (refine JR.box rfl ?_; intro _) | refine JR.store ?_ | refine JC.cond_true ?_ | refine JC.cond_false ?_ | refine JC.skip ?_ | refine JC.exit ?_ | refine JC.block ?_ | refine CT.past ?_ | refine CT.hit ?_ | refine CT.miss rfl ?_ | refine CT.blockEnd ?_ | refine JC.ret ?_ | refine CT.ret ?_ | refine CT.blockRet ?_ | refine JO.omit rfl rfl ?_ | (refine JR.lit rfl ⟨rfl, by decide, by decide, by decide⟩ ?_; intro _))
  refine JR.indexCommit (L := [l0, l1]) (k := 0) rfl (by decide) ?_
  intro b2 o2 p2 q2
  simp only [List.getElem_cons_succ, List.getElem_cons_zero]
  repeat (first | refine CT.next ?_ | refine JC.seq ?_ | refine JC.region ?_ | refine JO.nil ?_ | refine JO.go rfl ?_ | refine JR.val (by first | exact OpV.move | exact OpV.assign | exact OpV.load | exact OpV.fieldAddr | exact OpV.indexEl | exact OpV.len | exact OpV.lss | exact OpV.not | exact OpV.pick_true | exact OpV.pick_false | exact OpV.inc (by omega) | exact OpV.eql | exact OpV.neq | exact OpV.leq | exact OpV.gtr | exact OpV.geq | exact OpV.extract | exact OpV.makeFunc | exact OpV.addn (by omega) | exact OpV.add (by omega) | exact OpV.subn (by omega) | exact OpV.sub (by omega) | exact OpV.lens | exact OpV.eqlID | exact OpV.neqID | exact OpV.eqlEv | exact OpV.eqlOp | exact OpV.eqlStr | exact OpV.neqStr | exact OpV.eqlNil | exact OpV.eqlBool | exact OpV.neqBool) rfl ?_ | (refine JR.alloc rfl ?_; intro _) | (refine JR.box rfl ?_; intro _) | refine JR.store ?_ | refine JC.cond_true ?_ | refine JC.cond_false ?_ | refine JC.skip ?_ | refine JC.exit ?_ | refine JC.block ?_ | refine CT.past ?_ | refine CT.hit ?_ | refine CT.miss rfl ?_ | refine CT.blockEnd ?_ | refine JC.ret ?_ | refine CT.ret ?_ | refine CT.blockRet ?_ | refine JO.omit rfl rfl ?_ | (refine JR.lit rfl ⟨rfl, by decide, by decide, by decide⟩ ?_; intro _))
  refine JR.callV rfl (fun w1 hw => hash_1st w1 _ p2 q2 hw.get) ?_
  repeat (first | refine CT.next ?_ | refine JC.seq ?_ | refine JC.region ?_ | refine JO.nil ?_ | refine JO.go rfl ?_ | refine JR.val (by first | exact OpV.move | exact OpV.assign | exact OpV.load | exact OpV.fieldAddr | exact OpV.indexEl | exact OpV.len | exact OpV.lss | exact OpV.not | exact OpV.pick_true | exact OpV.pick_false | exact OpV.inc (by omega) | exact OpV.eql | exact OpV.neq | exact OpV.leq | exact OpV.gtr | exact OpV.geq | exact OpV.extract | exact OpV.makeFunc | exact OpV.addn (by omega) | exact OpV.add (by omega) | exact OpV.subn (by omega) | exact OpV.sub (by omega) | exact OpV.lens | exact OpV.eqlID | exact OpV.neqID | exact OpV.eqlEv | exact OpV.eqlOp | exact OpV.eqlStr | exact OpV.neqStr | exact OpV.eqlNil | exact OpV.eqlBool | exact OpV.neqBool) rfl ?_ | (refine JR.alloc rfl ?_; intro _) | (refine JR.box rfl ?_; intro _) | refine JR.store ?_ | refine JC.cond_true ?_ | refine JC.cond_false ?_ | refine JC.skip ?_ | refine JC.exit ?_ | refine JC.block ?_ | refine CT.past ?_ | refine CT.hit ?_ | refine CT.miss rfl ?_ | refine CT.blockEnd ?_ | refine JC.ret ?_ | refine CT.ret ?_ | refine CT.blockRet ?_ | refine JO.omit rfl rfl ?_ | (refine JR.lit rfl ⟨rfl, by decide, by decide, by decide⟩ ?_; intro _))
  rename_i bh
  refine JR.callBuf (L := [idA]) rfl (fun w1 hw => miss_1st w1 _ aw cw hw.get) ?_
  intro am cm
  refine JO.more (fun w1 ho => ho.pub) ?_
  repeat (first | refine CT.next ?_ | refine JC.seq ?_ | refine JC.region ?_ | refine JO.nil ?_ | refine JO.go rfl ?_ | refine JR.val (by first | exact OpV.move | exact OpV.assign | exact OpV.load | exact OpV.fieldAddr | exact OpV.indexEl | exact OpV.len | exact OpV.lss | exact OpV.not | exact OpV.pick_true | exact OpV.pick_false | exact OpV.inc (by omega) | exact OpV.eql | exact OpV.neq | exact OpV.leq | exact OpV.gtr | exact OpV.geq | exact OpV.extract | exact OpV.makeFunc | exact OpV.addn (by omega) | exact OpV.add (by omega) | exact OpV.subn (by omega) | exact OpV.sub (by omega) | exact OpV.lens | exact OpV.eqlID | exact OpV.neqID | exact OpV.eqlEv | exact OpV.eqlOp | exact OpV.eqlStr | exact OpV.neqStr | exact OpV.eqlNil | exact OpV.eqlBool | exact OpV.neqBool) rfl ?_ | (refine JR.alloc rfl ?_; intro _) | (refine JR.box rfl ?_; intro _) | refine JR.store ?_ | refine JC.cond_true ?_ | refine JC.cond_false ?_ | refine JC.skip ?_ | refine JC.exit ?_ | refine JC.block ?_ | refine CT.past ?_ | refine CT.hit ?_ | refine CT.miss rfl ?_ | refine CT.blockEnd ?_ | refine JC.ret ?_ | refine CT.ret ?_ | refine CT.blockRet ?_ | refine JO.omit rfl rfl ?_ | (refine JR.lit rfl ⟨rfl, by decide, by decide, by decide⟩ ?_; intro _))
  refine JR.call2 (v := fun y : (Option Addr × Nat) × (Option Addr × Nat) => .tuple ⟨[commitV commit0 y.1.1 y.1.2, .slice y.2.1 [l1].length y.2.2, .bool false]⟩) rfl (fun w1 hw => ready_1st w1 _ aw cw hw.get) ?_
  rintro ⟨⟨ac0, kc0⟩, ⟨ar0, kr0⟩⟩
  repeat (first | refine CT.next ?_ | refine JC.seq ?_ | refine JC.region ?_ | refine JO.nil ?_ | refine JO.go rfl ?_ | refine JR.val (by first | exact OpV.move | exact OpV.assign | exact OpV.load | exact OpV.fieldAddr | exact OpV.indexEl | exact OpV.len | exact OpV.lss | exact OpV.not | exact OpV.pick_true | exact OpV.pick_false | exact OpV.inc (by omega) | exact OpV.eql | exact OpV.neq | exact OpV.leq | exact OpV.gtr | exact OpV.geq | exact OpV.extract | exact OpV.makeFunc | exact OpV.addn (by omega) | exact OpV.add (by omega) | exact OpV.subn (by omega) | exact OpV.sub (by omega) | exact OpV.lens | exact OpV.eqlID | exact OpV.neqID | exact OpV.eqlEv | exact OpV.eqlOp | exact OpV.eqlStr | exact OpV.neqStr | exact OpV.eqlNil | exact OpV.eqlBool | exact OpV.neqBool) rfl ?_ | (refine JR.alloc rfl ?_; intro _) | (refine JR.box rfl ?_; intro _) | refine JR.store ?_ | refine JC.cond_true ?_ | refine JC.cond_false ?_ | refine JC.skip ?_ | refine JC.exit ?_ | refine JC.block ?_ | refine CT.past ?_ | refine CT.hit ?_ | refine CT.miss rfl ?_ | refine CT.blockEnd ?_ | refine JC.ret ?_ | refine CT.ret ?_ | refine CT.blockRet ?_ | refine JO.omit rfl rfl ?_ | (refine JR.lit rfl ⟨rfl, by decide, by decide, by decide⟩ ?_; intro _))
  rename_i bc0 lb
  refine JR.pubOwn lb ?_
  refine JR.call2 (v := fun y : (Option Addr × Nat) × (Option Addr × Nat) => .tuple ⟨[commitV l1 y.1.1 y.1.2, .slice y.2.1 ([] : List Commit).length y.2.2, .bool true]⟩) rfl (fun w1 hw => ready_2nd w1 _ aw (some ⟨lb, 0, none⟩) cw 1 hw.get (sl_of_ro hw.get)) ?_
  rintro ⟨⟨ac1, kc1⟩, ⟨ar1, kr1⟩⟩
  repeat (first | refine CT.next ?_ | refine JC.seq ?_ | refine JC.region ?_ | refine JO.nil ?_ | refine JO.go rfl ?_ | refine JR.val (by first | exact OpV.move | exact OpV.assign | exact OpV.load | exact OpV.fieldAddr | exact OpV.indexEl | exact OpV.len | exact OpV.lss | exact OpV.not | exact OpV.pick_true | exact OpV.pick_false | exact OpV.inc (by omega) | exact OpV.eql | exact OpV.neq | exact OpV.leq | exact OpV.gtr | exact OpV.geq | exact OpV.extract | exact OpV.makeFunc | exact OpV.addn (by omega) | exact OpV.add (by omega) | exact OpV.subn (by omega) | exact OpV.sub (by omega) | exact OpV.lens | exact OpV.eqlID | exact OpV.neqID | exact OpV.eqlEv | exact OpV.eqlOp | exact OpV.eqlStr | exact OpV.neqStr | exact OpV.eqlNil | exact OpV.eqlBool | exact OpV.neqBool) rfl ?_ | (refine JR.alloc rfl ?_; intro _) | (refine JR.box rfl ?_; intro _) | refine JR.store ?_ | refine JC.cond_true ?_ | refine JC.cond_false ?_ | refine JC.skip ?_ | refine JC.exit ?_ | refine JC.block ?_ | refine CT.past ?_ | refine CT.hit ?_ | refine CT.miss rfl ?_ | refine CT.blockEnd ?_ | refine JC.ret ?_ | refine CT.ret ?_ | refine CT.blockRet ?_ | refine JO.omit rfl rfl ?_ | (refine JR.lit rfl ⟨rfl, by decide, by decide, by decide⟩ ?_; intro _))
  rename_i bc1
  refine JC.openID (L := [idA]) (.slice am [idA].length cm) 0 (by decide) ?_
  intro b3 o3
  refine JC.openCommit (L := [l0, l1]) (.slice al [l0, l1].length cl) 1 (by decide) ?_
  intro b4 o4 p4 q4
  simp only [List.getElem_cons_succ, List.getElem_cons_zero]
  refine JC.quiet mixed (by kernel_rfl) ?_
  repeat (first | refine JQ.val rfl (by first | exact OpV.move | exact OpV.assign | exact OpV.load | exact OpV.fieldAddr | exact OpV.indexEl | exact OpV.len | exact OpV.lss | exact OpV.not | exact OpV.pick_true | exact OpV.pick_false | exact OpV.inc (by omega) | exact OpV.eql | exact OpV.neq | exact OpV.leq | exact OpV.gtr | exact OpV.geq | exact OpV.extract | exact OpV.makeFunc | exact OpV.addn (by omega) | exact OpV.add (by omega) | exact OpV.subn (by omega) | exact OpV.sub (by omega) | exact OpV.lens | exact OpV.eqlID | exact OpV.neqID | exact OpV.eqlEv | exact OpV.eqlOp | exact OpV.eqlStr | exact OpV.neqStr | exact OpV.eqlNil | exact OpV.eqlBool | exact OpV.neqBool) rfl ?_ | refine JQ.omit rfl rfl ?_ | refine JQ.nil ?_)
  refine JQ.reslot 55 (.bool true) (by simp) ?_
  repeat (first | refine JQ.val rfl (by first | exact OpV.move | exact OpV.assign | exact OpV.load | exact OpV.fieldAddr | exact OpV.indexEl | exact OpV.len | exact OpV.lss | exact OpV.not | exact OpV.pick_true | exact OpV.pick_false | exact OpV.inc (by omega) | exact OpV.eql | exact OpV.neq | exact OpV.leq | exact OpV.gtr | exact OpV.geq | exact OpV.extract | exact OpV.makeFunc | exact OpV.addn (by omega) | exact OpV.add (by omega) | exact OpV.subn (by omega) | exact OpV.sub (by omega) | exact OpV.lens | exact OpV.eqlID | exact OpV.neqID | exact OpV.eqlEv | exact OpV.eqlOp | exact OpV.eqlStr | exact OpV.neqStr | exact OpV.eqlNil | exact OpV.eqlBool | exact OpV.neqBool) rfl ?_ | refine JQ.omit rfl rfl ?_ | refine JQ.nil ?_)
  refine JQ.call rfl rfl (fun w1 hw => same_commit w1 _ l1 l1 ac1 p4 kc1 q4 hw.get hw.get) ?_
  refine JQ.reslot 67 (.bool true) (by simp) ?_
  repeat (first | refine JQ.val rfl (by first | exact OpV.move | exact OpV.assign | exact OpV.load | exact OpV.fieldAddr | exact OpV.indexEl | exact OpV.len | exact OpV.lss | exact OpV.not | exact OpV.pick_true | exact OpV.pick_false | exact OpV.inc (by omega) | exact OpV.eql | exact OpV.neq | exact OpV.leq | exact OpV.gtr | exact OpV.geq | exact OpV.extract | exact OpV.makeFunc | exact OpV.addn (by omega) | exact OpV.add (by omega) | exact OpV.subn (by omega) | exact OpV.sub (by omega) | exact OpV.lens | exact OpV.eqlID | exact OpV.neqID | exact OpV.eqlEv | exact OpV.eqlOp | exact OpV.eqlStr | exact OpV.neqStr | exact OpV.eqlNil | exact OpV.eqlBool | exact OpV.neqBool) rfl ?_ | refine JQ.omit rfl rfl ?_ | refine JQ.nil ?_)
  repeat (first | refine CT.next ?_ | refine JC.seq ?_ | refine JC.region ?_ | refine JO.nil ?_ | refine JO.go rfl ?_ | refine JR.val (by first | exact OpV.move | exact OpV.assign | exact OpV.load | exact OpV.fieldAddr | exact OpV.indexEl | exact OpV.len | exact OpV.lss | exact OpV.not | exact OpV.pick_true | exact OpV.pick_false | exact OpV.inc (by omega) | exact OpV.eql | exact OpV.neq | exact OpV.leq | exact OpV.gtr | exact OpV.geq | exact OpV.extract | exact OpV.makeFunc | exact OpV.addn (by omega) | exact OpV.add (by omega) | exact OpV.subn (by omega) | exact OpV.sub (by omega) | exact OpV.lens | exact OpV.eqlID | exact OpV.neqID | exact OpV.eqlEv | exact OpV.eqlOp | exact OpV.eqlStr | exact OpV.neqStr | exact OpV.eqlNil | exact OpV.eqlBool | exact OpV.neqBool) rfl ?_ | (refine JR.alloc rfl ?_; intro _) | (refine JR.box rfl ?_; intro _) | refine JR.store ?_ | refine JC.cond_true ?_ | refine JC.cond_false ?_ | refine JC.skip ?_ | refine JC.exit ?_ | refine JC.block ?_ | refine CT.past ?_ | refine CT.hit ?_ | refine CT.miss rfl ?_ | refine CT.blockEnd ?_ | refine JC.ret ?_ | refine CT.ret ?_ | refine CT.blockRet ?_ | refine JO.omit rfl rfl ?_ | (refine JR.lit rfl ⟨rfl, by decide, by decide, by decide⟩ ?_; intro _))
  exact CT.done () rfl (fun w ho => ho.ent)
end Ab
end Go.Proofs.Ytcmfemfndadfmaa

/- x[l:] of a slice that is read, as a value. Program-independent. -/
namespace Go.Proofs.Ytcmfemfndadfmaa
namespace Ab
open Go Go.RowKit
set_option linter.unusedVariables false
set_option linter.unusedSimpArgs false
section
variable {P : Program} {n : Nat} {w0 : World} {F : Nat → Prop} {ops : Array Oper} {i d : Nat} {t : TypeId} {pos : String} {aft : Array Edge} {g : Option (Nat × Bool)} {os : List Oper} {Q : Cont} {e : E} {Γ : List Fact}

/-- Where x[l:] begins. -/
def fromA (a0 : Option Addr) (c l s : Nat) : Option Addr := if c - l = 0 ∧ c = l then a0 else a0.map (·.add (l * s))
theorem OpV.sliceFromA {x lo : Operand} {a0 : Option Addr} {m c l s : Nat} {kk : IntKind} {j : Int} {ty el : TypeId} {ed : TypeDesc} {sz by_ es eb : Nat} {z ez : Value} {d : Option Nat}
    [hx : Ev e x (.slice a0 m c)] [hi : Ev e lo (.int kk j)] [hk : NatI j l] [hT : Ty P ty (.slice el) sz by_ z] [hE : Ty P el ed es eb ez] (hes : es = s) (h : ∀ w, Hold w0 F Γ w → l ≤ m ∧ m ≤ c) :
    OpV P n w0 F ⟨d, .slice ty x (some lo) none none, t, pos, aft, g⟩ e Γ (.slice (fromA a0 c l s) (m - l) (c - l)) :=
  fun a w fr ho => by
    have hlc := h w ho
    have h1 := run_und (P := P) (t := ty) w
    have h2 := run_size (P := P) (t := el) w
    have hj := hk.ok
    subst hj hes
    have hb : (Instr.sliceBound (.int kk (l : Int)) m .sliceB).run P w = .ok l w := by
      simp [Instr.sliceBound, asIntOf]
      omega
    simp [execOp, hx.ok n a fr, hi.ok n a fr, Instr.sliceAt, Instr.slice, h1, h2, Instr.sliceBounds, hb, fromA]
    by_cases hck : c = l
    · simp [hck]
    · rw [if_neg hck, if_neg (by omega)]
theorem sl_from {α : Type} [ic : Cell α] {G : Nat → Prop} {w : World} {a : Option Addr} {c : Nat} {L : List α} (h : (sl a c L).holds G w) {k : Nat} (hk : k ≤ L.length) : (sl (fromA a c k (Cell.sz α)) (c - k) (L.drop k)).holds G w := sl_drop h hk

/-- append([]T(nil), y...), which leaves what was there. -/
theorem JS.appendNil {α : Type} [ic : Cell α] {x y : Operand} {u : Value} {L' : List α} {el ty : TypeId} {ed : TypeDesc} {sz by_ es eb : Nat} {z ez : Value} {ecs : List Value} {K : E → List Fact → Prop}
    [hx : Ev e x (.slice none 0 0)] [hy : Ev e y u] [hS : HasSl Γ u α ic L'] [hT : Ty P ty (.slice el) sz by_ z] [hE : Ty P el ed es eb ez] [hz : Cel ez ecs]
    (hd : Nat.blt d n = true) (hes : es = Cell.sz α ∧ ecs.length = es ∧ eb ≤ 4096) (hl : L'.length ≤ 34359738368)
    (k : ∀ a c, K ((d, .slice a L'.length c) :: e) (.res (buf a c el L') :: Γ)) :
    JS P n w0 F ⟨some d, .call ⟨.builtin .append, #[x, y], #[ty, ty]⟩, t, pos, aft, g⟩ e Γ K :=
  JS.value hd fun a w fr ho => by
    obtain ⟨a1, c1, rfl, hsl⟩ := hS.holds ho
    by_cases hL : L' = []
    · subst hL
      obtain ⟨ti, hti, hti1, hti2, hti3⟩ := hE.some
      refine ⟨.slice none 0 0, w, _, ?_, Bel.refl _ _, ho.res (R := buf (α := α) none 0 el []) (fun k hk => by obtain ⟨a, h, _⟩ := hk; cases h) buf_nil, k none 0⟩
      cases a1 <;> simp [execOp, resolve_builtin, invoke, builtin, hx.ok n a fr, hy.ok n a fr, Builtin.append_, run_underlying hT.und, sizeOf, typeInfo, hti, Builtin.lenOf, Builtin.firstCells, loadCells, loadCellsFrom]
    · obtain ⟨b, off, rfl, hF, hlt, hrow⟩ := hsl.2.2.2 hL
      obtain ⟨r, hr1, hr2, hr3⟩ := row_list L' off hrow
      have hm : r.length = L'.length := by rw [← hr1]; simp
      obtain ⟨ti, hti, hti1, hti2, hti3⟩ := hE.some
      have hfl : (flat r).length = L'.length * ti.size := by rw [flat_length, hm, hti1, hes.1]
      have h0 : 0 < L'.length := List.length_pos_iff.2 hL
      have hb48 : L'.length * ti.bytes ≤ 281474976710656 := by rw [hti2]; have := Nat.mul_le_mul hl hes.2.2; omega
      have hr := run_append_nil (P := P) w ty t el ti ez hT.und hti hti3 ⟨b, off, none⟩ L'.length c1 (flat r) hfl (fun j u hu => by rw [Addr.add_mid]; exact hr2 j u hu) (by omega) (by omega) hb48
      have hge := grownCap_ge w L'.length 0 el
      have hcm : grownCap w L'.length 0 el ≤ maxLen := grownCap_le_maxLen w L'.length 0 el (by simp only [maxLen]; omega)
      have hzs : ez.cells.size = ti.size := by rw [cells_eq (v := ez) (cs := ecs), hti1]; simpa using hes.2.1
      have hsz1 : ti.size = Cell.sz α := by rw [hti1, hes.1]
      have hbel : Bel w.heap.size w (w.drew.alloc (.cells ((flat r).toArray ++ Builtin.zeroCells ez.cells (grownCap w L'.length 0 el - L'.length)) el)) := ((Bel.refl _ _).drew).alloc (Nat.le_refl _) _
      refine ⟨_, _, _, ?_, hbel, ho.call (B := [.res (buf (some ⟨w.heap.size, 0, none⟩) (grownCap w L'.length 0 el) el L')]) hbel ⟨fun f hf => ?_, by simp, fun f hf k' hk => ?_⟩, k (some ⟨w.heap.size, 0, none⟩) (grownCap w L'.length 0 el)⟩
      · simp [execOp, resolve_builtin, invoke, builtin, hx.ok n a fr, hy.ok n a fr] at hr ⊢
        simp [hr]
      · simp only [List.mem_singleton] at hf; subst hf
        refine ⟨by simp only [lim]; omega, r, hr1, ⟨by rw [flat_length, hm], .inr ⟨w.heap.size, _, _, rfl, Nat.zero_le _, heap_alloc_new w.drew _, hge, hcm, ?_, ?_⟩⟩, fun p hp A hA => ?_⟩
        · simp only [Array.size_append, List.size_toArray, size_zeroCells, hzs, hfl, ← Nat.add_mul, ← hsz1]
          congr 1
          omega
        · simp only [Array.toList_append]
          exact List.take_left' (by rw [hfl, hsz1])
        · refine Fact.sat_keep (f := .st A) (hr3 p hp A hA) (fun k' hk hlt => ⟨.inl hk, fun f hf => ?_⟩) (fun k' hlt _ => hbel.block k' hlt)
          simp only [List.mem_singleton] at hf; subst hf
          rintro ⟨a', ha', rfl⟩
          injection ha' with ha'
          subst ha'
          simp at hlt
      · simp only [List.mem_singleton] at hf; subst hf
        obtain ⟨a', ha', rfl⟩ := hk
        injection ha' with ha'
        subst ha'
        exact Nat.le_refl _
end
end Ab
end Go.Proofs.Ytcmfemfndadfmaa

/- The law WaitReady returns true. -/
namespace Go.Proofs.Ytcmfemfndadfmaa
namespace Ab
open Go Go.RowKit
set_option linter.unusedVariables false
set_option linter.unusedSimpArgs false
set_option synthInstance.maxSize 4000
set_option synthInstance.maxHeartbeats 400000
attribute [local irreducible] JC JO JR JQ andThen inBlock OpV Gives retTo JM JS

attribute [local irreducible] hashC idA l0 l1
theorem ready_to (w : World) (F : Nat → Prop) (a b : Option Addr) (k m : Nat) (L : List Commit) (H : List ID) (rc : Commit) (rl : List Commit) (rb : Bool) (hR : waitReady L H = (rc, rl, rb)) (h : (sl a k L).holds F w) (h' : (sl b m H).holds F w) (hl : L.length < 34359738368) (hf : ∀ x ∈ L, fine x) :
    Gives Try.prog 16 [.slice a L.length k, .slice b H.length m] w F
      (fun y : (Option Addr × Nat) × (Option Addr × Nat) => .tuple ⟨[commitV rc y.1.1 y.1.2, .slice y.2.1 rl.length y.2.2, .bool rb]⟩)
      (fun y => [.st (sl y.1.1 y.1.2 rc.parents), .st (sl y.2.1 y.2.2 rl)]) := by
  have := ready_wait w F a b k m L H h h' hl hf
  rw [hR] at this
  exact this
theorem fine_few {c : Commit} (h : fewC c = true) : fine c := by
  simp only [fewC, Bool.and_eq_true, decide_eq_true_eq] at h
  exact ⟨⟨by omega, by omega⟩, by omega⟩
theorem few_fine {L : List Commit} {m : Nat} (h : fewL L m = true) : L.length ≤ m ∧ ∀ x ∈ L, fine x := by
  simp only [fewL, Bool.and_eq_true, decide_eq_true_eq, List.all_eq_true] at h
  exact ⟨h.1, fun x hx => fine_few (h.2 x hx)⟩

set_option maxHeartbeats 4000000 in
theorem law_ready (w : World) (F : Nat → Prop) (a b : Option Addr) (k m : Nat) (L : List Commit) (H : List ID) (h : (sl a k L).holds F w) (h' : (sl b m H).holds F w) :
    GivesV Try.prog 4 [.slice a L.length k, .slice b H.length m] w F (.bool true) := by
  refine gives_of Try.func4 rfl Try.ntmps4 rfl rfl [.st (sl a k L), .st (sl b m H)] (.start2 h h') ?_
  repeat (first | refine CT.next ?_ | refine JC.seq ?_ | refine JC.region ?_ | refine JO.nil ?_ | refine JO.go rfl ?_ | refine JR.val (by first | exact OpV.move | exact OpV.assign | exact OpV.load | exact OpV.fieldAddr | exact OpV.indexEl | exact OpV.len | exact OpV.lss | exact OpV.not | exact OpV.pick_true | exact OpV.pick_false | exact OpV.inc (by omega) | exact OpV.eql | exact OpV.neq | exact OpV.leq | exact OpV.gtr | exact OpV.geq | exact OpV.extract | exact OpV.makeFunc | exact OpV.addn (by omega) | exact OpV.add (by omega) | exact OpV.subn (by omega) | exact OpV.sub (by omega) | exact OpV.lens | exact OpV.eqlID | exact OpV.neqID | exact OpV.eqlEv | exact OpV.eqlOp | exact OpV.eqlStr | exact OpV.neqStr | exact OpV.eqlNil | exact OpV.eqlBool | exact OpV.neqBool) rfl ?_ | (refine JR.alloc rfl ?_; intro _) | (refine JR.box rfl ?_; intro _) | refine JR.store ?_ | refine JC.cond_true ?_ | refine JC.cond_false ?_ | refine JC.skip ?_ | refine JC.exit ?_ | refine JC.block ?_ | refine CT.past ?_ | refine CT.hit ?_ | refine CT.miss rfl ?_ | refine CT.blockEnd ?_ | refine JC.ret ?_ | refine CT.ret ?_ | refine CT.blockRet ?_ | refine JO.omit rfl rfl ?_ | (refine JR.lit rfl ⟨rfl, by decide, by decide, by decide⟩ ?_; intro _))
  refine JR.callV rfl (fun w1 hw => awake_wait w1 _) ?_
  repeat (first | refine CT.next ?_ | refine JC.seq ?_ | refine JC.region ?_ | refine JO.nil ?_ | refine JO.go rfl ?_ | refine JR.val (by first | exact OpV.move | exact OpV.assign | exact OpV.load | exact OpV.fieldAddr | exact OpV.indexEl | exact OpV.len | exact OpV.lss | exact OpV.not | exact OpV.pick_true | exact OpV.pick_false | exact OpV.inc (by omega) | exact OpV.eql | exact OpV.neq | exact OpV.leq | exact OpV.gtr | exact OpV.geq | exact OpV.extract | exact OpV.makeFunc | exact OpV.addn (by omega) | exact OpV.add (by omega) | exact OpV.subn (by omega) | exact OpV.sub (by omega) | exact OpV.lens | exact OpV.eqlID | exact OpV.neqID | exact OpV.eqlEv | exact OpV.eqlOp | exact OpV.eqlStr | exact OpV.neqStr | exact OpV.eqlNil | exact OpV.eqlBool | exact OpV.neqBool) rfl ?_ | (refine JR.alloc rfl ?_; intro _) | (refine JR.box rfl ?_; intro _) | refine JR.store ?_ | refine JC.cond_true ?_ | refine JC.cond_false ?_ | refine JC.skip ?_ | refine JC.exit ?_ | refine JC.block ?_ | refine CT.past ?_ | refine CT.hit ?_ | refine CT.miss rfl ?_ | refine CT.blockEnd ?_ | refine JC.ret ?_ | refine CT.ret ?_ | refine CT.blockRet ?_ | refine JO.omit rfl rfl ?_ | (refine JR.lit rfl ⟨rfl, by decide, by decide, by decide⟩ ?_; intro _))
  refine JR.callV rfl (fun w1 hw => few_all w1 _ a k L 20 hw.get) ?_
  cases hfew : fewL L 20 with
  | false =>
    repeat (first | refine CT.next ?_ | refine JC.seq ?_ | refine JC.region ?_ | refine JO.nil ?_ | refine JO.go rfl ?_ | refine JR.val (by first | exact OpV.move | exact OpV.assign | exact OpV.load | exact OpV.fieldAddr | exact OpV.indexEl | exact OpV.len | exact OpV.lss | exact OpV.not | exact OpV.pick_true | exact OpV.pick_false | exact OpV.inc (by omega) | exact OpV.eql | exact OpV.neq | exact OpV.leq | exact OpV.gtr | exact OpV.geq | exact OpV.extract | exact OpV.makeFunc | exact OpV.addn (by omega) | exact OpV.add (by omega) | exact OpV.subn (by omega) | exact OpV.sub (by omega) | exact OpV.lens | exact OpV.eqlID | exact OpV.neqID | exact OpV.eqlEv | exact OpV.eqlOp | exact OpV.eqlStr | exact OpV.neqStr | exact OpV.eqlNil | exact OpV.eqlBool | exact OpV.neqBool) rfl ?_ | (refine JR.alloc rfl ?_; intro _) | (refine JR.box rfl ?_; intro _) | refine JR.store ?_ | refine JC.cond_true ?_ | refine JC.cond_false ?_ | refine JC.skip ?_ | refine JC.exit ?_ | refine JC.block ?_ | refine CT.past ?_ | refine CT.hit ?_ | refine CT.miss rfl ?_ | refine CT.blockEnd ?_ | refine JC.ret ?_ | refine CT.ret ?_ | refine CT.blockRet ?_ | refine JO.omit rfl rfl ?_ | (refine JR.lit rfl ⟨rfl, by decide, by decide, by decide⟩ ?_; intro _))
    exact CT.done () rfl (fun w ho => ho.ent)
  | true =>
    obtain ⟨hL, hf⟩ := few_fine hfew
    repeat (first | refine CT.next ?_ | refine JC.seq ?_ | refine JC.region ?_ | refine JO.nil ?_ | refine JO.go rfl ?_ | refine JR.val (by first | exact OpV.move | exact OpV.assign | exact OpV.load | exact OpV.fieldAddr | exact OpV.indexEl | exact OpV.len | exact OpV.lss | exact OpV.not | exact OpV.pick_true | exact OpV.pick_false | exact OpV.inc (by omega) | exact OpV.eql | exact OpV.neq | exact OpV.leq | exact OpV.gtr | exact OpV.geq | exact OpV.extract | exact OpV.makeFunc | exact OpV.addn (by omega) | exact OpV.add (by omega) | exact OpV.subn (by omega) | exact OpV.sub (by omega) | exact OpV.lens | exact OpV.eqlID | exact OpV.neqID | exact OpV.eqlEv | exact OpV.eqlOp | exact OpV.eqlStr | exact OpV.neqStr | exact OpV.eqlNil | exact OpV.eqlBool | exact OpV.neqBool) rfl ?_ | (refine JR.alloc rfl ?_; intro _) | (refine JR.box rfl ?_; intro _) | refine JR.store ?_ | refine JC.cond_true ?_ | refine JC.cond_false ?_ | refine JC.skip ?_ | refine JC.exit ?_ | refine JC.block ?_ | refine CT.past ?_ | refine CT.hit ?_ | refine CT.miss rfl ?_ | refine CT.blockEnd ?_ | refine JC.ret ?_ | refine CT.ret ?_ | refine CT.blockRet ?_ | refine JO.omit rfl rfl ?_ | (refine JR.lit rfl ⟨rfl, by decide, by decide, by decide⟩ ?_; intro _))
    refine JC.test (fun h1 => ?_) (fun h1 => ?_)
    · repeat (first | refine CT.next ?_ | refine JC.seq ?_ | refine JC.region ?_ | refine JO.nil ?_ | refine JO.go rfl ?_ | refine JR.val (by first | exact OpV.move | exact OpV.assign | exact OpV.load | exact OpV.fieldAddr | exact OpV.indexEl | exact OpV.len | exact OpV.lss | exact OpV.not | exact OpV.pick_true | exact OpV.pick_false | exact OpV.inc (by omega) | exact OpV.eql | exact OpV.neq | exact OpV.leq | exact OpV.gtr | exact OpV.geq | exact OpV.extract | exact OpV.makeFunc | exact OpV.addn (by omega) | exact OpV.add (by omega) | exact OpV.subn (by omega) | exact OpV.sub (by omega) | exact OpV.lens | exact OpV.eqlID | exact OpV.neqID | exact OpV.eqlEv | exact OpV.eqlOp | exact OpV.eqlStr | exact OpV.neqStr | exact OpV.eqlNil | exact OpV.eqlBool | exact OpV.neqBool) rfl ?_ | (refine JR.alloc rfl ?_; intro _) | (refine JR.box rfl ?_; intro _) | refine JR.store ?_ | refine JC.cond_true ?_ | refine JC.cond_false ?_ | refine JC.skip ?_ | refine JC.exit ?_ | refine JC.block ?_ | refine CT.past ?_ | refine CT.hit ?_ | refine CT.miss rfl ?_ | refine CT.blockEnd ?_ | refine JC.ret ?_ | refine CT.ret ?_ | refine CT.blockRet ?_ | refine JO.omit rfl rfl ?_ | (refine JR.lit rfl ⟨rfl, by decide, by decide, by decide⟩ ?_; intro _))
      exact CT.done () rfl (fun w ho => ho.ent)
    have hH : H.length ≤ 20 := by omega
    obtain ⟨⟨rc, rl, rb⟩, hR⟩ : ∃ R, waitReady L H = R := ⟨_, rfl⟩
    repeat (first | refine CT.next ?_ | refine JC.seq ?_ | refine JC.region ?_ | refine JO.nil ?_ | refine JO.go rfl ?_ | refine JR.val (by first | exact OpV.move | exact OpV.assign | exact OpV.load | exact OpV.fieldAddr | exact OpV.indexEl | exact OpV.len | exact OpV.lss | exact OpV.not | exact OpV.pick_true | exact OpV.pick_false | exact OpV.inc (by omega) | exact OpV.eql | exact OpV.neq | exact OpV.leq | exact OpV.gtr | exact OpV.geq | exact OpV.extract | exact OpV.makeFunc | exact OpV.addn (by omega) | exact OpV.add (by omega) | exact OpV.subn (by omega) | exact OpV.sub (by omega) | exact OpV.lens | exact OpV.eqlID | exact OpV.neqID | exact OpV.eqlEv | exact OpV.eqlOp | exact OpV.eqlStr | exact OpV.neqStr | exact OpV.eqlNil | exact OpV.eqlBool | exact OpV.neqBool) rfl ?_ | (refine JR.alloc rfl ?_; intro _) | (refine JR.box rfl ?_; intro _) | refine JR.store ?_ | refine JC.cond_true ?_ | refine JC.cond_false ?_ | refine JC.skip ?_ | refine JC.exit ?_ | refine JC.block ?_ | refine CT.past ?_ | refine CT.hit ?_ | refine CT.miss rfl ?_ | refine CT.blockEnd ?_ | refine JC.ret ?_ | refine CT.ret ?_ | refine CT.blockRet ?_ | refine JO.omit rfl rfl ?_ | (refine JR.lit rfl ⟨rfl, by decide, by decide, by decide⟩ ?_; intro _))
    refine JR.call2 (v := fun y : (Option Addr × Nat) × (Option Addr × Nat) => .tuple ⟨[commitV rc y.1.1 y.1.2, .slice y.2.1 rl.length y.2.2, .bool rb]⟩) rfl (fun w1 hw => ready_to w1 _ a b k m L H rc rl rb hR hw.get hw.get (by omega) hf) ?_
    rintro ⟨⟨ac, kc⟩, ⟨ar, kr⟩⟩
    repeat (first | refine CT.next ?_ | refine JC.seq ?_ | refine JC.region ?_ | refine JO.nil ?_ | refine JO.go rfl ?_ | refine JR.val (by first | exact OpV.move | exact OpV.assign | exact OpV.load | exact OpV.fieldAddr | exact OpV.indexEl | exact OpV.len | exact OpV.lss | exact OpV.not | exact OpV.pick_true | exact OpV.pick_false | exact OpV.inc (by omega) | exact OpV.eql | exact OpV.neq | exact OpV.leq | exact OpV.gtr | exact OpV.geq | exact OpV.extract | exact OpV.makeFunc | exact OpV.addn (by omega) | exact OpV.add (by omega) | exact OpV.subn (by omega) | exact OpV.sub (by omega) | exact OpV.lens | exact OpV.eqlID | exact OpV.neqID | exact OpV.eqlEv | exact OpV.eqlOp | exact OpV.eqlStr | exact OpV.neqStr | exact OpV.eqlNil | exact OpV.eqlBool | exact OpV.neqBool) rfl ?_ | (refine JR.alloc rfl ?_; intro _) | (refine JR.box rfl ?_; intro _) | refine JR.store ?_ | refine JC.cond_true ?_ | refine JC.cond_false ?_ | refine JC.skip ?_ | refine JC.exit ?_ | refine JC.block ?_ | refine CT.past ?_ | refine CT.hit ?_ | refine CT.miss rfl ?_ | refine CT.blockEnd ?_ | refine JC.ret ?_ | refine CT.ret ?_ | refine CT.blockRet ?_ | refine JO.omit rfl rfl ?_ | (refine JR.lit rfl ⟨rfl, by decide, by decide, by decide⟩ ?_; intro _))
    rename_i bc
    refine JC.loop1 (fun i : Nat => [(0, .slice a L.length k), (1, .slice b H.length m), (7, .pointer (some ⟨bc, 0, none⟩)), (8, .slice ar rl.length kr), (9, .bool rb), (10, .int .i64 (i : Int))])
      (fun i => [.st (sl a k L), .st (sl b m H), .own bc 29 [.int .i64 rc.ev.node, .int .i64 rc.ev.seq, .int .i64 rc.gen, .slice ac rc.parents.length kc, .int .i64 rc.op.kind, .string rc.op.key, .string rc.op.elem, .int .i64 rc.op.n], .st (sl ac kc rc.parents), .st (sl ar kr rl)])
      (fun i => i ≤ L.length ∧ ∀ j (hj : j < i) (hL : j < L.length), isReady H L[j] = false) (fun i => L.length - i) 0 ⟨Nat.zero_le _, fun j hj => by omega⟩ inferInstance ?_
    intro i ⟨hi, hno⟩
    repeat (first | refine CT.next ?_ | refine JC.seq ?_ | refine JC.region ?_ | refine JO.nil ?_ | refine JO.go rfl ?_ | refine JR.val (by first | exact OpV.move | exact OpV.assign | exact OpV.load | exact OpV.fieldAddr | exact OpV.indexEl | exact OpV.len | exact OpV.lss | exact OpV.not | exact OpV.pick_true | exact OpV.pick_false | exact OpV.inc (by omega) | exact OpV.eql | exact OpV.neq | exact OpV.leq | exact OpV.gtr | exact OpV.geq | exact OpV.extract | exact OpV.makeFunc | exact OpV.addn (by omega) | exact OpV.add (by omega) | exact OpV.subn (by omega) | exact OpV.sub (by omega) | exact OpV.lens | exact OpV.eqlID | exact OpV.neqID | exact OpV.eqlEv | exact OpV.eqlOp | exact OpV.eqlStr | exact OpV.neqStr | exact OpV.eqlNil | exact OpV.eqlBool | exact OpV.neqBool) rfl ?_ | (refine JR.alloc rfl ?_; intro _) | (refine JR.box rfl ?_; intro _) | refine JR.store ?_ | refine JC.cond_true ?_ | refine JC.cond_false ?_ | refine JC.skip ?_ | refine JC.exit ?_ | refine JC.block ?_ | refine CT.past ?_ | refine CT.hit ?_ | refine CT.miss rfl ?_ | refine CT.blockEnd ?_ | refine JC.ret ?_ | refine CT.ret ?_ | refine CT.blockRet ?_ | refine JO.omit rfl rfl ?_ | (refine JR.lit rfl ⟨rfl, by decide, by decide, by decide⟩ ?_; intro _))
    refine JC.test (fun hlt => ?_) (fun hge => ?_)
    · have hlt' : i < L.length := by omega
      repeat (first | refine CT.next ?_ | refine JC.seq ?_ | refine JC.region ?_ | refine JO.nil ?_ | refine JO.go rfl ?_ | refine JR.val (by first | exact OpV.move | exact OpV.assign | exact OpV.load | exact OpV.fieldAddr | exact OpV.indexEl | exact OpV.len | exact OpV.lss | exact OpV.not | exact OpV.pick_true | exact OpV.pick_false | exact OpV.inc (by omega) | exact OpV.eql | exact OpV.neq | exact OpV.leq | exact OpV.gtr | exact OpV.geq | exact OpV.extract | exact OpV.makeFunc | exact OpV.addn (by omega) | exact OpV.add (by omega) | exact OpV.subn (by omega) | exact OpV.sub (by omega) | exact OpV.lens | exact OpV.eqlID | exact OpV.neqID | exact OpV.eqlEv | exact OpV.eqlOp | exact OpV.eqlStr | exact OpV.neqStr | exact OpV.eqlNil | exact OpV.eqlBool | exact OpV.neqBool) rfl ?_ | (refine JR.alloc rfl ?_; intro _) | (refine JR.box rfl ?_; intro _) | refine JR.store ?_ | refine JC.cond_true ?_ | refine JC.cond_false ?_ | refine JC.skip ?_ | refine JC.exit ?_ | refine JC.block ?_ | refine CT.past ?_ | refine CT.hit ?_ | refine CT.miss rfl ?_ | refine CT.blockEnd ?_ | refine JC.ret ?_ | refine CT.ret ?_ | refine CT.blockRet ?_ | refine JO.omit rfl rfl ?_ | (refine JR.lit rfl ⟨rfl, by decide, by decide, by decide⟩ ?_; intro _))
      refine JR.indexCommit rfl hlt' ?_
      intro b1 o1 p1 q1
      repeat (first | refine CT.next ?_ | refine JC.seq ?_ | refine JC.region ?_ | refine JO.nil ?_ | refine JO.go rfl ?_ | refine JR.val (by first | exact OpV.move | exact OpV.assign | exact OpV.load | exact OpV.fieldAddr | exact OpV.indexEl | exact OpV.len | exact OpV.lss | exact OpV.not | exact OpV.pick_true | exact OpV.pick_false | exact OpV.inc (by omega) | exact OpV.eql | exact OpV.neq | exact OpV.leq | exact OpV.gtr | exact OpV.geq | exact OpV.extract | exact OpV.makeFunc | exact OpV.addn (by omega) | exact OpV.add (by omega) | exact OpV.subn (by omega) | exact OpV.sub (by omega) | exact OpV.lens | exact OpV.eqlID | exact OpV.neqID | exact OpV.eqlEv | exact OpV.eqlOp | exact OpV.eqlStr | exact OpV.neqStr | exact OpV.eqlNil | exact OpV.eqlBool | exact OpV.neqBool) rfl ?_ | (refine JR.alloc rfl ?_; intro _) | (refine JR.box rfl ?_; intro _) | refine JR.store ?_ | refine JC.cond_true ?_ | refine JC.cond_false ?_ | refine JC.skip ?_ | refine JC.exit ?_ | refine JC.block ?_ | refine CT.past ?_ | refine CT.hit ?_ | refine CT.miss rfl ?_ | refine CT.blockEnd ?_ | refine JC.ret ?_ | refine CT.ret ?_ | refine CT.blockRet ?_ | refine JO.omit rfl rfl ?_ | (refine JR.lit rfl ⟨rfl, by decide, by decide, by decide⟩ ?_; intro _))
      refine JR.callBuf rfl (fun w1 hw => without_ids w1 _ p1 b q1 m (L[i]).parents H hw.get hw.get (hf _ (List.getElem_mem hlt')).2) ?_
      intro a2 c2
      repeat (first | refine CT.next ?_ | refine JC.seq ?_ | refine JC.region ?_ | refine JO.nil ?_ | refine JO.go rfl ?_ | refine JR.val (by first | exact OpV.move | exact OpV.assign | exact OpV.load | exact OpV.fieldAddr | exact OpV.indexEl | exact OpV.len | exact OpV.lss | exact OpV.not | exact OpV.pick_true | exact OpV.pick_false | exact OpV.inc (by omega) | exact OpV.eql | exact OpV.neq | exact OpV.leq | exact OpV.gtr | exact OpV.geq | exact OpV.extract | exact OpV.makeFunc | exact OpV.addn (by omega) | exact OpV.add (by omega) | exact OpV.subn (by omega) | exact OpV.sub (by omega) | exact OpV.lens | exact OpV.eqlID | exact OpV.neqID | exact OpV.eqlEv | exact OpV.eqlOp | exact OpV.eqlStr | exact OpV.neqStr | exact OpV.eqlNil | exact OpV.eqlBool | exact OpV.neqBool) rfl ?_ | (refine JR.alloc rfl ?_; intro _) | (refine JR.box rfl ?_; intro _) | refine JR.store ?_ | refine JC.cond_true ?_ | refine JC.cond_false ?_ | refine JC.skip ?_ | refine JC.exit ?_ | refine JC.block ?_ | refine CT.past ?_ | refine CT.hit ?_ | refine CT.miss rfl ?_ | refine CT.blockEnd ?_ | refine JC.ret ?_ | refine CT.ret ?_ | refine CT.blockRet ?_ | refine JO.omit rfl rfl ?_ | (refine JR.lit rfl ⟨rfl, by decide, by decide, by decide⟩ ?_; intro _))
      refine JC.test (fun h2 => ?_) (fun h2 => ?_)
      · have hnr : isReady H L[i] = false := by
          simp only [isReady, decide_eq_false_iff_not]; omega
        repeat (first | refine CT.next ?_ | refine JC.seq ?_ | refine JC.region ?_ | refine JO.nil ?_ | refine JO.go rfl ?_ | refine JR.val (by first | exact OpV.move | exact OpV.assign | exact OpV.load | exact OpV.fieldAddr | exact OpV.indexEl | exact OpV.len | exact OpV.lss | exact OpV.not | exact OpV.pick_true | exact OpV.pick_false | exact OpV.inc (by omega) | exact OpV.eql | exact OpV.neq | exact OpV.leq | exact OpV.gtr | exact OpV.geq | exact OpV.extract | exact OpV.makeFunc | exact OpV.addn (by omega) | exact OpV.add (by omega) | exact OpV.subn (by omega) | exact OpV.sub (by omega) | exact OpV.lens | exact OpV.eqlID | exact OpV.neqID | exact OpV.eqlEv | exact OpV.eqlOp | exact OpV.eqlStr | exact OpV.neqStr | exact OpV.eqlNil | exact OpV.eqlBool | exact OpV.neqBool) rfl ?_ | (refine JR.alloc rfl ?_; intro _) | (refine JR.box rfl ?_; intro _) | refine JR.store ?_ | refine JC.cond_true ?_ | refine JC.cond_false ?_ | refine JC.skip ?_ | refine JC.exit ?_ | refine JC.block ?_ | refine CT.past ?_ | refine CT.hit ?_ | refine CT.miss rfl ?_ | refine CT.blockEnd ?_ | refine JC.ret ?_ | refine CT.ret ?_ | refine CT.blockRet ?_ | refine JO.omit rfl rfl ?_ | (refine JR.lit rfl ⟨rfl, by decide, by decide, by decide⟩ ?_; intro _))
        refine ⟨i + 1, ⟨by omega, fun j hj hL => ?_⟩, by omega, inferInstance⟩
        by_cases hji : j = i
        · subst hji; exact hnr
        · exact hno j (by omega) hL
      · have hr : isReady H L[i] = true := by
          simp only [isReady, decide_eq_true_eq]; omega
        have hfi : L.findIdx? (isReady H) = some i := List.findIdx?_eq_some_iff_getElem.2 ⟨hlt', hr, fun j hj => by simp [hno j hj (by omega)]⟩
        have hR2 : waitReady L H = (L[i], L.eraseIdx i, true) := by simp [waitReady, hfi, hlt']
        rw [hR2] at hR
        injection hR with e1 e2
        injection e2 with e2 e3
        subst e1 e2 e3
        have he : L.eraseIdx i = L.take i ++ L.drop (i + 1) := List.eraseIdx_eq_take_drop_succ ..
        repeat (first | refine CT.next ?_ | refine JC.seq ?_ | refine JC.region ?_ | refine JO.nil ?_ | refine JO.go rfl ?_ | refine JR.val (by first | exact OpV.move | exact OpV.assign | exact OpV.load | exact OpV.fieldAddr | exact OpV.indexEl | exact OpV.len | exact OpV.lss | exact OpV.not | exact OpV.pick_true | exact OpV.pick_false | exact OpV.inc (by omega) | exact OpV.eql | exact OpV.neq | exact OpV.leq | exact OpV.gtr | exact OpV.geq | exact OpV.extract | exact OpV.makeFunc | exact OpV.addn (by omega) | exact OpV.add (by omega) | exact OpV.subn (by omega) | exact OpV.sub (by omega) | exact OpV.lens | exact OpV.eqlID | exact OpV.neqID | exact OpV.eqlEv | exact OpV.eqlOp | exact OpV.eqlStr | exact OpV.neqStr | exact OpV.eqlNil | exact OpV.eqlBool | exact OpV.neqBool) rfl ?_ | (refine JR.alloc rfl ?_; intro _) | (refine JR.box rfl ?_; intro _) | refine JR.store ?_ | refine JC.cond_true ?_ | refine JC.cond_false ?_ | refine JC.skip ?_ | refine JC.exit ?_ | refine JC.block ?_ | refine CT.past ?_ | refine CT.hit ?_ | refine CT.miss rfl ?_ | refine CT.blockEnd ?_ | refine JC.ret ?_ | refine CT.ret ?_ | refine CT.blockRet ?_ | refine JO.omit rfl rfl ?_ | (refine JR.lit rfl ⟨rfl, by decide, by decide, by decide⟩ ?_; intro _))
        refine JC.more (Γ' := [.st (sl a k (L.take i)), .st (sl (fromA a k (i + 1) 8) (k - (i + 1)) (L.drop (i + 1))), .st (sl a k L), .own bc 29 [.int .i64 (L[i]).ev.node, .int .i64 (L[i]).ev.seq, .int .i64 (L[i]).gen, .slice ac (L[i]).parents.length kc, .int .i64 (L[i]).op.kind, .string (L[i]).op.key, .string (L[i]).op.elem, .int .i64 (L[i]).op.n], .st (sl ac kc (L[i]).parents), .st (sl ar kr (L.eraseIdx i))]) (fun w1 ho => ?_) ?_
        · have hs : (sl a k L).holds _ w1 := ho.get
          have h3 := ho.add (A := sl (fromA a k (i + 1) 8) (k - (i + 1)) (L.drop (i + 1))) (sl_from hs (by omega))
          have hs2 : (sl a k L).holds _ w1 := h3.get
          exact (h3.add (A := sl a k (L.take i)) (sl_take hs2 (by omega) ⟨by have := hs2.1; omega, Nat.le_refl _⟩)).ent
        refine JC.draw 9 mixed ?_
        refine JM.take 1 rfl (by kernel_rfl) rfl OpV.move rfl rfl ?_
        refine JM.take 2 rfl (by kernel_rfl) rfl OpV.move rfl rfl ?_
        refine JM.take 3 rfl (by kernel_rfl) rfl (OpV.sliceToV (k := i) (fun w1 ho => by have := (Hold.get (A := sl a k L) ho).1; omega)) rfl rfl ?_
        refine JM.reslot 53 (.slice a (L.take i).length k) (by rw [List.length_take]; congr 1 <;> omega) ?_
        refine JM.take 5 rfl (by kernel_rfl) rfl OpV.move rfl rfl ?_
        refine JM.take 6 rfl (by kernel_rfl) rfl OpV.move rfl rfl ?_
        refine JM.take 7 rfl (by kernel_rfl) rfl (OpV.inc (by omega)) rfl rfl ?_
        refine JM.take 8 rfl (by kernel_rfl) rfl (OpV.sliceFromA (l := i + 1) (s := 8) rfl (fun w1 ho => ⟨by omega, (Hold.get (A := sl a k L) ho).1⟩)) rfl rfl ?_
        refine JM.reslot 58 (.slice (fromA a k (i + 1) 8) (L.drop (i + 1)).length (k - (i + 1))) (by rw [List.length_drop]) ?_
        refine JM.two 0 4 (by kernel_rfl) rfl rfl rfl rfl rfl rfl rfl rfl (JS.val OpV.move rfl ?_) (JS.appendNil (L' := L.take i) rfl (by exact ⟨rfl, rfl, by decide⟩) (by rw [List.length_take]; omega) fun a4 c4 => ?_)
        · refine JM.one 4 (by kernel_rfl) rfl rfl rfl rfl (JS.appendNil (L' := L.take i) rfl (by exact ⟨rfl, rfl, by decide⟩) (by rw [List.length_take]; omega) fun a4 c4 => ?_)
          refine JM.last 9 (by kernel_rfl) rfl rfl rfl (JR.appendSl (L := L.take i) (L' := L.drop (i + 1)) rfl (by exact ⟨rfl, rfl, by decide⟩) (by rw [List.length_take, List.length_drop]; omega) (fun a5 c5 => JO.nil ⟨rfl, ?_⟩))
          refine JM.more (fun w1 ho => ho.pub) ?_
          refine JM.last 10 (by kernel_rfl) rfl rfl rfl (JR.callV rfl (fun w1 hw => list_ref w1 _ ar a5 kr c5 (L.eraseIdx i) (L.take i ++ L.drop (i + 1)) hw.get hw.get) (JO.reslot 60 (.bool true) (by rw [he]; simp) (JO.nil ⟨rfl, ?_⟩)))
          refine JM.last 11 (by kernel_rfl) rfl rfl rfl (JR.val OpV.assign rfl (JO.nil ⟨rfl, ?_⟩))
          refine JM.nil (by kernel_rfl) ?_
          repeat (first | refine CT.next ?_ | refine JC.seq ?_ | refine JC.region ?_ | refine JO.nil ?_ | refine JO.go rfl ?_ | refine JR.val (by first | exact OpV.move | exact OpV.assign | exact OpV.load | exact OpV.fieldAddr | exact OpV.indexEl | exact OpV.len | exact OpV.lss | exact OpV.not | exact OpV.pick_true | exact OpV.pick_false | exact OpV.inc (by omega) | exact OpV.eql | exact OpV.neq | exact OpV.leq | exact OpV.gtr | exact OpV.geq | exact OpV.extract | exact OpV.makeFunc | exact OpV.addn (by omega) | exact OpV.add (by omega) | exact OpV.subn (by omega) | exact OpV.sub (by omega) | exact OpV.lens | exact OpV.eqlID | exact OpV.neqID | exact OpV.eqlEv | exact OpV.eqlOp | exact OpV.eqlStr | exact OpV.neqStr | exact OpV.eqlNil | exact OpV.eqlBool | exact OpV.neqBool) rfl ?_ | (refine JR.alloc rfl ?_; intro _) | (refine JR.box rfl ?_; intro _) | refine JR.store ?_ | refine JC.cond_true ?_ | refine JC.cond_false ?_ | refine JC.skip ?_ | refine JC.exit ?_ | refine JC.block ?_ | refine CT.past ?_ | refine CT.hit ?_ | refine CT.miss rfl ?_ | refine CT.blockEnd ?_ | refine JC.ret ?_ | refine CT.ret ?_ | refine CT.blockRet ?_ | refine JO.omit rfl rfl ?_ | (refine JR.lit rfl ⟨rfl, by decide, by decide, by decide⟩ ?_; intro _))
          refine JC.openCommit (L := L) (.slice a L.length k) i hlt' ?_
          intro b6 o6 p6 q6
          refine JC.quiet mixed (by kernel_rfl) ?_
          repeat (first | refine JQ.val rfl (by first | exact OpV.move | exact OpV.assign | exact OpV.load | exact OpV.fieldAddr | exact OpV.indexEl | exact OpV.len | exact OpV.lss | exact OpV.not | exact OpV.pick_true | exact OpV.pick_false | exact OpV.inc (by omega) | exact OpV.eql | exact OpV.neq | exact OpV.leq | exact OpV.gtr | exact OpV.geq | exact OpV.extract | exact OpV.makeFunc | exact OpV.addn (by omega) | exact OpV.add (by omega) | exact OpV.subn (by omega) | exact OpV.sub (by omega) | exact OpV.lens | exact OpV.eqlID | exact OpV.neqID | exact OpV.eqlEv | exact OpV.eqlOp | exact OpV.eqlStr | exact OpV.neqStr | exact OpV.eqlNil | exact OpV.eqlBool | exact OpV.neqBool) rfl ?_ | refine JQ.omit rfl rfl ?_ | refine JQ.nil ?_)
          refine JQ.call rfl rfl (fun w1 hw => same_commit w1 _ (L[i]) (L[i]) ac p6 kc q6 hw.get hw.get) ?_
          refine JQ.reslot 71 (.bool true) (by simp) ?_
          repeat (first | refine JQ.val rfl (by first | exact OpV.move | exact OpV.assign | exact OpV.load | exact OpV.fieldAddr | exact OpV.indexEl | exact OpV.len | exact OpV.lss | exact OpV.not | exact OpV.pick_true | exact OpV.pick_false | exact OpV.inc (by omega) | exact OpV.eql | exact OpV.neq | exact OpV.leq | exact OpV.gtr | exact OpV.geq | exact OpV.extract | exact OpV.makeFunc | exact OpV.addn (by omega) | exact OpV.add (by omega) | exact OpV.subn (by omega) | exact OpV.sub (by omega) | exact OpV.lens | exact OpV.eqlID | exact OpV.neqID | exact OpV.eqlEv | exact OpV.eqlOp | exact OpV.eqlStr | exact OpV.neqStr | exact OpV.eqlNil | exact OpV.eqlBool | exact OpV.neqBool) rfl ?_ | refine JQ.omit rfl rfl ?_ | refine JQ.nil ?_)
          repeat (first | refine CT.next ?_ | refine JC.seq ?_ | refine JC.region ?_ | refine JO.nil ?_ | refine JO.go rfl ?_ | refine JR.val (by first | exact OpV.move | exact OpV.assign | exact OpV.load | exact OpV.fieldAddr | exact OpV.indexEl | exact OpV.len | exact OpV.lss | exact OpV.not | exact OpV.pick_true | exact OpV.pick_false | exact OpV.inc (by omega) | exact OpV.eql | exact OpV.neq | exact OpV.leq | exact OpV.gtr | exact OpV.geq | exact OpV.extract | exact OpV.makeFunc | exact OpV.addn (by omega) | exact OpV.add (by omega) | exact OpV.subn (by omega) | exact OpV.sub (by omega) | exact OpV.lens | exact OpV.eqlID | exact OpV.neqID | exact OpV.eqlEv | exact OpV.eqlOp | exact OpV.eqlStr | exact OpV.neqStr | exact OpV.eqlNil | exact OpV.eqlBool | exact OpV.neqBool) rfl ?_ | (refine JR.alloc rfl ?_; intro _) | (refine JR.box rfl ?_; intro _) | refine JR.store ?_ | refine JC.cond_true ?_ | refine JC.cond_false ?_ | refine JC.skip ?_ | refine JC.exit ?_ | refine JC.block ?_ | refine CT.past ?_ | refine CT.hit ?_ | refine CT.miss rfl ?_ | refine CT.blockEnd ?_ | refine JC.ret ?_ | refine CT.ret ?_ | refine CT.blockRet ?_ | refine JO.omit rfl rfl ?_ | (refine JR.lit rfl ⟨rfl, by decide, by decide, by decide⟩ ?_; intro _))
          exact CT.done () rfl (fun w ho => ho.ent)
        · refine JM.mix 0 9 (by kernel_rfl) rfl rfl rfl rfl rfl rfl rfl (JS.val OpV.move rfl ?_) (JR.appendSl (L := L.take i) (L' := L.drop (i + 1)) rfl (by exact ⟨rfl, rfl, by decide⟩) (by rw [List.length_take, List.length_drop]; omega) (fun a5 c5 => JO.nil ⟨rfl, ?_⟩))
          · refine JM.last 9 (by kernel_rfl) rfl rfl rfl (JR.appendSl (L := L.take i) (L' := L.drop (i + 1)) rfl (by exact ⟨rfl, rfl, by decide⟩) (by rw [List.length_take, List.length_drop]; omega) (fun a5 c5 => JO.nil ⟨rfl, ?_⟩))
            refine JM.more (fun w1 ho => ho.pub) ?_
            refine JM.last 10 (by kernel_rfl) rfl rfl rfl (JR.callV rfl (fun w1 hw => list_ref w1 _ ar a5 kr c5 (L.eraseIdx i) (L.take i ++ L.drop (i + 1)) hw.get hw.get) (JO.reslot 60 (.bool true) (by rw [he]; simp) (JO.nil ⟨rfl, ?_⟩)))
            refine JM.last 11 (by kernel_rfl) rfl rfl rfl (JR.val OpV.assign rfl (JO.nil ⟨rfl, ?_⟩))
            refine JM.nil (by kernel_rfl) ?_
            repeat (first | refine CT.next ?_ | refine JC.seq ?_ | refine JC.region ?_ | refine JO.nil ?_ | refine JO.go rfl ?_ | refine JR.val (by first | exact OpV.move | exact OpV.assign | exact OpV.load | exact OpV.fieldAddr | exact OpV.indexEl | exact OpV.len | exact OpV.lss | exact OpV.not | exact OpV.pick_true | exact OpV.pick_false | exact OpV.inc (by omega) | exact OpV.eql | exact OpV.neq | exact OpV.leq | exact OpV.gtr | exact OpV.geq | exact OpV.extract | exact OpV.makeFunc | exact OpV.addn (by omega) | exact OpV.add (by omega) | exact OpV.subn (by omega) | exact OpV.sub (by omega) | exact OpV.lens | exact OpV.eqlID | exact OpV.neqID | exact OpV.eqlEv | exact OpV.eqlOp | exact OpV.eqlStr | exact OpV.neqStr | exact OpV.eqlNil | exact OpV.eqlBool | exact OpV.neqBool) rfl ?_ | (refine JR.alloc rfl ?_; intro _) | (refine JR.box rfl ?_; intro _) | refine JR.store ?_ | refine JC.cond_true ?_ | refine JC.cond_false ?_ | refine JC.skip ?_ | refine JC.exit ?_ | refine JC.block ?_ | refine CT.past ?_ | refine CT.hit ?_ | refine CT.miss rfl ?_ | refine CT.blockEnd ?_ | refine JC.ret ?_ | refine CT.ret ?_ | refine CT.blockRet ?_ | refine JO.omit rfl rfl ?_ | (refine JR.lit rfl ⟨rfl, by decide, by decide, by decide⟩ ?_; intro _))
            refine JC.openCommit (L := L) (.slice a L.length k) i hlt' ?_
            intro b6 o6 p6 q6
            refine JC.quiet mixed (by kernel_rfl) ?_
            repeat (first | refine JQ.val rfl (by first | exact OpV.move | exact OpV.assign | exact OpV.load | exact OpV.fieldAddr | exact OpV.indexEl | exact OpV.len | exact OpV.lss | exact OpV.not | exact OpV.pick_true | exact OpV.pick_false | exact OpV.inc (by omega) | exact OpV.eql | exact OpV.neq | exact OpV.leq | exact OpV.gtr | exact OpV.geq | exact OpV.extract | exact OpV.makeFunc | exact OpV.addn (by omega) | exact OpV.add (by omega) | exact OpV.subn (by omega) | exact OpV.sub (by omega) | exact OpV.lens | exact OpV.eqlID | exact OpV.neqID | exact OpV.eqlEv | exact OpV.eqlOp | exact OpV.eqlStr | exact OpV.neqStr | exact OpV.eqlNil | exact OpV.eqlBool | exact OpV.neqBool) rfl ?_ | refine JQ.omit rfl rfl ?_ | refine JQ.nil ?_)
            refine JQ.call rfl rfl (fun w1 hw => same_commit w1 _ (L[i]) (L[i]) ac p6 kc q6 hw.get hw.get) ?_
            refine JQ.reslot 71 (.bool true) (by simp) ?_
            repeat (first | refine JQ.val rfl (by first | exact OpV.move | exact OpV.assign | exact OpV.load | exact OpV.fieldAddr | exact OpV.indexEl | exact OpV.len | exact OpV.lss | exact OpV.not | exact OpV.pick_true | exact OpV.pick_false | exact OpV.inc (by omega) | exact OpV.eql | exact OpV.neq | exact OpV.leq | exact OpV.gtr | exact OpV.geq | exact OpV.extract | exact OpV.makeFunc | exact OpV.addn (by omega) | exact OpV.add (by omega) | exact OpV.subn (by omega) | exact OpV.sub (by omega) | exact OpV.lens | exact OpV.eqlID | exact OpV.neqID | exact OpV.eqlEv | exact OpV.eqlOp | exact OpV.eqlStr | exact OpV.neqStr | exact OpV.eqlNil | exact OpV.eqlBool | exact OpV.neqBool) rfl ?_ | refine JQ.omit rfl rfl ?_ | refine JQ.nil ?_)
            repeat (first | refine CT.next ?_ | refine JC.seq ?_ | refine JC.region ?_ | refine JO.nil ?_ | refine JO.go rfl ?_ | refine JR.val (by first | exact OpV.move | exact OpV.assign | exact OpV.load | exact OpV.fieldAddr | exact OpV.indexEl | exact OpV.len | exact OpV.lss | exact OpV.not | exact OpV.pick_true | exact OpV.pick_false | exact OpV.inc (by omega) | exact OpV.eql | exact OpV.neq | exact OpV.leq | exact OpV.gtr | exact OpV.geq | exact OpV.extract | exact OpV.makeFunc | exact OpV.addn (by omega) | exact OpV.add (by omega) | exact OpV.subn (by omega) | exact OpV.sub (by omega) | exact OpV.lens | exact OpV.eqlID | exact OpV.neqID | exact OpV.eqlEv | exact OpV.eqlOp | exact OpV.eqlStr | exact OpV.neqStr | exact OpV.eqlNil | exact OpV.eqlBool | exact OpV.neqBool) rfl ?_ | (refine JR.alloc rfl ?_; intro _) | (refine JR.box rfl ?_; intro _) | refine JR.store ?_ | refine JC.cond_true ?_ | refine JC.cond_false ?_ | refine JC.skip ?_ | refine JC.exit ?_ | refine JC.block ?_ | refine CT.past ?_ | refine CT.hit ?_ | refine CT.miss rfl ?_ | refine CT.blockEnd ?_ | refine JC.ret ?_ | refine CT.ret ?_ | refine CT.blockRet ?_ | refine JO.omit rfl rfl ?_ | (refine JR.lit rfl ⟨rfl, by decide, by decide, by decide⟩ ?_; intro _))
            exact CT.done () rfl (fun w ho => ho.ent)
          · refine JM.one 0 (by kernel_rfl) rfl rfl rfl rfl (JS.val OpV.move rfl ?_)
            refine JM.more (fun w1 ho => ho.pub) ?_
            refine JM.last 10 (by kernel_rfl) rfl rfl rfl (JR.callV rfl (fun w1 hw => list_ref w1 _ ar a5 kr c5 (L.eraseIdx i) (L.take i ++ L.drop (i + 1)) hw.get hw.get) (JO.reslot 60 (.bool true) (by rw [he]; simp) (JO.nil ⟨rfl, ?_⟩)))
            refine JM.last 11 (by kernel_rfl) rfl rfl rfl (JR.val OpV.assign rfl (JO.nil ⟨rfl, ?_⟩))
            refine JM.nil (by kernel_rfl) ?_
            repeat (first | refine CT.next ?_ | refine JC.seq ?_ | refine JC.region ?_ | refine JO.nil ?_ | refine JO.go rfl ?_ | refine JR.val (by first | exact OpV.move | exact OpV.assign | exact OpV.load | exact OpV.fieldAddr | exact OpV.indexEl | exact OpV.len | exact OpV.lss | exact OpV.not | exact OpV.pick_true | exact OpV.pick_false | exact OpV.inc (by omega) | exact OpV.eql | exact OpV.neq | exact OpV.leq | exact OpV.gtr | exact OpV.geq | exact OpV.extract | exact OpV.makeFunc | exact OpV.addn (by omega) | exact OpV.add (by omega) | exact OpV.subn (by omega) | exact OpV.sub (by omega) | exact OpV.lens | exact OpV.eqlID | exact OpV.neqID | exact OpV.eqlEv | exact OpV.eqlOp | exact OpV.eqlStr | exact OpV.neqStr | exact OpV.eqlNil | exact OpV.eqlBool | exact OpV.neqBool) rfl ?_ | (refine JR.alloc rfl ?_; intro _) | (refine JR.box rfl ?_; intro _) | refine JR.store ?_ | refine JC.cond_true ?_ | refine JC.cond_false ?_ | refine JC.skip ?_ | refine JC.exit ?_ | refine JC.block ?_ | refine CT.past ?_ | refine CT.hit ?_ | refine CT.miss rfl ?_ | refine CT.blockEnd ?_ | refine JC.ret ?_ | refine CT.ret ?_ | refine CT.blockRet ?_ | refine JO.omit rfl rfl ?_ | (refine JR.lit rfl ⟨rfl, by decide, by decide, by decide⟩ ?_; intro _))
            refine JC.openCommit (L := L) (.slice a L.length k) i hlt' ?_
            intro b6 o6 p6 q6
            refine JC.quiet mixed (by kernel_rfl) ?_
            repeat (first | refine JQ.val rfl (by first | exact OpV.move | exact OpV.assign | exact OpV.load | exact OpV.fieldAddr | exact OpV.indexEl | exact OpV.len | exact OpV.lss | exact OpV.not | exact OpV.pick_true | exact OpV.pick_false | exact OpV.inc (by omega) | exact OpV.eql | exact OpV.neq | exact OpV.leq | exact OpV.gtr | exact OpV.geq | exact OpV.extract | exact OpV.makeFunc | exact OpV.addn (by omega) | exact OpV.add (by omega) | exact OpV.subn (by omega) | exact OpV.sub (by omega) | exact OpV.lens | exact OpV.eqlID | exact OpV.neqID | exact OpV.eqlEv | exact OpV.eqlOp | exact OpV.eqlStr | exact OpV.neqStr | exact OpV.eqlNil | exact OpV.eqlBool | exact OpV.neqBool) rfl ?_ | refine JQ.omit rfl rfl ?_ | refine JQ.nil ?_)
            refine JQ.call rfl rfl (fun w1 hw => same_commit w1 _ (L[i]) (L[i]) ac p6 kc q6 hw.get hw.get) ?_
            refine JQ.reslot 71 (.bool true) (by simp) ?_
            repeat (first | refine JQ.val rfl (by first | exact OpV.move | exact OpV.assign | exact OpV.load | exact OpV.fieldAddr | exact OpV.indexEl | exact OpV.len | exact OpV.lss | exact OpV.not | exact OpV.pick_true | exact OpV.pick_false | exact OpV.inc (by omega) | exact OpV.eql | exact OpV.neq | exact OpV.leq | exact OpV.gtr | exact OpV.geq | exact OpV.extract | exact OpV.makeFunc | exact OpV.addn (by omega) | exact OpV.add (by omega) | exact OpV.subn (by omega) | exact OpV.sub (by omega) | exact OpV.lens | exact OpV.eqlID | exact OpV.neqID | exact OpV.eqlEv | exact OpV.eqlOp | exact OpV.eqlStr | exact OpV.neqStr | exact OpV.eqlNil | exact OpV.eqlBool | exact OpV.neqBool) rfl ?_ | refine JQ.omit rfl rfl ?_ | refine JQ.nil ?_)
            repeat (first | refine CT.next ?_ | refine JC.seq ?_ | refine JC.region ?_ | refine JO.nil ?_ | refine JO.go rfl ?_ | refine JR.val (by first | exact OpV.move | exact OpV.assign | exact OpV.load | exact OpV.fieldAddr | exact OpV.indexEl | exact OpV.len | exact OpV.lss | exact OpV.not | exact OpV.pick_true | exact OpV.pick_false | exact OpV.inc (by omega) | exact OpV.eql | exact OpV.neq | exact OpV.leq | exact OpV.gtr | exact OpV.geq | exact OpV.extract | exact OpV.makeFunc | exact OpV.addn (by omega) | exact OpV.add (by omega) | exact OpV.subn (by omega) | exact OpV.sub (by omega) | exact OpV.lens | exact OpV.eqlID | exact OpV.neqID | exact OpV.eqlEv | exact OpV.eqlOp | exact OpV.eqlStr | exact OpV.neqStr | exact OpV.eqlNil | exact OpV.eqlBool | exact OpV.neqBool) rfl ?_ | (refine JR.alloc rfl ?_; intro _) | (refine JR.box rfl ?_; intro _) | refine JR.store ?_ | refine JC.cond_true ?_ | refine JC.cond_false ?_ | refine JC.skip ?_ | refine JC.exit ?_ | refine JC.block ?_ | refine CT.past ?_ | refine CT.hit ?_ | refine CT.miss rfl ?_ | refine CT.blockEnd ?_ | refine JC.ret ?_ | refine CT.ret ?_ | refine CT.blockRet ?_ | refine JO.omit rfl rfl ?_ | (refine JR.lit rfl ⟨rfl, by decide, by decide, by decide⟩ ?_; intro _))
            exact CT.done () rfl (fun w ho => ho.ent)
    · have hfi : L.findIdx? (isReady H) = none := by
        rw [List.findIdx?_eq_none_iff]
        intro x hx
        obtain ⟨j, hj, rfl⟩ := List.getElem_of_mem hx
        exact hno j (by omega) hj
      have hR2 : waitReady L H = (commit0, L, false) := by simp [waitReady, hfi]
      rw [hR2] at hR
      injection hR with e1 e2
      injection e2 with e2 e3
      subst e1 e2 e3
      repeat (first | refine CT.next ?_ | refine JC.seq ?_ | refine JC.region ?_ | refine JO.nil ?_ | refine JO.go rfl ?_ | refine JR.val (by first | exact OpV.move | exact OpV.assign | exact OpV.load | exact OpV.fieldAddr | exact OpV.indexEl | exact OpV.len | exact OpV.lss | exact OpV.not | exact OpV.pick_true | exact OpV.pick_false | exact OpV.inc (by omega) | exact OpV.eql | exact OpV.neq | exact OpV.leq | exact OpV.gtr | exact OpV.geq | exact OpV.extract | exact OpV.makeFunc | exact OpV.addn (by omega) | exact OpV.add (by omega) | exact OpV.subn (by omega) | exact OpV.sub (by omega) | exact OpV.lens | exact OpV.eqlID | exact OpV.neqID | exact OpV.eqlEv | exact OpV.eqlOp | exact OpV.eqlStr | exact OpV.neqStr | exact OpV.eqlNil | exact OpV.eqlBool | exact OpV.neqBool) rfl ?_ | (refine JR.alloc rfl ?_; intro _) | (refine JR.box rfl ?_; intro _) | refine JR.store ?_ | refine JC.cond_true ?_ | refine JC.cond_false ?_ | refine JC.skip ?_ | refine JC.exit ?_ | refine JC.block ?_ | refine CT.past ?_ | refine CT.hit ?_ | refine CT.miss rfl ?_ | refine CT.blockEnd ?_ | refine JC.ret ?_ | refine CT.ret ?_ | refine CT.blockRet ?_ | refine JO.omit rfl rfl ?_ | (refine JR.lit rfl ⟨rfl, by decide, by decide, by decide⟩ ?_; intro _))
      refine JR.callV rfl (fun w1 hw => list_ref w1 _ ar a kr k L L hw.get hw.get) ?_
      refine JO.reslot 75 (.bool true) (by simp) ?_
      repeat (first | refine CT.next ?_ | refine JC.seq ?_ | refine JC.region ?_ | refine JO.nil ?_ | refine JO.go rfl ?_ | refine JR.val (by first | exact OpV.move | exact OpV.assign | exact OpV.load | exact OpV.fieldAddr | exact OpV.indexEl | exact OpV.len | exact OpV.lss | exact OpV.not | exact OpV.pick_true | exact OpV.pick_false | exact OpV.inc (by omega) | exact OpV.eql | exact OpV.neq | exact OpV.leq | exact OpV.gtr | exact OpV.geq | exact OpV.extract | exact OpV.makeFunc | exact OpV.addn (by omega) | exact OpV.add (by omega) | exact OpV.subn (by omega) | exact OpV.sub (by omega) | exact OpV.lens | exact OpV.eqlID | exact OpV.neqID | exact OpV.eqlEv | exact OpV.eqlOp | exact OpV.eqlStr | exact OpV.neqStr | exact OpV.eqlNil | exact OpV.eqlBool | exact OpV.neqBool) rfl ?_ | (refine JR.alloc rfl ?_; intro _) | (refine JR.box rfl ?_; intro _) | refine JR.store ?_ | refine JC.cond_true ?_ | refine JC.cond_false ?_ | refine JC.skip ?_ | refine JC.exit ?_ | refine JC.block ?_ | refine CT.past ?_ | refine CT.hit ?_ | refine CT.miss rfl ?_ | refine CT.blockEnd ?_ | refine JC.ret ?_ | refine CT.ret ?_ | refine CT.blockRet ?_ | refine JO.omit rfl rfl ?_ | (refine JR.lit rfl ⟨rfl, by decide, by decide, by decide⟩ ?_; intro _))
      exact CT.done () rfl (fun w ho => ho.ent)
end Ab
end Go.Proofs.Ytcmfemfndadfmaa

/- The law WaitTwice returns true. -/
namespace Go.Proofs.Ytcmfemfndadfmaa
namespace Ab
open Go Go.RowKit
set_option linter.unusedVariables false
set_option linter.unusedSimpArgs false
set_option synthInstance.maxSize 4000
set_option synthInstance.maxHeartbeats 400000
attribute [local irreducible] JC JO JR JQ andThen inBlock OpV Gives retTo JM JS

attribute [local irreducible] hashC idA l0 l1
/-- Those that wait, after some were put in. -/
def putAll (L : List Commit) : List Commit := L.foldl waitPut []
theorem putAll_next (L : List Commit) (i : Nat) (h : i < L.length) : putAll (L.take (i + 1)) = waitPut (putAll (L.take i)) L[i] := by
  rw [putAll, putAll, List.take_succ_eq_append_getElem h, List.foldl_append]; rfl
structure PutOk (i : Nat) (w L : List Commit) : Prop where
  le : w.length ≤ i
  sub : ∀ c ∈ w, c ∈ L
  may : ∀ c ∈ w, may c = true ∧ merge c = false
  nodup : w.Nodup
theorem any_mem {L : List Commit} {c : Commit} : L.any (fun d => decide (c = d)) = decide (c ∈ L) := by
  rw [Bool.eq_iff_iff]; simp
theorem waitPut_in {w : List Commit} {c : Commit} (h : may c = true) (h1 : merge c = false) (h2 : c ∉ w) (h3 : w.length ≤ 7) : waitPut w c = w ++ [c] := by
  have h4 : w.length + 1 - 8 = 0 := by omega
  simp [waitPut, h, h1, any_mem, h2, h4]
theorem putOk {L : List Commit} (hL : L.length ≤ 7) : ∀ i, i ≤ L.length → PutOk i (putAll (L.take i)) L ∧ ∀ j (hj : j < L.length), j < i → waitPut (putAll (L.take i)) L[j] = putAll (L.take i)
  | 0, _ => ⟨⟨Nat.le_refl _, by simp [putAll], by simp [putAll], by simp [putAll]⟩, fun j _ h => by omega⟩
  | i + 1, h => by
    have hi : i < L.length := by omega
    obtain ⟨⟨h1, h2, h3, h4⟩, h5⟩ := putOk hL i (by omega)
    rw [putAll_next L i hi]
    by_cases hs : (!Ab.may L[i] || merge L[i] || (putAll (L.take i)).any (fun d => decide (L[i] = d))) = true
    · have e : waitPut (putAll (L.take i)) L[i] = putAll (L.take i) := by rw [waitPut, if_pos hs]
      rw [e]
      refine ⟨⟨by omega, h2, h3, h4⟩, fun j hj hji => ?_⟩
      by_cases hj2 : j = i
      · subst hj2; exact e
      · exact h5 j hj (by omega)
    · simp only [any_mem, Bool.or_eq_true, Bool.not_eq_true', decide_eq_true_eq, not_or, Bool.not_eq_false, Bool.not_eq_true] at hs
      obtain ⟨⟨m1, m2⟩, m3⟩ := hs
      rw [waitPut_in m1 m2 m3 (by omega)]
      refine ⟨⟨by simp; omega, ?_, ?_, ?_⟩, fun j hj hji => ?_⟩
      · intro c hc
        rcases List.mem_append.1 hc with hc | hc
        · exact h2 c hc
        · rw [List.mem_singleton.1 hc]; exact List.getElem_mem hi
      · intro c hc
        rcases List.mem_append.1 hc with hc | hc
        · exact h3 c hc
        · rw [List.mem_singleton.1 hc]; exact ⟨m1, m2⟩
      · rw [List.nodup_append]
        exact ⟨h4, by simp, fun a ha b hb => by rw [List.mem_singleton.1 hb]; rintro rfl; exact m3 ha⟩
      · have key : ∀ c : Commit, (!Ab.may c || merge c) = true ∨ c ∈ putAll (L.take i) ++ [L[i]] → waitPut (putAll (L.take i) ++ [L[i]]) c = putAll (L.take i) ++ [L[i]] := by
          intro c hc
          rw [waitPut, if_pos]
          rw [any_mem, Bool.or_eq_true, decide_eq_true_eq]; exact hc
        by_cases hj2 : j = i
        · subst hj2; exact key _ (.inr (by simp))
        · have h6 := h5 j hj (by omega)
          refine key _ ?_
          by_cases hs2 : (!Ab.may L[j] || merge L[j] || (putAll (L.take i)).any (fun d => decide (L[j] = d))) = true
          · rw [any_mem, Bool.or_eq_true, decide_eq_true_eq] at hs2
            rcases hs2 with hs2 | hs2
            · exact .inl hs2
            · exact .inr (List.mem_append_left _ hs2)
          · simp only [any_mem, Bool.or_eq_true, Bool.not_eq_true', decide_eq_true_eq, not_or, Bool.not_eq_false, Bool.not_eq_true] at hs2
            obtain ⟨⟨n1, n2⟩, n3⟩ := hs2
            rw [waitPut_in n1 n2 n3 (by omega)] at h6
            have := congrArg List.length h6
            simp at this

set_option maxHeartbeats 4000000 in
theorem law_twice (w : World) (F : Nat → Prop) (a b : Option Addr) (k m : Nat) (L : List Commit) (H : List ID) (h : (sl a k L).holds F w) (h' : (sl b m H).holds F w) :
    GivesV Try.prog 5 [.slice a L.length k, .slice b H.length m] w F (.bool true) := by
  refine gives_of Try.func5 rfl Try.ntmps5 rfl rfl [.st (sl a k L), .st (sl b m H)] (.start2 h h') ?_
  repeat (first | refine CT.next ?_ | refine JC.seq ?_ | refine JC.region ?_ | refine JO.nil ?_ | refine JO.go rfl ?_ | refine JR.val (by first | exact OpV.move | exact OpV.assign | exact OpV.load | exact OpV.fieldAddr | exact OpV.indexEl | exact OpV.len | exact OpV.lss | exact OpV.not | exact OpV.pick_true | exact OpV.pick_false | exact OpV.inc (by omega) | exact OpV.eql | exact OpV.neq | exact OpV.leq | exact OpV.gtr | exact OpV.geq | exact OpV.extract | exact OpV.makeFunc | exact OpV.addn (by omega) | exact OpV.add (by omega) | exact OpV.subn (by omega) | exact OpV.sub (by omega) | exact OpV.lens | exact OpV.eqlID | exact OpV.neqID | exact OpV.eqlEv | exact OpV.eqlOp | exact OpV.eqlStr | exact OpV.neqStr | exact OpV.eqlNil | exact OpV.eqlBool | exact OpV.neqBool) rfl ?_ | (refine JR.alloc rfl ?_; intro _) | (refine JR.box rfl ?_; intro _) | refine JR.store ?_ | refine JC.cond_true ?_ | refine JC.cond_false ?_ | refine JC.skip ?_ | refine JC.exit ?_ | refine JC.block ?_ | refine CT.past ?_ | refine CT.hit ?_ | refine CT.miss rfl ?_ | refine CT.blockEnd ?_ | refine JC.ret ?_ | refine CT.ret ?_ | refine CT.blockRet ?_ | refine JO.omit rfl rfl ?_ | (refine JR.lit rfl ⟨rfl, by decide, by decide, by decide⟩ ?_; intro _))
  refine JR.callV rfl (fun w1 hw => awake_wait w1 _) ?_
  repeat (first | refine CT.next ?_ | refine JC.seq ?_ | refine JC.region ?_ | refine JO.nil ?_ | refine JO.go rfl ?_ | refine JR.val (by first | exact OpV.move | exact OpV.assign | exact OpV.load | exact OpV.fieldAddr | exact OpV.indexEl | exact OpV.len | exact OpV.lss | exact OpV.not | exact OpV.pick_true | exact OpV.pick_false | exact OpV.inc (by omega) | exact OpV.eql | exact OpV.neq | exact OpV.leq | exact OpV.gtr | exact OpV.geq | exact OpV.extract | exact OpV.makeFunc | exact OpV.addn (by omega) | exact OpV.add (by omega) | exact OpV.subn (by omega) | exact OpV.sub (by omega) | exact OpV.lens | exact OpV.eqlID | exact OpV.neqID | exact OpV.eqlEv | exact OpV.eqlOp | exact OpV.eqlStr | exact OpV.neqStr | exact OpV.eqlNil | exact OpV.eqlBool | exact OpV.neqBool) rfl ?_ | (refine JR.alloc rfl ?_; intro _) | (refine JR.box rfl ?_; intro _) | refine JR.store ?_ | refine JC.cond_true ?_ | refine JC.cond_false ?_ | refine JC.skip ?_ | refine JC.exit ?_ | refine JC.block ?_ | refine CT.past ?_ | refine CT.hit ?_ | refine CT.miss rfl ?_ | refine CT.blockEnd ?_ | refine JC.ret ?_ | refine CT.ret ?_ | refine CT.blockRet ?_ | refine JO.omit rfl rfl ?_ | (refine JR.lit rfl ⟨rfl, by decide, by decide, by decide⟩ ?_; intro _))
  refine JR.callV rfl (fun w1 hw => few_all w1 _ a k L 7 hw.get) ?_
  cases hfew : fewL L 7 with
  | false =>
    repeat (first | refine CT.next ?_ | refine JC.seq ?_ | refine JC.region ?_ | refine JO.nil ?_ | refine JO.go rfl ?_ | refine JR.val (by first | exact OpV.move | exact OpV.assign | exact OpV.load | exact OpV.fieldAddr | exact OpV.indexEl | exact OpV.len | exact OpV.lss | exact OpV.not | exact OpV.pick_true | exact OpV.pick_false | exact OpV.inc (by omega) | exact OpV.eql | exact OpV.neq | exact OpV.leq | exact OpV.gtr | exact OpV.geq | exact OpV.extract | exact OpV.makeFunc | exact OpV.addn (by omega) | exact OpV.add (by omega) | exact OpV.subn (by omega) | exact OpV.sub (by omega) | exact OpV.lens | exact OpV.eqlID | exact OpV.neqID | exact OpV.eqlEv | exact OpV.eqlOp | exact OpV.eqlStr | exact OpV.neqStr | exact OpV.eqlNil | exact OpV.eqlBool | exact OpV.neqBool) rfl ?_ | (refine JR.alloc rfl ?_; intro _) | (refine JR.box rfl ?_; intro _) | refine JR.store ?_ | refine JC.cond_true ?_ | refine JC.cond_false ?_ | refine JC.skip ?_ | refine JC.exit ?_ | refine JC.block ?_ | refine CT.past ?_ | refine CT.hit ?_ | refine CT.miss rfl ?_ | refine CT.blockEnd ?_ | refine JC.ret ?_ | refine CT.ret ?_ | refine CT.blockRet ?_ | refine JO.omit rfl rfl ?_ | (refine JR.lit rfl ⟨rfl, by decide, by decide, by decide⟩ ?_; intro _))
    exact CT.done () rfl (fun w ho => ho.ent)
  | true =>
    obtain ⟨hL, hf⟩ := few_fine hfew
    have hok := putOk hL
    repeat (first | refine CT.next ?_ | refine JC.seq ?_ | refine JC.region ?_ | refine JO.nil ?_ | refine JO.go rfl ?_ | refine JR.val (by first | exact OpV.move | exact OpV.assign | exact OpV.load | exact OpV.fieldAddr | exact OpV.indexEl | exact OpV.len | exact OpV.lss | exact OpV.not | exact OpV.pick_true | exact OpV.pick_false | exact OpV.inc (by omega) | exact OpV.eql | exact OpV.neq | exact OpV.leq | exact OpV.gtr | exact OpV.geq | exact OpV.extract | exact OpV.makeFunc | exact OpV.addn (by omega) | exact OpV.add (by omega) | exact OpV.subn (by omega) | exact OpV.sub (by omega) | exact OpV.lens | exact OpV.eqlID | exact OpV.neqID | exact OpV.eqlEv | exact OpV.eqlOp | exact OpV.eqlStr | exact OpV.neqStr | exact OpV.eqlNil | exact OpV.eqlBool | exact OpV.neqBool) rfl ?_ | (refine JR.alloc rfl ?_; intro _) | (refine JR.box rfl ?_; intro _) | refine JR.store ?_ | refine JC.cond_true ?_ | refine JC.cond_false ?_ | refine JC.skip ?_ | refine JC.exit ?_ | refine JC.block ?_ | refine CT.past ?_ | refine CT.hit ?_ | refine CT.miss rfl ?_ | refine CT.blockEnd ?_ | refine JC.ret ?_ | refine CT.ret ?_ | refine CT.blockRet ?_ | refine JO.omit rfl rfl ?_ | (refine JR.lit rfl ⟨rfl, by decide, by decide, by decide⟩ ?_; intro _))
    refine JC.test (fun h1 => ?_) (fun h1 => ?_)
    · repeat (first | refine CT.next ?_ | refine JC.seq ?_ | refine JC.region ?_ | refine JO.nil ?_ | refine JO.go rfl ?_ | refine JR.val (by first | exact OpV.move | exact OpV.assign | exact OpV.load | exact OpV.fieldAddr | exact OpV.indexEl | exact OpV.len | exact OpV.lss | exact OpV.not | exact OpV.pick_true | exact OpV.pick_false | exact OpV.inc (by omega) | exact OpV.eql | exact OpV.neq | exact OpV.leq | exact OpV.gtr | exact OpV.geq | exact OpV.extract | exact OpV.makeFunc | exact OpV.addn (by omega) | exact OpV.add (by omega) | exact OpV.subn (by omega) | exact OpV.sub (by omega) | exact OpV.lens | exact OpV.eqlID | exact OpV.neqID | exact OpV.eqlEv | exact OpV.eqlOp | exact OpV.eqlStr | exact OpV.neqStr | exact OpV.eqlNil | exact OpV.eqlBool | exact OpV.neqBool) rfl ?_ | (refine JR.alloc rfl ?_; intro _) | (refine JR.box rfl ?_; intro _) | refine JR.store ?_ | refine JC.cond_true ?_ | refine JC.cond_false ?_ | refine JC.skip ?_ | refine JC.exit ?_ | refine JC.block ?_ | refine CT.past ?_ | refine CT.hit ?_ | refine CT.miss rfl ?_ | refine CT.blockEnd ?_ | refine JC.ret ?_ | refine CT.ret ?_ | refine CT.blockRet ?_ | refine JO.omit rfl rfl ?_ | (refine JR.lit rfl ⟨rfl, by decide, by decide, by decide⟩ ?_; intro _))
      exact CT.done () rfl (fun w ho => ho.ent)
    have hH : H.length ≤ 20 := by omega
    repeat (first | refine CT.next ?_ | refine JC.seq ?_ | refine JC.region ?_ | refine JO.nil ?_ | refine JO.go rfl ?_ | refine JR.val (by first | exact OpV.move | exact OpV.assign | exact OpV.load | exact OpV.fieldAddr | exact OpV.indexEl | exact OpV.len | exact OpV.lss | exact OpV.not | exact OpV.pick_true | exact OpV.pick_false | exact OpV.inc (by omega) | exact OpV.eql | exact OpV.neq | exact OpV.leq | exact OpV.gtr | exact OpV.geq | exact OpV.extract | exact OpV.makeFunc | exact OpV.addn (by omega) | exact OpV.add (by omega) | exact OpV.subn (by omega) | exact OpV.sub (by omega) | exact OpV.lens | exact OpV.eqlID | exact OpV.neqID | exact OpV.eqlEv | exact OpV.eqlOp | exact OpV.eqlStr | exact OpV.neqStr | exact OpV.eqlNil | exact OpV.eqlBool | exact OpV.neqBool) rfl ?_ | (refine JR.alloc rfl ?_; intro _) | (refine JR.box rfl ?_; intro _) | refine JR.store ?_ | refine JC.cond_true ?_ | refine JC.cond_false ?_ | refine JC.skip ?_ | refine JC.exit ?_ | refine JC.block ?_ | refine CT.past ?_ | refine CT.hit ?_ | refine CT.miss rfl ?_ | refine CT.blockEnd ?_ | refine JC.ret ?_ | refine CT.ret ?_ | refine CT.blockRet ?_ | refine JO.omit rfl rfl ?_ | (refine JR.lit rfl ⟨rfl, by decide, by decide, by decide⟩ ?_; intro _))
    refine JC.more (Γ' := [.st (sl (α := Commit) none 0 []), .st (sl a k L), .st (sl b m H)]) (fun w1 ho => (ho.add (A := sl (α := Commit) none 0 []) sl_nil).ent) ?_
    refine JC.loop4 (fun (i : Nat) (v : List Commit) (p : Option Addr) (q : Nat) => [(0, .slice a L.length k), (1, .slice b H.length m), (7, .slice p v.length q), (8, .int .i64 (i : Int))])
      (fun i v p q => [.st (sl a k L), .st (sl b m H), .st (sl p q v)])
      (fun i v p q => i ≤ L.length ∧ v = putAll (L.take i)) (fun i _ _ _ => L.length - i) 0 [] none 0 ⟨Nat.zero_le _, rfl⟩ inferInstance ?_
    intro i v p q ⟨hi, hv⟩
    have hpi := (hok i hi).1
    rw [← hv] at hpi
    repeat (first | refine CT.next ?_ | refine JC.seq ?_ | refine JC.region ?_ | refine JO.nil ?_ | refine JO.go rfl ?_ | refine JR.val (by first | exact OpV.move | exact OpV.assign | exact OpV.load | exact OpV.fieldAddr | exact OpV.indexEl | exact OpV.len | exact OpV.lss | exact OpV.not | exact OpV.pick_true | exact OpV.pick_false | exact OpV.inc (by omega) | exact OpV.eql | exact OpV.neq | exact OpV.leq | exact OpV.gtr | exact OpV.geq | exact OpV.extract | exact OpV.makeFunc | exact OpV.addn (by omega) | exact OpV.add (by omega) | exact OpV.subn (by omega) | exact OpV.sub (by omega) | exact OpV.lens | exact OpV.eqlID | exact OpV.neqID | exact OpV.eqlEv | exact OpV.eqlOp | exact OpV.eqlStr | exact OpV.neqStr | exact OpV.eqlNil | exact OpV.eqlBool | exact OpV.neqBool) rfl ?_ | (refine JR.alloc rfl ?_; intro _) | (refine JR.box rfl ?_; intro _) | refine JR.store ?_ | refine JC.cond_true ?_ | refine JC.cond_false ?_ | refine JC.skip ?_ | refine JC.exit ?_ | refine JC.block ?_ | refine CT.past ?_ | refine CT.hit ?_ | refine CT.miss rfl ?_ | refine CT.blockEnd ?_ | refine JC.ret ?_ | refine CT.ret ?_ | refine CT.blockRet ?_ | refine JO.omit rfl rfl ?_ | (refine JR.lit rfl ⟨rfl, by decide, by decide, by decide⟩ ?_; intro _))
    refine JC.test (fun hlt => ?_) (fun hge => ?_)
    · have hlt' : i < L.length := by omega
      have hfx := hf _ (List.getElem_mem hlt')
      repeat (first | refine CT.next ?_ | refine JC.seq ?_ | refine JC.region ?_ | refine JO.nil ?_ | refine JO.go rfl ?_ | refine JR.val (by first | exact OpV.move | exact OpV.assign | exact OpV.load | exact OpV.fieldAddr | exact OpV.indexEl | exact OpV.len | exact OpV.lss | exact OpV.not | exact OpV.pick_true | exact OpV.pick_false | exact OpV.inc (by omega) | exact OpV.eql | exact OpV.neq | exact OpV.leq | exact OpV.gtr | exact OpV.geq | exact OpV.extract | exact OpV.makeFunc | exact OpV.addn (by omega) | exact OpV.add (by omega) | exact OpV.subn (by omega) | exact OpV.sub (by omega) | exact OpV.lens | exact OpV.eqlID | exact OpV.neqID | exact OpV.eqlEv | exact OpV.eqlOp | exact OpV.eqlStr | exact OpV.neqStr | exact OpV.eqlNil | exact OpV.eqlBool | exact OpV.neqBool) rfl ?_ | (refine JR.alloc rfl ?_; intro _) | (refine JR.box rfl ?_; intro _) | refine JR.store ?_ | refine JC.cond_true ?_ | refine JC.cond_false ?_ | refine JC.skip ?_ | refine JC.exit ?_ | refine JC.block ?_ | refine CT.past ?_ | refine CT.hit ?_ | refine CT.miss rfl ?_ | refine CT.blockEnd ?_ | refine JC.ret ?_ | refine CT.ret ?_ | refine CT.blockRet ?_ | refine JO.omit rfl rfl ?_ | (refine JR.lit rfl ⟨rfl, by decide, by decide, by decide⟩ ?_; intro _))
      refine JR.indexCommit rfl hlt' ?_
      intro b1 o1 p1 q1
      repeat (first | refine CT.next ?_ | refine JC.seq ?_ | refine JC.region ?_ | refine JO.nil ?_ | refine JO.go rfl ?_ | refine JR.val (by first | exact OpV.move | exact OpV.assign | exact OpV.load | exact OpV.fieldAddr | exact OpV.indexEl | exact OpV.len | exact OpV.lss | exact OpV.not | exact OpV.pick_true | exact OpV.pick_false | exact OpV.inc (by omega) | exact OpV.eql | exact OpV.neq | exact OpV.leq | exact OpV.gtr | exact OpV.geq | exact OpV.extract | exact OpV.makeFunc | exact OpV.addn (by omega) | exact OpV.add (by omega) | exact OpV.subn (by omega) | exact OpV.sub (by omega) | exact OpV.lens | exact OpV.eqlID | exact OpV.neqID | exact OpV.eqlEv | exact OpV.eqlOp | exact OpV.eqlStr | exact OpV.neqStr | exact OpV.eqlNil | exact OpV.eqlBool | exact OpV.neqBool) rfl ?_ | (refine JR.alloc rfl ?_; intro _) | (refine JR.box rfl ?_; intro _) | refine JR.store ?_ | refine JC.cond_true ?_ | refine JC.cond_false ?_ | refine JC.skip ?_ | refine JC.exit ?_ | refine JC.block ?_ | refine CT.past ?_ | refine CT.hit ?_ | refine CT.miss rfl ?_ | refine CT.blockEnd ?_ | refine JC.ret ?_ | refine CT.ret ?_ | refine CT.blockRet ?_ | refine JO.omit rfl rfl ?_ | (refine JR.lit rfl ⟨rfl, by decide, by decide, by decide⟩ ?_; intro _))
      refine JR.callSl rfl (fun w1 hw => put_wait w1 _ p p1 q q1 v (L[i]) hw.get hw.get (by have := hpi.le; omega) (fun x hx => hf x (hpi.sub x hx)) hfx) ?_
      intro p2 q2
      repeat (first | refine CT.next ?_ | refine JC.seq ?_ | refine JC.region ?_ | refine JO.nil ?_ | refine JO.go rfl ?_ | refine JR.val (by first | exact OpV.move | exact OpV.assign | exact OpV.load | exact OpV.fieldAddr | exact OpV.indexEl | exact OpV.len | exact OpV.lss | exact OpV.not | exact OpV.pick_true | exact OpV.pick_false | exact OpV.inc (by omega) | exact OpV.eql | exact OpV.neq | exact OpV.leq | exact OpV.gtr | exact OpV.geq | exact OpV.extract | exact OpV.makeFunc | exact OpV.addn (by omega) | exact OpV.add (by omega) | exact OpV.subn (by omega) | exact OpV.sub (by omega) | exact OpV.lens | exact OpV.eqlID | exact OpV.neqID | exact OpV.eqlEv | exact OpV.eqlOp | exact OpV.eqlStr | exact OpV.neqStr | exact OpV.eqlNil | exact OpV.eqlBool | exact OpV.neqBool) rfl ?_ | (refine JR.alloc rfl ?_; intro _) | (refine JR.box rfl ?_; intro _) | refine JR.store ?_ | refine JC.cond_true ?_ | refine JC.cond_false ?_ | refine JC.skip ?_ | refine JC.exit ?_ | refine JC.block ?_ | refine CT.past ?_ | refine CT.hit ?_ | refine CT.miss rfl ?_ | refine CT.blockEnd ?_ | refine JC.ret ?_ | refine CT.ret ?_ | refine CT.blockRet ?_ | refine JO.omit rfl rfl ?_ | (refine JR.lit rfl ⟨rfl, by decide, by decide, by decide⟩ ?_; intro _))
      exact ⟨i + 1, waitPut v L[i], p2, q2, ⟨by omega, by rw [hv, putAll_next L i hlt']⟩, by omega, inferInstance⟩
    obtain rfl : i = L.length := by omega
    obtain ⟨hpw, hall⟩ := hok L.length (Nat.le_refl _)
    rw [← hv] at hpw hall
    repeat (first | refine CT.next ?_ | refine JC.seq ?_ | refine JC.region ?_ | refine JO.nil ?_ | refine JO.go rfl ?_ | refine JR.val (by first | exact OpV.move | exact OpV.assign | exact OpV.load | exact OpV.fieldAddr | exact OpV.indexEl | exact OpV.len | exact OpV.lss | exact OpV.not | exact OpV.pick_true | exact OpV.pick_false | exact OpV.inc (by omega) | exact OpV.eql | exact OpV.neq | exact OpV.leq | exact OpV.gtr | exact OpV.geq | exact OpV.extract | exact OpV.makeFunc | exact OpV.addn (by omega) | exact OpV.add (by omega) | exact OpV.subn (by omega) | exact OpV.sub (by omega) | exact OpV.lens | exact OpV.eqlID | exact OpV.neqID | exact OpV.eqlEv | exact OpV.eqlOp | exact OpV.eqlStr | exact OpV.neqStr | exact OpV.eqlNil | exact OpV.eqlBool | exact OpV.neqBool) rfl ?_ | (refine JR.alloc rfl ?_; intro _) | (refine JR.box rfl ?_; intro _) | refine JR.store ?_ | refine JC.cond_true ?_ | refine JC.cond_false ?_ | refine JC.skip ?_ | refine JC.exit ?_ | refine JC.block ?_ | refine CT.past ?_ | refine CT.hit ?_ | refine CT.miss rfl ?_ | refine CT.blockEnd ?_ | refine JC.ret ?_ | refine CT.ret ?_ | refine CT.blockRet ?_ | refine JO.omit rfl rfl ?_ | (refine JR.lit rfl ⟨rfl, by decide, by decide, by decide⟩ ?_; intro _))
    refine JC.loop1 (fun (i : Nat) => [(0, .slice a L.length k), (1, .slice b H.length m), (7, .slice p v.length q), (9, .int .i64 (i : Int))])
      (fun i => [.st (sl a k L), .st (sl b m H), .st (sl p q v)])
      (fun i => i ≤ L.length) (fun i => L.length - i) 0 (Nat.zero_le _) inferInstance ?_
    intro i hi
    repeat (first | refine CT.next ?_ | refine JC.seq ?_ | refine JC.region ?_ | refine JO.nil ?_ | refine JO.go rfl ?_ | refine JR.val (by first | exact OpV.move | exact OpV.assign | exact OpV.load | exact OpV.fieldAddr | exact OpV.indexEl | exact OpV.len | exact OpV.lss | exact OpV.not | exact OpV.pick_true | exact OpV.pick_false | exact OpV.inc (by omega) | exact OpV.eql | exact OpV.neq | exact OpV.leq | exact OpV.gtr | exact OpV.geq | exact OpV.extract | exact OpV.makeFunc | exact OpV.addn (by omega) | exact OpV.add (by omega) | exact OpV.subn (by omega) | exact OpV.sub (by omega) | exact OpV.lens | exact OpV.eqlID | exact OpV.neqID | exact OpV.eqlEv | exact OpV.eqlOp | exact OpV.eqlStr | exact OpV.neqStr | exact OpV.eqlNil | exact OpV.eqlBool | exact OpV.neqBool) rfl ?_ | (refine JR.alloc rfl ?_; intro _) | (refine JR.box rfl ?_; intro _) | refine JR.store ?_ | refine JC.cond_true ?_ | refine JC.cond_false ?_ | refine JC.skip ?_ | refine JC.exit ?_ | refine JC.block ?_ | refine CT.past ?_ | refine CT.hit ?_ | refine CT.miss rfl ?_ | refine CT.blockEnd ?_ | refine JC.ret ?_ | refine CT.ret ?_ | refine CT.blockRet ?_ | refine JO.omit rfl rfl ?_ | (refine JR.lit rfl ⟨rfl, by decide, by decide, by decide⟩ ?_; intro _))
    refine JC.test (fun hlt => ?_) (fun hge => ?_)
    · have hlt' : i < L.length := by omega
      have hfx := hf _ (List.getElem_mem hlt')
      repeat (first | refine CT.next ?_ | refine JC.seq ?_ | refine JC.region ?_ | refine JO.nil ?_ | refine JO.go rfl ?_ | refine JR.val (by first | exact OpV.move | exact OpV.assign | exact OpV.load | exact OpV.fieldAddr | exact OpV.indexEl | exact OpV.len | exact OpV.lss | exact OpV.not | exact OpV.pick_true | exact OpV.pick_false | exact OpV.inc (by omega) | exact OpV.eql | exact OpV.neq | exact OpV.leq | exact OpV.gtr | exact OpV.geq | exact OpV.extract | exact OpV.makeFunc | exact OpV.addn (by omega) | exact OpV.add (by omega) | exact OpV.subn (by omega) | exact OpV.sub (by omega) | exact OpV.lens | exact OpV.eqlID | exact OpV.neqID | exact OpV.eqlEv | exact OpV.eqlOp | exact OpV.eqlStr | exact OpV.neqStr | exact OpV.eqlNil | exact OpV.eqlBool | exact OpV.neqBool) rfl ?_ | (refine JR.alloc rfl ?_; intro _) | (refine JR.box rfl ?_; intro _) | refine JR.store ?_ | refine JC.cond_true ?_ | refine JC.cond_false ?_ | refine JC.skip ?_ | refine JC.exit ?_ | refine JC.block ?_ | refine CT.past ?_ | refine CT.hit ?_ | refine CT.miss rfl ?_ | refine CT.blockEnd ?_ | refine JC.ret ?_ | refine CT.ret ?_ | refine CT.blockRet ?_ | refine JO.omit rfl rfl ?_ | (refine JR.lit rfl ⟨rfl, by decide, by decide, by decide⟩ ?_; intro _))
      refine JR.indexCommit rfl hlt' ?_
      intro b1 o1 p1 q1
      repeat (first | refine CT.next ?_ | refine JC.seq ?_ | refine JC.region ?_ | refine JO.nil ?_ | refine JO.go rfl ?_ | refine JR.val (by first | exact OpV.move | exact OpV.assign | exact OpV.load | exact OpV.fieldAddr | exact OpV.indexEl | exact OpV.len | exact OpV.lss | exact OpV.not | exact OpV.pick_true | exact OpV.pick_false | exact OpV.inc (by omega) | exact OpV.eql | exact OpV.neq | exact OpV.leq | exact OpV.gtr | exact OpV.geq | exact OpV.extract | exact OpV.makeFunc | exact OpV.addn (by omega) | exact OpV.add (by omega) | exact OpV.subn (by omega) | exact OpV.sub (by omega) | exact OpV.lens | exact OpV.eqlID | exact OpV.neqID | exact OpV.eqlEv | exact OpV.eqlOp | exact OpV.eqlStr | exact OpV.neqStr | exact OpV.eqlNil | exact OpV.eqlBool | exact OpV.neqBool) rfl ?_ | (refine JR.alloc rfl ?_; intro _) | (refine JR.box rfl ?_; intro _) | refine JR.store ?_ | refine JC.cond_true ?_ | refine JC.cond_false ?_ | refine JC.skip ?_ | refine JC.exit ?_ | refine JC.block ?_ | refine CT.past ?_ | refine CT.hit ?_ | refine CT.miss rfl ?_ | refine CT.blockEnd ?_ | refine JC.ret ?_ | refine CT.ret ?_ | refine CT.blockRet ?_ | refine JO.omit rfl rfl ?_ | (refine JR.lit rfl ⟨rfl, by decide, by decide, by decide⟩ ?_; intro _))
      refine JR.callSl rfl (fun w1 hw => put_wait w1 _ p p1 q q1 v (L[i]) hw.get hw.get (by have := hpw.le; omega) (fun x hx => hf x (hpw.sub x hx)) hfx) ?_
      intro p2 q2
      rw [hall i hlt' hlt']
      repeat (first | refine CT.next ?_ | refine JC.seq ?_ | refine JC.region ?_ | refine JO.nil ?_ | refine JO.go rfl ?_ | refine JR.val (by first | exact OpV.move | exact OpV.assign | exact OpV.load | exact OpV.fieldAddr | exact OpV.indexEl | exact OpV.len | exact OpV.lss | exact OpV.not | exact OpV.pick_true | exact OpV.pick_false | exact OpV.inc (by omega) | exact OpV.eql | exact OpV.neq | exact OpV.leq | exact OpV.gtr | exact OpV.geq | exact OpV.extract | exact OpV.makeFunc | exact OpV.addn (by omega) | exact OpV.add (by omega) | exact OpV.subn (by omega) | exact OpV.sub (by omega) | exact OpV.lens | exact OpV.eqlID | exact OpV.neqID | exact OpV.eqlEv | exact OpV.eqlOp | exact OpV.eqlStr | exact OpV.neqStr | exact OpV.eqlNil | exact OpV.eqlBool | exact OpV.neqBool) rfl ?_ | (refine JR.alloc rfl ?_; intro _) | (refine JR.box rfl ?_; intro _) | refine JR.store ?_ | refine JC.cond_true ?_ | refine JC.cond_false ?_ | refine JC.skip ?_ | refine JC.exit ?_ | refine JC.block ?_ | refine CT.past ?_ | refine CT.hit ?_ | refine CT.miss rfl ?_ | refine CT.blockEnd ?_ | refine JC.ret ?_ | refine CT.ret ?_ | refine CT.blockRet ?_ | refine JO.omit rfl rfl ?_ | (refine JR.lit rfl ⟨rfl, by decide, by decide, by decide⟩ ?_; intro _))
      refine JR.callV rfl (fun w1 hw => list_ref w1 _ p2 p q2 q v v hw.get hw.get) ?_
      refine JO.reslot 56 (.bool true) (by simp) ?_
      repeat (first | refine CT.next ?_ | refine JC.seq ?_ | refine JC.region ?_ | refine JO.nil ?_ | refine JO.go rfl ?_ | refine JR.val (by first | exact OpV.move | exact OpV.assign | exact OpV.load | exact OpV.fieldAddr | exact OpV.indexEl | exact OpV.len | exact OpV.lss | exact OpV.not | exact OpV.pick_true | exact OpV.pick_false | exact OpV.inc (by omega) | exact OpV.eql | exact OpV.neq | exact OpV.leq | exact OpV.gtr | exact OpV.geq | exact OpV.extract | exact OpV.makeFunc | exact OpV.addn (by omega) | exact OpV.add (by omega) | exact OpV.subn (by omega) | exact OpV.sub (by omega) | exact OpV.lens | exact OpV.eqlID | exact OpV.neqID | exact OpV.eqlEv | exact OpV.eqlOp | exact OpV.eqlStr | exact OpV.neqStr | exact OpV.eqlNil | exact OpV.eqlBool | exact OpV.neqBool) rfl ?_ | (refine JR.alloc rfl ?_; intro _) | (refine JR.box rfl ?_; intro _) | refine JR.store ?_ | refine JC.cond_true ?_ | refine JC.cond_false ?_ | refine JC.skip ?_ | refine JC.exit ?_ | refine JC.block ?_ | refine CT.past ?_ | refine CT.hit ?_ | refine CT.miss rfl ?_ | refine CT.blockEnd ?_ | refine JC.ret ?_ | refine CT.ret ?_ | refine CT.blockRet ?_ | refine JO.omit rfl rfl ?_ | (refine JR.lit rfl ⟨rfl, by decide, by decide, by decide⟩ ?_; intro _))
      exact ⟨i + 1, by omega, by omega, inferInstance⟩
    obtain ⟨⟨rc, rl, rb⟩, hR⟩ : ∃ R, waitReady v H = R := ⟨_, rfl⟩
    repeat (first | refine CT.next ?_ | refine JC.seq ?_ | refine JC.region ?_ | refine JO.nil ?_ | refine JO.go rfl ?_ | refine JR.val (by first | exact OpV.move | exact OpV.assign | exact OpV.load | exact OpV.fieldAddr | exact OpV.indexEl | exact OpV.len | exact OpV.lss | exact OpV.not | exact OpV.pick_true | exact OpV.pick_false | exact OpV.inc (by omega) | exact OpV.eql | exact OpV.neq | exact OpV.leq | exact OpV.gtr | exact OpV.geq | exact OpV.extract | exact OpV.makeFunc | exact OpV.addn (by omega) | exact OpV.add (by omega) | exact OpV.subn (by omega) | exact OpV.sub (by omega) | exact OpV.lens | exact OpV.eqlID | exact OpV.neqID | exact OpV.eqlEv | exact OpV.eqlOp | exact OpV.eqlStr | exact OpV.neqStr | exact OpV.eqlNil | exact OpV.eqlBool | exact OpV.neqBool) rfl ?_ | (refine JR.alloc rfl ?_; intro _) | (refine JR.box rfl ?_; intro _) | refine JR.store ?_ | refine JC.cond_true ?_ | refine JC.cond_false ?_ | refine JC.skip ?_ | refine JC.exit ?_ | refine JC.block ?_ | refine CT.past ?_ | refine CT.hit ?_ | refine CT.miss rfl ?_ | refine CT.blockEnd ?_ | refine JC.ret ?_ | refine CT.ret ?_ | refine CT.blockRet ?_ | refine JO.omit rfl rfl ?_ | (refine JR.lit rfl ⟨rfl, by decide, by decide, by decide⟩ ?_; intro _))
    refine JR.call2 (v := fun y : (Option Addr × Nat) × (Option Addr × Nat) => .tuple ⟨[commitV rc y.1.1 y.1.2, .slice y.2.1 rl.length y.2.2, .bool rb]⟩) rfl (fun w1 hw => ready_to w1 _ p b q m v H rc rl rb hR hw.get hw.get (by have := hpw.le; omega) (fun x hx => hf x (hpw.sub x hx))) ?_
    rintro ⟨⟨ac, kc⟩, ⟨ar, kr⟩⟩
    dsimp only
    repeat (first | refine CT.next ?_ | refine JC.seq ?_ | refine JC.region ?_ | refine JO.nil ?_ | refine JO.go rfl ?_ | refine JR.val (by first | exact OpV.move | exact OpV.assign | exact OpV.load | exact OpV.fieldAddr | exact OpV.indexEl | exact OpV.len | exact OpV.lss | exact OpV.not | exact OpV.pick_true | exact OpV.pick_false | exact OpV.inc (by omega) | exact OpV.eql | exact OpV.neq | exact OpV.leq | exact OpV.gtr | exact OpV.geq | exact OpV.extract | exact OpV.makeFunc | exact OpV.addn (by omega) | exact OpV.add (by omega) | exact OpV.subn (by omega) | exact OpV.sub (by omega) | exact OpV.lens | exact OpV.eqlID | exact OpV.neqID | exact OpV.eqlEv | exact OpV.eqlOp | exact OpV.eqlStr | exact OpV.neqStr | exact OpV.eqlNil | exact OpV.eqlBool | exact OpV.neqBool) rfl ?_ | (refine JR.alloc rfl ?_; intro _) | (refine JR.box rfl ?_; intro _) | refine JR.store ?_ | refine JC.cond_true ?_ | refine JC.cond_false ?_ | refine JC.skip ?_ | refine JC.exit ?_ | refine JC.block ?_ | refine CT.past ?_ | refine CT.hit ?_ | refine CT.miss rfl ?_ | refine CT.blockEnd ?_ | refine JC.ret ?_ | refine CT.ret ?_ | refine CT.blockRet ?_ | refine JO.omit rfl rfl ?_ | (refine JR.lit rfl ⟨rfl, by decide, by decide, by decide⟩ ?_; intro _))
    rename_i bc
    cases rb with
    | false =>
      repeat (first | refine CT.next ?_ | refine JC.seq ?_ | refine JC.region ?_ | refine JO.nil ?_ | refine JO.go rfl ?_ | refine JR.val (by first | exact OpV.move | exact OpV.assign | exact OpV.load | exact OpV.fieldAddr | exact OpV.indexEl | exact OpV.len | exact OpV.lss | exact OpV.not | exact OpV.pick_true | exact OpV.pick_false | exact OpV.inc (by omega) | exact OpV.eql | exact OpV.neq | exact OpV.leq | exact OpV.gtr | exact OpV.geq | exact OpV.extract | exact OpV.makeFunc | exact OpV.addn (by omega) | exact OpV.add (by omega) | exact OpV.subn (by omega) | exact OpV.sub (by omega) | exact OpV.lens | exact OpV.eqlID | exact OpV.neqID | exact OpV.eqlEv | exact OpV.eqlOp | exact OpV.eqlStr | exact OpV.neqStr | exact OpV.eqlNil | exact OpV.eqlBool | exact OpV.neqBool) rfl ?_ | (refine JR.alloc rfl ?_; intro _) | (refine JR.box rfl ?_; intro _) | refine JR.store ?_ | refine JC.cond_true ?_ | refine JC.cond_false ?_ | refine JC.skip ?_ | refine JC.exit ?_ | refine JC.block ?_ | refine CT.past ?_ | refine CT.hit ?_ | refine CT.miss rfl ?_ | refine CT.blockEnd ?_ | refine JC.ret ?_ | refine CT.ret ?_ | refine CT.blockRet ?_ | refine JO.omit rfl rfl ?_ | (refine JR.lit rfl ⟨rfl, by decide, by decide, by decide⟩ ?_; intro _))
      exact CT.done () rfl (fun w ho => ho.ent)
    | true =>
      have hfi : ∃ j, ∃ hj : j < v.length, rc = v[j] ∧ rl = v.eraseIdx j := by
        unfold waitReady at hR
        split at hR
        · rename_i j hj
          obtain ⟨hjl, _⟩ := List.findIdx?_eq_some_iff_getElem.1 hj
          injection hR with e1 e2
          injection e2 with e2 e3
          exact ⟨j, hjl, by rw [← e1, List.getD_eq_getElem?_getD, List.getElem?_eq_getElem hjl]; rfl, e2.symm⟩
        · injection hR with e1 e2
          injection e2 with e2 e3
          cases e3
      obtain ⟨j, hj, rfl, rfl⟩ := hfi
      have hlen : (v.eraseIdx j).length = v.length - 1 := List.length_eraseIdx_of_lt hj
      have hnot : v[j] ∉ v.eraseIdx j := fun hm => by
        rw [List.mem_eraseIdx_iff_getElem] at hm
        obtain ⟨i2, hi2, hne, he⟩ := hm
        exact hne ((List.getElem?_inj hi2 hpw.nodup).1 (by rw [List.getElem?_eq_getElem hi2, List.getElem?_eq_getElem hj, he]))
      have hmay := hpw.may _ (List.getElem_mem hj)
      have hput : waitPut (v.eraseIdx j) v[j] = v.eraseIdx j ++ [v[j]] := waitPut_in hmay.1 hmay.2 hnot (by have := hpw.le; omega)
      have hrf : ∀ x ∈ v.eraseIdx j, fine x := fun x hx => hf x (hpw.sub x (List.mem_of_mem_eraseIdx hx))
      repeat (first | refine CT.next ?_ | refine JC.seq ?_ | refine JC.region ?_ | refine JO.nil ?_ | refine JO.go rfl ?_ | refine JR.val (by first | exact OpV.move | exact OpV.assign | exact OpV.load | exact OpV.fieldAddr | exact OpV.indexEl | exact OpV.len | exact OpV.lss | exact OpV.not | exact OpV.pick_true | exact OpV.pick_false | exact OpV.inc (by omega) | exact OpV.eql | exact OpV.neq | exact OpV.leq | exact OpV.gtr | exact OpV.geq | exact OpV.extract | exact OpV.makeFunc | exact OpV.addn (by omega) | exact OpV.add (by omega) | exact OpV.subn (by omega) | exact OpV.sub (by omega) | exact OpV.lens | exact OpV.eqlID | exact OpV.neqID | exact OpV.eqlEv | exact OpV.eqlOp | exact OpV.eqlStr | exact OpV.neqStr | exact OpV.eqlNil | exact OpV.eqlBool | exact OpV.neqBool) rfl ?_ | (refine JR.alloc rfl ?_; intro _) | (refine JR.box rfl ?_; intro _) | refine JR.store ?_ | refine JC.cond_true ?_ | refine JC.cond_false ?_ | refine JC.skip ?_ | refine JC.exit ?_ | refine JC.block ?_ | refine CT.past ?_ | refine CT.hit ?_ | refine CT.miss rfl ?_ | refine CT.blockEnd ?_ | refine JC.ret ?_ | refine CT.ret ?_ | refine CT.blockRet ?_ | refine JO.omit rfl rfl ?_ | (refine JR.lit rfl ⟨rfl, by decide, by decide, by decide⟩ ?_; intro _))
      refine JR.callSl rfl (fun w1 hw => put_wait w1 _ ar ac kr kc (v.eraseIdx j) (v[j]) hw.get hw.get (by have := hpw.le; omega) hrf (hf _ (hpw.sub _ (List.getElem_mem hj)))) ?_
      intro p3 q3
      rw [hput]
      have hl2 : (v.eraseIdx j ++ [v[j]]).length = v.length := by simp [hlen]; omega
      repeat (first | refine CT.next ?_ | refine JC.seq ?_ | refine JC.region ?_ | refine JO.nil ?_ | refine JO.go rfl ?_ | refine JR.val (by first | exact OpV.move | exact OpV.assign | exact OpV.load | exact OpV.fieldAddr | exact OpV.indexEl | exact OpV.len | exact OpV.lss | exact OpV.not | exact OpV.pick_true | exact OpV.pick_false | exact OpV.inc (by omega) | exact OpV.eql | exact OpV.neq | exact OpV.leq | exact OpV.gtr | exact OpV.geq | exact OpV.extract | exact OpV.makeFunc | exact OpV.addn (by omega) | exact OpV.add (by omega) | exact OpV.subn (by omega) | exact OpV.sub (by omega) | exact OpV.lens | exact OpV.eqlID | exact OpV.neqID | exact OpV.eqlEv | exact OpV.eqlOp | exact OpV.eqlStr | exact OpV.neqStr | exact OpV.eqlNil | exact OpV.eqlBool | exact OpV.neqBool) rfl ?_ | (refine JR.alloc rfl ?_; intro _) | (refine JR.box rfl ?_; intro _) | refine JR.store ?_ | refine JC.cond_true ?_ | refine JC.cond_false ?_ | refine JC.skip ?_ | refine JC.exit ?_ | refine JC.block ?_ | refine CT.past ?_ | refine CT.hit ?_ | refine CT.miss rfl ?_ | refine CT.blockEnd ?_ | refine JC.ret ?_ | refine CT.ret ?_ | refine CT.blockRet ?_ | refine JO.omit rfl rfl ?_ | (refine JR.lit rfl ⟨rfl, by decide, by decide, by decide⟩ ?_; intro _))
      refine JO.reslot 76 (.bool false) (by rw [hl2]; simp) ?_
      repeat (first | refine CT.next ?_ | refine JC.seq ?_ | refine JC.region ?_ | refine JO.nil ?_ | refine JO.go rfl ?_ | refine JR.val (by first | exact OpV.move | exact OpV.assign | exact OpV.load | exact OpV.fieldAddr | exact OpV.indexEl | exact OpV.len | exact OpV.lss | exact OpV.not | exact OpV.pick_true | exact OpV.pick_false | exact OpV.inc (by omega) | exact OpV.eql | exact OpV.neq | exact OpV.leq | exact OpV.gtr | exact OpV.geq | exact OpV.extract | exact OpV.makeFunc | exact OpV.addn (by omega) | exact OpV.add (by omega) | exact OpV.subn (by omega) | exact OpV.sub (by omega) | exact OpV.lens | exact OpV.eqlID | exact OpV.neqID | exact OpV.eqlEv | exact OpV.eqlOp | exact OpV.eqlStr | exact OpV.neqStr | exact OpV.eqlNil | exact OpV.eqlBool | exact OpV.neqBool) rfl ?_ | (refine JR.alloc rfl ?_; intro _) | (refine JR.box rfl ?_; intro _) | refine JR.store ?_ | refine JC.cond_true ?_ | refine JC.cond_false ?_ | refine JC.skip ?_ | refine JC.exit ?_ | refine JC.block ?_ | refine CT.past ?_ | refine CT.hit ?_ | refine CT.miss rfl ?_ | refine CT.blockEnd ?_ | refine JC.ret ?_ | refine CT.ret ?_ | refine CT.blockRet ?_ | refine JO.omit rfl rfl ?_ | (refine JR.lit rfl ⟨rfl, by decide, by decide, by decide⟩ ?_; intro _))
      refine JC.more (Γ' := [.st (sl p3 q3 (v.eraseIdx j)), .st (sl ar kr (v.eraseIdx j)), .st (sl p3 q3 (v.eraseIdx j ++ [v[j]]))]) (fun w1 ho => ?_) ?_
      · have hs : (sl p3 q3 (v.eraseIdx j ++ [v[j]])).holds _ w1 := ho.get
        have h3 := sl_take hs (k := (v.eraseIdx j).length) (c' := q3) (by simp) ⟨by have := hs.1; simp at this; omega, Nat.le_refl _⟩
        rw [List.take_left' rfl] at h3
        exact (ho.add (A := sl p3 q3 (v.eraseIdx j)) h3).ent
      refine JC.reslot 80 (.bool false) (by rw [hl2]; congr 1; simp only [decide_eq_false_iff_not]; omega) ?_
      have hvle := hpw.le
      repeat (first | refine CT.next ?_ | refine JC.seq ?_ | refine JC.region ?_ | refine JO.nil ?_ | refine JO.go rfl ?_ | refine JR.val (by first | exact OpV.move | exact OpV.assign | exact OpV.load | exact OpV.fieldAddr | exact OpV.indexEl | exact OpV.len | exact OpV.lss | exact OpV.not | exact OpV.pick_true | exact OpV.pick_false | exact OpV.inc (by omega) | exact OpV.eql | exact OpV.neq | exact OpV.leq | exact OpV.gtr | exact OpV.geq | exact OpV.extract | exact OpV.makeFunc | exact OpV.addn (by omega) | exact OpV.add (by omega) | exact OpV.subn (by omega) | exact OpV.sub (by omega) | exact OpV.lens | exact OpV.eqlID | exact OpV.neqID | exact OpV.eqlEv | exact OpV.eqlOp | exact OpV.eqlStr | exact OpV.neqStr | exact OpV.eqlNil | exact OpV.eqlBool | exact OpV.neqBool) rfl ?_ | (refine JR.alloc rfl ?_; intro _) | (refine JR.box rfl ?_; intro _) | refine JR.store ?_ | refine JC.cond_true ?_ | refine JC.cond_false ?_ | refine JC.skip ?_ | refine JC.exit ?_ | refine JC.block ?_ | refine CT.past ?_ | refine CT.hit ?_ | refine CT.miss rfl ?_ | refine CT.blockEnd ?_ | refine JC.ret ?_ | refine CT.ret ?_ | refine CT.blockRet ?_ | refine JO.omit rfl rfl ?_ | (refine JR.lit rfl ⟨rfl, by decide, by decide, by decide⟩ ?_; intro _))
      refine JR.val (OpV.sliceToV (k := (v.eraseIdx j).length) (hk := ⟨by simp⟩) (fun w1 ho => by have := (Hold.get (A := sl p3 q3 (v.eraseIdx j ++ [v[j]])) ho).1; simp at this; omega)) rfl ?_
      repeat (first | refine CT.next ?_ | refine JC.seq ?_ | refine JC.region ?_ | refine JO.nil ?_ | refine JO.go rfl ?_ | refine JR.val (by first | exact OpV.move | exact OpV.assign | exact OpV.load | exact OpV.fieldAddr | exact OpV.indexEl | exact OpV.len | exact OpV.lss | exact OpV.not | exact OpV.pick_true | exact OpV.pick_false | exact OpV.inc (by omega) | exact OpV.eql | exact OpV.neq | exact OpV.leq | exact OpV.gtr | exact OpV.geq | exact OpV.extract | exact OpV.makeFunc | exact OpV.addn (by omega) | exact OpV.add (by omega) | exact OpV.subn (by omega) | exact OpV.sub (by omega) | exact OpV.lens | exact OpV.eqlID | exact OpV.neqID | exact OpV.eqlEv | exact OpV.eqlOp | exact OpV.eqlStr | exact OpV.neqStr | exact OpV.eqlNil | exact OpV.eqlBool | exact OpV.neqBool) rfl ?_ | (refine JR.alloc rfl ?_; intro _) | (refine JR.box rfl ?_; intro _) | refine JR.store ?_ | refine JC.cond_true ?_ | refine JC.cond_false ?_ | refine JC.skip ?_ | refine JC.exit ?_ | refine JC.block ?_ | refine CT.past ?_ | refine CT.hit ?_ | refine CT.miss rfl ?_ | refine CT.blockEnd ?_ | refine JC.ret ?_ | refine CT.ret ?_ | refine CT.blockRet ?_ | refine JO.omit rfl rfl ?_ | (refine JR.lit rfl ⟨rfl, by decide, by decide, by decide⟩ ?_; intro _))
      refine JR.callV rfl (fun w1 hw => list_ref w1 _ p3 ar q3 kr (v.eraseIdx j) (v.eraseIdx j) hw.get hw.get) ?_
      refine JO.reslot 87 (.bool true) (by simp) ?_
      repeat (first | refine CT.next ?_ | refine JC.seq ?_ | refine JC.region ?_ | refine JO.nil ?_ | refine JO.go rfl ?_ | refine JR.val (by first | exact OpV.move | exact OpV.assign | exact OpV.load | exact OpV.fieldAddr | exact OpV.indexEl | exact OpV.len | exact OpV.lss | exact OpV.not | exact OpV.pick_true | exact OpV.pick_false | exact OpV.inc (by omega) | exact OpV.eql | exact OpV.neq | exact OpV.leq | exact OpV.gtr | exact OpV.geq | exact OpV.extract | exact OpV.makeFunc | exact OpV.addn (by omega) | exact OpV.add (by omega) | exact OpV.subn (by omega) | exact OpV.sub (by omega) | exact OpV.lens | exact OpV.eqlID | exact OpV.neqID | exact OpV.eqlEv | exact OpV.eqlOp | exact OpV.eqlStr | exact OpV.neqStr | exact OpV.eqlNil | exact OpV.eqlBool | exact OpV.neqBool) rfl ?_ | (refine JR.alloc rfl ?_; intro _) | (refine JR.box rfl ?_; intro _) | refine JR.store ?_ | refine JC.cond_true ?_ | refine JC.cond_false ?_ | refine JC.skip ?_ | refine JC.exit ?_ | refine JC.block ?_ | refine CT.past ?_ | refine CT.hit ?_ | refine CT.miss rfl ?_ | refine CT.blockEnd ?_ | refine JC.ret ?_ | refine CT.ret ?_ | refine CT.blockRet ?_ | refine JO.omit rfl rfl ?_ | (refine JR.lit rfl ⟨rfl, by decide, by decide, by decide⟩ ?_; intro _))
      exact CT.done () rfl (fun w ho => ho.ent)
end Ab
end Go.Proofs.Ytcmfemfndadfmaa
/- Arguments that read as data, told as the layer tells memory. -/
namespace Go.Proofs.Ytcmfemfndadfmaa
namespace Ab
open Go Go.RowKit
set_option linter.unusedVariables false
set_option linter.unusedSimpArgs false

/-- Cells of type t that read as data are those of some element. -/
structure OpenT (P : Program) (α : Type) [Cell α] (t : TypeId) : Prop where
  ok : ∀ {H : Type} {enc : TypeId × Value → H} {w : World} {sp : Nat → Bool} {held : Bool} {fuel : Nat} {cs : List Value} {x : DataW H × List MemPlace},
    DataW.trod enc P w 0 sp held fuel t cs = some x → (∀ n ∈ x.1.weights P t, n ≤ reachBytes) → ∃ (u : α) (y : Cell.Ix α), cs = Cell.cells u y ∧ ∀ A ∈ Cell.facts u y, A.holds (fun _ => True) w

theorem weightsAll_mem {H : Type} {P : Program} {e : TypeId} {d : DataW H} {n : Nat} (hn : n ∈ d.weights P e) : ∀ {ds : List (DataW H)}, d ∈ ds → n ∈ DataW.weightsAll P e ds
  | [], h => by cases h
  | d' :: ds, h => by
    simp only [DataW.weightsAll, List.mem_append]
    rcases List.mem_cons.1 h with rfl | h
    · exact .inl hn
    · exact .inr (weightsAll_mem hn h)

theorem add_zero_addr (a : Addr) : (a.add 0).add 0 = a := by simp [Addr.add]
theorem cells_get {w : World} {a : Addr} {n : Nat} {ci : List Value} (h : w.cells? 0 a n = some ci) (j : Nat) (v : Value) (hv : ci[j]? = some v) : w.cell? (a.add j) = some v := by
  unfold World.cells? at h
  rw [if_pos (Nat.zero_le _)] at h
  have hl := mapM_some_length h
  have hj : j < n := by
    have := (List.getElem?_eq_some_iff.1 hv).1
    rw [hl, List.length_range] at this
    exact this
  have := mapM_some_get h j j (by simp [hj])
  rw [this, hv]

theorem OpenT.slice {P : Program} {α : Type} [Cell α] {t e : TypeId} (hO : OpenT P α e) (ht : P.underlying t = some (.slice e)) (hc : P.cellsOf e = Cell.sz α) (hb : 1 ≤ P.bytesOf e)
    {H : Type} {enc : TypeId × Value → H} {w : World} {sp : Nat → Bool} {held : Bool} {fuel : Nat} {cs : List Value} {x : DataW H × List MemPlace}
    (h : DataW.trod enc P w 0 sp held fuel t cs = some x) (hw : ∀ n ∈ x.1.weights P t, n ≤ reachBytes) :
    ∃ (a : Option Addr) (c : Nat) (L : List α), cs = [.slice a L.length c] ∧ (sl a c L).holds (fun _ => True) w := by
  rcases DataW.trod_slice ht h with ⟨rfl, rfl⟩ | ⟨a, len, cap, elems, rest, n, _, rfl, rfl, _, hlc, hcm, hlen, helems, _, _⟩
  · exact ⟨none, 0, [], rfl, sl_nil⟩
  · simp only [DataW.weights, ht] at hw
    have hw1 : len ≤ reachBytes := by
      have := hw _ (List.mem_cons_self ..)
      simp only [List.length_map] at this
      have h2 : (elems.length + rest.length) * 1 ≤ (elems.length + rest.length) * P.bytesOf e := Nat.mul_le_mul_left _ hb
      omega
    have key : ∀ i (hi : i < len), ∃ (u : α), ∃ (y : Cell.Ix α), (∀ j v, (Cell.cells u y)[j]? = some v → w.cell? ((a.add (i * Cell.sz α)).add j) = some v) ∧ ∀ A ∈ Cell.facts u y, A.holds (fun _ => True) w := by
      intro i hi
      have h1 := helems i hi
      have hi' : i < elems.length := by omega
      rw [List.getElem?_eq_getElem hi', hc] at h1
      obtain ⟨ci, hci, hd⟩ := Option.bind_eq_some_iff.1 h1
      obtain ⟨u, y, rfl, hf⟩ := hO.ok hd (fun n hn => hw n (List.mem_cons_of_mem _ (List.mem_append_left _ (weightsAll_mem hn (List.mem_map_of_mem (List.getElem_mem hi'))))))
      exact ⟨u, y, fun j v hv => cells_get hci j v hv, hf⟩
    obtain ⟨f, hf⟩ := Classical.axiomOfChoice (fun i : Fin len => key i.1 i.2)
    refine ⟨some a, cap, List.ofFn f, by simp, ?_⟩
    have hR : reachBytes = 140737488351232 := rfl
    refine ⟨by simpa using hlc, hcm, by simp only [List.length_ofFn, lim]; omega, fun hne => ?_⟩
    have h0 : 0 < len := by
      have := List.length_pos_iff.2 hne
      simpa using this
    obtain ⟨y0, hy0, _⟩ := hf ⟨0, h0⟩
    have hpos : 0 < (Cell.cells (f ⟨0, h0⟩) y0).length := by rw [Cell.len]; exact Cell.pos
    have hc0 := hy0 0 _ (List.getElem?_eq_getElem hpos)
    simp only [Nat.zero_mul, add_zero_addr] at hc0
    obtain ⟨b, off, spot⟩ := a
    have hspot : spot = none := by
      cases spot with
      | none => rfl
      | some s =>
        unfold World.cell? at hc0
        split at hc0
        · simp at hc0
        · cases hc0
    subst hspot
    refine ⟨b, off, rfl, trivial, ?_, fun i hi => ?_⟩
    · rcases Nat.lt_or_ge b w.heap.size with h | h
      · exact h
      · unfold World.cell? at hc0
        simp [Array.getElem?_eq_none h] at hc0
    · have hi' : i < len := by simpa using hi
      obtain ⟨y, hy, hfa⟩ := hf ⟨i, hi'⟩
      refine ⟨y, fun j v hv => ?_, fun A hA => ?_⟩
      · simp only [List.getElem_ofFn] at hv
        have := hy j v hv
        rw [Addr.add_mid, Addr.add_mid] at this
        exact this
      · simp only [List.getElem_ofFn] at hA
        exact hfa A hA

theorem open_byte : OpenT Try.prog UInt8 5 := ⟨fun h _ => by
  obtain ⟨n, rfl, _, hw⟩ := DataW.trod_int Try.underlying5 h
  have hb : 0 ≤ n ∧ n ≤ 255 := by simpa [Lit.wf, IntKind.min, IntKind.max, IntKind.signed, IntKind.bits] using hw
  refine ⟨UInt8.ofNat n.toNat, (), ?_, by simp [Cell.facts]⟩
  show _ = [byteV _]
  simp only [byteV, List.cons.injEq, and_true, Value.int.injEq, true_and]
  rw [UInt8.toNat_ofNat']
  omega⟩

theorem weightsEach_mem {H : Type} {P : Program} {n : Nat} {d : DataW H} {t : TypeId} (hn : n ∈ d.weights P t) : ∀ {ts : List TypeId} {ds : List (DataW H)} (i : Nat), ts[i]? = some t → ds[i]? = some d → n ∈ DataW.weightsEach P ts ds :=
  fun i h1 h2 => DataW.weights_mem_each h1 h2 n hn

def byteOfV : Value → UInt8
  | .int _ n => UInt8.ofNat n.toNat
  | _ => 0
set_option maxRecDepth 100000 in
theorem open_id : OpenT Try.prog ID 44 := ⟨fun {H enc w sp held fuel cs x} h _ => by
  have hcell : Try.prog.cellsOf 5 = 1 := by kernel_rfl
  have hcell2 : Try.prog.cellsOf 44 = 32 := by kernel_rfl
  obtain ⟨xs, m, rfl, rfl, hl, hlx, hx⟩ := DataW.trod_array Try.underlying44 h
  rw [hcell2] at hl
  have key : ∀ i (hi : i < cs.length), cs[i] = byteV (byteOfV cs[i]) := by
    intro i hi
    have h1 := hx i (by omega)
    rw [hcell, Nat.mul_one, List.getElem?_eq_getElem (by omega)] at h1
    have h2 : (cs.drop i).take 1 = [cs[i]] := by
      rw [List.drop_eq_getElem_cons hi]; rfl
    rw [h2] at h1
    obtain ⟨n, hn, _, hw⟩ := DataW.trod_int Try.underlying5 h1
    injection hn with hn
    have hb : 0 ≤ n ∧ n ≤ 255 := by simpa [Lit.wf, IntKind.min, IntKind.max, IntKind.signed, IntKind.bits] using hw
    rw [hn]
    simp only [byteOfV, byteV, Value.int.injEq, true_and]
    rw [UInt8.toNat_ofNat']
    omega
  refine ⟨⟨cs.map byteOfV, by rw [List.length_map]; exact hl⟩, (), ?_, by simp [Cell.facts]⟩
  show cs = (cs.map byteOfV).map byteV
  apply List.ext_getElem
  · simp
  · intro i h1 h2
    simp only [List.getElem_map]
    exact key i h1⟩

set_option maxRecDepth 100000 in
theorem open_commit : OpenT Try.prog Commit 29 := ⟨fun {H enc w sp held fuel cs x} h hw => by
  have c24 : Try.prog.cellsOf 24 = 2 := by kernel_rfl
  have c27 : Try.prog.cellsOf 27 = 4 := by kernel_rfl
  have c29 : Try.prog.cellsOf 29 = 8 := by kernel_rfl
  have c25 : Try.prog.cellsOf 25 = 1 := by kernel_rfl
  have c3 : Try.prog.cellsOf 3 = 1 := by kernel_rfl
  have c9 : Try.prog.cellsOf 9 = 1 := by kernel_rfl
  obtain ⟨xs, m, rfl, rfl, hl, hlx, hx⟩ := DataW.trod_struct Try.underlying29 h
  rw [c29] at hl
  match cs, hl with
  | [v0, v1, v2, v3, v4, v5, v6, v7], _ =>
  match xs, hlx with
  | [x0, x1, x2, x3], _ =>
  have h0 := hx 0 _ rfl
  have h1 := hx 1 _ rfl
  have h2 := hx 2 _ rfl
  have h3 := hx 3 _ rfl
  simp only [List.getElem_toArray, List.getElem_cons_zero, List.getElem_cons_succ, c24, c3, c25, c27, List.drop_zero, List.drop_succ_cons, List.take_succ_cons, List.take_zero, List.getElem?_cons_zero, List.getElem?_cons_succ] at h0 h1 h2 h3
  obtain ⟨ys, m', rfl, rfl, _, hly, hy⟩ := DataW.trod_struct Try.underlying24 h0
  match ys, hly with
  | [y0, y1], _ =>
  have e0 := hy 0 _ rfl
  have e1 := hy 1 _ rfl
  simp only [List.getElem_toArray, List.getElem_cons_zero, List.getElem_cons_succ, c3, List.drop_zero, List.drop_succ_cons, List.take_succ_cons, List.take_zero, List.getElem?_cons_zero, List.getElem?_cons_succ] at e0 e1
  obtain ⟨n0, q0, _, _⟩ := DataW.trod_int Try.underlying3 e0
  obtain ⟨n1, q1, _, _⟩ := DataW.trod_int Try.underlying3 e1
  obtain ⟨n2, q2, _, _⟩ := DataW.trod_int Try.underlying3 h1
  obtain ⟨zs, m2, hm2, rfl, _, hlz, hz⟩ := DataW.trod_struct Try.underlying27 h3
  match zs, hlz with
  | [z0, z1, z2, z3], _ =>
  have g0 := hz 0 _ rfl
  have g1 := hz 1 _ rfl
  have g2 := hz 2 _ rfl
  have g3 := hz 3 _ rfl
  simp only [List.getElem_toArray, List.getElem_cons_zero, List.getElem_cons_succ, c3, c9, List.drop_zero, List.drop_succ_cons, List.take_succ_cons, List.take_zero, List.getElem?_cons_zero, List.getElem?_cons_succ] at g0 g1 g2 g3
  obtain ⟨k0, r0, _, _⟩ := DataW.trod_int Try.underlying3 g0
  obtain ⟨s1, r1, r1x, _⟩ := DataW.trod_string Try.underlying9 g1
  obtain ⟨s2, r2, r2x, _⟩ := DataW.trod_string Try.underlying9 g2
  obtain ⟨k3, r3, _, _⟩ := DataW.trod_int Try.underlying3 g3
  simp only [DataW.weights, Try.underlying29, List.map_cons, List.map_nil, DataW.weightsEach, List.append_nil, List.mem_append, List.map_toArray] at hw
  obtain ⟨pa, pc, L, q3, hsl⟩ := open_id.slice Try.underlying25 (by kernel_rfl) (by rw [show Try.prog.bytesOf 44 = 32 by kernel_rfl]; decide) h2 (fun n hn => hw n (by simp [hn]))
  injection q0 with q0
  injection q1 with q1
  injection q2 with q2
  injection q3 with q3
  injection r0 with r0
  injection r1 with r1
  injection r2 with r2
  injection r3 with r3
  subst q0 q1 q2 q3 r0 r1 r2 r3
  exact ⟨⟨⟨n0, n1⟩, n2, L, ⟨k0, s1, s2, k3⟩⟩, (pa, pc), rfl, fun A hA => by simp only [Cell.facts, List.mem_singleton] at hA; subst hA; exact hsl⟩⟩
end Ab
end Go.Proofs.Ytcmfemfndadfmaa

/- Arguments of the laws, opened. -/
namespace Go.Proofs.Ytcmfemfndadfmaa
open Go Go.ChangeShapes Go.WideShapes Go.ChangeAt Go.RowKit
set_option linter.unusedVariables false

theorem knobs : ownKnob Try.prog.godebug = none := by kernel_rfl
theorem laid : laidOutB Try.prog = true := by kernel_rfl

theorem arg_sl {P : Program} {H : Type} {enc : TypeId × Value → H} {W : World} {α : Type} [Ab.Cell α] {t e : TypeId} (hO : Ab.OpenT P α e) (ht : P.underlying t = some (.slice e)) (hc : P.cellsOf e = Ab.Cell.sz α) (hb : 1 ≤ P.bytesOf e)
    {r : Reach} {base : Nat} {v : Value} {d : DataW H} {p : List MemPlace} (hv : Value.okWide P W r base t v) (h : DataW.Trod enc P W 0 (fun _ => true) true t v d p) (hw : ∀ n ∈ d.weights P t, n ≤ reachBytes) :
    ∃ (a : Option Addr) (c : Nat) (L : List α), v = .slice a L.length c ∧ (Ab.sl a c L).holds (fun _ => True) W := by
  obtain ⟨a, len, cap, rfl⟩ := okWide_slice ht hv
  obtain ⟨fuel, hf⟩ := h
  obtain ⟨a', c', L, hcs, hsl⟩ := hO.slice ht hc hb hf hw
  simp [Value.cells] at hcs
  obtain ⟨rfl, rfl, rfl⟩ := hcs
  exact ⟨_, _, L, rfl, hsl⟩

theorem bytes_commit : Try.prog.bytesOf 29 = 96 := by kernel_rfl
theorem bytes_id : Try.prog.bytesOf 44 = 32 := by kernel_rfl
section
variable {H : Type} {enc : TypeId × Value → H} {W : World} {r : Reach} {base : Nat} {v : Value} {d : DataW H} {p : List MemPlace}
set_option maxRecDepth 100000 in
theorem arg_commits (hv : Value.okWide Try.prog W r base 22 v) (h : DataW.Trod enc Try.prog W 0 (fun _ => true) true 22 v d p) (hw : ∀ n ∈ d.weights Try.prog 22, n ≤ reachBytes) :
    ∃ (a : Option Addr) (c : Nat) (L : List Ab.Commit), v = .slice a L.length c ∧ (Ab.sl a c L).holds (fun _ => True) W :=
  arg_sl Ab.open_commit Try.underlying22 (by kernel_rfl) (by rw [bytes_commit]; decide) hv h hw
set_option maxRecDepth 100000 in
theorem arg_ids (hv : Value.okWide Try.prog W r base 25 v) (h : DataW.Trod enc Try.prog W 0 (fun _ => true) true 25 v d p) (hw : ∀ n ∈ d.weights Try.prog 25, n ≤ reachBytes) :
    ∃ (a : Option Addr) (c : Nat) (L : List Ab.ID), v = .slice a L.length c ∧ (Ab.sl a c L).holds (fun _ => True) W :=
  arg_sl Ab.open_id Try.underlying25 (by kernel_rfl) (by rw [bytes_id]; decide) hv h hw
set_option maxRecDepth 100000 in
theorem arg_id (hv : Value.okWide Try.prog W r base 44 v) (h : DataW.Trod enc Try.prog W 0 (fun _ => true) true 44 v d p) (hw : ∀ n ∈ d.weights Try.prog 44, n ≤ reachBytes) :
    ∃ x : Ab.ID, v = .agg ⟨Ab.idc x⟩ := by
  unfold Value.okWide at hv
  rw [Try.underlying44] at hv
  obtain ⟨cs, rfl, _, _⟩ := hv
  obtain ⟨fuel, hf⟩ := h
  obtain ⟨u, y, hcs, _⟩ := Ab.open_id.ok hf hw
  have hcs' : cs.toList = Ab.idc u := hcs
  exact ⟨u, by rw [← hcs']⟩
set_option maxRecDepth 100000 in
theorem arg_commit (hv : Value.okWide Try.prog W r base 29 v) (h : DataW.Trod enc Try.prog W 0 (fun _ => true) true 29 v d p) (hw : ∀ n ∈ d.weights Try.prog 29, n ≤ reachBytes) :
    ∃ (c : Ab.Commit) (a : Option Addr) (k : Nat), v = Ab.commitV c a k ∧ (Ab.sl a k c.parents).holds (fun _ => True) W := by
  unfold Value.okWide at hv
  rw [Try.underlying29] at hv
  obtain ⟨cs, rfl, _, _⟩ := hv
  obtain ⟨fuel, hf⟩ := h
  obtain ⟨u, y, hcs, hfa⟩ := Ab.open_commit.ok hf hw
  have hcs' : cs.toList = Ab.Cell.cells u y := hcs
  refine ⟨u, y.1, y.2, ?_, hfa _ (by simp [Ab.Cell.facts])⟩
  show Value.agg cs = .agg ⟨Ab.Cell.cells u y⟩
  rw [← hcs']
end
end Go.Proofs.Ytcmfemfndadfmaa

/- The statement WaitTwiceSaid: for every input WaitTwice returns true and leaves its arguments as they were. -/
namespace Go.Proofs.Ytcmfemfndadfmaa
open Go Go.ChangeShapes Go.WideShapes Go.ChangeAt Go.RowKit
set_option linter.unusedVariables false

set_option maxRecDepth 100000 in
theorem waitTwice_contract (H : Type) (enc : TypeId × Value → H) (W : World) (base : Nat) (args : Array Value) (ds gs : List (DataW H)) (before : List MemPlace)
    (hval : ∀ (j : Nat) t v, Try.f5.params[j]? = some t → args[j]? = some v → Value.okWide Try.prog W .any base t v)
    (hW : DataW.Whole enc Try.prog Try.f5.params.toList Rows.waitTwiceSpec.vars false W args.toList ds gs before)
    (hsz : (DataW.weightsEach Try.prog (Try.f5.params.toList ++ Rows.waitTwiceSpec.plain.varTypes Try.prog) (ds ++ gs)).all (· ≤ reachBytes) = true) :
    Calls Try.prog 5 args W fun e W' => ∃ v, e = .returned v ∧ Rows.waitTwiceSpec.post enc Try.prog Try.f5 false true false false W args v W' := by
  have hW' := hW
  obtain ⟨p, q, hA0, hV, rfl, _, _⟩ := hW
  have hA : DataW.TrodAll enc Try.prog W 0 (fun _ => true) true Try.f5.params.toList args.toList ds p := hA0
  rw [Try.params5] at hA hval hsz
  obtain ⟨v0, v1, d0, d1, p0, p1, rfl, rfl, rfl, h0, h1⟩ := trodAll_two hA
  obtain ⟨rfl, rfl⟩ := trodVars_none hV
  have hall := List.all_eq_true.1 hsz
  have w0 : ∀ n ∈ d0.weights Try.prog 22, n ≤ reachBytes := fun n hn => by simpa using hall n (DataW.weights_mem_each (j := 0) rfl rfl n hn)
  have w1 : ∀ n ∈ d1.weights Try.prog 25, n ≤ reachBytes := fun n hn => by simpa using hall n (DataW.weights_mem_each (j := 1) rfl rfl n hn)
  obtain ⟨a0, k0, x0, rfl, s0⟩ := arg_commits (hval 0 _ v0 rfl rfl) h0 w0
  obtain ⟨a1, k1, x1, rfl, s1⟩ := arg_ids (hval 1 _ v1 rfl rfl) h1 w1
  clear hA0
  simp only [List.append_nil] at hW'
  have hlt : ∀ x ∈ p0 ++ p1, x.block < W.heap.size := fun x hx => by simpa using hW'.lt x (by simpa using hx)
  refine Calls.mono (Ab.law_twice W (fun _ => True) a0 a1 k0 k1 x0 x1 s0 s1) ?_
  rintro e W' ⟨y, he, hbel, _⟩
  subst he
  have hB := hbel.below
  refine ⟨_, rfl, _, _, _, [], _, [], hW', ?_, trodAll_mk2 (Below.trod laid (by kernel_rfl) (of_decide_eq_true (by kernel_rfl)) h0 hB (fun x hx => hlt x (List.mem_append_left _ hx))) (Below.trod laid (by kernel_rfl) (of_decide_eq_true (by kernel_rfl)) h1 hB (fun x hx => hlt x (List.mem_append_right _ hx))), rfl, hB.frame _, fun h => by cases h⟩
  exact trodAll_cons_mk (shut_bool Try.underlying4 _) trodAll_mk0

set_option maxRecDepth 100000 in
theorem waitTwice_lifted (os : Os) (started : os.Started) (H : Type) (enc : TypeId × Value → H) :
    ReturnsInHanded {} Try.checked os 5 .any (Rows.waitTwiceSpec.pre6 enc Try.prog Try.f5 Rows.waitTwiceRow.domain false) (Rows.waitTwiceSpec.post enc Try.prog Try.f5 false true false false) := by
  refine returnsInHanded_of_change_sized (C := Try.checked) knobs started (by kernel_rfl) Try.func5
    (ChangeSpec.witness6 (enc := enc) (C := Try.checked) false ⟨#[], #[.slice none 0 0, .slice none 0 0], []⟩ 8 (by kernel_rfl) (by kernel_rfl) (by kernel_rfl) (by kernel_rfl)) ?_
  intro W base args ds gs before hval hW _ hsz _
  exact waitTwice_contract H enc W base args ds gs before hval hW hsz

theorem waitTwice_holds : Rows.WaitTwiceSaid :=
  OpenClaim.holds_of_wide 5 Try.f5 rfl rfl rfl rfl rfl rfl rfl ⟨rfl, rfl, rfl, rfl, rfl⟩ rfl rfl rfl rfl rfl (by kernel_rfl) Try.func5 (by kernel_rfl)
    (of_decide_eq_true (by kernel_rfl)) (by unfold Func.isWrapper; first | (rw [if_pos (by decide +kernel)]; kernel_rfl) | (rw [if_neg (by decide +kernel)]; exact ⟨rfl, rfl⟩))
    (fun os started H enc _ => waitTwice_lifted os started H enc)
end Go.Proofs.Ytcmfemfndadfmaa
