/-
  No cell of these rows narrows 'for every input' (looked for: loops, veiled, ifaces, maps, wideKeys, modest, calm, conditions, laid).
  DERIVED. THE GIVEN ROWS OF THIS SEAT. 5 by the template 'for every input the law returns true; each argument reads behind the call as it read before'; 0 by the template 'total and deterministic' (their statements: YtcmfemfndadfmaaTotals.lean).
  GIVEN WITH THE SEED: the statements are not yours to turn. If you find one false, say at which input.
  Laid BY PROGRAM, IN A SANDBOX (cutbox-rows.mjs): the forced cells as the released guide's own fill.sh prints them over the translation 5ca7c621c818fa26… (all of the seat's roots in one cut). By AI agents, Wed Nov 11 2026. No macro, syntax, notation, axiom, sorry.
-/
import Derived.Test.YtcmfemfndadfmaaChecked
import GoSem.Claim
import GoSem.ClaimJoined
import GoSem.ClaimMapViews
import Derived.JoinedTies
import Derived.KernelRfl
namespace Go.Proofs.Ytcmfemfndadfmaa
/- THE CELL 'sum', in the pinned program and in every row, IS THE sha256 OF THE DUMP (.gsa) THAT YtcmfemfndadfmaaProg.lean LOADS. Nothing in Lean hashes anything: it is a label: what it is worth is what the hold of that sum in a sandbox is worth. -/
noncomputable def Try.pinned : Pinned := { name := "ytcmfemfndadfmaa", sum := "5ca7c621c818fa26070128d03a5bfae474b7210277906fedab022f453af1d605", checked := Try.checked }
namespace Rows
def none {H : Type} : Left H := { results := [], args := [] }

/-- 'anabranchlaw16.WaitBound': WHATEVER THE INPUT: true; the input reads as it did. -/
def waitBoundSpec : ChangeSpec := { name := "waitBound", fn := fun _ => fun
  | [d1, d2] => { results := [.lit (.bool true)], args := [d1, d2] }
  | _ => none }
def waitBoundRow : OpenClaim := { program := "ytcmfemfndadfmaa", sum := "5ca7c621c818fa26070128d03a5bfae474b7210277906fedab022f453af1d605", func := "anabranch/anabranchlaw16.WaitBound", spec := "waitBound", inPlace := ["internal/bytealg.Compare", "internal/bytealg.IndexByteString", "internal/bytealg.MakeNoZero"], unfollowed := true, recurses := true, plainKeys := false, apart := false }
def WaitBoundSaid : Prop := waitBoundRow.holds Try.pinned (OpenSpec.ofChange waitBoundSpec)

/-- ITS FALSE NEIGHBOUR: 'it returns false'. Refute it at one input. -/
def waitBoundWrong : ChangeSpec := { name := "waitBound", fn := fun _ => fun
  | [d1, d2] => { results := [.lit (.bool false)], args := [d1, d2] }
  | _ => none }
def WaitBoundWrongFalsely : Prop := waitBoundRow.holds Try.pinned (OpenSpec.ofChange waitBoundWrong)

/-- 'anabranchlaw16.WaitReady': WHATEVER THE INPUT: true; the input reads as it did. -/
def waitReadySpec : ChangeSpec := { name := "waitReady", fn := fun _ => fun
  | [d1, d2] => { results := [.lit (.bool true)], args := [d1, d2] }
  | _ => none }
def waitReadyRow : OpenClaim := { program := "ytcmfemfndadfmaa", sum := "5ca7c621c818fa26070128d03a5bfae474b7210277906fedab022f453af1d605", func := "anabranch/anabranchlaw16.WaitReady", spec := "waitReady", inPlace := ["internal/bytealg.Compare", "internal/bytealg.IndexByteString", "internal/bytealg.MakeNoZero"], unfollowed := true, recurses := true, plainKeys := false, apart := false }
def WaitReadySaid : Prop := waitReadyRow.holds Try.pinned (OpenSpec.ofChange waitReadySpec)

/-- ITS FALSE NEIGHBOUR: 'it returns false'. Refute it at one input. -/
def waitReadyWrong : ChangeSpec := { name := "waitReady", fn := fun _ => fun
  | [d1, d2] => { results := [.lit (.bool false)], args := [d1, d2] }
  | _ => none }
def WaitReadyWrongFalsely : Prop := waitReadyRow.holds Try.pinned (OpenSpec.ofChange waitReadyWrong)

/-- 'anabranchlaw16.WaitTwice': WHATEVER THE INPUT: true; the input reads as it did. -/
def waitTwiceSpec : ChangeSpec := { name := "waitTwice", fn := fun _ => fun
  | [d1, d2] => { results := [.lit (.bool true)], args := [d1, d2] }
  | _ => none }
def waitTwiceRow : OpenClaim := { program := "ytcmfemfndadfmaa", sum := "5ca7c621c818fa26070128d03a5bfae474b7210277906fedab022f453af1d605", func := "anabranch/anabranchlaw16.WaitTwice", spec := "waitTwice", inPlace := ["internal/bytealg.Compare", "internal/bytealg.IndexByteString", "internal/bytealg.MakeNoZero"], unfollowed := true, recurses := true, plainKeys := false, apart := false }
def WaitTwiceSaid : Prop := waitTwiceRow.holds Try.pinned (OpenSpec.ofChange waitTwiceSpec)

/-- ITS FALSE NEIGHBOUR: 'it returns false'. Refute it at one input. -/
def waitTwiceWrong : ChangeSpec := { name := "waitTwice", fn := fun _ => fun
  | [d1, d2] => { results := [.lit (.bool false)], args := [d1, d2] }
  | _ => none }
def WaitTwiceWrongFalsely : Prop := waitTwiceRow.holds Try.pinned (OpenSpec.ofChange waitTwiceWrong)

/-- 'anabranchlaw16.WaitFree': WHATEVER THE INPUT: true; the input reads as it did. -/
def waitFreeSpec : ChangeSpec := { name := "waitFree", fn := fun _ => fun
  | [d] => { results := [.lit (.bool true)], args := [d] }
  | _ => none }
def waitFreeRow : OpenClaim := { program := "ytcmfemfndadfmaa", sum := "5ca7c621c818fa26070128d03a5bfae474b7210277906fedab022f453af1d605", func := "anabranch/anabranchlaw16.WaitFree", spec := "waitFree", inPlace := ["internal/bytealg.Compare", "internal/bytealg.IndexByteString", "internal/bytealg.MakeNoZero"], unfollowed := true, recurses := true, plainKeys := false, apart := false }
def WaitFreeSaid : Prop := waitFreeRow.holds Try.pinned (OpenSpec.ofChange waitFreeSpec)

/-- ITS FALSE NEIGHBOUR: 'it returns false'. Refute it at one input. -/
def waitFreeWrong : ChangeSpec := { name := "waitFree", fn := fun _ => fun
  | [d] => { results := [.lit (.bool false)], args := [d] }
  | _ => none }
def WaitFreeWrongFalsely : Prop := waitFreeRow.holds Try.pinned (OpenSpec.ofChange waitFreeWrong)

/-- 'anabranchlaw16.WaitMissing': WHATEVER THE INPUT: true; the input reads as it did. -/
def waitMissingSpec : ChangeSpec := { name := "waitMissing", fn := fun _ => fun
  | [d1, d2, d3] => { results := [.lit (.bool true)], args := [d1, d2, d3] }
  | _ => none }
def waitMissingRow : OpenClaim := { program := "ytcmfemfndadfmaa", sum := "5ca7c621c818fa26070128d03a5bfae474b7210277906fedab022f453af1d605", func := "anabranch/anabranchlaw16.WaitMissing", spec := "waitMissing", inPlace := ["internal/bytealg.Compare", "internal/bytealg.IndexByteString", "internal/bytealg.MakeNoZero"], unfollowed := true, recurses := true, plainKeys := false, apart := false }
def WaitMissingSaid : Prop := waitMissingRow.holds Try.pinned (OpenSpec.ofChange waitMissingSpec)

/-- ITS FALSE NEIGHBOUR: 'it returns false'. Refute it at one input. -/
def waitMissingWrong : ChangeSpec := { name := "waitMissing", fn := fun _ => fun
  | [d1, d2, d3] => { results := [.lit (.bool false)], args := [d1, d2, d3] }
  | _ => none }
def WaitMissingWrongFalsely : Prop := waitMissingRow.holds Try.pinned (OpenSpec.ofChange waitMissingWrong)

/- THE SECOND FORM. 'bulk': how many values and letters a reading holds, each counted each time it is reached (what is shared counts as often as it is met; a slice's spare places count too). A statement '..UptoSaid' is the law's where the arguments, and the package variables that the reading takes, are together of bulk at most 1048576: NARROWER than '..Said'. Prove '..Said' where nothing that the law and all that it calls make is longer than what came in: it says more and counts as full. Else prove '..UptoSaid'. A law counts once. -/
mutual
def uptoBulk {H : Type} : DataW H → Nat
  | .lit (.string bytes) => bytes.length + 1
  | .lit _ => 1
  | .nil => 1
  | .ptr d => uptoBulk d + 1
  | .slice elems spare => uptoBulkAll elems + uptoBulkAll spare + 1
  | .agg parts => uptoBulkAll parts + 1
  | .iface _ d => uptoBulk d + 1
  | .map entries => uptoBulkEntries entries + 1
  | .held _ => 1
def uptoBulkAll {H : Type} : List (DataW H) → Nat
  | [] => 0
  | d :: r => uptoBulk d + uptoBulkAll r
def uptoBulkEntries {H : Type} : List (Lit × DataW H) → Nat
  | [] => 0
  | x :: r => uptoBulkEntry x + uptoBulkEntries r
def uptoBulkEntry {H : Type} : Lit × DataW H → Nat
  | (.string bytes, d) => bytes.length + uptoBulk d + 1
  | (_, d) => uptoBulk d + 1
 end
def uptoSmall : (H : Type) → List (DataW H) → Bool := fun _ ds => decide (uptoBulkAll ds ≤ 1048576)
def OpenSpec.upto (s : _root_.Go.ChangeSpec) : _root_.Go.OpenSpec := { _root_.Go.OpenSpec.ofChange s with cond := some uptoSmall }

/-- 'anabranchlaw16.WaitBound', WHERE WHAT IT READS IS OF BULK AT MOST 1048576: true; the input reads as it did. -/
def waitBoundUptoRow : OpenClaim := { program := "ytcmfemfndadfmaa", sum := "5ca7c621c818fa26070128d03a5bfae474b7210277906fedab022f453af1d605", func := "anabranch/anabranchlaw16.WaitBound", spec := "waitBound", inPlace := ["internal/bytealg.Compare", "internal/bytealg.IndexByteString", "internal/bytealg.MakeNoZero"], unfollowed := true, recurses := true, plainKeys := false, apart := false, narrowed := true }
def WaitBoundUptoSaid : Prop := waitBoundUptoRow.holds Try.pinned (OpenSpec.upto waitBoundSpec)

/-- 'anabranchlaw16.WaitReady', WHERE WHAT IT READS IS OF BULK AT MOST 1048576: true; the input reads as it did. -/
def waitReadyUptoRow : OpenClaim := { program := "ytcmfemfndadfmaa", sum := "5ca7c621c818fa26070128d03a5bfae474b7210277906fedab022f453af1d605", func := "anabranch/anabranchlaw16.WaitReady", spec := "waitReady", inPlace := ["internal/bytealg.Compare", "internal/bytealg.IndexByteString", "internal/bytealg.MakeNoZero"], unfollowed := true, recurses := true, plainKeys := false, apart := false, narrowed := true }
def WaitReadyUptoSaid : Prop := waitReadyUptoRow.holds Try.pinned (OpenSpec.upto waitReadySpec)

/-- 'anabranchlaw16.WaitTwice', WHERE WHAT IT READS IS OF BULK AT MOST 1048576: true; the input reads as it did. -/
def waitTwiceUptoRow : OpenClaim := { program := "ytcmfemfndadfmaa", sum := "5ca7c621c818fa26070128d03a5bfae474b7210277906fedab022f453af1d605", func := "anabranch/anabranchlaw16.WaitTwice", spec := "waitTwice", inPlace := ["internal/bytealg.Compare", "internal/bytealg.IndexByteString", "internal/bytealg.MakeNoZero"], unfollowed := true, recurses := true, plainKeys := false, apart := false, narrowed := true }
def WaitTwiceUptoSaid : Prop := waitTwiceUptoRow.holds Try.pinned (OpenSpec.upto waitTwiceSpec)

/-- 'anabranchlaw16.WaitFree', WHERE WHAT IT READS IS OF BULK AT MOST 1048576: true; the input reads as it did. -/
def waitFreeUptoRow : OpenClaim := { program := "ytcmfemfndadfmaa", sum := "5ca7c621c818fa26070128d03a5bfae474b7210277906fedab022f453af1d605", func := "anabranch/anabranchlaw16.WaitFree", spec := "waitFree", inPlace := ["internal/bytealg.Compare", "internal/bytealg.IndexByteString", "internal/bytealg.MakeNoZero"], unfollowed := true, recurses := true, plainKeys := false, apart := false, narrowed := true }
def WaitFreeUptoSaid : Prop := waitFreeUptoRow.holds Try.pinned (OpenSpec.upto waitFreeSpec)

/-- 'anabranchlaw16.WaitMissing', WHERE WHAT IT READS IS OF BULK AT MOST 1048576: true; the input reads as it did. -/
def waitMissingUptoRow : OpenClaim := { program := "ytcmfemfndadfmaa", sum := "5ca7c621c818fa26070128d03a5bfae474b7210277906fedab022f453af1d605", func := "anabranch/anabranchlaw16.WaitMissing", spec := "waitMissing", inPlace := ["internal/bytealg.Compare", "internal/bytealg.IndexByteString", "internal/bytealg.MakeNoZero"], unfollowed := true, recurses := true, plainKeys := false, apart := false, narrowed := true }
def WaitMissingUptoSaid : Prop := waitMissingUptoRow.holds Try.pinned (OpenSpec.upto waitMissingSpec)

end Rows
end Go.Proofs.Ytcmfemfndadfmaa
