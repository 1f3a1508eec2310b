/-
  No cell of these rows narrows 'for every input' (looked for: loops, veiled, ifaces, maps, wideKeys, modest, calm, conditions, laid).
  DERIVED. THE GIVEN ROWS OF THIS SEAT. 7 by the template 'for every input the law returns true; each argument reads behind the call as it read before'; 0 by the template 'total and deterministic' (their statements: YtcmfemfndadfmaaGreatTotals.lean).
  GIVEN WITH THE SEED: the statements are not yours to turn. If you find one false, say at which input.
  Laid BY PROGRAM, IN A SANDBOX (cutbox-rows.mjs): the forced cells as the released guide's own fill.sh prints them over the translation 1807cc84518dcddc… (all of the seat's roots in one cut). By AI agents, Wed Nov 11 2026. No macro, syntax, notation, axiom, sorry.
-/
import Derived.Test.YtcmfemfndadfmaaGreatChecked
import GoSem.Claim
import GoSem.ClaimJoined
import GoSem.ClaimMapViews
import Derived.JoinedTies
import Derived.KernelRfl
namespace Go.Proofs.YtcmfemfndadfmaaGreat
/- THE CELL 'sum', in the pinned program and in every row, IS THE sha256 OF THE DUMP (.gsa) THAT YtcmfemfndadfmaaGreatProg.lean LOADS. Nothing in Lean hashes anything: it is a label: what it is worth is what the hold of that sum in a sandbox is worth. -/
noncomputable def Tryz.pinned : Pinned := { name := "ytcmfemfndadfmaagreat", sum := "1807cc84518dcddcbdc2df434c1d75c74b1b7126338d3b7132aa43838263d17a", checked := Tryz.checked }
namespace Rows
def none {H : Type} : Left H := { results := [], args := [] }

/-- 'anabranchlaw16.WaitTells': WHATEVER THE INPUT: true; the input reads as it did. -/
def waitTellsSpec : ChangeSpec := { name := "waitTells", fn := fun _ => fun
  | [d1, d2, d3] => { results := [.lit (.bool true)], args := [d1, d2, d3] }
  | _ => none }
def waitTellsRow : OpenClaim := { program := "ytcmfemfndadfmaagreat", sum := "1807cc84518dcddcbdc2df434c1d75c74b1b7126338d3b7132aa43838263d17a", func := "anabranch/anabranchlaw16.WaitTells", spec := "waitTells", inPlace := ["internal/bytealg.Compare", "internal/bytealg.IndexByteString", "internal/bytealg.MakeNoZero"], unfollowed := true, recurses := true, plainKeys := false, apart := false }
def WaitTellsSaid : Prop := waitTellsRow.holds Tryz.pinned (OpenSpec.ofChange waitTellsSpec)

/-- ITS FALSE NEIGHBOUR: 'it returns false'. Refute it at one input. -/
def waitTellsWrong : ChangeSpec := { name := "waitTells", fn := fun _ => fun
  | [d1, d2, d3] => { results := [.lit (.bool false)], args := [d1, d2, d3] }
  | _ => none }
def WaitTellsWrongFalsely : Prop := waitTellsRow.holds Tryz.pinned (OpenSpec.ofChange waitTellsWrong)

/-- 'anabranchlaw11.DagTells': WHATEVER THE INPUT: true; the input reads as it did. -/
def dagTellsSpec : ChangeSpec := { name := "dagTells", fn := fun _ => fun
  | [d1, d2] => { results := [.lit (.bool true)], args := [d1, d2] }
  | _ => none }
def dagTellsRow : OpenClaim := { program := "ytcmfemfndadfmaagreat", sum := "1807cc84518dcddcbdc2df434c1d75c74b1b7126338d3b7132aa43838263d17a", func := "anabranch/anabranchlaw11.DagTells", spec := "dagTells", inPlace := ["internal/bytealg.Compare", "internal/bytealg.IndexByteString", "internal/bytealg.MakeNoZero"], unfollowed := true, recurses := true, plainKeys := false, apart := false }
def DagTellsSaid : Prop := dagTellsRow.holds Tryz.pinned (OpenSpec.ofChange dagTellsSpec)

/-- ITS FALSE NEIGHBOUR: 'it returns false'. Refute it at one input. -/
def dagTellsWrong : ChangeSpec := { name := "dagTells", fn := fun _ => fun
  | [d1, d2] => { results := [.lit (.bool false)], args := [d1, d2] }
  | _ => none }
def DagTellsWrongFalsely : Prop := dagTellsRow.holds Tryz.pinned (OpenSpec.ofChange dagTellsWrong)

/-- 'anabranchlaw11.DagSorted': WHATEVER THE INPUT: true; the input reads as it did. -/
def dagSortedSpec : ChangeSpec := { name := "dagSorted", fn := fun _ => fun
  | [d] => { results := [.lit (.bool true)], args := [d] }
  | _ => none }
def dagSortedRow : OpenClaim := { program := "ytcmfemfndadfmaagreat", sum := "1807cc84518dcddcbdc2df434c1d75c74b1b7126338d3b7132aa43838263d17a", func := "anabranch/anabranchlaw11.DagSorted", spec := "dagSorted", inPlace := ["internal/bytealg.Compare", "internal/bytealg.IndexByteString", "internal/bytealg.MakeNoZero"], unfollowed := true, recurses := true, plainKeys := false, apart := false }
def DagSortedSaid : Prop := dagSortedRow.holds Tryz.pinned (OpenSpec.ofChange dagSortedSpec)

/-- ITS FALSE NEIGHBOUR: 'it returns false'. Refute it at one input. -/
def dagSortedWrong : ChangeSpec := { name := "dagSorted", fn := fun _ => fun
  | [d] => { results := [.lit (.bool false)], args := [d] }
  | _ => none }
def DagSortedWrongFalsely : Prop := dagSortedRow.holds Tryz.pinned (OpenSpec.ofChange dagSortedWrong)

/-- 'anabranchlaw11.DagWhole': WHATEVER THE INPUT: true; the input reads as it did. -/
def dagWholeSpec : ChangeSpec := { name := "dagWhole", fn := fun _ => fun
  | [d] => { results := [.lit (.bool true)], args := [d] }
  | _ => none }
def dagWholeRow : OpenClaim := { program := "ytcmfemfndadfmaagreat", sum := "1807cc84518dcddcbdc2df434c1d75c74b1b7126338d3b7132aa43838263d17a", func := "anabranch/anabranchlaw11.DagWhole", spec := "dagWhole", inPlace := ["internal/bytealg.Compare", "internal/bytealg.IndexByteString", "internal/bytealg.MakeNoZero"], unfollowed := true, recurses := true, plainKeys := false, apart := false }
def DagWholeSaid : Prop := dagWholeRow.holds Tryz.pinned (OpenSpec.ofChange dagWholeSpec)

/-- ITS FALSE NEIGHBOUR: 'it returns false'. Refute it at one input. -/
def dagWholeWrong : ChangeSpec := { name := "dagWhole", fn := fun _ => fun
  | [d] => { results := [.lit (.bool false)], args := [d] }
  | _ => none }
def DagWholeWrongFalsely : Prop := dagWholeRow.holds Tryz.pinned (OpenSpec.ofChange dagWholeWrong)

/-- 'anabranchlaw11.DagKnows': WHATEVER THE INPUT: true; the input reads as it did. -/
def dagKnowsSpec : ChangeSpec := { name := "dagKnows", fn := fun _ => fun
  | [d1, d2] => { results := [.lit (.bool true)], args := [d1, d2] }
  | _ => none }
def dagKnowsRow : OpenClaim := { program := "ytcmfemfndadfmaagreat", sum := "1807cc84518dcddcbdc2df434c1d75c74b1b7126338d3b7132aa43838263d17a", func := "anabranch/anabranchlaw11.DagKnows", spec := "dagKnows", inPlace := ["internal/bytealg.Compare", "internal/bytealg.IndexByteString", "internal/bytealg.MakeNoZero"], unfollowed := true, recurses := true, plainKeys := false, apart := false }
def DagKnowsSaid : Prop := dagKnowsRow.holds Tryz.pinned (OpenSpec.ofChange dagKnowsSpec)

/-- ITS FALSE NEIGHBOUR: 'it returns false'. Refute it at one input. -/
def dagKnowsWrong : ChangeSpec := { name := "dagKnows", fn := fun _ => fun
  | [d1, d2] => { results := [.lit (.bool false)], args := [d1, d2] }
  | _ => none }
def DagKnowsWrongFalsely : Prop := dagKnowsRow.holds Tryz.pinned (OpenSpec.ofChange dagKnowsWrong)

/-- 'anabranchlaw11.DagAnc': WHATEVER THE INPUT: true; the input reads as it did. -/
def dagAncSpec : ChangeSpec := { name := "dagAnc", fn := fun _ => fun
  | [d1, d2, d3] => { results := [.lit (.bool true)], args := [d1, d2, d3] }
  | _ => none }
def dagAncRow : OpenClaim := { program := "ytcmfemfndadfmaagreat", sum := "1807cc84518dcddcbdc2df434c1d75c74b1b7126338d3b7132aa43838263d17a", func := "anabranch/anabranchlaw11.DagAnc", spec := "dagAnc", inPlace := ["internal/bytealg.Compare", "internal/bytealg.IndexByteString", "internal/bytealg.MakeNoZero"], unfollowed := true, recurses := true, plainKeys := false, apart := false }
def DagAncSaid : Prop := dagAncRow.holds Tryz.pinned (OpenSpec.ofChange dagAncSpec)

/-- ITS FALSE NEIGHBOUR: 'it returns false'. Refute it at one input. -/
def dagAncWrong : ChangeSpec := { name := "dagAnc", fn := fun _ => fun
  | [d1, d2, d3] => { results := [.lit (.bool false)], args := [d1, d2, d3] }
  | _ => none }
def DagAncWrongFalsely : Prop := dagAncRow.holds Tryz.pinned (OpenSpec.ofChange dagAncWrong)

/-- 'anabranchlaw11.DagMore': WHATEVER THE INPUT: true; the input reads as it did. -/
def dagMoreSpec : ChangeSpec := { name := "dagMore", fn := fun _ => fun
  | [d1, d2, d3] => { results := [.lit (.bool true)], args := [d1, d2, d3] }
  | _ => none }
def dagMoreRow : OpenClaim := { program := "ytcmfemfndadfmaagreat", sum := "1807cc84518dcddcbdc2df434c1d75c74b1b7126338d3b7132aa43838263d17a", func := "anabranch/anabranchlaw11.DagMore", spec := "dagMore", inPlace := ["internal/bytealg.Compare", "internal/bytealg.IndexByteString", "internal/bytealg.MakeNoZero"], unfollowed := true, recurses := true, plainKeys := false, apart := false }
def DagMoreSaid : Prop := dagMoreRow.holds Tryz.pinned (OpenSpec.ofChange dagMoreSpec)

/-- ITS FALSE NEIGHBOUR: 'it returns false'. Refute it at one input. -/
def dagMoreWrong : ChangeSpec := { name := "dagMore", fn := fun _ => fun
  | [d1, d2, d3] => { results := [.lit (.bool false)], args := [d1, d2, d3] }
  | _ => none }
def DagMoreWrongFalsely : Prop := dagMoreRow.holds Tryz.pinned (OpenSpec.ofChange dagMoreWrong)

/- THE SECOND FORM. 'bulk': how many values and letters a reading holds, each counted each time it is reached (what is shared counts as often as it is met; a slice's spare places count too). A statement '..UptoSaid' is the law's where the arguments, and the package variables that the reading takes, are together of bulk at most 1048576: NARROWER than '..Said'. Prove '..Said' where nothing that the law and all that it calls make is longer than what came in: it says more and counts as full. Else prove '..UptoSaid'. A law counts once. -/
mutual
def uptoBulk {H : Type} : DataW H → Nat
  | .lit (.string bytes) => bytes.length + 1
  | .lit _ => 1
  | .nil => 1
  | .ptr d => uptoBulk d + 1
  | .slice elems spare => uptoBulkAll elems + uptoBulkAll spare + 1
  | .agg parts => uptoBulkAll parts + 1
  | .iface _ d => uptoBulk d + 1
  | .map entries => uptoBulkEntries entries + 1
  | .held _ => 1
def uptoBulkAll {H : Type} : List (DataW H) → Nat
  | [] => 0
  | d :: r => uptoBulk d + uptoBulkAll r
def uptoBulkEntries {H : Type} : List (Lit × DataW H) → Nat
  | [] => 0
  | x :: r => uptoBulkEntry x + uptoBulkEntries r
def uptoBulkEntry {H : Type} : Lit × DataW H → Nat
  | (.string bytes, d) => bytes.length + uptoBulk d + 1
  | (_, d) => uptoBulk d + 1
 end
def uptoSmall : (H : Type) → List (DataW H) → Bool := fun _ ds => decide (uptoBulkAll ds ≤ 1048576)
def OpenSpec.upto (s : _root_.Go.ChangeSpec) : _root_.Go.OpenSpec := { _root_.Go.OpenSpec.ofChange s with cond := some uptoSmall }

/-- 'anabranchlaw16.WaitTells', WHERE WHAT IT READS IS OF BULK AT MOST 1048576: true; the input reads as it did. -/
def waitTellsUptoRow : OpenClaim := { program := "ytcmfemfndadfmaagreat", sum := "1807cc84518dcddcbdc2df434c1d75c74b1b7126338d3b7132aa43838263d17a", func := "anabranch/anabranchlaw16.WaitTells", spec := "waitTells", inPlace := ["internal/bytealg.Compare", "internal/bytealg.IndexByteString", "internal/bytealg.MakeNoZero"], unfollowed := true, recurses := true, plainKeys := false, apart := false, narrowed := true }
def WaitTellsUptoSaid : Prop := waitTellsUptoRow.holds Tryz.pinned (OpenSpec.upto waitTellsSpec)

/-- 'anabranchlaw11.DagTells', WHERE WHAT IT READS IS OF BULK AT MOST 1048576: true; the input reads as it did. -/
def dagTellsUptoRow : OpenClaim := { program := "ytcmfemfndadfmaagreat", sum := "1807cc84518dcddcbdc2df434c1d75c74b1b7126338d3b7132aa43838263d17a", func := "anabranch/anabranchlaw11.DagTells", spec := "dagTells", inPlace := ["internal/bytealg.Compare", "internal/bytealg.IndexByteString", "internal/bytealg.MakeNoZero"], unfollowed := true, recurses := true, plainKeys := false, apart := false, narrowed := true }
def DagTellsUptoSaid : Prop := dagTellsUptoRow.holds Tryz.pinned (OpenSpec.upto dagTellsSpec)

/-- 'anabranchlaw11.DagSorted', WHERE WHAT IT READS IS OF BULK AT MOST 1048576: true; the input reads as it did. -/
def dagSortedUptoRow : OpenClaim := { program := "ytcmfemfndadfmaagreat", sum := "1807cc84518dcddcbdc2df434c1d75c74b1b7126338d3b7132aa43838263d17a", func := "anabranch/anabranchlaw11.DagSorted", spec := "dagSorted", inPlace := ["internal/bytealg.Compare", "internal/bytealg.IndexByteString", "internal/bytealg.MakeNoZero"], unfollowed := true, recurses := true, plainKeys := false, apart := false, narrowed := true }
def DagSortedUptoSaid : Prop := dagSortedUptoRow.holds Tryz.pinned (OpenSpec.upto dagSortedSpec)

/-- 'anabranchlaw11.DagWhole', WHERE WHAT IT READS IS OF BULK AT MOST 1048576: true; the input reads as it did. -/
def dagWholeUptoRow : OpenClaim := { program := "ytcmfemfndadfmaagreat", sum := "1807cc84518dcddcbdc2df434c1d75c74b1b7126338d3b7132aa43838263d17a", func := "anabranch/anabranchlaw11.DagWhole", spec := "dagWhole", inPlace := ["internal/bytealg.Compare", "internal/bytealg.IndexByteString", "internal/bytealg.MakeNoZero"], unfollowed := true, recurses := true, plainKeys := false, apart := false, narrowed := true }
def DagWholeUptoSaid : Prop := dagWholeUptoRow.holds Tryz.pinned (OpenSpec.upto dagWholeSpec)

/-- 'anabranchlaw11.DagKnows', WHERE WHAT IT READS IS OF BULK AT MOST 1048576: true; the input reads as it did. -/
def dagKnowsUptoRow : OpenClaim := { program := "ytcmfemfndadfmaagreat", sum := "1807cc84518dcddcbdc2df434c1d75c74b1b7126338d3b7132aa43838263d17a", func := "anabranch/anabranchlaw11.DagKnows", spec := "dagKnows", inPlace := ["internal/bytealg.Compare", "internal/bytealg.IndexByteString", "internal/bytealg.MakeNoZero"], unfollowed := true, recurses := true, plainKeys := false, apart := false, narrowed := true }
def DagKnowsUptoSaid : Prop := dagKnowsUptoRow.holds Tryz.pinned (OpenSpec.upto dagKnowsSpec)

/-- 'anabranchlaw11.DagAnc', WHERE WHAT IT READS IS OF BULK AT MOST 1048576: true; the input reads as it did. -/
def dagAncUptoRow : OpenClaim := { program := "ytcmfemfndadfmaagreat", sum := "1807cc84518dcddcbdc2df434c1d75c74b1b7126338d3b7132aa43838263d17a", func := "anabranch/anabranchlaw11.DagAnc", spec := "dagAnc", inPlace := ["internal/bytealg.Compare", "internal/bytealg.IndexByteString", "internal/bytealg.MakeNoZero"], unfollowed := true, recurses := true, plainKeys := false, apart := false, narrowed := true }
def DagAncUptoSaid : Prop := dagAncUptoRow.holds Tryz.pinned (OpenSpec.upto dagAncSpec)

/-- 'anabranchlaw11.DagMore', WHERE WHAT IT READS IS OF BULK AT MOST 1048576: true; the input reads as it did. -/
def dagMoreUptoRow : OpenClaim := { program := "ytcmfemfndadfmaagreat", sum := "1807cc84518dcddcbdc2df434c1d75c74b1b7126338d3b7132aa43838263d17a", func := "anabranch/anabranchlaw11.DagMore", spec := "dagMore", inPlace := ["internal/bytealg.Compare", "internal/bytealg.IndexByteString", "internal/bytealg.MakeNoZero"], unfollowed := true, recurses := true, plainKeys := false, apart := false, narrowed := true }
def DagMoreUptoSaid : Prop := dagMoreUptoRow.holds Tryz.pinned (OpenSpec.upto dagMoreSpec)

end Rows
end Go.Proofs.YtcmfemfndadfmaaGreat
