/-
  No cell of these rows narrows 'for every input' (looked for: loops, veiled, ifaces, maps, wideKeys, modest, calm, conditions, laid).
  DERIVED. THE GIVEN ROWS OF THIS SEAT. 8 by the template 'for every input the law returns true; each argument reads behind the call as it read before'; 0 by the template 'total and deterministic' (their statements: YtllddbbldmoibaaGreatTotals.lean).
  GIVEN WITH THE SEED: the statements are not yours to turn. If you find one false, say at which input.
  Laid BY PROGRAM, IN A SANDBOX (cutbox-rows.mjs): the forced cells as the released guide's own fill.sh prints them over the translation 867ca11f631543e1… (all of the seat's roots in one cut). By AI agents, Wed Nov 11 2026. No macro, syntax, notation, axiom, sorry.
-/
import Derived.Test.YtllddbbldmoibaaGreatChecked
import GoSem.Claim
import GoSem.ClaimJoined
import GoSem.ClaimMapViews
import Derived.JoinedTies
import Derived.KernelRfl
namespace Go.Proofs.YtllddbbldmoibaaGreat
/- THE CELL 'sum', in the pinned program and in every row, IS THE sha256 OF THE DUMP (.gsa) THAT YtllddbbldmoibaaGreatProg.lean LOADS. Nothing in Lean hashes anything: it is a label: what it is worth is what the hold of that sum in a sandbox is worth. -/
noncomputable def Tryz.pinned : Pinned := { name := "ytllddbbldmoibaagreat", sum := "867ca11f631543e1f8511061a3549238cf3cd4489359ceb831efa59720bc5724", checked := Tryz.checked }
namespace Rows
def none {H : Type} : Left H := { results := [], args := [] }

/-- 'anabranchlaw13.EvalNext': WHATEVER THE INPUT: true; the input reads as it did. -/
def evalNextSpec : ChangeSpec := { name := "evalNext", fn := fun _ => fun
  | [d1, d2, d3] => { results := [.lit (.bool true)], args := [d1, d2, d3] }
  | _ => none }
def evalNextRow : OpenClaim := { program := "ytllddbbldmoibaagreat", sum := "867ca11f631543e1f8511061a3549238cf3cd4489359ceb831efa59720bc5724", func := "anabranch/anabranchlaw13.EvalNext", spec := "evalNext", inPlace := ["internal/bytealg.Compare", "internal/bytealg.IndexByteString", "internal/bytealg.MakeNoZero", "slices.overlaps[anabranch/api.Reg]"], unfollowed := true, recurses := true, plainKeys := false, apart := false }
def EvalNextSaid : Prop := evalNextRow.holds Tryz.pinned (OpenSpec.ofChange evalNextSpec)

/-- ITS FALSE NEIGHBOUR: 'it returns false'. Refute it at one input. -/
def evalNextWrong : ChangeSpec := { name := "evalNext", fn := fun _ => fun
  | [d1, d2, d3] => { results := [.lit (.bool false)], args := [d1, d2, d3] }
  | _ => none }
def EvalNextWrongFalsely : Prop := evalNextRow.holds Tryz.pinned (OpenSpec.ofChange evalNextWrong)

/-- 'anabranchlaw13.EvalOrder': WHATEVER THE INPUT: true; the input reads as it did. -/
def evalOrderSpec : ChangeSpec := { name := "evalOrder", fn := fun _ => fun
  | [d1, d2] => { results := [.lit (.bool true)], args := [d1, d2] }
  | _ => none }
def evalOrderRow : OpenClaim := { program := "ytllddbbldmoibaagreat", sum := "867ca11f631543e1f8511061a3549238cf3cd4489359ceb831efa59720bc5724", func := "anabranch/anabranchlaw13.EvalOrder", spec := "evalOrder", inPlace := ["internal/bytealg.Compare", "internal/bytealg.IndexByteString", "internal/bytealg.MakeNoZero", "slices.overlaps[anabranch/api.Reg]"], unfollowed := true, recurses := true, plainKeys := false, apart := false }
def EvalOrderSaid : Prop := evalOrderRow.holds Tryz.pinned (OpenSpec.ofChange evalOrderSpec)

/-- ITS FALSE NEIGHBOUR: 'it returns false'. Refute it at one input. -/
def evalOrderWrong : ChangeSpec := { name := "evalOrder", fn := fun _ => fun
  | [d1, d2] => { results := [.lit (.bool false)], args := [d1, d2] }
  | _ => none }
def EvalOrderWrongFalsely : Prop := evalOrderRow.holds Tryz.pinned (OpenSpec.ofChange evalOrderWrong)

/-- 'anabranchlaw17.BranchTakes': WHATEVER THE INPUT: true; the input reads as it did. -/
def branchTakesSpec : ChangeSpec := { name := "branchTakes", fn := fun _ => fun
  | [d1, d2] => { results := [.lit (.bool true)], args := [d1, d2] }
  | _ => none }
def branchTakesRow : OpenClaim := { program := "ytllddbbldmoibaagreat", sum := "867ca11f631543e1f8511061a3549238cf3cd4489359ceb831efa59720bc5724", func := "anabranch/anabranchlaw17.BranchTakes", spec := "branchTakes", inPlace := ["internal/bytealg.IndexByteString", "internal/bytealg.Compare", "internal/bytealg.MakeNoZero", "slices.overlaps[anabranch/api.Reg]"], unfollowed := true, recurses := true, plainKeys := false, apart := false }
def BranchTakesSaid : Prop := branchTakesRow.holds Tryz.pinned (OpenSpec.ofChange branchTakesSpec)

/-- ITS FALSE NEIGHBOUR: 'it returns false'. Refute it at one input. -/
def branchTakesWrong : ChangeSpec := { name := "branchTakes", fn := fun _ => fun
  | [d1, d2] => { results := [.lit (.bool false)], args := [d1, d2] }
  | _ => none }
def BranchTakesWrongFalsely : Prop := branchTakesRow.holds Tryz.pinned (OpenSpec.ofChange branchTakesWrong)

/-- 'anabranchlaw17.BranchDurable': WHATEVER THE INPUT: true; the input reads as it did. -/
def branchDurableSpec : ChangeSpec := { name := "branchDurable", fn := fun _ => fun
  | [d1, d2, d3] => { results := [.lit (.bool true)], args := [d1, d2, d3] }
  | _ => none }
def branchDurableRow : OpenClaim := { program := "ytllddbbldmoibaagreat", sum := "867ca11f631543e1f8511061a3549238cf3cd4489359ceb831efa59720bc5724", func := "anabranch/anabranchlaw17.BranchDurable", spec := "branchDurable", inPlace := ["internal/bytealg.IndexByteString", "internal/bytealg.Compare", "internal/bytealg.MakeNoZero", "slices.overlaps[anabranch/api.Reg]"], unfollowed := true, recurses := true, plainKeys := false, apart := false }
def BranchDurableSaid : Prop := branchDurableRow.holds Tryz.pinned (OpenSpec.ofChange branchDurableSpec)

/-- ITS FALSE NEIGHBOUR: 'it returns false'. Refute it at one input. -/
def branchDurableWrong : ChangeSpec := { name := "branchDurable", fn := fun _ => fun
  | [d1, d2, d3] => { results := [.lit (.bool false)], args := [d1, d2, d3] }
  | _ => none }
def BranchDurableWrongFalsely : Prop := branchDurableRow.holds Tryz.pinned (OpenSpec.ofChange branchDurableWrong)

/-- 'anabranchlaw17.BranchDown': WHATEVER THE INPUT: true; the input reads as it did. -/
def branchDownSpec : ChangeSpec := { name := "branchDown", fn := fun _ => fun
  | [d1, d2, d3] => { results := [.lit (.bool true)], args := [d1, d2, d3] }
  | _ => none }
def branchDownRow : OpenClaim := { program := "ytllddbbldmoibaagreat", sum := "867ca11f631543e1f8511061a3549238cf3cd4489359ceb831efa59720bc5724", func := "anabranch/anabranchlaw17.BranchDown", spec := "branchDown", inPlace := ["internal/bytealg.IndexByteString", "internal/bytealg.Compare", "internal/bytealg.MakeNoZero", "slices.overlaps[anabranch/api.Reg]"], unfollowed := true, recurses := true, plainKeys := false, apart := false }
def BranchDownSaid : Prop := branchDownRow.holds Tryz.pinned (OpenSpec.ofChange branchDownSpec)

/-- ITS FALSE NEIGHBOUR: 'it returns false'. Refute it at one input. -/
def branchDownWrong : ChangeSpec := { name := "branchDown", fn := fun _ => fun
  | [d1, d2, d3] => { results := [.lit (.bool false)], args := [d1, d2, d3] }
  | _ => none }
def BranchDownWrongFalsely : Prop := branchDownRow.holds Tryz.pinned (OpenSpec.ofChange branchDownWrong)

/-- 'anabranchlaw17.BranchFull': WHATEVER THE INPUT: true; the input reads as it did. -/
def branchFullSpec : ChangeSpec := { name := "branchFull", fn := fun _ => fun
  | [d1, d2, d3] => { results := [.lit (.bool true)], args := [d1, d2, d3] }
  | _ => none }
def branchFullRow : OpenClaim := { program := "ytllddbbldmoibaagreat", sum := "867ca11f631543e1f8511061a3549238cf3cd4489359ceb831efa59720bc5724", func := "anabranch/anabranchlaw17.BranchFull", spec := "branchFull", inPlace := ["internal/bytealg.IndexByteString", "internal/bytealg.Compare", "internal/bytealg.MakeNoZero", "slices.overlaps[anabranch/api.Reg]"], unfollowed := true, recurses := true, plainKeys := false, apart := false }
def BranchFullSaid : Prop := branchFullRow.holds Tryz.pinned (OpenSpec.ofChange branchFullSpec)

/-- ITS FALSE NEIGHBOUR: 'it returns false'. Refute it at one input. -/
def branchFullWrong : ChangeSpec := { name := "branchFull", fn := fun _ => fun
  | [d1, d2, d3] => { results := [.lit (.bool false)], args := [d1, d2, d3] }
  | _ => none }
def BranchFullWrongFalsely : Prop := branchFullRow.holds Tryz.pinned (OpenSpec.ofChange branchFullWrong)

/-- 'anabranchlaw17.BranchFresh': WHATEVER THE INPUT: true; the input reads as it did. -/
def branchFreshSpec : ChangeSpec := { name := "branchFresh", fn := fun _ => fun
  | [d1, d2] => { results := [.lit (.bool true)], args := [d1, d2] }
  | _ => none }
def branchFreshRow : OpenClaim := { program := "ytllddbbldmoibaagreat", sum := "867ca11f631543e1f8511061a3549238cf3cd4489359ceb831efa59720bc5724", func := "anabranch/anabranchlaw17.BranchFresh", spec := "branchFresh", inPlace := ["internal/bytealg.IndexByteString", "internal/bytealg.Compare", "internal/bytealg.MakeNoZero", "slices.overlaps[anabranch/api.Reg]"], unfollowed := true, recurses := true, plainKeys := false, apart := false }
def BranchFreshSaid : Prop := branchFreshRow.holds Tryz.pinned (OpenSpec.ofChange branchFreshSpec)

/-- ITS FALSE NEIGHBOUR: 'it returns false'. Refute it at one input. -/
def branchFreshWrong : ChangeSpec := { name := "branchFresh", fn := fun _ => fun
  | [d1, d2] => { results := [.lit (.bool false)], args := [d1, d2] }
  | _ => none }
def BranchFreshWrongFalsely : Prop := branchFreshRow.holds Tryz.pinned (OpenSpec.ofChange branchFreshWrong)

/-- 'anabranchlaw17.BranchOrder': WHATEVER THE INPUT: true; the input reads as it did. -/
def branchOrderSpec : ChangeSpec := { name := "branchOrder", fn := fun _ => fun
  | [d1, d2] => { results := [.lit (.bool true)], args := [d1, d2] }
  | _ => none }
def branchOrderRow : OpenClaim := { program := "ytllddbbldmoibaagreat", sum := "867ca11f631543e1f8511061a3549238cf3cd4489359ceb831efa59720bc5724", func := "anabranch/anabranchlaw17.BranchOrder", spec := "branchOrder", inPlace := ["internal/bytealg.IndexByteString", "internal/bytealg.Compare", "internal/bytealg.MakeNoZero", "slices.overlaps[anabranch/api.Reg]"], unfollowed := true, recurses := true, plainKeys := false, apart := false }
def BranchOrderSaid : Prop := branchOrderRow.holds Tryz.pinned (OpenSpec.ofChange branchOrderSpec)

/-- ITS FALSE NEIGHBOUR: 'it returns false'. Refute it at one input. -/
def branchOrderWrong : ChangeSpec := { name := "branchOrder", fn := fun _ => fun
  | [d1, d2] => { results := [.lit (.bool false)], args := [d1, d2] }
  | _ => none }
def BranchOrderWrongFalsely : Prop := branchOrderRow.holds Tryz.pinned (OpenSpec.ofChange branchOrderWrong)

/- THE SECOND FORM. 'bulk': how many values and letters a reading holds, each counted each time it is reached (what is shared counts as often as it is met; a slice's spare places count too). A statement '..UptoSaid' is the law's where the arguments, and the package variables that the reading takes, are together of bulk at most 1048576: NARROWER than '..Said'. Prove '..Said' where nothing that the law and all that it calls make is longer than what came in: it says more and counts as full. Else prove '..UptoSaid'. A law counts once. -/
mutual
def uptoBulk {H : Type} : DataW H → Nat
  | .lit (.string bytes) => bytes.length + 1
  | .lit _ => 1
  | .nil => 1
  | .ptr d => uptoBulk d + 1
  | .slice elems spare => uptoBulkAll elems + uptoBulkAll spare + 1
  | .agg parts => uptoBulkAll parts + 1
  | .iface _ d => uptoBulk d + 1
  | .map entries => uptoBulkEntries entries + 1
  | .held _ => 1
def uptoBulkAll {H : Type} : List (DataW H) → Nat
  | [] => 0
  | d :: r => uptoBulk d + uptoBulkAll r
def uptoBulkEntries {H : Type} : List (Lit × DataW H) → Nat
  | [] => 0
  | x :: r => uptoBulkEntry x + uptoBulkEntries r
def uptoBulkEntry {H : Type} : Lit × DataW H → Nat
  | (.string bytes, d) => bytes.length + uptoBulk d + 1
  | (_, d) => uptoBulk d + 1
 end
def uptoSmall : (H : Type) → List (DataW H) → Bool := fun _ ds => decide (uptoBulkAll ds ≤ 1048576)
def OpenSpec.upto (s : _root_.Go.ChangeSpec) : _root_.Go.OpenSpec := { _root_.Go.OpenSpec.ofChange s with cond := some uptoSmall }

/-- 'anabranchlaw13.EvalNext', WHERE WHAT IT READS IS OF BULK AT MOST 1048576: true; the input reads as it did. -/
def evalNextUptoRow : OpenClaim := { program := "ytllddbbldmoibaagreat", sum := "867ca11f631543e1f8511061a3549238cf3cd4489359ceb831efa59720bc5724", func := "anabranch/anabranchlaw13.EvalNext", spec := "evalNext", inPlace := ["internal/bytealg.Compare", "internal/bytealg.IndexByteString", "internal/bytealg.MakeNoZero", "slices.overlaps[anabranch/api.Reg]"], unfollowed := true, recurses := true, plainKeys := false, apart := false, narrowed := true }
def EvalNextUptoSaid : Prop := evalNextUptoRow.holds Tryz.pinned (OpenSpec.upto evalNextSpec)

/-- 'anabranchlaw13.EvalOrder', WHERE WHAT IT READS IS OF BULK AT MOST 1048576: true; the input reads as it did. -/
def evalOrderUptoRow : OpenClaim := { program := "ytllddbbldmoibaagreat", sum := "867ca11f631543e1f8511061a3549238cf3cd4489359ceb831efa59720bc5724", func := "anabranch/anabranchlaw13.EvalOrder", spec := "evalOrder", inPlace := ["internal/bytealg.Compare", "internal/bytealg.IndexByteString", "internal/bytealg.MakeNoZero", "slices.overlaps[anabranch/api.Reg]"], unfollowed := true, recurses := true, plainKeys := false, apart := false, narrowed := true }
def EvalOrderUptoSaid : Prop := evalOrderUptoRow.holds Tryz.pinned (OpenSpec.upto evalOrderSpec)

/-- 'anabranchlaw17.BranchTakes', WHERE WHAT IT READS IS OF BULK AT MOST 1048576: true; the input reads as it did. -/
def branchTakesUptoRow : OpenClaim := { program := "ytllddbbldmoibaagreat", sum := "867ca11f631543e1f8511061a3549238cf3cd4489359ceb831efa59720bc5724", func := "anabranch/anabranchlaw17.BranchTakes", spec := "branchTakes", inPlace := ["internal/bytealg.IndexByteString", "internal/bytealg.Compare", "internal/bytealg.MakeNoZero", "slices.overlaps[anabranch/api.Reg]"], unfollowed := true, recurses := true, plainKeys := false, apart := false, narrowed := true }
def BranchTakesUptoSaid : Prop := branchTakesUptoRow.holds Tryz.pinned (OpenSpec.upto branchTakesSpec)

/-- 'anabranchlaw17.BranchDurable', WHERE WHAT IT READS IS OF BULK AT MOST 1048576: true; the input reads as it did. -/
def branchDurableUptoRow : OpenClaim := { program := "ytllddbbldmoibaagreat", sum := "867ca11f631543e1f8511061a3549238cf3cd4489359ceb831efa59720bc5724", func := "anabranch/anabranchlaw17.BranchDurable", spec := "branchDurable", inPlace := ["internal/bytealg.IndexByteString", "internal/bytealg.Compare", "internal/bytealg.MakeNoZero", "slices.overlaps[anabranch/api.Reg]"], unfollowed := true, recurses := true, plainKeys := false, apart := false, narrowed := true }
def BranchDurableUptoSaid : Prop := branchDurableUptoRow.holds Tryz.pinned (OpenSpec.upto branchDurableSpec)

/-- 'anabranchlaw17.BranchDown', WHERE WHAT IT READS IS OF BULK AT MOST 1048576: true; the input reads as it did. -/
def branchDownUptoRow : OpenClaim := { program := "ytllddbbldmoibaagreat", sum := "867ca11f631543e1f8511061a3549238cf3cd4489359ceb831efa59720bc5724", func := "anabranch/anabranchlaw17.BranchDown", spec := "branchDown", inPlace := ["internal/bytealg.IndexByteString", "internal/bytealg.Compare", "internal/bytealg.MakeNoZero", "slices.overlaps[anabranch/api.Reg]"], unfollowed := true, recurses := true, plainKeys := false, apart := false, narrowed := true }
def BranchDownUptoSaid : Prop := branchDownUptoRow.holds Tryz.pinned (OpenSpec.upto branchDownSpec)

/-- 'anabranchlaw17.BranchFull', WHERE WHAT IT READS IS OF BULK AT MOST 1048576: true; the input reads as it did. -/
def branchFullUptoRow : OpenClaim := { program := "ytllddbbldmoibaagreat", sum := "867ca11f631543e1f8511061a3549238cf3cd4489359ceb831efa59720bc5724", func := "anabranch/anabranchlaw17.BranchFull", spec := "branchFull", inPlace := ["internal/bytealg.IndexByteString", "internal/bytealg.Compare", "internal/bytealg.MakeNoZero", "slices.overlaps[anabranch/api.Reg]"], unfollowed := true, recurses := true, plainKeys := false, apart := false, narrowed := true }
def BranchFullUptoSaid : Prop := branchFullUptoRow.holds Tryz.pinned (OpenSpec.upto branchFullSpec)

/-- 'anabranchlaw17.BranchFresh', WHERE WHAT IT READS IS OF BULK AT MOST 1048576: true; the input reads as it did. -/
def branchFreshUptoRow : OpenClaim := { program := "ytllddbbldmoibaagreat", sum := "867ca11f631543e1f8511061a3549238cf3cd4489359ceb831efa59720bc5724", func := "anabranch/anabranchlaw17.BranchFresh", spec := "branchFresh", inPlace := ["internal/bytealg.IndexByteString", "internal/bytealg.Compare", "internal/bytealg.MakeNoZero", "slices.overlaps[anabranch/api.Reg]"], unfollowed := true, recurses := true, plainKeys := false, apart := false, narrowed := true }
def BranchFreshUptoSaid : Prop := branchFreshUptoRow.holds Tryz.pinned (OpenSpec.upto branchFreshSpec)

/-- 'anabranchlaw17.BranchOrder', WHERE WHAT IT READS IS OF BULK AT MOST 1048576: true; the input reads as it did. -/
def branchOrderUptoRow : OpenClaim := { program := "ytllddbbldmoibaagreat", sum := "867ca11f631543e1f8511061a3549238cf3cd4489359ceb831efa59720bc5724", func := "anabranch/anabranchlaw17.BranchOrder", spec := "branchOrder", inPlace := ["internal/bytealg.IndexByteString", "internal/bytealg.Compare", "internal/bytealg.MakeNoZero", "slices.overlaps[anabranch/api.Reg]"], unfollowed := true, recurses := true, plainKeys := false, apart := false, narrowed := true }
def BranchOrderUptoSaid : Prop := branchOrderUptoRow.holds Tryz.pinned (OpenSpec.upto branchOrderSpec)

end Rows
end Go.Proofs.YtllddbbldmoibaaGreat
