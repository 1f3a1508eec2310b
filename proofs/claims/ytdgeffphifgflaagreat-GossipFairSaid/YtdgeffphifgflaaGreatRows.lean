/-
  No cell of these rows narrows 'for every input' (looked for: loops, veiled, ifaces, maps, wideKeys, modest, calm, conditions, laid).
  DERIVED. THE GIVEN ROWS OF THIS SEAT. 10 by the template 'for every input the law returns true; each argument reads behind the call as it read before'; 0 by the template 'total and deterministic' (their statements: YtdgeffphifgflaaGreatTotals.lean).
  GIVEN WITH THE SEED: the statements are not yours to turn. If you find one false, say at which input.
  Laid BY PROGRAM, IN A SANDBOX (cutbox-rows.mjs): the forced cells as the released guide's own fill.sh prints them over the translation 12307b6fe2f90204… (all of the seat's roots in one cut). By AI agents, Wed Nov 11 2026. No macro, syntax, notation, axiom, sorry.
-/
import Derived.Test.YtdgeffphifgflaaGreatChecked
import GoSem.Claim
import GoSem.ClaimJoined
import GoSem.ClaimMapViews
import Derived.JoinedTies
import Derived.KernelRfl
namespace Go.Proofs.YtdgeffphifgflaaGreat
/- THE CELL 'sum', in the pinned program and in every row, IS THE sha256 OF THE DUMP (.gsa) THAT YtdgeffphifgflaaGreatProg.lean LOADS. Nothing in Lean hashes anything: it is a label: what it is worth is what the hold of that sum in a sandbox is worth. -/
noncomputable def Tryz.pinned : Pinned := { name := "ytdgeffphifgflaagreat", sum := "12307b6fe2f90204515b867420d00df5c47e3e051f03fdeb27471e4105848095", checked := Tryz.checked }
namespace Rows
def none {H : Type} : Left H := { results := [], args := [] }

/-- 'anabranchlaw15.StoreTells': WHATEVER THE INPUT: true; the input reads as it did. -/
def storeTellsSpec : ChangeSpec := { name := "storeTells", fn := fun _ => fun
  | [d1, d2, d3, d4] => { results := [.lit (.bool true)], args := [d1, d2, d3, d4] }
  | _ => none }
def storeTellsRow : OpenClaim := { program := "ytdgeffphifgflaagreat", sum := "12307b6fe2f90204515b867420d00df5c47e3e051f03fdeb27471e4105848095", func := "anabranch/anabranchlaw15.StoreTells", spec := "storeTells", inPlace := ["internal/bytealg.Compare", "internal/bytealg.IndexByteString", "internal/bytealg.MakeNoZero"], unfollowed := true, recurses := true, plainKeys := false, apart := false }
def StoreTellsSaid : Prop := storeTellsRow.holds Tryz.pinned (OpenSpec.ofChange storeTellsSpec)

/-- ITS FALSE NEIGHBOUR: 'it returns false'. Refute it at one input. -/
def storeTellsWrong : ChangeSpec := { name := "storeTells", fn := fun _ => fun
  | [d1, d2, d3, d4] => { results := [.lit (.bool false)], args := [d1, d2, d3, d4] }
  | _ => none }
def StoreTellsWrongFalsely : Prop := storeTellsRow.holds Tryz.pinned (OpenSpec.ofChange storeTellsWrong)

/-- 'anabranchlaw15.StoreSpoilt': WHATEVER THE INPUT: true; the input reads as it did. -/
def storeSpoiltSpec : ChangeSpec := { name := "storeSpoilt", fn := fun _ => fun
  | [d1, d2, d3] => { results := [.lit (.bool true)], args := [d1, d2, d3] }
  | _ => none }
def storeSpoiltRow : OpenClaim := { program := "ytdgeffphifgflaagreat", sum := "12307b6fe2f90204515b867420d00df5c47e3e051f03fdeb27471e4105848095", func := "anabranch/anabranchlaw15.StoreSpoilt", spec := "storeSpoilt", inPlace := ["internal/bytealg.Compare", "internal/bytealg.IndexByteString", "internal/bytealg.MakeNoZero"], unfollowed := true, recurses := true, plainKeys := false, apart := false }
def StoreSpoiltSaid : Prop := storeSpoiltRow.holds Tryz.pinned (OpenSpec.ofChange storeSpoiltSpec)

/-- ITS FALSE NEIGHBOUR: 'it returns false'. Refute it at one input. -/
def storeSpoiltWrong : ChangeSpec := { name := "storeSpoilt", fn := fun _ => fun
  | [d1, d2, d3] => { results := [.lit (.bool false)], args := [d1, d2, d3] }
  | _ => none }
def StoreSpoiltWrongFalsely : Prop := storeSpoiltRow.holds Tryz.pinned (OpenSpec.ofChange storeSpoiltWrong)

/-- 'anabranchlaw20.GossipHears': WHATEVER THE INPUT: true; the input reads as it did. -/
def gossipHearsSpec : ChangeSpec := { name := "gossipHears", fn := fun _ => fun
  | [d1, d2] => { results := [.lit (.bool true)], args := [d1, d2] }
  | _ => none }
def gossipHearsRow : OpenClaim := { program := "ytdgeffphifgflaagreat", sum := "12307b6fe2f90204515b867420d00df5c47e3e051f03fdeb27471e4105848095", func := "anabranch/anabranchlaw20.GossipHears", spec := "gossipHears", inPlace := ["internal/bytealg.IndexByteString", "internal/bytealg.Compare", "internal/bytealg.MakeNoZero"], unfollowed := true, recurses := true, plainKeys := false, apart := false }
def GossipHearsSaid : Prop := gossipHearsRow.holds Tryz.pinned (OpenSpec.ofChange gossipHearsSpec)

/-- ITS FALSE NEIGHBOUR: 'it returns false'. Refute it at one input. -/
def gossipHearsWrong : ChangeSpec := { name := "gossipHears", fn := fun _ => fun
  | [d1, d2] => { results := [.lit (.bool false)], args := [d1, d2] }
  | _ => none }
def GossipHearsWrongFalsely : Prop := gossipHearsRow.holds Tryz.pinned (OpenSpec.ofChange gossipHearsWrong)

/-- 'anabranchlaw20.GossipTicks': WHATEVER THE INPUT: true; the input reads as it did. -/
def gossipTicksSpec : ChangeSpec := { name := "gossipTicks", fn := fun _ => fun
  | [d1, d2, d3] => { results := [.lit (.bool true)], args := [d1, d2, d3] }
  | _ => none }
def gossipTicksRow : OpenClaim := { program := "ytdgeffphifgflaagreat", sum := "12307b6fe2f90204515b867420d00df5c47e3e051f03fdeb27471e4105848095", func := "anabranch/anabranchlaw20.GossipTicks", spec := "gossipTicks", inPlace := ["internal/bytealg.IndexByteString", "internal/bytealg.Compare", "internal/bytealg.MakeNoZero"], unfollowed := true, recurses := true, plainKeys := false, apart := false }
def GossipTicksSaid : Prop := gossipTicksRow.holds Tryz.pinned (OpenSpec.ofChange gossipTicksSpec)

/-- ITS FALSE NEIGHBOUR: 'it returns false'. Refute it at one input. -/
def gossipTicksWrong : ChangeSpec := { name := "gossipTicks", fn := fun _ => fun
  | [d1, d2, d3] => { results := [.lit (.bool false)], args := [d1, d2, d3] }
  | _ => none }
def GossipTicksWrongFalsely : Prop := gossipTicksRow.holds Tryz.pinned (OpenSpec.ofChange gossipTicksWrong)

/-- 'anabranchlaw20.GossipMay': WHATEVER THE INPUT: true; the input reads as it did. -/
def gossipMaySpec : ChangeSpec := { name := "gossipMay", fn := fun _ => fun
  | [d1, d2] => { results := [.lit (.bool true)], args := [d1, d2] }
  | _ => none }
def gossipMayRow : OpenClaim := { program := "ytdgeffphifgflaagreat", sum := "12307b6fe2f90204515b867420d00df5c47e3e051f03fdeb27471e4105848095", func := "anabranch/anabranchlaw20.GossipMay", spec := "gossipMay", inPlace := ["internal/bytealg.IndexByteString", "internal/bytealg.Compare", "internal/bytealg.MakeNoZero"], unfollowed := true, recurses := true, plainKeys := false, apart := false }
def GossipMaySaid : Prop := gossipMayRow.holds Tryz.pinned (OpenSpec.ofChange gossipMaySpec)

/-- ITS FALSE NEIGHBOUR: 'it returns false'. Refute it at one input. -/
def gossipMayWrong : ChangeSpec := { name := "gossipMay", fn := fun _ => fun
  | [d1, d2] => { results := [.lit (.bool false)], args := [d1, d2] }
  | _ => none }
def GossipMayWrongFalsely : Prop := gossipMayRow.holds Tryz.pinned (OpenSpec.ofChange gossipMayWrong)

/-- 'anabranchlaw20.GossipWaits': WHATEVER THE INPUT: true; the input reads as it did. -/
def gossipWaitsSpec : ChangeSpec := { name := "gossipWaits", fn := fun _ => fun
  | [d1, d2, d3] => { results := [.lit (.bool true)], args := [d1, d2, d3] }
  | _ => none }
def gossipWaitsRow : OpenClaim := { program := "ytdgeffphifgflaagreat", sum := "12307b6fe2f90204515b867420d00df5c47e3e051f03fdeb27471e4105848095", func := "anabranch/anabranchlaw20.GossipWaits", spec := "gossipWaits", inPlace := ["internal/bytealg.IndexByteString", "internal/bytealg.Compare", "internal/bytealg.MakeNoZero"], unfollowed := true, recurses := true, plainKeys := false, apart := false }
def GossipWaitsSaid : Prop := gossipWaitsRow.holds Tryz.pinned (OpenSpec.ofChange gossipWaitsSpec)

/-- ITS FALSE NEIGHBOUR: 'it returns false'. Refute it at one input. -/
def gossipWaitsWrong : ChangeSpec := { name := "gossipWaits", fn := fun _ => fun
  | [d1, d2, d3] => { results := [.lit (.bool false)], args := [d1, d2, d3] }
  | _ => none }
def GossipWaitsWrongFalsely : Prop := gossipWaitsRow.holds Tryz.pinned (OpenSpec.ofChange gossipWaitsWrong)

/-- 'anabranchlaw20.GossipSelf': WHATEVER THE INPUT: true; the input reads as it did. -/
def gossipSelfSpec : ChangeSpec := { name := "gossipSelf", fn := fun _ => fun
  | [d] => { results := [.lit (.bool true)], args := [d] }
  | _ => none }
def gossipSelfRow : OpenClaim := { program := "ytdgeffphifgflaagreat", sum := "12307b6fe2f90204515b867420d00df5c47e3e051f03fdeb27471e4105848095", func := "anabranch/anabranchlaw20.GossipSelf", spec := "gossipSelf", inPlace := ["internal/bytealg.IndexByteString", "internal/bytealg.Compare", "internal/bytealg.MakeNoZero"], unfollowed := true, recurses := true, plainKeys := false, apart := false }
def GossipSelfSaid : Prop := gossipSelfRow.holds Tryz.pinned (OpenSpec.ofChange gossipSelfSpec)

/-- ITS FALSE NEIGHBOUR: 'it returns false'. Refute it at one input. -/
def gossipSelfWrong : ChangeSpec := { name := "gossipSelf", fn := fun _ => fun
  | [d] => { results := [.lit (.bool false)], args := [d] }
  | _ => none }
def GossipSelfWrongFalsely : Prop := gossipSelfRow.holds Tryz.pinned (OpenSpec.ofChange gossipSelfWrong)

/-- 'anabranchlaw20.GossipGives': WHATEVER THE INPUT: true; the input reads as it did. -/
def gossipGivesSpec : ChangeSpec := { name := "gossipGives", fn := fun _ => fun
  | [d1, d2] => { results := [.lit (.bool true)], args := [d1, d2] }
  | _ => none }
def gossipGivesRow : OpenClaim := { program := "ytdgeffphifgflaagreat", sum := "12307b6fe2f90204515b867420d00df5c47e3e051f03fdeb27471e4105848095", func := "anabranch/anabranchlaw20.GossipGives", spec := "gossipGives", inPlace := ["internal/bytealg.IndexByteString", "internal/bytealg.Compare", "internal/bytealg.MakeNoZero"], unfollowed := true, recurses := true, plainKeys := false, apart := false }
def GossipGivesSaid : Prop := gossipGivesRow.holds Tryz.pinned (OpenSpec.ofChange gossipGivesSpec)

/-- ITS FALSE NEIGHBOUR: 'it returns false'. Refute it at one input. -/
def gossipGivesWrong : ChangeSpec := { name := "gossipGives", fn := fun _ => fun
  | [d1, d2] => { results := [.lit (.bool false)], args := [d1, d2] }
  | _ => none }
def GossipGivesWrongFalsely : Prop := gossipGivesRow.holds Tryz.pinned (OpenSpec.ofChange gossipGivesWrong)

/-- 'anabranchlaw20.GossipFair': WHATEVER THE INPUT: true; the input reads as it did. -/
def gossipFairSpec : ChangeSpec := { name := "gossipFair", fn := fun _ => fun
  | [d1, d2, d3] => { results := [.lit (.bool true)], args := [d1, d2, d3] }
  | _ => none }
def gossipFairRow : OpenClaim := { program := "ytdgeffphifgflaagreat", sum := "12307b6fe2f90204515b867420d00df5c47e3e051f03fdeb27471e4105848095", func := "anabranch/anabranchlaw20.GossipFair", spec := "gossipFair", inPlace := ["internal/bytealg.IndexByteString", "internal/bytealg.Compare", "internal/bytealg.MakeNoZero"], unfollowed := true, recurses := true, plainKeys := false, apart := false }
def GossipFairSaid : Prop := gossipFairRow.holds Tryz.pinned (OpenSpec.ofChange gossipFairSpec)

/-- ITS FALSE NEIGHBOUR: 'it returns false'. Refute it at one input. -/
def gossipFairWrong : ChangeSpec := { name := "gossipFair", fn := fun _ => fun
  | [d1, d2, d3] => { results := [.lit (.bool false)], args := [d1, d2, d3] }
  | _ => none }
def GossipFairWrongFalsely : Prop := gossipFairRow.holds Tryz.pinned (OpenSpec.ofChange gossipFairWrong)

/-- 'anabranchlaw20.GossipAsked': WHATEVER THE INPUT: true; the input reads as it did. -/
def gossipAskedSpec : ChangeSpec := { name := "gossipAsked", fn := fun _ => fun
  | [d1, d2] => { results := [.lit (.bool true)], args := [d1, d2] }
  | _ => none }
def gossipAskedRow : OpenClaim := { program := "ytdgeffphifgflaagreat", sum := "12307b6fe2f90204515b867420d00df5c47e3e051f03fdeb27471e4105848095", func := "anabranch/anabranchlaw20.GossipAsked", spec := "gossipAsked", inPlace := ["internal/bytealg.IndexByteString", "internal/bytealg.Compare", "internal/bytealg.MakeNoZero"], unfollowed := true, recurses := true, plainKeys := false, apart := false }
def GossipAskedSaid : Prop := gossipAskedRow.holds Tryz.pinned (OpenSpec.ofChange gossipAskedSpec)

/-- ITS FALSE NEIGHBOUR: 'it returns false'. Refute it at one input. -/
def gossipAskedWrong : ChangeSpec := { name := "gossipAsked", fn := fun _ => fun
  | [d1, d2] => { results := [.lit (.bool false)], args := [d1, d2] }
  | _ => none }
def GossipAskedWrongFalsely : Prop := gossipAskedRow.holds Tryz.pinned (OpenSpec.ofChange gossipAskedWrong)

/- THE SECOND FORM. 'bulk': how many values and letters a reading holds, each counted each time it is reached (what is shared counts as often as it is met; a slice's spare places count too). A statement '..UptoSaid' is the law's where the arguments, and the package variables that the reading takes, are together of bulk at most 1048576: NARROWER than '..Said'. Prove '..Said' where nothing that the law and all that it calls make is longer than what came in: it says more and counts as full. Else prove '..UptoSaid'. A law counts once. -/
mutual
def uptoBulk {H : Type} : DataW H → Nat
  | .lit (.string bytes) => bytes.length + 1
  | .lit _ => 1
  | .nil => 1
  | .ptr d => uptoBulk d + 1
  | .slice elems spare => uptoBulkAll elems + uptoBulkAll spare + 1
  | .agg parts => uptoBulkAll parts + 1
  | .iface _ d => uptoBulk d + 1
  | .map entries => uptoBulkEntries entries + 1
  | .held _ => 1
def uptoBulkAll {H : Type} : List (DataW H) → Nat
  | [] => 0
  | d :: r => uptoBulk d + uptoBulkAll r
def uptoBulkEntries {H : Type} : List (Lit × DataW H) → Nat
  | [] => 0
  | x :: r => uptoBulkEntry x + uptoBulkEntries r
def uptoBulkEntry {H : Type} : Lit × DataW H → Nat
  | (.string bytes, d) => bytes.length + uptoBulk d + 1
  | (_, d) => uptoBulk d + 1
 end
def uptoSmall : (H : Type) → List (DataW H) → Bool := fun _ ds => decide (uptoBulkAll ds ≤ 1048576)
def OpenSpec.upto (s : _root_.Go.ChangeSpec) : _root_.Go.OpenSpec := { _root_.Go.OpenSpec.ofChange s with cond := some uptoSmall }

/-- 'anabranchlaw15.StoreTells', WHERE WHAT IT READS IS OF BULK AT MOST 1048576: true; the input reads as it did. -/
def storeTellsUptoRow : OpenClaim := { program := "ytdgeffphifgflaagreat", sum := "12307b6fe2f90204515b867420d00df5c47e3e051f03fdeb27471e4105848095", func := "anabranch/anabranchlaw15.StoreTells", spec := "storeTells", inPlace := ["internal/bytealg.Compare", "internal/bytealg.IndexByteString", "internal/bytealg.MakeNoZero"], unfollowed := true, recurses := true, plainKeys := false, apart := false, narrowed := true }
def StoreTellsUptoSaid : Prop := storeTellsUptoRow.holds Tryz.pinned (OpenSpec.upto storeTellsSpec)

/-- 'anabranchlaw15.StoreSpoilt', WHERE WHAT IT READS IS OF BULK AT MOST 1048576: true; the input reads as it did. -/
def storeSpoiltUptoRow : OpenClaim := { program := "ytdgeffphifgflaagreat", sum := "12307b6fe2f90204515b867420d00df5c47e3e051f03fdeb27471e4105848095", func := "anabranch/anabranchlaw15.StoreSpoilt", spec := "storeSpoilt", inPlace := ["internal/bytealg.Compare", "internal/bytealg.IndexByteString", "internal/bytealg.MakeNoZero"], unfollowed := true, recurses := true, plainKeys := false, apart := false, narrowed := true }
def StoreSpoiltUptoSaid : Prop := storeSpoiltUptoRow.holds Tryz.pinned (OpenSpec.upto storeSpoiltSpec)

/-- 'anabranchlaw20.GossipHears', WHERE WHAT IT READS IS OF BULK AT MOST 1048576: true; the input reads as it did. -/
def gossipHearsUptoRow : OpenClaim := { program := "ytdgeffphifgflaagreat", sum := "12307b6fe2f90204515b867420d00df5c47e3e051f03fdeb27471e4105848095", func := "anabranch/anabranchlaw20.GossipHears", spec := "gossipHears", inPlace := ["internal/bytealg.IndexByteString", "internal/bytealg.Compare", "internal/bytealg.MakeNoZero"], unfollowed := true, recurses := true, plainKeys := false, apart := false, narrowed := true }
def GossipHearsUptoSaid : Prop := gossipHearsUptoRow.holds Tryz.pinned (OpenSpec.upto gossipHearsSpec)

/-- 'anabranchlaw20.GossipTicks', WHERE WHAT IT READS IS OF BULK AT MOST 1048576: true; the input reads as it did. -/
def gossipTicksUptoRow : OpenClaim := { program := "ytdgeffphifgflaagreat", sum := "12307b6fe2f90204515b867420d00df5c47e3e051f03fdeb27471e4105848095", func := "anabranch/anabranchlaw20.GossipTicks", spec := "gossipTicks", inPlace := ["internal/bytealg.IndexByteString", "internal/bytealg.Compare", "internal/bytealg.MakeNoZero"], unfollowed := true, recurses := true, plainKeys := false, apart := false, narrowed := true }
def GossipTicksUptoSaid : Prop := gossipTicksUptoRow.holds Tryz.pinned (OpenSpec.upto gossipTicksSpec)

/-- 'anabranchlaw20.GossipMay', WHERE WHAT IT READS IS OF BULK AT MOST 1048576: true; the input reads as it did. -/
def gossipMayUptoRow : OpenClaim := { program := "ytdgeffphifgflaagreat", sum := "12307b6fe2f90204515b867420d00df5c47e3e051f03fdeb27471e4105848095", func := "anabranch/anabranchlaw20.GossipMay", spec := "gossipMay", inPlace := ["internal/bytealg.IndexByteString", "internal/bytealg.Compare", "internal/bytealg.MakeNoZero"], unfollowed := true, recurses := true, plainKeys := false, apart := false, narrowed := true }
def GossipMayUptoSaid : Prop := gossipMayUptoRow.holds Tryz.pinned (OpenSpec.upto gossipMaySpec)

/-- 'anabranchlaw20.GossipWaits', WHERE WHAT IT READS IS OF BULK AT MOST 1048576: true; the input reads as it did. -/
def gossipWaitsUptoRow : OpenClaim := { program := "ytdgeffphifgflaagreat", sum := "12307b6fe2f90204515b867420d00df5c47e3e051f03fdeb27471e4105848095", func := "anabranch/anabranchlaw20.GossipWaits", spec := "gossipWaits", inPlace := ["internal/bytealg.IndexByteString", "internal/bytealg.Compare", "internal/bytealg.MakeNoZero"], unfollowed := true, recurses := true, plainKeys := false, apart := false, narrowed := true }
def GossipWaitsUptoSaid : Prop := gossipWaitsUptoRow.holds Tryz.pinned (OpenSpec.upto gossipWaitsSpec)

/-- 'anabranchlaw20.GossipSelf', WHERE WHAT IT READS IS OF BULK AT MOST 1048576: true; the input reads as it did. -/
def gossipSelfUptoRow : OpenClaim := { program := "ytdgeffphifgflaagreat", sum := "12307b6fe2f90204515b867420d00df5c47e3e051f03fdeb27471e4105848095", func := "anabranch/anabranchlaw20.GossipSelf", spec := "gossipSelf", inPlace := ["internal/bytealg.IndexByteString", "internal/bytealg.Compare", "internal/bytealg.MakeNoZero"], unfollowed := true, recurses := true, plainKeys := false, apart := false, narrowed := true }
def GossipSelfUptoSaid : Prop := gossipSelfUptoRow.holds Tryz.pinned (OpenSpec.upto gossipSelfSpec)

/-- 'anabranchlaw20.GossipGives', WHERE WHAT IT READS IS OF BULK AT MOST 1048576: true; the input reads as it did. -/
def gossipGivesUptoRow : OpenClaim := { program := "ytdgeffphifgflaagreat", sum := "12307b6fe2f90204515b867420d00df5c47e3e051f03fdeb27471e4105848095", func := "anabranch/anabranchlaw20.GossipGives", spec := "gossipGives", inPlace := ["internal/bytealg.IndexByteString", "internal/bytealg.Compare", "internal/bytealg.MakeNoZero"], unfollowed := true, recurses := true, plainKeys := false, apart := false, narrowed := true }
def GossipGivesUptoSaid : Prop := gossipGivesUptoRow.holds Tryz.pinned (OpenSpec.upto gossipGivesSpec)

/-- 'anabranchlaw20.GossipFair', WHERE WHAT IT READS IS OF BULK AT MOST 1048576: true; the input reads as it did. -/
def gossipFairUptoRow : OpenClaim := { program := "ytdgeffphifgflaagreat", sum := "12307b6fe2f90204515b867420d00df5c47e3e051f03fdeb27471e4105848095", func := "anabranch/anabranchlaw20.GossipFair", spec := "gossipFair", inPlace := ["internal/bytealg.IndexByteString", "internal/bytealg.Compare", "internal/bytealg.MakeNoZero"], unfollowed := true, recurses := true, plainKeys := false, apart := false, narrowed := true }
def GossipFairUptoSaid : Prop := gossipFairUptoRow.holds Tryz.pinned (OpenSpec.upto gossipFairSpec)

/-- 'anabranchlaw20.GossipAsked', WHERE WHAT IT READS IS OF BULK AT MOST 1048576: true; the input reads as it did. -/
def gossipAskedUptoRow : OpenClaim := { program := "ytdgeffphifgflaagreat", sum := "12307b6fe2f90204515b867420d00df5c47e3e051f03fdeb27471e4105848095", func := "anabranch/anabranchlaw20.GossipAsked", spec := "gossipAsked", inPlace := ["internal/bytealg.IndexByteString", "internal/bytealg.Compare", "internal/bytealg.MakeNoZero"], unfollowed := true, recurses := true, plainKeys := false, apart := false, narrowed := true }
def GossipAskedUptoSaid : Prop := gossipAskedUptoRow.holds Tryz.pinned (OpenSpec.upto gossipAskedSpec)

end Rows
end Go.Proofs.YtdgeffphifgflaaGreat
