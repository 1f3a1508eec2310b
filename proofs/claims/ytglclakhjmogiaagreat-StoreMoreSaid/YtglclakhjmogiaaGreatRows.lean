/-
  No cell of these rows narrows 'for every input' (looked for: loops, veiled, ifaces, maps, wideKeys, modest, calm, conditions, laid).
  DERIVED. THE GIVEN ROWS OF THIS SEAT. 12 by the template 'for every input the law returns true; each argument reads behind the call as it read before'; 0 by the template 'total and deterministic' (their statements: YtglclakhjmogiaaGreatTotals.lean).
  GIVEN WITH THE SEED: the statements are not yours to turn. If you find one false, say at which input.
  Laid BY PROGRAM, IN A SANDBOX (cutbox-rows.mjs): the forced cells as the released guide's own fill.sh prints them over the translation 927ff58b0f2a535d… (all of the seat's roots in one cut). By AI agents, Wed Nov 11 2026. No macro, syntax, notation, axiom, sorry.
-/
import Derived.Test.YtglclakhjmogiaaGreatChecked
import GoSem.Claim
import GoSem.ClaimJoined
import GoSem.ClaimMapViews
import Derived.JoinedTies
import Derived.KernelRfl
namespace Go.Proofs.YtglclakhjmogiaaGreat
/- THE CELL 'sum', in the pinned program and in every row, IS THE sha256 OF THE DUMP (.gsa) THAT YtglclakhjmogiaaGreatProg.lean LOADS. Nothing in Lean hashes anything: it is a label: what it is worth is what the hold of that sum in a sandbox is worth. -/
noncomputable def Tryz.pinned : Pinned := { name := "ytglclakhjmogiaagreat", sum := "927ff58b0f2a535d542cc3e349f028d67236fdb4888a0289cb7fa16e41746a41", checked := Tryz.checked }
namespace Rows
def none {H : Type} : Left H := { results := [], args := [] }

/-- 'anabranchlaw12.FrontTells': WHATEVER THE INPUT: true; the input reads as it did. -/
def frontTellsSpec : ChangeSpec := { name := "frontTells", fn := fun _ => fun
  | [d1, d2, d3, d4, d5] => { results := [.lit (.bool true)], args := [d1, d2, d3, d4, d5] }
  | _ => none }
def frontTellsRow : OpenClaim := { program := "ytglclakhjmogiaagreat", sum := "927ff58b0f2a535d542cc3e349f028d67236fdb4888a0289cb7fa16e41746a41", func := "anabranch/anabranchlaw12.FrontTells", spec := "frontTells", inPlace := ["internal/bytealg.Compare", "internal/bytealg.IndexByteString", "internal/bytealg.MakeNoZero"], unfollowed := true, recurses := true, plainKeys := false, apart := false }
def FrontTellsSaid : Prop := frontTellsRow.holds Tryz.pinned (OpenSpec.ofChange frontTellsSpec)

/-- ITS FALSE NEIGHBOUR: 'it returns false'. Refute it at one input. -/
def frontTellsWrong : ChangeSpec := { name := "frontTells", fn := fun _ => fun
  | [d1, d2, d3, d4, d5] => { results := [.lit (.bool false)], args := [d1, d2, d3, d4, d5] }
  | _ => none }
def FrontTellsWrongFalsely : Prop := frontTellsRow.holds Tryz.pinned (OpenSpec.ofChange frontTellsWrong)

/-- 'anabranchlaw12.FrontLast': WHATEVER THE INPUT: true; the input reads as it did. -/
def frontLastSpec : ChangeSpec := { name := "frontLast", fn := fun _ => fun
  | [d] => { results := [.lit (.bool true)], args := [d] }
  | _ => none }
def frontLastRow : OpenClaim := { program := "ytglclakhjmogiaagreat", sum := "927ff58b0f2a535d542cc3e349f028d67236fdb4888a0289cb7fa16e41746a41", func := "anabranch/anabranchlaw12.FrontLast", spec := "frontLast", inPlace := ["internal/bytealg.Compare", "internal/bytealg.IndexByteString", "internal/bytealg.MakeNoZero"], unfollowed := true, recurses := true, plainKeys := false, apart := false }
def FrontLastSaid : Prop := frontLastRow.holds Tryz.pinned (OpenSpec.ofChange frontLastSpec)

/-- ITS FALSE NEIGHBOUR: 'it returns false'. Refute it at one input. -/
def frontLastWrong : ChangeSpec := { name := "frontLast", fn := fun _ => fun
  | [d] => { results := [.lit (.bool false)], args := [d] }
  | _ => none }
def FrontLastWrongFalsely : Prop := frontLastRow.holds Tryz.pinned (OpenSpec.ofChange frontLastWrong)

/-- 'anabranchlaw12.FrontGen': WHATEVER THE INPUT: true; the input reads as it did. -/
def frontGenSpec : ChangeSpec := { name := "frontGen", fn := fun _ => fun
  | [d] => { results := [.lit (.bool true)], args := [d] }
  | _ => none }
def frontGenRow : OpenClaim := { program := "ytglclakhjmogiaagreat", sum := "927ff58b0f2a535d542cc3e349f028d67236fdb4888a0289cb7fa16e41746a41", func := "anabranch/anabranchlaw12.FrontGen", spec := "frontGen", inPlace := ["internal/bytealg.Compare", "internal/bytealg.IndexByteString", "internal/bytealg.MakeNoZero"], unfollowed := true, recurses := true, plainKeys := false, apart := false }
def FrontGenSaid : Prop := frontGenRow.holds Tryz.pinned (OpenSpec.ofChange frontGenSpec)

/-- ITS FALSE NEIGHBOUR: 'it returns false'. Refute it at one input. -/
def frontGenWrong : ChangeSpec := { name := "frontGen", fn := fun _ => fun
  | [d] => { results := [.lit (.bool false)], args := [d] }
  | _ => none }
def FrontGenWrongFalsely : Prop := frontGenRow.holds Tryz.pinned (OpenSpec.ofChange frontGenWrong)

/-- 'anabranchlaw12.FrontBase': WHATEVER THE INPUT: true; the input reads as it did. -/
def frontBaseSpec : ChangeSpec := { name := "frontBase", fn := fun _ => fun
  | [d1, d2, d3, d4] => { results := [.lit (.bool true)], args := [d1, d2, d3, d4] }
  | _ => none }
def frontBaseRow : OpenClaim := { program := "ytglclakhjmogiaagreat", sum := "927ff58b0f2a535d542cc3e349f028d67236fdb4888a0289cb7fa16e41746a41", func := "anabranch/anabranchlaw12.FrontBase", spec := "frontBase", inPlace := ["internal/bytealg.Compare", "internal/bytealg.IndexByteString", "internal/bytealg.MakeNoZero"], unfollowed := true, recurses := true, plainKeys := false, apart := false }
def FrontBaseSaid : Prop := frontBaseRow.holds Tryz.pinned (OpenSpec.ofChange frontBaseSpec)

/-- ITS FALSE NEIGHBOUR: 'it returns false'. Refute it at one input. -/
def frontBaseWrong : ChangeSpec := { name := "frontBase", fn := fun _ => fun
  | [d1, d2, d3, d4] => { results := [.lit (.bool false)], args := [d1, d2, d3, d4] }
  | _ => none }
def FrontBaseWrongFalsely : Prop := frontBaseRow.holds Tryz.pinned (OpenSpec.ofChange frontBaseWrong)

/-- 'anabranchlaw12.FrontJoins': WHATEVER THE INPUT: true; the input reads as it did. -/
def frontJoinsSpec : ChangeSpec := { name := "frontJoins", fn := fun _ => fun
  | [d1, d2, d3] => { results := [.lit (.bool true)], args := [d1, d2, d3] }
  | _ => none }
def frontJoinsRow : OpenClaim := { program := "ytglclakhjmogiaagreat", sum := "927ff58b0f2a535d542cc3e349f028d67236fdb4888a0289cb7fa16e41746a41", func := "anabranch/anabranchlaw12.FrontJoins", spec := "frontJoins", inPlace := ["internal/bytealg.Compare", "internal/bytealg.IndexByteString", "internal/bytealg.MakeNoZero"], unfollowed := true, recurses := true, plainKeys := false, apart := false }
def FrontJoinsSaid : Prop := frontJoinsRow.holds Tryz.pinned (OpenSpec.ofChange frontJoinsSpec)

/-- ITS FALSE NEIGHBOUR: 'it returns false'. Refute it at one input. -/
def frontJoinsWrong : ChangeSpec := { name := "frontJoins", fn := fun _ => fun
  | [d1, d2, d3] => { results := [.lit (.bool false)], args := [d1, d2, d3] }
  | _ => none }
def FrontJoinsWrongFalsely : Prop := frontJoinsRow.holds Tryz.pinned (OpenSpec.ofChange frontJoinsWrong)

/-- 'anabranchlaw12.FrontSame': WHATEVER THE INPUT: true; the input reads as it did. -/
def frontSameSpec : ChangeSpec := { name := "frontSame", fn := fun _ => fun
  | [d1, d2] => { results := [.lit (.bool true)], args := [d1, d2] }
  | _ => none }
def frontSameRow : OpenClaim := { program := "ytglclakhjmogiaagreat", sum := "927ff58b0f2a535d542cc3e349f028d67236fdb4888a0289cb7fa16e41746a41", func := "anabranch/anabranchlaw12.FrontSame", spec := "frontSame", inPlace := ["internal/bytealg.Compare", "internal/bytealg.IndexByteString", "internal/bytealg.MakeNoZero"], unfollowed := true, recurses := true, plainKeys := false, apart := false }
def FrontSameSaid : Prop := frontSameRow.holds Tryz.pinned (OpenSpec.ofChange frontSameSpec)

/-- ITS FALSE NEIGHBOUR: 'it returns false'. Refute it at one input. -/
def frontSameWrong : ChangeSpec := { name := "frontSame", fn := fun _ => fun
  | [d1, d2] => { results := [.lit (.bool false)], args := [d1, d2] }
  | _ => none }
def FrontSameWrongFalsely : Prop := frontSameRow.holds Tryz.pinned (OpenSpec.ofChange frontSameWrong)

/-- 'anabranchlaw12.FrontNext': WHATEVER THE INPUT: true; the input reads as it did. -/
def frontNextSpec : ChangeSpec := { name := "frontNext", fn := fun _ => fun
  | [d1, d2, d3] => { results := [.lit (.bool true)], args := [d1, d2, d3] }
  | _ => none }
def frontNextRow : OpenClaim := { program := "ytglclakhjmogiaagreat", sum := "927ff58b0f2a535d542cc3e349f028d67236fdb4888a0289cb7fa16e41746a41", func := "anabranch/anabranchlaw12.FrontNext", spec := "frontNext", inPlace := ["internal/bytealg.Compare", "internal/bytealg.IndexByteString", "internal/bytealg.MakeNoZero"], unfollowed := true, recurses := true, plainKeys := false, apart := false }
def FrontNextSaid : Prop := frontNextRow.holds Tryz.pinned (OpenSpec.ofChange frontNextSpec)

/-- ITS FALSE NEIGHBOUR: 'it returns false'. Refute it at one input. -/
def frontNextWrong : ChangeSpec := { name := "frontNext", fn := fun _ => fun
  | [d1, d2, d3] => { results := [.lit (.bool false)], args := [d1, d2, d3] }
  | _ => none }
def FrontNextWrongFalsely : Prop := frontNextRow.holds Tryz.pinned (OpenSpec.ofChange frontNextWrong)

/-- 'anabranchlaw15.StoreTells': WHATEVER THE INPUT: true; the input reads as it did. -/
def storeTellsSpec : ChangeSpec := { name := "storeTells", fn := fun _ => fun
  | [d1, d2, d3, d4] => { results := [.lit (.bool true)], args := [d1, d2, d3, d4] }
  | _ => none }
def storeTellsRow : OpenClaim := { program := "ytglclakhjmogiaagreat", sum := "927ff58b0f2a535d542cc3e349f028d67236fdb4888a0289cb7fa16e41746a41", func := "anabranch/anabranchlaw15.StoreTells", spec := "storeTells", inPlace := ["internal/bytealg.Compare", "internal/bytealg.IndexByteString", "internal/bytealg.MakeNoZero"], unfollowed := true, recurses := true, plainKeys := false, apart := false }
def StoreTellsSaid : Prop := storeTellsRow.holds Tryz.pinned (OpenSpec.ofChange storeTellsSpec)

/-- ITS FALSE NEIGHBOUR: 'it returns false'. Refute it at one input. -/
def storeTellsWrong : ChangeSpec := { name := "storeTells", fn := fun _ => fun
  | [d1, d2, d3, d4] => { results := [.lit (.bool false)], args := [d1, d2, d3, d4] }
  | _ => none }
def StoreTellsWrongFalsely : Prop := storeTellsRow.holds Tryz.pinned (OpenSpec.ofChange storeTellsWrong)

/-- 'anabranchlaw15.StoreFull': WHATEVER THE INPUT: true; the input reads as it did. -/
def storeFullSpec : ChangeSpec := { name := "storeFull", fn := fun _ => fun
  | [d1, d2, d3] => { results := [.lit (.bool true)], args := [d1, d2, d3] }
  | _ => none }
def storeFullRow : OpenClaim := { program := "ytglclakhjmogiaagreat", sum := "927ff58b0f2a535d542cc3e349f028d67236fdb4888a0289cb7fa16e41746a41", func := "anabranch/anabranchlaw15.StoreFull", spec := "storeFull", inPlace := ["internal/bytealg.Compare", "internal/bytealg.IndexByteString", "internal/bytealg.MakeNoZero"], unfollowed := true, recurses := true, plainKeys := false, apart := false }
def StoreFullSaid : Prop := storeFullRow.holds Tryz.pinned (OpenSpec.ofChange storeFullSpec)

/-- ITS FALSE NEIGHBOUR: 'it returns false'. Refute it at one input. -/
def storeFullWrong : ChangeSpec := { name := "storeFull", fn := fun _ => fun
  | [d1, d2, d3] => { results := [.lit (.bool false)], args := [d1, d2, d3] }
  | _ => none }
def StoreFullWrongFalsely : Prop := storeFullRow.holds Tryz.pinned (OpenSpec.ofChange storeFullWrong)

/-- 'anabranchlaw15.StoreCuts': WHATEVER THE INPUT: true; the input reads as it did. -/
def storeCutsSpec : ChangeSpec := { name := "storeCuts", fn := fun _ => fun
  | [d1, d2] => { results := [.lit (.bool true)], args := [d1, d2] }
  | _ => none }
def storeCutsRow : OpenClaim := { program := "ytglclakhjmogiaagreat", sum := "927ff58b0f2a535d542cc3e349f028d67236fdb4888a0289cb7fa16e41746a41", func := "anabranch/anabranchlaw15.StoreCuts", spec := "storeCuts", inPlace := ["internal/bytealg.Compare", "internal/bytealg.IndexByteString", "internal/bytealg.MakeNoZero"], unfollowed := true, recurses := true, plainKeys := false, apart := false }
def StoreCutsSaid : Prop := storeCutsRow.holds Tryz.pinned (OpenSpec.ofChange storeCutsSpec)

/-- ITS FALSE NEIGHBOUR: 'it returns false'. Refute it at one input. -/
def storeCutsWrong : ChangeSpec := { name := "storeCuts", fn := fun _ => fun
  | [d1, d2] => { results := [.lit (.bool false)], args := [d1, d2] }
  | _ => none }
def StoreCutsWrongFalsely : Prop := storeCutsRow.holds Tryz.pinned (OpenSpec.ofChange storeCutsWrong)

/-- 'anabranchlaw15.StoreMore': WHATEVER THE INPUT: true; the input reads as it did. -/
def storeMoreSpec : ChangeSpec := { name := "storeMore", fn := fun _ => fun
  | [d1, d2] => { results := [.lit (.bool true)], args := [d1, d2] }
  | _ => none }
def storeMoreRow : OpenClaim := { program := "ytglclakhjmogiaagreat", sum := "927ff58b0f2a535d542cc3e349f028d67236fdb4888a0289cb7fa16e41746a41", func := "anabranch/anabranchlaw15.StoreMore", spec := "storeMore", inPlace := ["internal/bytealg.Compare", "internal/bytealg.IndexByteString", "internal/bytealg.MakeNoZero"], unfollowed := true, recurses := true, plainKeys := false, apart := false }
def StoreMoreSaid : Prop := storeMoreRow.holds Tryz.pinned (OpenSpec.ofChange storeMoreSpec)

/-- ITS FALSE NEIGHBOUR: 'it returns false'. Refute it at one input. -/
def storeMoreWrong : ChangeSpec := { name := "storeMore", fn := fun _ => fun
  | [d1, d2] => { results := [.lit (.bool false)], args := [d1, d2] }
  | _ => none }
def StoreMoreWrongFalsely : Prop := storeMoreRow.holds Tryz.pinned (OpenSpec.ofChange storeMoreWrong)

/-- 'anabranchlaw15.StoreSpoilt': WHATEVER THE INPUT: true; the input reads as it did. -/
def storeSpoiltSpec : ChangeSpec := { name := "storeSpoilt", fn := fun _ => fun
  | [d1, d2, d3] => { results := [.lit (.bool true)], args := [d1, d2, d3] }
  | _ => none }
def storeSpoiltRow : OpenClaim := { program := "ytglclakhjmogiaagreat", sum := "927ff58b0f2a535d542cc3e349f028d67236fdb4888a0289cb7fa16e41746a41", func := "anabranch/anabranchlaw15.StoreSpoilt", spec := "storeSpoilt", inPlace := ["internal/bytealg.Compare", "internal/bytealg.IndexByteString", "internal/bytealg.MakeNoZero"], unfollowed := true, recurses := true, plainKeys := false, apart := false }
def StoreSpoiltSaid : Prop := storeSpoiltRow.holds Tryz.pinned (OpenSpec.ofChange storeSpoiltSpec)

/-- ITS FALSE NEIGHBOUR: 'it returns false'. Refute it at one input. -/
def storeSpoiltWrong : ChangeSpec := { name := "storeSpoilt", fn := fun _ => fun
  | [d1, d2, d3] => { results := [.lit (.bool false)], args := [d1, d2, d3] }
  | _ => none }
def StoreSpoiltWrongFalsely : Prop := storeSpoiltRow.holds Tryz.pinned (OpenSpec.ofChange storeSpoiltWrong)

/- THE SECOND FORM. 'bulk': how many values and letters a reading holds, each counted each time it is reached (what is shared counts as often as it is met; a slice's spare places count too). A statement '..UptoSaid' is the law's where the arguments, and the package variables that the reading takes, are together of bulk at most 1048576: NARROWER than '..Said'. Prove '..Said' where nothing that the law and all that it calls make is longer than what came in: it says more and counts as full. Else prove '..UptoSaid'. A law counts once. -/
mutual
def uptoBulk {H : Type} : DataW H → Nat
  | .lit (.string bytes) => bytes.length + 1
  | .lit _ => 1
  | .nil => 1
  | .ptr d => uptoBulk d + 1
  | .slice elems spare => uptoBulkAll elems + uptoBulkAll spare + 1
  | .agg parts => uptoBulkAll parts + 1
  | .iface _ d => uptoBulk d + 1
  | .map entries => uptoBulkEntries entries + 1
  | .held _ => 1
def uptoBulkAll {H : Type} : List (DataW H) → Nat
  | [] => 0
  | d :: r => uptoBulk d + uptoBulkAll r
def uptoBulkEntries {H : Type} : List (Lit × DataW H) → Nat
  | [] => 0
  | x :: r => uptoBulkEntry x + uptoBulkEntries r
def uptoBulkEntry {H : Type} : Lit × DataW H → Nat
  | (.string bytes, d) => bytes.length + uptoBulk d + 1
  | (_, d) => uptoBulk d + 1
 end
def uptoSmall : (H : Type) → List (DataW H) → Bool := fun _ ds => decide (uptoBulkAll ds ≤ 1048576)
def OpenSpec.upto (s : _root_.Go.ChangeSpec) : _root_.Go.OpenSpec := { _root_.Go.OpenSpec.ofChange s with cond := some uptoSmall }

/-- 'anabranchlaw12.FrontTells', WHERE WHAT IT READS IS OF BULK AT MOST 1048576: true; the input reads as it did. -/
def frontTellsUptoRow : OpenClaim := { program := "ytglclakhjmogiaagreat", sum := "927ff58b0f2a535d542cc3e349f028d67236fdb4888a0289cb7fa16e41746a41", func := "anabranch/anabranchlaw12.FrontTells", spec := "frontTells", inPlace := ["internal/bytealg.Compare", "internal/bytealg.IndexByteString", "internal/bytealg.MakeNoZero"], unfollowed := true, recurses := true, plainKeys := false, apart := false, narrowed := true }
def FrontTellsUptoSaid : Prop := frontTellsUptoRow.holds Tryz.pinned (OpenSpec.upto frontTellsSpec)

/-- 'anabranchlaw12.FrontLast', WHERE WHAT IT READS IS OF BULK AT MOST 1048576: true; the input reads as it did. -/
def frontLastUptoRow : OpenClaim := { program := "ytglclakhjmogiaagreat", sum := "927ff58b0f2a535d542cc3e349f028d67236fdb4888a0289cb7fa16e41746a41", func := "anabranch/anabranchlaw12.FrontLast", spec := "frontLast", inPlace := ["internal/bytealg.Compare", "internal/bytealg.IndexByteString", "internal/bytealg.MakeNoZero"], unfollowed := true, recurses := true, plainKeys := false, apart := false, narrowed := true }
def FrontLastUptoSaid : Prop := frontLastUptoRow.holds Tryz.pinned (OpenSpec.upto frontLastSpec)

/-- 'anabranchlaw12.FrontGen', WHERE WHAT IT READS IS OF BULK AT MOST 1048576: true; the input reads as it did. -/
def frontGenUptoRow : OpenClaim := { program := "ytglclakhjmogiaagreat", sum := "927ff58b0f2a535d542cc3e349f028d67236fdb4888a0289cb7fa16e41746a41", func := "anabranch/anabranchlaw12.FrontGen", spec := "frontGen", inPlace := ["internal/bytealg.Compare", "internal/bytealg.IndexByteString", "internal/bytealg.MakeNoZero"], unfollowed := true, recurses := true, plainKeys := false, apart := false, narrowed := true }
def FrontGenUptoSaid : Prop := frontGenUptoRow.holds Tryz.pinned (OpenSpec.upto frontGenSpec)

/-- 'anabranchlaw12.FrontBase', WHERE WHAT IT READS IS OF BULK AT MOST 1048576: true; the input reads as it did. -/
def frontBaseUptoRow : OpenClaim := { program := "ytglclakhjmogiaagreat", sum := "927ff58b0f2a535d542cc3e349f028d67236fdb4888a0289cb7fa16e41746a41", func := "anabranch/anabranchlaw12.FrontBase", spec := "frontBase", inPlace := ["internal/bytealg.Compare", "internal/bytealg.IndexByteString", "internal/bytealg.MakeNoZero"], unfollowed := true, recurses := true, plainKeys := false, apart := false, narrowed := true }
def FrontBaseUptoSaid : Prop := frontBaseUptoRow.holds Tryz.pinned (OpenSpec.upto frontBaseSpec)

/-- 'anabranchlaw12.FrontJoins', WHERE WHAT IT READS IS OF BULK AT MOST 1048576: true; the input reads as it did. -/
def frontJoinsUptoRow : OpenClaim := { program := "ytglclakhjmogiaagreat", sum := "927ff58b0f2a535d542cc3e349f028d67236fdb4888a0289cb7fa16e41746a41", func := "anabranch/anabranchlaw12.FrontJoins", spec := "frontJoins", inPlace := ["internal/bytealg.Compare", "internal/bytealg.IndexByteString", "internal/bytealg.MakeNoZero"], unfollowed := true, recurses := true, plainKeys := false, apart := false, narrowed := true }
def FrontJoinsUptoSaid : Prop := frontJoinsUptoRow.holds Tryz.pinned (OpenSpec.upto frontJoinsSpec)

/-- 'anabranchlaw12.FrontSame', WHERE WHAT IT READS IS OF BULK AT MOST 1048576: true; the input reads as it did. -/
def frontSameUptoRow : OpenClaim := { program := "ytglclakhjmogiaagreat", sum := "927ff58b0f2a535d542cc3e349f028d67236fdb4888a0289cb7fa16e41746a41", func := "anabranch/anabranchlaw12.FrontSame", spec := "frontSame", inPlace := ["internal/bytealg.Compare", "internal/bytealg.IndexByteString", "internal/bytealg.MakeNoZero"], unfollowed := true, recurses := true, plainKeys := false, apart := false, narrowed := true }
def FrontSameUptoSaid : Prop := frontSameUptoRow.holds Tryz.pinned (OpenSpec.upto frontSameSpec)

/-- 'anabranchlaw12.FrontNext', WHERE WHAT IT READS IS OF BULK AT MOST 1048576: true; the input reads as it did. -/
def frontNextUptoRow : OpenClaim := { program := "ytglclakhjmogiaagreat", sum := "927ff58b0f2a535d542cc3e349f028d67236fdb4888a0289cb7fa16e41746a41", func := "anabranch/anabranchlaw12.FrontNext", spec := "frontNext", inPlace := ["internal/bytealg.Compare", "internal/bytealg.IndexByteString", "internal/bytealg.MakeNoZero"], unfollowed := true, recurses := true, plainKeys := false, apart := false, narrowed := true }
def FrontNextUptoSaid : Prop := frontNextUptoRow.holds Tryz.pinned (OpenSpec.upto frontNextSpec)

/-- 'anabranchlaw15.StoreTells', WHERE WHAT IT READS IS OF BULK AT MOST 1048576: true; the input reads as it did. -/
def storeTellsUptoRow : OpenClaim := { program := "ytglclakhjmogiaagreat", sum := "927ff58b0f2a535d542cc3e349f028d67236fdb4888a0289cb7fa16e41746a41", func := "anabranch/anabranchlaw15.StoreTells", spec := "storeTells", inPlace := ["internal/bytealg.Compare", "internal/bytealg.IndexByteString", "internal/bytealg.MakeNoZero"], unfollowed := true, recurses := true, plainKeys := false, apart := false, narrowed := true }
def StoreTellsUptoSaid : Prop := storeTellsUptoRow.holds Tryz.pinned (OpenSpec.upto storeTellsSpec)

/-- 'anabranchlaw15.StoreFull', WHERE WHAT IT READS IS OF BULK AT MOST 1048576: true; the input reads as it did. -/
def storeFullUptoRow : OpenClaim := { program := "ytglclakhjmogiaagreat", sum := "927ff58b0f2a535d542cc3e349f028d67236fdb4888a0289cb7fa16e41746a41", func := "anabranch/anabranchlaw15.StoreFull", spec := "storeFull", inPlace := ["internal/bytealg.Compare", "internal/bytealg.IndexByteString", "internal/bytealg.MakeNoZero"], unfollowed := true, recurses := true, plainKeys := false, apart := false, narrowed := true }
def StoreFullUptoSaid : Prop := storeFullUptoRow.holds Tryz.pinned (OpenSpec.upto storeFullSpec)

/-- 'anabranchlaw15.StoreCuts', WHERE WHAT IT READS IS OF BULK AT MOST 1048576: true; the input reads as it did. -/
def storeCutsUptoRow : OpenClaim := { program := "ytglclakhjmogiaagreat", sum := "927ff58b0f2a535d542cc3e349f028d67236fdb4888a0289cb7fa16e41746a41", func := "anabranch/anabranchlaw15.StoreCuts", spec := "storeCuts", inPlace := ["internal/bytealg.Compare", "internal/bytealg.IndexByteString", "internal/bytealg.MakeNoZero"], unfollowed := true, recurses := true, plainKeys := false, apart := false, narrowed := true }
def StoreCutsUptoSaid : Prop := storeCutsUptoRow.holds Tryz.pinned (OpenSpec.upto storeCutsSpec)

/-- 'anabranchlaw15.StoreMore', WHERE WHAT IT READS IS OF BULK AT MOST 1048576: true; the input reads as it did. -/
def storeMoreUptoRow : OpenClaim := { program := "ytglclakhjmogiaagreat", sum := "927ff58b0f2a535d542cc3e349f028d67236fdb4888a0289cb7fa16e41746a41", func := "anabranch/anabranchlaw15.StoreMore", spec := "storeMore", inPlace := ["internal/bytealg.Compare", "internal/bytealg.IndexByteString", "internal/bytealg.MakeNoZero"], unfollowed := true, recurses := true, plainKeys := false, apart := false, narrowed := true }
def StoreMoreUptoSaid : Prop := storeMoreUptoRow.holds Tryz.pinned (OpenSpec.upto storeMoreSpec)

/-- 'anabranchlaw15.StoreSpoilt', WHERE WHAT IT READS IS OF BULK AT MOST 1048576: true; the input reads as it did. -/
def storeSpoiltUptoRow : OpenClaim := { program := "ytglclakhjmogiaagreat", sum := "927ff58b0f2a535d542cc3e349f028d67236fdb4888a0289cb7fa16e41746a41", func := "anabranch/anabranchlaw15.StoreSpoilt", spec := "storeSpoilt", inPlace := ["internal/bytealg.Compare", "internal/bytealg.IndexByteString", "internal/bytealg.MakeNoZero"], unfollowed := true, recurses := true, plainKeys := false, apart := false, narrowed := true }
def StoreSpoiltUptoSaid : Prop := storeSpoiltUptoRow.holds Tryz.pinned (OpenSpec.upto storeSpoiltSpec)

end Rows
end Go.Proofs.YtglclakhjmogiaaGreat
