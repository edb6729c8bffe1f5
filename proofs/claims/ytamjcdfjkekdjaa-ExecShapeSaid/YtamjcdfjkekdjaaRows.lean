/-
  No cell of these rows narrows 'for every input' (looked for: loops, veiled, ifaces, maps, wideKeys, modest, calm, conditions, laid).
  DERIVED. THE GIVEN ROWS OF THIS SEAT. 31 by the template 'for every input the law returns true; each argument reads behind the call as it read before'; 0 by the template 'total and deterministic' (their statements: YtamjcdfjkekdjaaTotals.lean).
  GIVEN WITH THE SEED: the statements are not yours to turn. If you find one false, say at which input.
  Laid BY PROGRAM, IN A SANDBOX (cutbox-rows.mjs): the forced cells as the released guide's own fill.sh prints them over the translation 9e697b6548da5bbf… (all of the seat's roots in one cut). By AI agents, Wed Nov 11 2026. No macro, syntax, notation, axiom, sorry.
-/
import Derived.Test.YtamjcdfjkekdjaaChecked
import GoSem.Claim
import GoSem.ClaimJoined
import GoSem.ClaimMapViews
import Derived.JoinedTies
import Derived.KernelRfl
namespace Go.Proofs.Ytamjcdfjkekdjaa
/- THE CELL 'sum', in the pinned program and in every row, IS THE sha256 OF THE DUMP (.gsa) THAT YtamjcdfjkekdjaaProg.lean LOADS. Nothing in Lean hashes anything: it is a label: what it is worth is what the hold of that sum in a sandbox is worth. -/
noncomputable def Try.pinned : Pinned := { name := "ytamjcdfjkekdjaa", sum := "9e697b6548da5bbf2c7af3e3e24fa580581d4bdbac146879f2982a65c41229e7", checked := Try.checked }
namespace Rows
def none {H : Type} : Left H := { results := [], args := [] }

/-- 'cupolalaw07.RegsPlace': WHATEVER THE INPUT: true; the input reads as it did. -/
def regsPlaceSpec : ChangeSpec := { name := "regsPlace", fn := fun _ => fun
  | [d1, d2, d3, d4] => { results := [.lit (.bool true)], args := [d1, d2, d3, d4] }
  | _ => none }
def regsPlaceRow : OpenClaim := { program := "ytamjcdfjkekdjaa", sum := "9e697b6548da5bbf2c7af3e3e24fa580581d4bdbac146879f2982a65c41229e7", func := "cupola/cupolalaw07.RegsPlace", spec := "regsPlace", apart := false }
def RegsPlaceSaid : Prop := regsPlaceRow.holds Try.pinned (OpenSpec.ofChange regsPlaceSpec)

/-- ITS FALSE NEIGHBOUR: 'it returns false'. Refute it at one input. -/
def regsPlaceWrong : ChangeSpec := { name := "regsPlace", fn := fun _ => fun
  | [d1, d2, d3, d4] => { results := [.lit (.bool false)], args := [d1, d2, d3, d4] }
  | _ => none }
def RegsPlaceWrongFalsely : Prop := regsPlaceRow.holds Try.pinned (OpenSpec.ofChange regsPlaceWrong)

/-- 'cupolalaw07.RegsSets': WHATEVER THE INPUT: true; the input reads as it did. -/
def regsSetsSpec : ChangeSpec := { name := "regsSets", fn := fun _ => fun
  | [d1, d2, d3, d4, d5] => { results := [.lit (.bool true)], args := [d1, d2, d3, d4, d5] }
  | _ => none }
def regsSetsRow : OpenClaim := { program := "ytamjcdfjkekdjaa", sum := "9e697b6548da5bbf2c7af3e3e24fa580581d4bdbac146879f2982a65c41229e7", func := "cupola/cupolalaw07.RegsSets", spec := "regsSets", apart := false }
def RegsSetsSaid : Prop := regsSetsRow.holds Try.pinned (OpenSpec.ofChange regsSetsSpec)

/-- ITS FALSE NEIGHBOUR: 'it returns false'. Refute it at one input. -/
def regsSetsWrong : ChangeSpec := { name := "regsSets", fn := fun _ => fun
  | [d1, d2, d3, d4, d5] => { results := [.lit (.bool false)], args := [d1, d2, d3, d4, d5] }
  | _ => none }
def RegsSetsWrongFalsely : Prop := regsSetsRow.holds Try.pinned (OpenSpec.ofChange regsSetsWrong)

/-- 'cupolalaw07.RegsHang': WHATEVER THE INPUT: true; the input reads as it did. -/
def regsHangSpec : ChangeSpec := { name := "regsHang", fn := fun _ => fun
  | [d1, d2, d3, d4, d5] => { results := [.lit (.bool true)], args := [d1, d2, d3, d4, d5] }
  | _ => none }
def regsHangRow : OpenClaim := { program := "ytamjcdfjkekdjaa", sum := "9e697b6548da5bbf2c7af3e3e24fa580581d4bdbac146879f2982a65c41229e7", func := "cupola/cupolalaw07.RegsHang", spec := "regsHang", unfollowed := true, recurses := true, apart := false }
def RegsHangSaid : Prop := regsHangRow.holds Try.pinned (OpenSpec.ofChange regsHangSpec)

/-- ITS FALSE NEIGHBOUR: 'it returns false'. Refute it at one input. -/
def regsHangWrong : ChangeSpec := { name := "regsHang", fn := fun _ => fun
  | [d1, d2, d3, d4, d5] => { results := [.lit (.bool false)], args := [d1, d2, d3, d4, d5] }
  | _ => none }
def RegsHangWrongFalsely : Prop := regsHangRow.holds Try.pinned (OpenSpec.ofChange regsHangWrong)

/-- 'cupolalaw07.RegsSwap': WHATEVER THE INPUT: true; the input reads as it did. -/
def regsSwapSpec : ChangeSpec := { name := "regsSwap", fn := fun _ => fun
  | [d1, d2, d3, d4, d5] => { results := [.lit (.bool true)], args := [d1, d2, d3, d4, d5] }
  | _ => none }
def regsSwapRow : OpenClaim := { program := "ytamjcdfjkekdjaa", sum := "9e697b6548da5bbf2c7af3e3e24fa580581d4bdbac146879f2982a65c41229e7", func := "cupola/cupolalaw07.RegsSwap", spec := "regsSwap", unfollowed := true, recurses := true, apart := false }
def RegsSwapSaid : Prop := regsSwapRow.holds Try.pinned (OpenSpec.ofChange regsSwapSpec)

/-- ITS FALSE NEIGHBOUR: 'it returns false'. Refute it at one input. -/
def regsSwapWrong : ChangeSpec := { name := "regsSwap", fn := fun _ => fun
  | [d1, d2, d3, d4, d5] => { results := [.lit (.bool false)], args := [d1, d2, d3, d4, d5] }
  | _ => none }
def RegsSwapWrongFalsely : Prop := regsSwapRow.holds Try.pinned (OpenSpec.ofChange regsSwapWrong)

/-- 'cupolalaw01.InsTells': WHATEVER THE INPUT: true; the input reads as it did. -/
def insTellsSpec : ChangeSpec := { name := "insTells", fn := fun _ => fun
  | [d1, d2, d3] => { results := [.lit (.bool true)], args := [d1, d2, d3] }
  | _ => none }
def insTellsRow : OpenClaim := { program := "ytamjcdfjkekdjaa", sum := "9e697b6548da5bbf2c7af3e3e24fa580581d4bdbac146879f2982a65c41229e7", func := "cupola/cupolalaw01.InsTells", spec := "insTells", apart := false }
def InsTellsSaid : Prop := insTellsRow.holds Try.pinned (OpenSpec.ofChange insTellsSpec)

/-- ITS FALSE NEIGHBOUR: 'it returns false'. Refute it at one input. -/
def insTellsWrong : ChangeSpec := { name := "insTells", fn := fun _ => fun
  | [d1, d2, d3] => { results := [.lit (.bool false)], args := [d1, d2, d3] }
  | _ => none }
def InsTellsWrongFalsely : Prop := insTellsRow.holds Try.pinned (OpenSpec.ofChange insTellsWrong)

/-- 'cupolalaw01.InsRegs': WHATEVER THE INPUT: true; the input reads as it did. -/
def insRegsSpec : ChangeSpec := { name := "insRegs", fn := fun _ => fun
  | [d1, d2, d3] => { results := [.lit (.bool true)], args := [d1, d2, d3] }
  | _ => none }
def insRegsRow : OpenClaim := { program := "ytamjcdfjkekdjaa", sum := "9e697b6548da5bbf2c7af3e3e24fa580581d4bdbac146879f2982a65c41229e7", func := "cupola/cupolalaw01.InsRegs", spec := "insRegs", apart := false }
def InsRegsSaid : Prop := insRegsRow.holds Try.pinned (OpenSpec.ofChange insRegsSpec)

/-- ITS FALSE NEIGHBOUR: 'it returns false'. Refute it at one input. -/
def insRegsWrong : ChangeSpec := { name := "insRegs", fn := fun _ => fun
  | [d1, d2, d3] => { results := [.lit (.bool false)], args := [d1, d2, d3] }
  | _ => none }
def InsRegsWrongFalsely : Prop := insRegsRow.holds Try.pinned (OpenSpec.ofChange insRegsWrong)

/-- 'cupolalaw01.InsWider': WHATEVER THE INPUT: true; the input reads as it did. -/
def insWiderSpec : ChangeSpec := { name := "insWider", fn := fun _ => fun
  | [d1, d2, d3, d4] => { results := [.lit (.bool true)], args := [d1, d2, d3, d4] }
  | _ => none }
def insWiderRow : OpenClaim := { program := "ytamjcdfjkekdjaa", sum := "9e697b6548da5bbf2c7af3e3e24fa580581d4bdbac146879f2982a65c41229e7", func := "cupola/cupolalaw01.InsWider", spec := "insWider", apart := false }
def InsWiderSaid : Prop := insWiderRow.holds Try.pinned (OpenSpec.ofChange insWiderSpec)

/-- ITS FALSE NEIGHBOUR: 'it returns false'. Refute it at one input. -/
def insWiderWrong : ChangeSpec := { name := "insWider", fn := fun _ => fun
  | [d1, d2, d3, d4] => { results := [.lit (.bool false)], args := [d1, d2, d3, d4] }
  | _ => none }
def InsWiderWrongFalsely : Prop := insWiderRow.holds Try.pinned (OpenSpec.ofChange insWiderWrong)

/-- 'cupolalaw01.InsTurned': WHATEVER THE INPUT: true; the input reads as it did. -/
def insTurnedSpec : ChangeSpec := { name := "insTurned", fn := fun _ => fun
  | [d1, d2, d3] => { results := [.lit (.bool true)], args := [d1, d2, d3] }
  | _ => none }
def insTurnedRow : OpenClaim := { program := "ytamjcdfjkekdjaa", sum := "9e697b6548da5bbf2c7af3e3e24fa580581d4bdbac146879f2982a65c41229e7", func := "cupola/cupolalaw01.InsTurned", spec := "insTurned", apart := false }
def InsTurnedSaid : Prop := insTurnedRow.holds Try.pinned (OpenSpec.ofChange insTurnedSpec)

/-- ITS FALSE NEIGHBOUR: 'it returns false'. Refute it at one input. -/
def insTurnedWrong : ChangeSpec := { name := "insTurned", fn := fun _ => fun
  | [d1, d2, d3] => { results := [.lit (.bool false)], args := [d1, d2, d3] }
  | _ => none }
def InsTurnedWrongFalsely : Prop := insTurnedRow.holds Try.pinned (OpenSpec.ofChange insTurnedWrong)

/-- 'cupolalaw01.InsNames': WHATEVER THE INPUT: true; the input reads as it did. -/
def insNamesSpec : ChangeSpec := { name := "insNames", fn := fun _ => fun
  | [d1, d2] => { results := [.lit (.bool true)], args := [d1, d2] }
  | _ => none }
def insNamesRow : OpenClaim := { program := "ytamjcdfjkekdjaa", sum := "9e697b6548da5bbf2c7af3e3e24fa580581d4bdbac146879f2982a65c41229e7", func := "cupola/cupolalaw01.InsNames", spec := "insNames", apart := false }
def InsNamesSaid : Prop := insNamesRow.holds Try.pinned (OpenSpec.ofChange insNamesSpec)

/-- ITS FALSE NEIGHBOUR: 'it returns false'. Refute it at one input. -/
def insNamesWrong : ChangeSpec := { name := "insNames", fn := fun _ => fun
  | [d1, d2] => { results := [.lit (.bool false)], args := [d1, d2] }
  | _ => none }
def InsNamesWrongFalsely : Prop := insNamesRow.holds Try.pinned (OpenSpec.ofChange insNamesWrong)

/-- 'cupolalaw01.InsLoads': WHATEVER THE INPUT: true; the input reads as it did. -/
def insLoadsSpec : ChangeSpec := { name := "insLoads", fn := fun _ => fun
  | [d1, d2, d3] => { results := [.lit (.bool true)], args := [d1, d2, d3] }
  | _ => none }
def insLoadsRow : OpenClaim := { program := "ytamjcdfjkekdjaa", sum := "9e697b6548da5bbf2c7af3e3e24fa580581d4bdbac146879f2982a65c41229e7", func := "cupola/cupolalaw01.InsLoads", spec := "insLoads", apart := false }
def InsLoadsSaid : Prop := insLoadsRow.holds Try.pinned (OpenSpec.ofChange insLoadsSpec)

/-- ITS FALSE NEIGHBOUR: 'it returns false'. Refute it at one input. -/
def insLoadsWrong : ChangeSpec := { name := "insLoads", fn := fun _ => fun
  | [d1, d2, d3] => { results := [.lit (.bool false)], args := [d1, d2, d3] }
  | _ => none }
def InsLoadsWrongFalsely : Prop := insLoadsRow.holds Try.pinned (OpenSpec.ofChange insLoadsWrong)

/-- 'cupolalaw02.TestChecks': WHATEVER THE INPUT: true; the input reads as it did. -/
def testChecksSpec : ChangeSpec := { name := "testChecks", fn := fun _ => fun
  | [d] => { results := [.lit (.bool true)], args := [d] }
  | _ => none }
def testChecksRow : OpenClaim := { program := "ytamjcdfjkekdjaa", sum := "9e697b6548da5bbf2c7af3e3e24fa580581d4bdbac146879f2982a65c41229e7", func := "cupola/cupolalaw02.TestChecks", spec := "testChecks", unfollowed := true, recurses := true, apart := false }
def TestChecksSaid : Prop := testChecksRow.holds Try.pinned (OpenSpec.ofChange testChecksSpec)

/-- ITS FALSE NEIGHBOUR: 'it returns false'. Refute it at one input. -/
def testChecksWrong : ChangeSpec := { name := "testChecks", fn := fun _ => fun
  | [d] => { results := [.lit (.bool false)], args := [d] }
  | _ => none }
def TestChecksWrongFalsely : Prop := testChecksRow.holds Try.pinned (OpenSpec.ofChange testChecksWrong)

/-- 'cupolalaw02.TestCounts': WHATEVER THE INPUT: true; the input reads as it did. -/
def testCountsSpec : ChangeSpec := { name := "testCounts", fn := fun _ => fun
  | [d] => { results := [.lit (.bool true)], args := [d] }
  | _ => none }
def testCountsRow : OpenClaim := { program := "ytamjcdfjkekdjaa", sum := "9e697b6548da5bbf2c7af3e3e24fa580581d4bdbac146879f2982a65c41229e7", func := "cupola/cupolalaw02.TestCounts", spec := "testCounts", unfollowed := true, recurses := true, apart := false }
def TestCountsSaid : Prop := testCountsRow.holds Try.pinned (OpenSpec.ofChange testCountsSpec)

/-- ITS FALSE NEIGHBOUR: 'it returns false'. Refute it at one input. -/
def testCountsWrong : ChangeSpec := { name := "testCounts", fn := fun _ => fun
  | [d] => { results := [.lit (.bool false)], args := [d] }
  | _ => none }
def TestCountsWrongFalsely : Prop := testCountsRow.holds Try.pinned (OpenSpec.ofChange testCountsWrong)

/-- 'cupolalaw02.TestMore': WHATEVER THE INPUT: true; the input reads as it did. -/
def testMoreSpec : ChangeSpec := { name := "testMore", fn := fun _ => fun
  | [d] => { results := [.lit (.bool true)], args := [d] }
  | _ => none }
def testMoreRow : OpenClaim := { program := "ytamjcdfjkekdjaa", sum := "9e697b6548da5bbf2c7af3e3e24fa580581d4bdbac146879f2982a65c41229e7", func := "cupola/cupolalaw02.TestMore", spec := "testMore", unfollowed := true, recurses := true, apart := false }
def TestMoreSaid : Prop := testMoreRow.holds Try.pinned (OpenSpec.ofChange testMoreSpec)

/-- ITS FALSE NEIGHBOUR: 'it returns false'. Refute it at one input. -/
def testMoreWrong : ChangeSpec := { name := "testMore", fn := fun _ => fun
  | [d] => { results := [.lit (.bool false)], args := [d] }
  | _ => none }
def TestMoreWrongFalsely : Prop := testMoreRow.holds Try.pinned (OpenSpec.ofChange testMoreWrong)

/-- 'cupolalaw02.TestTurns': WHATEVER THE INPUT: true; the input reads as it did. -/
def testTurnsSpec : ChangeSpec := { name := "testTurns", fn := fun _ => fun
  | [d] => { results := [.lit (.bool true)], args := [d] }
  | _ => none }
def testTurnsRow : OpenClaim := { program := "ytamjcdfjkekdjaa", sum := "9e697b6548da5bbf2c7af3e3e24fa580581d4bdbac146879f2982a65c41229e7", func := "cupola/cupolalaw02.TestTurns", spec := "testTurns", unfollowed := true, recurses := true, apart := false }
def TestTurnsSaid : Prop := testTurnsRow.holds Try.pinned (OpenSpec.ofChange testTurnsSpec)

/-- ITS FALSE NEIGHBOUR: 'it returns false'. Refute it at one input. -/
def testTurnsWrong : ChangeSpec := { name := "testTurns", fn := fun _ => fun
  | [d] => { results := [.lit (.bool false)], args := [d] }
  | _ => none }
def TestTurnsWrongFalsely : Prop := testTurnsRow.holds Try.pinned (OpenSpec.ofChange testTurnsWrong)

/-- 'cupolalaw02.TestKeeps': WHATEVER THE INPUT: true; the input reads as it did. -/
def testKeepsSpec : ChangeSpec := { name := "testKeeps", fn := fun _ => fun
  | [d] => { results := [.lit (.bool true)], args := [d] }
  | _ => none }
def testKeepsRow : OpenClaim := { program := "ytamjcdfjkekdjaa", sum := "9e697b6548da5bbf2c7af3e3e24fa580581d4bdbac146879f2982a65c41229e7", func := "cupola/cupolalaw02.TestKeeps", spec := "testKeeps", unfollowed := true, recurses := true, apart := false }
def TestKeepsSaid : Prop := testKeepsRow.holds Try.pinned (OpenSpec.ofChange testKeepsSpec)

/-- ITS FALSE NEIGHBOUR: 'it returns false'. Refute it at one input. -/
def testKeepsWrong : ChangeSpec := { name := "testKeeps", fn := fun _ => fun
  | [d] => { results := [.lit (.bool false)], args := [d] }
  | _ => none }
def TestKeepsWrongFalsely : Prop := testKeepsRow.holds Try.pinned (OpenSpec.ofChange testKeepsWrong)

/-- 'cupolalaw02.TestAgain': WHATEVER THE INPUT: true; the input reads as it did. -/
def testAgainSpec : ChangeSpec := { name := "testAgain", fn := fun _ => fun
  | [d] => { results := [.lit (.bool true)], args := [d] }
  | _ => none }
def testAgainRow : OpenClaim := { program := "ytamjcdfjkekdjaa", sum := "9e697b6548da5bbf2c7af3e3e24fa580581d4bdbac146879f2982a65c41229e7", func := "cupola/cupolalaw02.TestAgain", spec := "testAgain", unfollowed := true, recurses := true, apart := false }
def TestAgainSaid : Prop := testAgainRow.holds Try.pinned (OpenSpec.ofChange testAgainSpec)

/-- ITS FALSE NEIGHBOUR: 'it returns false'. Refute it at one input. -/
def testAgainWrong : ChangeSpec := { name := "testAgain", fn := fun _ => fun
  | [d] => { results := [.lit (.bool false)], args := [d] }
  | _ => none }
def TestAgainWrongFalsely : Prop := testAgainRow.holds Try.pinned (OpenSpec.ofChange testAgainWrong)

/-- 'cupolalaw08.FlowRuns': WHATEVER THE INPUT: true; the input reads as it did. -/
def flowRunsSpec : ChangeSpec := { name := "flowRuns", fn := fun _ => fun
  | [d1, d2, d3, d4] => { results := [.lit (.bool true)], args := [d1, d2, d3, d4] }
  | _ => none }
def flowRunsRow : OpenClaim := { program := "ytamjcdfjkekdjaa", sum := "9e697b6548da5bbf2c7af3e3e24fa580581d4bdbac146879f2982a65c41229e7", func := "cupola/cupolalaw08.FlowRuns", spec := "flowRuns", unfollowed := true, recurses := true, apart := false }
def FlowRunsSaid : Prop := flowRunsRow.holds Try.pinned (OpenSpec.ofChange flowRunsSpec)

/-- ITS FALSE NEIGHBOUR: 'it returns false'. Refute it at one input. -/
def flowRunsWrong : ChangeSpec := { name := "flowRuns", fn := fun _ => fun
  | [d1, d2, d3, d4] => { results := [.lit (.bool false)], args := [d1, d2, d3, d4] }
  | _ => none }
def FlowRunsWrongFalsely : Prop := flowRunsRow.holds Try.pinned (OpenSpec.ofChange flowRunsWrong)

/-- 'cupolalaw08.FlowMore': WHATEVER THE INPUT: true; the input reads as it did. -/
def flowMoreSpec : ChangeSpec := { name := "flowMore", fn := fun _ => fun
  | [d1, d2, d3, d4] => { results := [.lit (.bool true)], args := [d1, d2, d3, d4] }
  | _ => none }
def flowMoreRow : OpenClaim := { program := "ytamjcdfjkekdjaa", sum := "9e697b6548da5bbf2c7af3e3e24fa580581d4bdbac146879f2982a65c41229e7", func := "cupola/cupolalaw08.FlowMore", spec := "flowMore", unfollowed := true, recurses := true, apart := false }
def FlowMoreSaid : Prop := flowMoreRow.holds Try.pinned (OpenSpec.ofChange flowMoreSpec)

/-- ITS FALSE NEIGHBOUR: 'it returns false'. Refute it at one input. -/
def flowMoreWrong : ChangeSpec := { name := "flowMore", fn := fun _ => fun
  | [d1, d2, d3, d4] => { results := [.lit (.bool false)], args := [d1, d2, d3, d4] }
  | _ => none }
def FlowMoreWrongFalsely : Prop := flowMoreRow.holds Try.pinned (OpenSpec.ofChange flowMoreWrong)

/-- 'cupolalaw08.FlowHangs': WHATEVER THE INPUT: true; the input reads as it did. -/
def flowHangsSpec : ChangeSpec := { name := "flowHangs", fn := fun _ => fun
  | [d1, d2, d3] => { results := [.lit (.bool true)], args := [d1, d2, d3] }
  | _ => none }
def flowHangsRow : OpenClaim := { program := "ytamjcdfjkekdjaa", sum := "9e697b6548da5bbf2c7af3e3e24fa580581d4bdbac146879f2982a65c41229e7", func := "cupola/cupolalaw08.FlowHangs", spec := "flowHangs", unfollowed := true, recurses := true, apart := false }
def FlowHangsSaid : Prop := flowHangsRow.holds Try.pinned (OpenSpec.ofChange flowHangsSpec)

/-- ITS FALSE NEIGHBOUR: 'it returns false'. Refute it at one input. -/
def flowHangsWrong : ChangeSpec := { name := "flowHangs", fn := fun _ => fun
  | [d1, d2, d3] => { results := [.lit (.bool false)], args := [d1, d2, d3] }
  | _ => none }
def FlowHangsWrongFalsely : Prop := flowHangsRow.holds Try.pinned (OpenSpec.ofChange flowHangsWrong)

/-- 'cupolalaw08.FlowVals': WHATEVER THE INPUT: true; the input reads as it did. -/
def flowValsSpec : ChangeSpec := { name := "flowVals", fn := fun _ => fun
  | [d1, d2, d3] => { results := [.lit (.bool true)], args := [d1, d2, d3] }
  | _ => none }
def flowValsRow : OpenClaim := { program := "ytamjcdfjkekdjaa", sum := "9e697b6548da5bbf2c7af3e3e24fa580581d4bdbac146879f2982a65c41229e7", func := "cupola/cupolalaw08.FlowVals", spec := "flowVals", unfollowed := true, recurses := true, apart := false }
def FlowValsSaid : Prop := flowValsRow.holds Try.pinned (OpenSpec.ofChange flowValsSpec)

/-- ITS FALSE NEIGHBOUR: 'it returns false'. Refute it at one input. -/
def flowValsWrong : ChangeSpec := { name := "flowVals", fn := fun _ => fun
  | [d1, d2, d3] => { results := [.lit (.bool false)], args := [d1, d2, d3] }
  | _ => none }
def FlowValsWrongFalsely : Prop := flowValsRow.holds Try.pinned (OpenSpec.ofChange flowValsWrong)

/-- 'cupolalaw08.FlowBare': WHATEVER THE INPUT: true; the input reads as it did. -/
def flowBareSpec : ChangeSpec := { name := "flowBare", fn := fun _ => fun
  | [d1, d2, d3] => { results := [.lit (.bool true)], args := [d1, d2, d3] }
  | _ => none }
def flowBareRow : OpenClaim := { program := "ytamjcdfjkekdjaa", sum := "9e697b6548da5bbf2c7af3e3e24fa580581d4bdbac146879f2982a65c41229e7", func := "cupola/cupolalaw08.FlowBare", spec := "flowBare", unfollowed := true, recurses := true, apart := false }
def FlowBareSaid : Prop := flowBareRow.holds Try.pinned (OpenSpec.ofChange flowBareSpec)

/-- ITS FALSE NEIGHBOUR: 'it returns false'. Refute it at one input. -/
def flowBareWrong : ChangeSpec := { name := "flowBare", fn := fun _ => fun
  | [d1, d2, d3] => { results := [.lit (.bool false)], args := [d1, d2, d3] }
  | _ => none }
def FlowBareWrongFalsely : Prop := flowBareRow.holds Try.pinned (OpenSpec.ofChange flowBareWrong)

/-- 'cupolalaw08.FlowBegins': WHATEVER THE INPUT: true; the input reads as it did. -/
def flowBeginsSpec : ChangeSpec := { name := "flowBegins", fn := fun _ => fun
  | [d1, d2, d3, d4] => { results := [.lit (.bool true)], args := [d1, d2, d3, d4] }
  | _ => none }
def flowBeginsRow : OpenClaim := { program := "ytamjcdfjkekdjaa", sum := "9e697b6548da5bbf2c7af3e3e24fa580581d4bdbac146879f2982a65c41229e7", func := "cupola/cupolalaw08.FlowBegins", spec := "flowBegins", unfollowed := true, recurses := true, apart := false }
def FlowBeginsSaid : Prop := flowBeginsRow.holds Try.pinned (OpenSpec.ofChange flowBeginsSpec)

/-- ITS FALSE NEIGHBOUR: 'it returns false'. Refute it at one input. -/
def flowBeginsWrong : ChangeSpec := { name := "flowBegins", fn := fun _ => fun
  | [d1, d2, d3, d4] => { results := [.lit (.bool false)], args := [d1, d2, d3, d4] }
  | _ => none }
def FlowBeginsWrongFalsely : Prop := flowBeginsRow.holds Try.pinned (OpenSpec.ofChange flowBeginsWrong)

/-- 'cupolalaw09.ValsTraces': WHATEVER THE INPUT: true; the input reads as it did. -/
def valsTracesSpec : ChangeSpec := { name := "valsTraces", fn := fun _ => fun
  | [d1, d2, d3] => { results := [.lit (.bool true)], args := [d1, d2, d3] }
  | _ => none }
def valsTracesRow : OpenClaim := { program := "ytamjcdfjkekdjaa", sum := "9e697b6548da5bbf2c7af3e3e24fa580581d4bdbac146879f2982a65c41229e7", func := "cupola/cupolalaw09.ValsTraces", spec := "valsTraces", unfollowed := true, recurses := true, apart := false }
def ValsTracesSaid : Prop := valsTracesRow.holds Try.pinned (OpenSpec.ofChange valsTracesSpec)

/-- ITS FALSE NEIGHBOUR: 'it returns false'. Refute it at one input. -/
def valsTracesWrong : ChangeSpec := { name := "valsTraces", fn := fun _ => fun
  | [d1, d2, d3] => { results := [.lit (.bool false)], args := [d1, d2, d3] }
  | _ => none }
def ValsTracesWrongFalsely : Prop := valsTracesRow.holds Try.pinned (OpenSpec.ofChange valsTracesWrong)

/-- 'cupolalaw09.ValsOf': WHATEVER THE INPUT: true; the input reads as it did. -/
def valsOfSpec : ChangeSpec := { name := "valsOf", fn := fun _ => fun
  | [d] => { results := [.lit (.bool true)], args := [d] }
  | _ => none }
def valsOfRow : OpenClaim := { program := "ytamjcdfjkekdjaa", sum := "9e697b6548da5bbf2c7af3e3e24fa580581d4bdbac146879f2982a65c41229e7", func := "cupola/cupolalaw09.ValsOf", spec := "valsOf", unfollowed := true, recurses := true, apart := false }
def ValsOfSaid : Prop := valsOfRow.holds Try.pinned (OpenSpec.ofChange valsOfSpec)

/-- ITS FALSE NEIGHBOUR: 'it returns false'. Refute it at one input. -/
def valsOfWrong : ChangeSpec := { name := "valsOf", fn := fun _ => fun
  | [d] => { results := [.lit (.bool false)], args := [d] }
  | _ => none }
def ValsOfWrongFalsely : Prop := valsOfRow.holds Try.pinned (OpenSpec.ofChange valsOfWrong)

/-- 'cupolalaw09.ValsMany': WHATEVER THE INPUT: true; the input reads as it did. -/
def valsManySpec : ChangeSpec := { name := "valsMany", fn := fun _ => fun
  | [d1, d2, d3] => { results := [.lit (.bool true)], args := [d1, d2, d3] }
  | _ => none }
def valsManyRow : OpenClaim := { program := "ytamjcdfjkekdjaa", sum := "9e697b6548da5bbf2c7af3e3e24fa580581d4bdbac146879f2982a65c41229e7", func := "cupola/cupolalaw09.ValsMany", spec := "valsMany", unfollowed := true, recurses := true, apart := false }
def ValsManySaid : Prop := valsManyRow.holds Try.pinned (OpenSpec.ofChange valsManySpec)

/-- ITS FALSE NEIGHBOUR: 'it returns false'. Refute it at one input. -/
def valsManyWrong : ChangeSpec := { name := "valsMany", fn := fun _ => fun
  | [d1, d2, d3] => { results := [.lit (.bool false)], args := [d1, d2, d3] }
  | _ => none }
def ValsManyWrongFalsely : Prop := valsManyRow.holds Try.pinned (OpenSpec.ofChange valsManyWrong)

/-- 'cupolalaw09.ValsReads': WHATEVER THE INPUT: true; the input reads as it did. -/
def valsReadsSpec : ChangeSpec := { name := "valsReads", fn := fun _ => fun
  | [d1, d2] => { results := [.lit (.bool true)], args := [d1, d2] }
  | _ => none }
def valsReadsRow : OpenClaim := { program := "ytamjcdfjkekdjaa", sum := "9e697b6548da5bbf2c7af3e3e24fa580581d4bdbac146879f2982a65c41229e7", func := "cupola/cupolalaw09.ValsReads", spec := "valsReads", unfollowed := true, recurses := true, apart := false }
def ValsReadsSaid : Prop := valsReadsRow.holds Try.pinned (OpenSpec.ofChange valsReadsSpec)

/-- ITS FALSE NEIGHBOUR: 'it returns false'. Refute it at one input. -/
def valsReadsWrong : ChangeSpec := { name := "valsReads", fn := fun _ => fun
  | [d1, d2] => { results := [.lit (.bool false)], args := [d1, d2] }
  | _ => none }
def ValsReadsWrongFalsely : Prop := valsReadsRow.holds Try.pinned (OpenSpec.ofChange valsReadsWrong)

/-- 'cupolalaw09.ValsClosed': WHATEVER THE INPUT: true; the input reads as it did. -/
def valsClosedSpec : ChangeSpec := { name := "valsClosed", fn := fun _ => fun
  | [d] => { results := [.lit (.bool true)], args := [d] }
  | _ => none }
def valsClosedRow : OpenClaim := { program := "ytamjcdfjkekdjaa", sum := "9e697b6548da5bbf2c7af3e3e24fa580581d4bdbac146879f2982a65c41229e7", func := "cupola/cupolalaw09.ValsClosed", spec := "valsClosed", unfollowed := true, recurses := true, apart := false }
def ValsClosedSaid : Prop := valsClosedRow.holds Try.pinned (OpenSpec.ofChange valsClosedSpec)

/-- ITS FALSE NEIGHBOUR: 'it returns false'. Refute it at one input. -/
def valsClosedWrong : ChangeSpec := { name := "valsClosed", fn := fun _ => fun
  | [d] => { results := [.lit (.bool false)], args := [d] }
  | _ => none }
def ValsClosedWrongFalsely : Prop := valsClosedRow.holds Try.pinned (OpenSpec.ofChange valsClosedWrong)

/-- 'cupolalaw09.ValsQuiet': WHATEVER THE INPUT: true; the input reads as it did. -/
def valsQuietSpec : ChangeSpec := { name := "valsQuiet", fn := fun _ => fun
  | [d] => { results := [.lit (.bool true)], args := [d] }
  | _ => none }
def valsQuietRow : OpenClaim := { program := "ytamjcdfjkekdjaa", sum := "9e697b6548da5bbf2c7af3e3e24fa580581d4bdbac146879f2982a65c41229e7", func := "cupola/cupolalaw09.ValsQuiet", spec := "valsQuiet", unfollowed := true, recurses := true, apart := false }
def ValsQuietSaid : Prop := valsQuietRow.holds Try.pinned (OpenSpec.ofChange valsQuietSpec)

/-- ITS FALSE NEIGHBOUR: 'it returns false'. Refute it at one input. -/
def valsQuietWrong : ChangeSpec := { name := "valsQuiet", fn := fun _ => fun
  | [d] => { results := [.lit (.bool false)], args := [d] }
  | _ => none }
def ValsQuietWrongFalsely : Prop := valsQuietRow.holds Try.pinned (OpenSpec.ofChange valsQuietWrong)

/-- 'cupolalaw10.ExecEnds': WHATEVER THE INPUT: true; the input reads as it did. -/
def execEndsSpec : ChangeSpec := { name := "execEnds", fn := fun _ => fun
  | [d1, d2] => { results := [.lit (.bool true)], args := [d1, d2] }
  | _ => none }
def execEndsRow : OpenClaim := { program := "ytamjcdfjkekdjaa", sum := "9e697b6548da5bbf2c7af3e3e24fa580581d4bdbac146879f2982a65c41229e7", func := "cupola/cupolalaw10.ExecEnds", spec := "execEnds", unfollowed := true, recurses := true, apart := false }
def ExecEndsSaid : Prop := execEndsRow.holds Try.pinned (OpenSpec.ofChange execEndsSpec)

/-- ITS FALSE NEIGHBOUR: 'it returns false'. Refute it at one input. -/
def execEndsWrong : ChangeSpec := { name := "execEnds", fn := fun _ => fun
  | [d1, d2] => { results := [.lit (.bool false)], args := [d1, d2] }
  | _ => none }
def ExecEndsWrongFalsely : Prop := execEndsRow.holds Try.pinned (OpenSpec.ofChange execEndsWrong)

/-- 'cupolalaw10.ExecMany': WHATEVER THE INPUT: true; the input reads as it did. -/
def execManySpec : ChangeSpec := { name := "execMany", fn := fun _ => fun
  | [d] => { results := [.lit (.bool true)], args := [d] }
  | _ => none }
def execManyRow : OpenClaim := { program := "ytamjcdfjkekdjaa", sum := "9e697b6548da5bbf2c7af3e3e24fa580581d4bdbac146879f2982a65c41229e7", func := "cupola/cupolalaw10.ExecMany", spec := "execMany", unfollowed := true, recurses := true, apart := false }
def ExecManySaid : Prop := execManyRow.holds Try.pinned (OpenSpec.ofChange execManySpec)

/-- ITS FALSE NEIGHBOUR: 'it returns false'. Refute it at one input. -/
def execManyWrong : ChangeSpec := { name := "execMany", fn := fun _ => fun
  | [d] => { results := [.lit (.bool false)], args := [d] }
  | _ => none }
def ExecManyWrongFalsely : Prop := execManyRow.holds Try.pinned (OpenSpec.ofChange execManyWrong)

/-- 'cupolalaw10.ExecShape': WHATEVER THE INPUT: true; the input reads as it did. -/
def execShapeSpec : ChangeSpec := { name := "execShape", fn := fun _ => fun
  | [d] => { results := [.lit (.bool true)], args := [d] }
  | _ => none }
def execShapeRow : OpenClaim := { program := "ytamjcdfjkekdjaa", sum := "9e697b6548da5bbf2c7af3e3e24fa580581d4bdbac146879f2982a65c41229e7", func := "cupola/cupolalaw10.ExecShape", spec := "execShape", unfollowed := true, recurses := true, apart := false }
def ExecShapeSaid : Prop := execShapeRow.holds Try.pinned (OpenSpec.ofChange execShapeSpec)

/-- ITS FALSE NEIGHBOUR: 'it returns false'. Refute it at one input. -/
def execShapeWrong : ChangeSpec := { name := "execShape", fn := fun _ => fun
  | [d] => { results := [.lit (.bool false)], args := [d] }
  | _ => none }
def ExecShapeWrongFalsely : Prop := execShapeRow.holds Try.pinned (OpenSpec.ofChange execShapeWrong)

/- THE SECOND FORM. 'bulk': how many values and letters a reading holds, each counted each time it is reached (what is shared counts as often as it is met; a slice's spare places count too). A statement '..UptoSaid' is the law's where the arguments, and the package variables that the reading takes, are together of bulk at most 1048576: NARROWER than '..Said'. Prove '..Said' where nothing that the law and all that it calls make is longer than what came in: it says more and counts as full. Else prove '..UptoSaid'. A law counts once. -/
mutual
def uptoBulk {H : Type} : DataW H → Nat
  | .lit (.string bytes) => bytes.length + 1
  | .lit _ => 1
  | .nil => 1
  | .ptr d => uptoBulk d + 1
  | .slice elems spare => uptoBulkAll elems + uptoBulkAll spare + 1
  | .agg parts => uptoBulkAll parts + 1
  | .iface _ d => uptoBulk d + 1
  | .map entries => uptoBulkEntries entries + 1
  | .held _ => 1
def uptoBulkAll {H : Type} : List (DataW H) → Nat
  | [] => 0
  | d :: r => uptoBulk d + uptoBulkAll r
def uptoBulkEntries {H : Type} : List (Lit × DataW H) → Nat
  | [] => 0
  | x :: r => uptoBulkEntry x + uptoBulkEntries r
def uptoBulkEntry {H : Type} : Lit × DataW H → Nat
  | (.string bytes, d) => bytes.length + uptoBulk d + 1
  | (_, d) => uptoBulk d + 1
 end
def uptoSmall : (H : Type) → List (DataW H) → Bool := fun _ ds => decide (uptoBulkAll ds ≤ 1048576)
def OpenSpec.upto (s : _root_.Go.ChangeSpec) : _root_.Go.OpenSpec := { _root_.Go.OpenSpec.ofChange s with cond := some uptoSmall }

/-- 'cupolalaw07.RegsPlace', WHERE WHAT IT READS IS OF BULK AT MOST 1048576: true; the input reads as it did. -/
def regsPlaceUptoRow : OpenClaim := { program := "ytamjcdfjkekdjaa", sum := "9e697b6548da5bbf2c7af3e3e24fa580581d4bdbac146879f2982a65c41229e7", func := "cupola/cupolalaw07.RegsPlace", spec := "regsPlace", apart := false, narrowed := true }
def RegsPlaceUptoSaid : Prop := regsPlaceUptoRow.holds Try.pinned (OpenSpec.upto regsPlaceSpec)

/-- 'cupolalaw07.RegsSets', WHERE WHAT IT READS IS OF BULK AT MOST 1048576: true; the input reads as it did. -/
def regsSetsUptoRow : OpenClaim := { program := "ytamjcdfjkekdjaa", sum := "9e697b6548da5bbf2c7af3e3e24fa580581d4bdbac146879f2982a65c41229e7", func := "cupola/cupolalaw07.RegsSets", spec := "regsSets", apart := false, narrowed := true }
def RegsSetsUptoSaid : Prop := regsSetsUptoRow.holds Try.pinned (OpenSpec.upto regsSetsSpec)

/-- 'cupolalaw07.RegsHang', WHERE WHAT IT READS IS OF BULK AT MOST 1048576: true; the input reads as it did. -/
def regsHangUptoRow : OpenClaim := { program := "ytamjcdfjkekdjaa", sum := "9e697b6548da5bbf2c7af3e3e24fa580581d4bdbac146879f2982a65c41229e7", func := "cupola/cupolalaw07.RegsHang", spec := "regsHang", unfollowed := true, recurses := true, apart := false, narrowed := true }
def RegsHangUptoSaid : Prop := regsHangUptoRow.holds Try.pinned (OpenSpec.upto regsHangSpec)

/-- 'cupolalaw07.RegsSwap', WHERE WHAT IT READS IS OF BULK AT MOST 1048576: true; the input reads as it did. -/
def regsSwapUptoRow : OpenClaim := { program := "ytamjcdfjkekdjaa", sum := "9e697b6548da5bbf2c7af3e3e24fa580581d4bdbac146879f2982a65c41229e7", func := "cupola/cupolalaw07.RegsSwap", spec := "regsSwap", unfollowed := true, recurses := true, apart := false, narrowed := true }
def RegsSwapUptoSaid : Prop := regsSwapUptoRow.holds Try.pinned (OpenSpec.upto regsSwapSpec)

/-- 'cupolalaw01.InsTells', WHERE WHAT IT READS IS OF BULK AT MOST 1048576: true; the input reads as it did. -/
def insTellsUptoRow : OpenClaim := { program := "ytamjcdfjkekdjaa", sum := "9e697b6548da5bbf2c7af3e3e24fa580581d4bdbac146879f2982a65c41229e7", func := "cupola/cupolalaw01.InsTells", spec := "insTells", apart := false, narrowed := true }
def InsTellsUptoSaid : Prop := insTellsUptoRow.holds Try.pinned (OpenSpec.upto insTellsSpec)

/-- 'cupolalaw01.InsRegs', WHERE WHAT IT READS IS OF BULK AT MOST 1048576: true; the input reads as it did. -/
def insRegsUptoRow : OpenClaim := { program := "ytamjcdfjkekdjaa", sum := "9e697b6548da5bbf2c7af3e3e24fa580581d4bdbac146879f2982a65c41229e7", func := "cupola/cupolalaw01.InsRegs", spec := "insRegs", apart := false, narrowed := true }
def InsRegsUptoSaid : Prop := insRegsUptoRow.holds Try.pinned (OpenSpec.upto insRegsSpec)

/-- 'cupolalaw01.InsWider', WHERE WHAT IT READS IS OF BULK AT MOST 1048576: true; the input reads as it did. -/
def insWiderUptoRow : OpenClaim := { program := "ytamjcdfjkekdjaa", sum := "9e697b6548da5bbf2c7af3e3e24fa580581d4bdbac146879f2982a65c41229e7", func := "cupola/cupolalaw01.InsWider", spec := "insWider", apart := false, narrowed := true }
def InsWiderUptoSaid : Prop := insWiderUptoRow.holds Try.pinned (OpenSpec.upto insWiderSpec)

/-- 'cupolalaw01.InsTurned', WHERE WHAT IT READS IS OF BULK AT MOST 1048576: true; the input reads as it did. -/
def insTurnedUptoRow : OpenClaim := { program := "ytamjcdfjkekdjaa", sum := "9e697b6548da5bbf2c7af3e3e24fa580581d4bdbac146879f2982a65c41229e7", func := "cupola/cupolalaw01.InsTurned", spec := "insTurned", apart := false, narrowed := true }
def InsTurnedUptoSaid : Prop := insTurnedUptoRow.holds Try.pinned (OpenSpec.upto insTurnedSpec)

/-- 'cupolalaw01.InsNames', WHERE WHAT IT READS IS OF BULK AT MOST 1048576: true; the input reads as it did. -/
def insNamesUptoRow : OpenClaim := { program := "ytamjcdfjkekdjaa", sum := "9e697b6548da5bbf2c7af3e3e24fa580581d4bdbac146879f2982a65c41229e7", func := "cupola/cupolalaw01.InsNames", spec := "insNames", apart := false, narrowed := true }
def InsNamesUptoSaid : Prop := insNamesUptoRow.holds Try.pinned (OpenSpec.upto insNamesSpec)

/-- 'cupolalaw01.InsLoads', WHERE WHAT IT READS IS OF BULK AT MOST 1048576: true; the input reads as it did. -/
def insLoadsUptoRow : OpenClaim := { program := "ytamjcdfjkekdjaa", sum := "9e697b6548da5bbf2c7af3e3e24fa580581d4bdbac146879f2982a65c41229e7", func := "cupola/cupolalaw01.InsLoads", spec := "insLoads", apart := false, narrowed := true }
def InsLoadsUptoSaid : Prop := insLoadsUptoRow.holds Try.pinned (OpenSpec.upto insLoadsSpec)

/-- 'cupolalaw02.TestChecks', WHERE WHAT IT READS IS OF BULK AT MOST 1048576: true; the input reads as it did. -/
def testChecksUptoRow : OpenClaim := { program := "ytamjcdfjkekdjaa", sum := "9e697b6548da5bbf2c7af3e3e24fa580581d4bdbac146879f2982a65c41229e7", func := "cupola/cupolalaw02.TestChecks", spec := "testChecks", unfollowed := true, recurses := true, apart := false, narrowed := true }
def TestChecksUptoSaid : Prop := testChecksUptoRow.holds Try.pinned (OpenSpec.upto testChecksSpec)

/-- 'cupolalaw02.TestCounts', WHERE WHAT IT READS IS OF BULK AT MOST 1048576: true; the input reads as it did. -/
def testCountsUptoRow : OpenClaim := { program := "ytamjcdfjkekdjaa", sum := "9e697b6548da5bbf2c7af3e3e24fa580581d4bdbac146879f2982a65c41229e7", func := "cupola/cupolalaw02.TestCounts", spec := "testCounts", unfollowed := true, recurses := true, apart := false, narrowed := true }
def TestCountsUptoSaid : Prop := testCountsUptoRow.holds Try.pinned (OpenSpec.upto testCountsSpec)

/-- 'cupolalaw02.TestMore', WHERE WHAT IT READS IS OF BULK AT MOST 1048576: true; the input reads as it did. -/
def testMoreUptoRow : OpenClaim := { program := "ytamjcdfjkekdjaa", sum := "9e697b6548da5bbf2c7af3e3e24fa580581d4bdbac146879f2982a65c41229e7", func := "cupola/cupolalaw02.TestMore", spec := "testMore", unfollowed := true, recurses := true, apart := false, narrowed := true }
def TestMoreUptoSaid : Prop := testMoreUptoRow.holds Try.pinned (OpenSpec.upto testMoreSpec)

/-- 'cupolalaw02.TestTurns', WHERE WHAT IT READS IS OF BULK AT MOST 1048576: true; the input reads as it did. -/
def testTurnsUptoRow : OpenClaim := { program := "ytamjcdfjkekdjaa", sum := "9e697b6548da5bbf2c7af3e3e24fa580581d4bdbac146879f2982a65c41229e7", func := "cupola/cupolalaw02.TestTurns", spec := "testTurns", unfollowed := true, recurses := true, apart := false, narrowed := true }
def TestTurnsUptoSaid : Prop := testTurnsUptoRow.holds Try.pinned (OpenSpec.upto testTurnsSpec)

/-- 'cupolalaw02.TestKeeps', WHERE WHAT IT READS IS OF BULK AT MOST 1048576: true; the input reads as it did. -/
def testKeepsUptoRow : OpenClaim := { program := "ytamjcdfjkekdjaa", sum := "9e697b6548da5bbf2c7af3e3e24fa580581d4bdbac146879f2982a65c41229e7", func := "cupola/cupolalaw02.TestKeeps", spec := "testKeeps", unfollowed := true, recurses := true, apart := false, narrowed := true }
def TestKeepsUptoSaid : Prop := testKeepsUptoRow.holds Try.pinned (OpenSpec.upto testKeepsSpec)

/-- 'cupolalaw02.TestAgain', WHERE WHAT IT READS IS OF BULK AT MOST 1048576: true; the input reads as it did. -/
def testAgainUptoRow : OpenClaim := { program := "ytamjcdfjkekdjaa", sum := "9e697b6548da5bbf2c7af3e3e24fa580581d4bdbac146879f2982a65c41229e7", func := "cupola/cupolalaw02.TestAgain", spec := "testAgain", unfollowed := true, recurses := true, apart := false, narrowed := true }
def TestAgainUptoSaid : Prop := testAgainUptoRow.holds Try.pinned (OpenSpec.upto testAgainSpec)

/-- 'cupolalaw08.FlowRuns', WHERE WHAT IT READS IS OF BULK AT MOST 1048576: true; the input reads as it did. -/
def flowRunsUptoRow : OpenClaim := { program := "ytamjcdfjkekdjaa", sum := "9e697b6548da5bbf2c7af3e3e24fa580581d4bdbac146879f2982a65c41229e7", func := "cupola/cupolalaw08.FlowRuns", spec := "flowRuns", unfollowed := true, recurses := true, apart := false, narrowed := true }
def FlowRunsUptoSaid : Prop := flowRunsUptoRow.holds Try.pinned (OpenSpec.upto flowRunsSpec)

/-- 'cupolalaw08.FlowMore', WHERE WHAT IT READS IS OF BULK AT MOST 1048576: true; the input reads as it did. -/
def flowMoreUptoRow : OpenClaim := { program := "ytamjcdfjkekdjaa", sum := "9e697b6548da5bbf2c7af3e3e24fa580581d4bdbac146879f2982a65c41229e7", func := "cupola/cupolalaw08.FlowMore", spec := "flowMore", unfollowed := true, recurses := true, apart := false, narrowed := true }
def FlowMoreUptoSaid : Prop := flowMoreUptoRow.holds Try.pinned (OpenSpec.upto flowMoreSpec)

/-- 'cupolalaw08.FlowHangs', WHERE WHAT IT READS IS OF BULK AT MOST 1048576: true; the input reads as it did. -/
def flowHangsUptoRow : OpenClaim := { program := "ytamjcdfjkekdjaa", sum := "9e697b6548da5bbf2c7af3e3e24fa580581d4bdbac146879f2982a65c41229e7", func := "cupola/cupolalaw08.FlowHangs", spec := "flowHangs", unfollowed := true, recurses := true, apart := false, narrowed := true }
def FlowHangsUptoSaid : Prop := flowHangsUptoRow.holds Try.pinned (OpenSpec.upto flowHangsSpec)

/-- 'cupolalaw08.FlowVals', WHERE WHAT IT READS IS OF BULK AT MOST 1048576: true; the input reads as it did. -/
def flowValsUptoRow : OpenClaim := { program := "ytamjcdfjkekdjaa", sum := "9e697b6548da5bbf2c7af3e3e24fa580581d4bdbac146879f2982a65c41229e7", func := "cupola/cupolalaw08.FlowVals", spec := "flowVals", unfollowed := true, recurses := true, apart := false, narrowed := true }
def FlowValsUptoSaid : Prop := flowValsUptoRow.holds Try.pinned (OpenSpec.upto flowValsSpec)

/-- 'cupolalaw08.FlowBare', WHERE WHAT IT READS IS OF BULK AT MOST 1048576: true; the input reads as it did. -/
def flowBareUptoRow : OpenClaim := { program := "ytamjcdfjkekdjaa", sum := "9e697b6548da5bbf2c7af3e3e24fa580581d4bdbac146879f2982a65c41229e7", func := "cupola/cupolalaw08.FlowBare", spec := "flowBare", unfollowed := true, recurses := true, apart := false, narrowed := true }
def FlowBareUptoSaid : Prop := flowBareUptoRow.holds Try.pinned (OpenSpec.upto flowBareSpec)

/-- 'cupolalaw08.FlowBegins', WHERE WHAT IT READS IS OF BULK AT MOST 1048576: true; the input reads as it did. -/
def flowBeginsUptoRow : OpenClaim := { program := "ytamjcdfjkekdjaa", sum := "9e697b6548da5bbf2c7af3e3e24fa580581d4bdbac146879f2982a65c41229e7", func := "cupola/cupolalaw08.FlowBegins", spec := "flowBegins", unfollowed := true, recurses := true, apart := false, narrowed := true }
def FlowBeginsUptoSaid : Prop := flowBeginsUptoRow.holds Try.pinned (OpenSpec.upto flowBeginsSpec)

/-- 'cupolalaw09.ValsTraces', WHERE WHAT IT READS IS OF BULK AT MOST 1048576: true; the input reads as it did. -/
def valsTracesUptoRow : OpenClaim := { program := "ytamjcdfjkekdjaa", sum := "9e697b6548da5bbf2c7af3e3e24fa580581d4bdbac146879f2982a65c41229e7", func := "cupola/cupolalaw09.ValsTraces", spec := "valsTraces", unfollowed := true, recurses := true, apart := false, narrowed := true }
def ValsTracesUptoSaid : Prop := valsTracesUptoRow.holds Try.pinned (OpenSpec.upto valsTracesSpec)

/-- 'cupolalaw09.ValsOf', WHERE WHAT IT READS IS OF BULK AT MOST 1048576: true; the input reads as it did. -/
def valsOfUptoRow : OpenClaim := { program := "ytamjcdfjkekdjaa", sum := "9e697b6548da5bbf2c7af3e3e24fa580581d4bdbac146879f2982a65c41229e7", func := "cupola/cupolalaw09.ValsOf", spec := "valsOf", unfollowed := true, recurses := true, apart := false, narrowed := true }
def ValsOfUptoSaid : Prop := valsOfUptoRow.holds Try.pinned (OpenSpec.upto valsOfSpec)

/-- 'cupolalaw09.ValsMany', WHERE WHAT IT READS IS OF BULK AT MOST 1048576: true; the input reads as it did. -/
def valsManyUptoRow : OpenClaim := { program := "ytamjcdfjkekdjaa", sum := "9e697b6548da5bbf2c7af3e3e24fa580581d4bdbac146879f2982a65c41229e7", func := "cupola/cupolalaw09.ValsMany", spec := "valsMany", unfollowed := true, recurses := true, apart := false, narrowed := true }
def ValsManyUptoSaid : Prop := valsManyUptoRow.holds Try.pinned (OpenSpec.upto valsManySpec)

/-- 'cupolalaw09.ValsReads', WHERE WHAT IT READS IS OF BULK AT MOST 1048576: true; the input reads as it did. -/
def valsReadsUptoRow : OpenClaim := { program := "ytamjcdfjkekdjaa", sum := "9e697b6548da5bbf2c7af3e3e24fa580581d4bdbac146879f2982a65c41229e7", func := "cupola/cupolalaw09.ValsReads", spec := "valsReads", unfollowed := true, recurses := true, apart := false, narrowed := true }
def ValsReadsUptoSaid : Prop := valsReadsUptoRow.holds Try.pinned (OpenSpec.upto valsReadsSpec)

/-- 'cupolalaw09.ValsClosed', WHERE WHAT IT READS IS OF BULK AT MOST 1048576: true; the input reads as it did. -/
def valsClosedUptoRow : OpenClaim := { program := "ytamjcdfjkekdjaa", sum := "9e697b6548da5bbf2c7af3e3e24fa580581d4bdbac146879f2982a65c41229e7", func := "cupola/cupolalaw09.ValsClosed", spec := "valsClosed", unfollowed := true, recurses := true, apart := false, narrowed := true }
def ValsClosedUptoSaid : Prop := valsClosedUptoRow.holds Try.pinned (OpenSpec.upto valsClosedSpec)

/-- 'cupolalaw09.ValsQuiet', WHERE WHAT IT READS IS OF BULK AT MOST 1048576: true; the input reads as it did. -/
def valsQuietUptoRow : OpenClaim := { program := "ytamjcdfjkekdjaa", sum := "9e697b6548da5bbf2c7af3e3e24fa580581d4bdbac146879f2982a65c41229e7", func := "cupola/cupolalaw09.ValsQuiet", spec := "valsQuiet", unfollowed := true, recurses := true, apart := false, narrowed := true }
def ValsQuietUptoSaid : Prop := valsQuietUptoRow.holds Try.pinned (OpenSpec.upto valsQuietSpec)

/-- 'cupolalaw10.ExecEnds', WHERE WHAT IT READS IS OF BULK AT MOST 1048576: true; the input reads as it did. -/
def execEndsUptoRow : OpenClaim := { program := "ytamjcdfjkekdjaa", sum := "9e697b6548da5bbf2c7af3e3e24fa580581d4bdbac146879f2982a65c41229e7", func := "cupola/cupolalaw10.ExecEnds", spec := "execEnds", unfollowed := true, recurses := true, apart := false, narrowed := true }
def ExecEndsUptoSaid : Prop := execEndsUptoRow.holds Try.pinned (OpenSpec.upto execEndsSpec)

/-- 'cupolalaw10.ExecMany', WHERE WHAT IT READS IS OF BULK AT MOST 1048576: true; the input reads as it did. -/
def execManyUptoRow : OpenClaim := { program := "ytamjcdfjkekdjaa", sum := "9e697b6548da5bbf2c7af3e3e24fa580581d4bdbac146879f2982a65c41229e7", func := "cupola/cupolalaw10.ExecMany", spec := "execMany", unfollowed := true, recurses := true, apart := false, narrowed := true }
def ExecManyUptoSaid : Prop := execManyUptoRow.holds Try.pinned (OpenSpec.upto execManySpec)

/-- 'cupolalaw10.ExecShape', WHERE WHAT IT READS IS OF BULK AT MOST 1048576: true; the input reads as it did. -/
def execShapeUptoRow : OpenClaim := { program := "ytamjcdfjkekdjaa", sum := "9e697b6548da5bbf2c7af3e3e24fa580581d4bdbac146879f2982a65c41229e7", func := "cupola/cupolalaw10.ExecShape", spec := "execShape", unfollowed := true, recurses := true, apart := false, narrowed := true }
def ExecShapeUptoSaid : Prop := execShapeUptoRow.holds Try.pinned (OpenSpec.upto execShapeSpec)

end Rows
end Go.Proofs.Ytamjcdfjkekdjaa
