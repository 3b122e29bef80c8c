/-
  No cell of these rows narrows 'for every input' (looked for: loops, veiled, ifaces, maps, wideKeys, modest, calm, conditions, laid).
  DERIVED. THE GIVEN ROWS OF THIS SEAT. 28 by the template 'for every input the law returns true; each argument reads behind the call as it read before'; 0 by the template 'total and deterministic' (their statements: YtbkjplomoegbdaaTotals.lean).
  GIVEN WITH THE SEED: the statements are not yours to turn. If you find one false, say at which input.
  Laid BY PROGRAM, IN A SANDBOX (cutbox-rows.mjs): the forced cells as the released guide's own fill.sh prints them over the translation 1872e02a6bc1a253… (all of the seat's roots in one cut). By AI agents, Wed Nov 11 2026. No macro, syntax, notation, axiom, sorry.
-/
import Derived.Test.YtbkjplomoegbdaaChecked
import GoSem.Claim
import GoSem.ClaimJoined
import GoSem.ClaimMapViews
import Derived.JoinedTies
import Derived.KernelRfl
namespace Go.Proofs.Ytbkjplomoegbdaa
/- THE CELL 'sum', in the pinned program and in every row, IS THE sha256 OF THE DUMP (.gsa) THAT YtbkjplomoegbdaaProg.lean LOADS. Nothing in Lean hashes anything: it is a label: what it is worth is what the hold of that sum in a sandbox is worth. -/
noncomputable def Try.pinned : Pinned := { name := "ytbkjplomoegbdaa", sum := "1872e02a6bc1a25322a890406fe855b64900659c16a40614fe43512cddd77fda", checked := Try.checked }
namespace Rows
def none {H : Type} : Left H := { results := [], args := [] }

/-- 'railplanlaw16.SimplexCutSplits': WHATEVER THE INPUT: true; the input reads as it did. -/
def simplexCutSplitsSpec : ChangeSpec := { name := "simplexCutSplits", fn := fun _ => fun
  | [d1, d2] => { results := [.lit (.bool true)], args := [d1, d2] }
  | _ => none }
def simplexCutSplitsRow : OpenClaim := { program := "ytbkjplomoegbdaa", sum := "1872e02a6bc1a25322a890406fe855b64900659c16a40614fe43512cddd77fda", func := "railplan/railplanlaw16.SimplexCutSplits", spec := "simplexCutSplits", unfollowed := true, recurses := true, apart := false }
def SimplexCutSplitsSaid : Prop := simplexCutSplitsRow.holds Try.pinned (OpenSpec.ofChange simplexCutSplitsSpec)

/-- ITS FALSE NEIGHBOUR: 'it returns false'. Refute it at one input. -/
def simplexCutSplitsWrong : ChangeSpec := { name := "simplexCutSplits", fn := fun _ => fun
  | [d1, d2] => { results := [.lit (.bool false)], args := [d1, d2] }
  | _ => none }
def SimplexCutSplitsWrongFalsely : Prop := simplexCutSplitsRow.holds Try.pinned (OpenSpec.ofChange simplexCutSplitsWrong)

/-- 'railplanlaw12.CyclesSums': WHATEVER THE INPUT: true; the input reads as it did. -/
def cyclesSumsSpec : ChangeSpec := { name := "cyclesSums", fn := fun _ => fun
  | [d1, d2, d3, d4, d5, d6] => { results := [.lit (.bool true)], args := [d1, d2, d3, d4, d5, d6] }
  | _ => none }
def cyclesSumsRow : OpenClaim := { program := "ytbkjplomoegbdaa", sum := "1872e02a6bc1a25322a890406fe855b64900659c16a40614fe43512cddd77fda", func := "railplan/railplanlaw12.CyclesSums", spec := "cyclesSums", unfollowed := true, recurses := true, apart := false }
def CyclesSumsSaid : Prop := cyclesSumsRow.holds Try.pinned (OpenSpec.ofChange cyclesSumsSpec)

/-- ITS FALSE NEIGHBOUR: 'it returns false'. Refute it at one input. -/
def cyclesSumsWrong : ChangeSpec := { name := "cyclesSums", fn := fun _ => fun
  | [d1, d2, d3, d4, d5, d6] => { results := [.lit (.bool false)], args := [d1, d2, d3, d4, d5, d6] }
  | _ => none }
def CyclesSumsWrongFalsely : Prop := cyclesSumsRow.holds Try.pinned (OpenSpec.ofChange cyclesSumsWrong)

/-- 'railplanlaw12.CyclesPeriodicity': WHATEVER THE INPUT: true; the input reads as it did. -/
def cyclesPeriodicitySpec : ChangeSpec := { name := "cyclesPeriodicity", fn := fun _ => fun
  | [d1, d2, d3] => { results := [.lit (.bool true)], args := [d1, d2, d3] }
  | _ => none }
def cyclesPeriodicityRow : OpenClaim := { program := "ytbkjplomoegbdaa", sum := "1872e02a6bc1a25322a890406fe855b64900659c16a40614fe43512cddd77fda", func := "railplan/railplanlaw12.CyclesPeriodicity", spec := "cyclesPeriodicity", unfollowed := true, recurses := true, apart := false }
def CyclesPeriodicitySaid : Prop := cyclesPeriodicityRow.holds Try.pinned (OpenSpec.ofChange cyclesPeriodicitySpec)

/-- ITS FALSE NEIGHBOUR: 'it returns false'. Refute it at one input. -/
def cyclesPeriodicityWrong : ChangeSpec := { name := "cyclesPeriodicity", fn := fun _ => fun
  | [d1, d2, d3] => { results := [.lit (.bool false)], args := [d1, d2, d3] }
  | _ => none }
def CyclesPeriodicityWrongFalsely : Prop := cyclesPeriodicityRow.holds Try.pinned (OpenSpec.ofChange cyclesPeriodicityWrong)

/-- 'railplanlaw12.CyclesClosedValues': WHATEVER THE INPUT: true; the input reads as it did. -/
def cyclesClosedValuesSpec : ChangeSpec := { name := "cyclesClosedValues", fn := fun _ => fun
  | [d1, d2] => { results := [.lit (.bool true)], args := [d1, d2] }
  | _ => none }
def cyclesClosedValuesRow : OpenClaim := { program := "ytbkjplomoegbdaa", sum := "1872e02a6bc1a25322a890406fe855b64900659c16a40614fe43512cddd77fda", func := "railplan/railplanlaw12.CyclesClosedValues", spec := "cyclesClosedValues", unfollowed := true, recurses := true, apart := false }
def CyclesClosedValuesSaid : Prop := cyclesClosedValuesRow.holds Try.pinned (OpenSpec.ofChange cyclesClosedValuesSpec)

/-- ITS FALSE NEIGHBOUR: 'it returns false'. Refute it at one input. -/
def cyclesClosedValuesWrong : ChangeSpec := { name := "cyclesClosedValues", fn := fun _ => fun
  | [d1, d2] => { results := [.lit (.bool false)], args := [d1, d2] }
  | _ => none }
def CyclesClosedValuesWrongFalsely : Prop := cyclesClosedValuesRow.holds Try.pinned (OpenSpec.ofChange cyclesClosedValuesWrong)

/-- 'railplanlaw16.SimplexExamples': WHATEVER THE INPUT: true; the input reads as it did. -/
def simplexExamplesSpec : ChangeSpec := { name := "simplexExamples", fn := fun _ => fun
  | [] => { results := [.lit (.bool true)], args := [] }
  | _ => none }
def simplexExamplesRow : OpenClaim := { program := "ytbkjplomoegbdaa", sum := "1872e02a6bc1a25322a890406fe855b64900659c16a40614fe43512cddd77fda", func := "railplan/railplanlaw16.SimplexExamples", spec := "simplexExamples", unfollowed := true, recurses := true, apart := false }
def SimplexExamplesSaid : Prop := simplexExamplesRow.holds Try.pinned (OpenSpec.ofChange simplexExamplesSpec)

/-- ITS FALSE NEIGHBOUR: 'it returns false'. Refute it at one input. -/
def simplexExamplesWrong : ChangeSpec := { name := "simplexExamples", fn := fun _ => fun
  | [] => { results := [.lit (.bool false)], args := [] }
  | _ => none }
def SimplexExamplesWrongFalsely : Prop := simplexExamplesRow.holds Try.pinned (OpenSpec.ofChange simplexExamplesWrong)

/-- 'railplanlaw16.SimplexMoveTightens': WHATEVER THE INPUT: true; the input reads as it did. -/
def simplexMoveTightensSpec : ChangeSpec := { name := "simplexMoveTightens", fn := fun _ => fun
  | [d1, d2, d3, d4] => { results := [.lit (.bool true)], args := [d1, d2, d3, d4] }
  | _ => none }
def simplexMoveTightensRow : OpenClaim := { program := "ytbkjplomoegbdaa", sum := "1872e02a6bc1a25322a890406fe855b64900659c16a40614fe43512cddd77fda", func := "railplan/railplanlaw16.SimplexMoveTightens", spec := "simplexMoveTightens", unfollowed := true, recurses := true, apart := false }
def SimplexMoveTightensSaid : Prop := simplexMoveTightensRow.holds Try.pinned (OpenSpec.ofChange simplexMoveTightensSpec)

/-- ITS FALSE NEIGHBOUR: 'it returns false'. Refute it at one input. -/
def simplexMoveTightensWrong : ChangeSpec := { name := "simplexMoveTightens", fn := fun _ => fun
  | [d1, d2, d3, d4] => { results := [.lit (.bool false)], args := [d1, d2, d3, d4] }
  | _ => none }
def SimplexMoveTightensWrongFalsely : Prop := simplexMoveTightensRow.holds Try.pinned (OpenSpec.ofChange simplexMoveTightensWrong)

/-- 'railplanlaw15.BoundIsLower': WHATEVER THE INPUT: true; the input reads as it did. -/
def boundIsLowerSpec : ChangeSpec := { name := "boundIsLower", fn := fun _ => fun
  | [d1, d2, d3] => { results := [.lit (.bool true)], args := [d1, d2, d3] }
  | _ => none }
def boundIsLowerRow : OpenClaim := { program := "ytbkjplomoegbdaa", sum := "1872e02a6bc1a25322a890406fe855b64900659c16a40614fe43512cddd77fda", func := "railplan/railplanlaw15.BoundIsLower", spec := "boundIsLower", unfollowed := true, recurses := true, apart := false }
def BoundIsLowerSaid : Prop := boundIsLowerRow.holds Try.pinned (OpenSpec.ofChange boundIsLowerSpec)

/-- ITS FALSE NEIGHBOUR: 'it returns false'. Refute it at one input. -/
def boundIsLowerWrong : ChangeSpec := { name := "boundIsLower", fn := fun _ => fun
  | [d1, d2, d3] => { results := [.lit (.bool false)], args := [d1, d2, d3] }
  | _ => none }
def BoundIsLowerWrongFalsely : Prop := boundIsLowerRow.holds Try.pinned (OpenSpec.ofChange boundIsLowerWrong)

/-- 'railplanlaw15.BoundPartsAdd': WHATEVER THE INPUT: true; the input reads as it did. -/
def boundPartsAddSpec : ChangeSpec := { name := "boundPartsAdd", fn := fun _ => fun
  | [d1, d2, d3] => { results := [.lit (.bool true)], args := [d1, d2, d3] }
  | _ => none }
def boundPartsAddRow : OpenClaim := { program := "ytbkjplomoegbdaa", sum := "1872e02a6bc1a25322a890406fe855b64900659c16a40614fe43512cddd77fda", func := "railplan/railplanlaw15.BoundPartsAdd", spec := "boundPartsAdd", unfollowed := true, recurses := true, apart := false }
def BoundPartsAddSaid : Prop := boundPartsAddRow.holds Try.pinned (OpenSpec.ofChange boundPartsAddSpec)

/-- ITS FALSE NEIGHBOUR: 'it returns false'. Refute it at one input. -/
def boundPartsAddWrong : ChangeSpec := { name := "boundPartsAdd", fn := fun _ => fun
  | [d1, d2, d3] => { results := [.lit (.bool false)], args := [d1, d2, d3] }
  | _ => none }
def BoundPartsAddWrongFalsely : Prop := boundPartsAddRow.holds Try.pinned (OpenSpec.ofChange boundPartsAddWrong)

/-- 'railplanlaw15.BoundPackIsLower': WHATEVER THE INPUT: true; the input reads as it did. -/
def boundPackIsLowerSpec : ChangeSpec := { name := "boundPackIsLower", fn := fun _ => fun
  | [d1, d2] => { results := [.lit (.bool true)], args := [d1, d2] }
  | _ => none }
def boundPackIsLowerRow : OpenClaim := { program := "ytbkjplomoegbdaa", sum := "1872e02a6bc1a25322a890406fe855b64900659c16a40614fe43512cddd77fda", func := "railplan/railplanlaw15.BoundPackIsLower", spec := "boundPackIsLower", unfollowed := true, recurses := true, apart := false }
def BoundPackIsLowerSaid : Prop := boundPackIsLowerRow.holds Try.pinned (OpenSpec.ofChange boundPackIsLowerSpec)

/-- ITS FALSE NEIGHBOUR: 'it returns false'. Refute it at one input. -/
def boundPackIsLowerWrong : ChangeSpec := { name := "boundPackIsLower", fn := fun _ => fun
  | [d1, d2] => { results := [.lit (.bool false)], args := [d1, d2] }
  | _ => none }
def BoundPackIsLowerWrongFalsely : Prop := boundPackIsLowerRow.holds Try.pinned (OpenSpec.ofChange boundPackIsLowerWrong)

/-- 'railplanlaw15.BoundInfeasible': WHATEVER THE INPUT: true; the input reads as it did. -/
def boundInfeasibleSpec : ChangeSpec := { name := "boundInfeasible", fn := fun _ => fun
  | [d1, d2] => { results := [.lit (.bool true)], args := [d1, d2] }
  | _ => none }
def boundInfeasibleRow : OpenClaim := { program := "ytbkjplomoegbdaa", sum := "1872e02a6bc1a25322a890406fe855b64900659c16a40614fe43512cddd77fda", func := "railplan/railplanlaw15.BoundInfeasible", spec := "boundInfeasible", unfollowed := true, recurses := true, apart := false }
def BoundInfeasibleSaid : Prop := boundInfeasibleRow.holds Try.pinned (OpenSpec.ofChange boundInfeasibleSpec)

/-- ITS FALSE NEIGHBOUR: 'it returns false'. Refute it at one input. -/
def boundInfeasibleWrong : ChangeSpec := { name := "boundInfeasible", fn := fun _ => fun
  | [d1, d2] => { results := [.lit (.bool false)], args := [d1, d2] }
  | _ => none }
def BoundInfeasibleWrongFalsely : Prop := boundInfeasibleRow.holds Try.pinned (OpenSpec.ofChange boundInfeasibleWrong)

/-- 'railplanlaw15.BoundKeepsCycles': WHATEVER THE INPUT: true; the input reads as it did. -/
def boundKeepsCyclesSpec : ChangeSpec := { name := "boundKeepsCycles", fn := fun _ => fun
  | [d] => { results := [.lit (.bool true)], args := [d] }
  | _ => none }
def boundKeepsCyclesRow : OpenClaim := { program := "ytbkjplomoegbdaa", sum := "1872e02a6bc1a25322a890406fe855b64900659c16a40614fe43512cddd77fda", func := "railplan/railplanlaw15.BoundKeepsCycles", spec := "boundKeepsCycles", unfollowed := true, recurses := true, apart := false }
def BoundKeepsCyclesSaid : Prop := boundKeepsCyclesRow.holds Try.pinned (OpenSpec.ofChange boundKeepsCyclesSpec)

/-- ITS FALSE NEIGHBOUR: 'it returns false'. Refute it at one input. -/
def boundKeepsCyclesWrong : ChangeSpec := { name := "boundKeepsCycles", fn := fun _ => fun
  | [d] => { results := [.lit (.bool false)], args := [d] }
  | _ => none }
def BoundKeepsCyclesWrongFalsely : Prop := boundKeepsCyclesRow.holds Try.pinned (OpenSpec.ofChange boundKeepsCyclesWrong)

/-- 'railplanlaw16.SimplexImproves': WHATEVER THE INPUT: true; the input reads as it did. -/
def simplexImprovesSpec : ChangeSpec := { name := "simplexImproves", fn := fun _ => fun
  | [d1, d2, d3] => { results := [.lit (.bool true)], args := [d1, d2, d3] }
  | _ => none }
def simplexImprovesRow : OpenClaim := { program := "ytbkjplomoegbdaa", sum := "1872e02a6bc1a25322a890406fe855b64900659c16a40614fe43512cddd77fda", func := "railplan/railplanlaw16.SimplexImproves", spec := "simplexImproves", unfollowed := true, recurses := true, apart := false }
def SimplexImprovesSaid : Prop := simplexImprovesRow.holds Try.pinned (OpenSpec.ofChange simplexImprovesSpec)

/-- ITS FALSE NEIGHBOUR: 'it returns false'. Refute it at one input. -/
def simplexImprovesWrong : ChangeSpec := { name := "simplexImproves", fn := fun _ => fun
  | [d1, d2, d3] => { results := [.lit (.bool false)], args := [d1, d2, d3] }
  | _ => none }
def SimplexImprovesWrongFalsely : Prop := simplexImprovesRow.holds Try.pinned (OpenSpec.ofChange simplexImprovesWrong)

/-- 'railplanlaw16.SimplexKeepsArguments': WHATEVER THE INPUT: true; the input reads as it did. -/
def simplexKeepsArgumentsSpec : ChangeSpec := { name := "simplexKeepsArguments", fn := fun _ => fun
  | [d1, d2, d3, d4, d5] => { results := [.lit (.bool true)], args := [d1, d2, d3, d4, d5] }
  | _ => none }
def simplexKeepsArgumentsRow : OpenClaim := { program := "ytbkjplomoegbdaa", sum := "1872e02a6bc1a25322a890406fe855b64900659c16a40614fe43512cddd77fda", func := "railplan/railplanlaw16.SimplexKeepsArguments", spec := "simplexKeepsArguments", unfollowed := true, recurses := true, apart := false }
def SimplexKeepsArgumentsSaid : Prop := simplexKeepsArgumentsRow.holds Try.pinned (OpenSpec.ofChange simplexKeepsArgumentsSpec)

/-- ITS FALSE NEIGHBOUR: 'it returns false'. Refute it at one input. -/
def simplexKeepsArgumentsWrong : ChangeSpec := { name := "simplexKeepsArguments", fn := fun _ => fun
  | [d1, d2, d3, d4, d5] => { results := [.lit (.bool false)], args := [d1, d2, d3, d4, d5] }
  | _ => none }
def SimplexKeepsArgumentsWrongFalsely : Prop := simplexKeepsArgumentsRow.holds Try.pinned (OpenSpec.ofChange simplexKeepsArgumentsWrong)

/-- 'railplanlaw16.SimplexRaw': WHATEVER THE INPUT: true; the input reads as it did. -/
def simplexRawSpec : ChangeSpec := { name := "simplexRaw", fn := fun _ => fun
  | [d1, d2, d3, d4, d5, d6] => { results := [.lit (.bool true)], args := [d1, d2, d3, d4, d5, d6] }
  | _ => none }
def simplexRawRow : OpenClaim := { program := "ytbkjplomoegbdaa", sum := "1872e02a6bc1a25322a890406fe855b64900659c16a40614fe43512cddd77fda", func := "railplan/railplanlaw16.SimplexRaw", spec := "simplexRaw", unfollowed := true, recurses := true, apart := false }
def SimplexRawSaid : Prop := simplexRawRow.holds Try.pinned (OpenSpec.ofChange simplexRawSpec)

/-- ITS FALSE NEIGHBOUR: 'it returns false'. Refute it at one input. -/
def simplexRawWrong : ChangeSpec := { name := "simplexRaw", fn := fun _ => fun
  | [d1, d2, d3, d4, d5, d6] => { results := [.lit (.bool false)], args := [d1, d2, d3, d4, d5, d6] }
  | _ => none }
def SimplexRawWrongFalsely : Prop := simplexRawRow.holds Try.pinned (OpenSpec.ofChange simplexRawWrong)

/-- 'railplanlaw16.SimplexGenerated': WHATEVER THE INPUT: true; the input reads as it did. -/
def simplexGeneratedSpec : ChangeSpec := { name := "simplexGenerated", fn := fun _ => fun
  | [d1, d2, d3, d4, d5] => { results := [.lit (.bool true)], args := [d1, d2, d3, d4, d5] }
  | _ => none }
def simplexGeneratedRow : OpenClaim := { program := "ytbkjplomoegbdaa", sum := "1872e02a6bc1a25322a890406fe855b64900659c16a40614fe43512cddd77fda", func := "railplan/railplanlaw16.SimplexGenerated", spec := "simplexGenerated", unfollowed := true, recurses := true, apart := false }
def SimplexGeneratedSaid : Prop := simplexGeneratedRow.holds Try.pinned (OpenSpec.ofChange simplexGeneratedSpec)

/-- ITS FALSE NEIGHBOUR: 'it returns false'. Refute it at one input. -/
def simplexGeneratedWrong : ChangeSpec := { name := "simplexGenerated", fn := fun _ => fun
  | [d1, d2, d3, d4, d5] => { results := [.lit (.bool false)], args := [d1, d2, d3, d4, d5] }
  | _ => none }
def SimplexGeneratedWrongFalsely : Prop := simplexGeneratedRow.holds Try.pinned (OpenSpec.ofChange simplexGeneratedWrong)

/-- 'railplanlaw16.SimplexWide': WHATEVER THE INPUT: true; the input reads as it did. -/
def simplexWideSpec : ChangeSpec := { name := "simplexWide", fn := fun _ => fun
  | [d1, d2, d3, d4, d5] => { results := [.lit (.bool true)], args := [d1, d2, d3, d4, d5] }
  | _ => none }
def simplexWideRow : OpenClaim := { program := "ytbkjplomoegbdaa", sum := "1872e02a6bc1a25322a890406fe855b64900659c16a40614fe43512cddd77fda", func := "railplan/railplanlaw16.SimplexWide", spec := "simplexWide", unfollowed := true, recurses := true, apart := false }
def SimplexWideSaid : Prop := simplexWideRow.holds Try.pinned (OpenSpec.ofChange simplexWideSpec)

/-- ITS FALSE NEIGHBOUR: 'it returns false'. Refute it at one input. -/
def simplexWideWrong : ChangeSpec := { name := "simplexWide", fn := fun _ => fun
  | [d1, d2, d3, d4, d5] => { results := [.lit (.bool false)], args := [d1, d2, d3, d4, d5] }
  | _ => none }
def SimplexWideWrongFalsely : Prop := simplexWideRow.holds Try.pinned (OpenSpec.ofChange simplexWideWrong)

/-- 'railplanlaw16.SimplexEndsLocally': WHATEVER THE INPUT: true; the input reads as it did. -/
def simplexEndsLocallySpec : ChangeSpec := { name := "simplexEndsLocally", fn := fun _ => fun
  | [d1, d2, d3] => { results := [.lit (.bool true)], args := [d1, d2, d3] }
  | _ => none }
def simplexEndsLocallyRow : OpenClaim := { program := "ytbkjplomoegbdaa", sum := "1872e02a6bc1a25322a890406fe855b64900659c16a40614fe43512cddd77fda", func := "railplan/railplanlaw16.SimplexEndsLocally", spec := "simplexEndsLocally", unfollowed := true, recurses := true, apart := false }
def SimplexEndsLocallySaid : Prop := simplexEndsLocallyRow.holds Try.pinned (OpenSpec.ofChange simplexEndsLocallySpec)

/-- ITS FALSE NEIGHBOUR: 'it returns false'. Refute it at one input. -/
def simplexEndsLocallyWrong : ChangeSpec := { name := "simplexEndsLocally", fn := fun _ => fun
  | [d1, d2, d3] => { results := [.lit (.bool false)], args := [d1, d2, d3] }
  | _ => none }
def SimplexEndsLocallyWrongFalsely : Prop := simplexEndsLocallyRow.holds Try.pinned (OpenSpec.ofChange simplexEndsLocallyWrong)

/-- 'railplanlaw15.BoundExamples': WHATEVER THE INPUT: true; the input reads as it did. -/
def boundExamplesSpec : ChangeSpec := { name := "boundExamples", fn := fun _ => fun
  | [] => { results := [.lit (.bool true)], args := [] }
  | _ => none }
def boundExamplesRow : OpenClaim := { program := "ytbkjplomoegbdaa", sum := "1872e02a6bc1a25322a890406fe855b64900659c16a40614fe43512cddd77fda", func := "railplan/railplanlaw15.BoundExamples", spec := "boundExamples", unfollowed := true, recurses := true, apart := false }
def BoundExamplesSaid : Prop := boundExamplesRow.holds Try.pinned (OpenSpec.ofChange boundExamplesSpec)

/-- ITS FALSE NEIGHBOUR: 'it returns false'. Refute it at one input. -/
def boundExamplesWrong : ChangeSpec := { name := "boundExamples", fn := fun _ => fun
  | [] => { results := [.lit (.bool false)], args := [] }
  | _ => none }
def BoundExamplesWrongFalsely : Prop := boundExamplesRow.holds Try.pinned (OpenSpec.ofChange boundExamplesWrong)

/-- 'railplanlaw15.BoundRaw': WHATEVER THE INPUT: true; the input reads as it did. -/
def boundRawSpec : ChangeSpec := { name := "boundRaw", fn := fun _ => fun
  | [d1, d2, d3] => { results := [.lit (.bool true)], args := [d1, d2, d3] }
  | _ => none }
def boundRawRow : OpenClaim := { program := "ytbkjplomoegbdaa", sum := "1872e02a6bc1a25322a890406fe855b64900659c16a40614fe43512cddd77fda", func := "railplan/railplanlaw15.BoundRaw", spec := "boundRaw", unfollowed := true, recurses := true, apart := false }
def BoundRawSaid : Prop := boundRawRow.holds Try.pinned (OpenSpec.ofChange boundRawSpec)

/-- ITS FALSE NEIGHBOUR: 'it returns false'. Refute it at one input. -/
def boundRawWrong : ChangeSpec := { name := "boundRaw", fn := fun _ => fun
  | [d1, d2, d3] => { results := [.lit (.bool false)], args := [d1, d2, d3] }
  | _ => none }
def BoundRawWrongFalsely : Prop := boundRawRow.holds Try.pinned (OpenSpec.ofChange boundRawWrong)

/-- 'railplanlaw15.BoundGenerated': WHATEVER THE INPUT: true; the input reads as it did. -/
def boundGeneratedSpec : ChangeSpec := { name := "boundGenerated", fn := fun _ => fun
  | [d1, d2, d3, d4] => { results := [.lit (.bool true)], args := [d1, d2, d3, d4] }
  | _ => none }
def boundGeneratedRow : OpenClaim := { program := "ytbkjplomoegbdaa", sum := "1872e02a6bc1a25322a890406fe855b64900659c16a40614fe43512cddd77fda", func := "railplan/railplanlaw15.BoundGenerated", spec := "boundGenerated", unfollowed := true, recurses := true, apart := false }
def BoundGeneratedSaid : Prop := boundGeneratedRow.holds Try.pinned (OpenSpec.ofChange boundGeneratedSpec)

/-- ITS FALSE NEIGHBOUR: 'it returns false'. Refute it at one input. -/
def boundGeneratedWrong : ChangeSpec := { name := "boundGenerated", fn := fun _ => fun
  | [d1, d2, d3, d4] => { results := [.lit (.bool false)], args := [d1, d2, d3, d4] }
  | _ => none }
def BoundGeneratedWrongFalsely : Prop := boundGeneratedRow.holds Try.pinned (OpenSpec.ofChange boundGeneratedWrong)

/-- 'railplanlaw15.BoundPackIsChecked': WHATEVER THE INPUT: true; the input reads as it did. -/
def boundPackIsCheckedSpec : ChangeSpec := { name := "boundPackIsChecked", fn := fun _ => fun
  | [d] => { results := [.lit (.bool true)], args := [d] }
  | _ => none }
def boundPackIsCheckedRow : OpenClaim := { program := "ytbkjplomoegbdaa", sum := "1872e02a6bc1a25322a890406fe855b64900659c16a40614fe43512cddd77fda", func := "railplan/railplanlaw15.BoundPackIsChecked", spec := "boundPackIsChecked", unfollowed := true, recurses := true, apart := false }
def BoundPackIsCheckedSaid : Prop := boundPackIsCheckedRow.holds Try.pinned (OpenSpec.ofChange boundPackIsCheckedSpec)

/-- ITS FALSE NEIGHBOUR: 'it returns false'. Refute it at one input. -/
def boundPackIsCheckedWrong : ChangeSpec := { name := "boundPackIsChecked", fn := fun _ => fun
  | [d] => { results := [.lit (.bool false)], args := [d] }
  | _ => none }
def BoundPackIsCheckedWrongFalsely : Prop := boundPackIsCheckedRow.holds Try.pinned (OpenSpec.ofChange boundPackIsCheckedWrong)

/-- 'railplanlaw15.BoundPackIsMaximal': WHATEVER THE INPUT: true; the input reads as it did. -/
def boundPackIsMaximalSpec : ChangeSpec := { name := "boundPackIsMaximal", fn := fun _ => fun
  | [d1, d2] => { results := [.lit (.bool true)], args := [d1, d2] }
  | _ => none }
def boundPackIsMaximalRow : OpenClaim := { program := "ytbkjplomoegbdaa", sum := "1872e02a6bc1a25322a890406fe855b64900659c16a40614fe43512cddd77fda", func := "railplan/railplanlaw15.BoundPackIsMaximal", spec := "boundPackIsMaximal", unfollowed := true, recurses := true, apart := false }
def BoundPackIsMaximalSaid : Prop := boundPackIsMaximalRow.holds Try.pinned (OpenSpec.ofChange boundPackIsMaximalSpec)

/-- ITS FALSE NEIGHBOUR: 'it returns false'. Refute it at one input. -/
def boundPackIsMaximalWrong : ChangeSpec := { name := "boundPackIsMaximal", fn := fun _ => fun
  | [d1, d2] => { results := [.lit (.bool false)], args := [d1, d2] }
  | _ => none }
def BoundPackIsMaximalWrongFalsely : Prop := boundPackIsMaximalRow.holds Try.pinned (OpenSpec.ofChange boundPackIsMaximalWrong)

/-- 'railplanlaw12.CyclesComponents': WHATEVER THE INPUT: true; the input reads as it did. -/
def cyclesComponentsSpec : ChangeSpec := { name := "cyclesComponents", fn := fun _ => fun
  | [d] => { results := [.lit (.bool true)], args := [d] }
  | _ => none }
def cyclesComponentsRow : OpenClaim := { program := "ytbkjplomoegbdaa", sum := "1872e02a6bc1a25322a890406fe855b64900659c16a40614fe43512cddd77fda", func := "railplan/railplanlaw12.CyclesComponents", spec := "cyclesComponents", unfollowed := true, recurses := true, apart := false }
def CyclesComponentsSaid : Prop := cyclesComponentsRow.holds Try.pinned (OpenSpec.ofChange cyclesComponentsSpec)

/-- ITS FALSE NEIGHBOUR: 'it returns false'. Refute it at one input. -/
def cyclesComponentsWrong : ChangeSpec := { name := "cyclesComponents", fn := fun _ => fun
  | [d] => { results := [.lit (.bool false)], args := [d] }
  | _ => none }
def CyclesComponentsWrongFalsely : Prop := cyclesComponentsRow.holds Try.pinned (OpenSpec.ofChange cyclesComponentsWrong)

/-- 'railplanlaw12.CyclesExamples': WHATEVER THE INPUT: true; the input reads as it did. -/
def cyclesExamplesSpec : ChangeSpec := { name := "cyclesExamples", fn := fun _ => fun
  | [] => { results := [.lit (.bool true)], args := [] }
  | _ => none }
def cyclesExamplesRow : OpenClaim := { program := "ytbkjplomoegbdaa", sum := "1872e02a6bc1a25322a890406fe855b64900659c16a40614fe43512cddd77fda", func := "railplan/railplanlaw12.CyclesExamples", spec := "cyclesExamples", unfollowed := true, recurses := true, apart := false }
def CyclesExamplesSaid : Prop := cyclesExamplesRow.holds Try.pinned (OpenSpec.ofChange cyclesExamplesSpec)

/-- ITS FALSE NEIGHBOUR: 'it returns false'. Refute it at one input. -/
def cyclesExamplesWrong : ChangeSpec := { name := "cyclesExamples", fn := fun _ => fun
  | [] => { results := [.lit (.bool false)], args := [] }
  | _ => none }
def CyclesExamplesWrongFalsely : Prop := cyclesExamplesRow.holds Try.pinned (OpenSpec.ofChange cyclesExamplesWrong)

/-- 'railplanlaw12.CyclesTreeIsLeast': WHATEVER THE INPUT: true; the input reads as it did. -/
def cyclesTreeIsLeastSpec : ChangeSpec := { name := "cyclesTreeIsLeast", fn := fun _ => fun
  | [d] => { results := [.lit (.bool true)], args := [d] }
  | _ => none }
def cyclesTreeIsLeastRow : OpenClaim := { program := "ytbkjplomoegbdaa", sum := "1872e02a6bc1a25322a890406fe855b64900659c16a40614fe43512cddd77fda", func := "railplan/railplanlaw12.CyclesTreeIsLeast", spec := "cyclesTreeIsLeast", unfollowed := true, recurses := true, apart := false }
def CyclesTreeIsLeastSaid : Prop := cyclesTreeIsLeastRow.holds Try.pinned (OpenSpec.ofChange cyclesTreeIsLeastSpec)

/-- ITS FALSE NEIGHBOUR: 'it returns false'. Refute it at one input. -/
def cyclesTreeIsLeastWrong : ChangeSpec := { name := "cyclesTreeIsLeast", fn := fun _ => fun
  | [d] => { results := [.lit (.bool false)], args := [d] }
  | _ => none }
def CyclesTreeIsLeastWrongFalsely : Prop := cyclesTreeIsLeastRow.holds Try.pinned (OpenSpec.ofChange cyclesTreeIsLeastWrong)

/-- 'railplanlaw12.CyclesPotentialsInvertTensions': WHATEVER THE INPUT: true; the input reads as it did. -/
def cyclesPotentialsInvertTensionsSpec : ChangeSpec := { name := "cyclesPotentialsInvertTensions", fn := fun _ => fun
  | [d1, d2] => { results := [.lit (.bool true)], args := [d1, d2] }
  | _ => none }
def cyclesPotentialsInvertTensionsRow : OpenClaim := { program := "ytbkjplomoegbdaa", sum := "1872e02a6bc1a25322a890406fe855b64900659c16a40614fe43512cddd77fda", func := "railplan/railplanlaw12.CyclesPotentialsInvertTensions", spec := "cyclesPotentialsInvertTensions", unfollowed := true, recurses := true, apart := false }
def CyclesPotentialsInvertTensionsSaid : Prop := cyclesPotentialsInvertTensionsRow.holds Try.pinned (OpenSpec.ofChange cyclesPotentialsInvertTensionsSpec)

/-- ITS FALSE NEIGHBOUR: 'it returns false'. Refute it at one input. -/
def cyclesPotentialsInvertTensionsWrong : ChangeSpec := { name := "cyclesPotentialsInvertTensions", fn := fun _ => fun
  | [d1, d2] => { results := [.lit (.bool false)], args := [d1, d2] }
  | _ => none }
def CyclesPotentialsInvertTensionsWrongFalsely : Prop := cyclesPotentialsInvertTensionsRow.holds Try.pinned (OpenSpec.ofChange cyclesPotentialsInvertTensionsWrong)

/-- 'railplanlaw12.CyclesForests': WHATEVER THE INPUT: true; the input reads as it did. -/
def cyclesForestsSpec : ChangeSpec := { name := "cyclesForests", fn := fun _ => fun
  | [d1, d2, d3] => { results := [.lit (.bool true)], args := [d1, d2, d3] }
  | _ => none }
def cyclesForestsRow : OpenClaim := { program := "ytbkjplomoegbdaa", sum := "1872e02a6bc1a25322a890406fe855b64900659c16a40614fe43512cddd77fda", func := "railplan/railplanlaw12.CyclesForests", spec := "cyclesForests", unfollowed := true, recurses := true, apart := false }
def CyclesForestsSaid : Prop := cyclesForestsRow.holds Try.pinned (OpenSpec.ofChange cyclesForestsSpec)

/-- ITS FALSE NEIGHBOUR: 'it returns false'. Refute it at one input. -/
def cyclesForestsWrong : ChangeSpec := { name := "cyclesForests", fn := fun _ => fun
  | [d1, d2, d3] => { results := [.lit (.bool false)], args := [d1, d2, d3] }
  | _ => none }
def CyclesForestsWrongFalsely : Prop := cyclesForestsRow.holds Try.pinned (OpenSpec.ofChange cyclesForestsWrong)

/-- 'railplanlaw12.CyclesRaw': WHATEVER THE INPUT: true; the input reads as it did. -/
def cyclesRawSpec : ChangeSpec := { name := "cyclesRaw", fn := fun _ => fun
  | [d1, d2, d3, d4, d5] => { results := [.lit (.bool true)], args := [d1, d2, d3, d4, d5] }
  | _ => none }
def cyclesRawRow : OpenClaim := { program := "ytbkjplomoegbdaa", sum := "1872e02a6bc1a25322a890406fe855b64900659c16a40614fe43512cddd77fda", func := "railplan/railplanlaw12.CyclesRaw", spec := "cyclesRaw", unfollowed := true, recurses := true, apart := false }
def CyclesRawSaid : Prop := cyclesRawRow.holds Try.pinned (OpenSpec.ofChange cyclesRawSpec)

/-- ITS FALSE NEIGHBOUR: 'it returns false'. Refute it at one input. -/
def cyclesRawWrong : ChangeSpec := { name := "cyclesRaw", fn := fun _ => fun
  | [d1, d2, d3, d4, d5] => { results := [.lit (.bool false)], args := [d1, d2, d3, d4, d5] }
  | _ => none }
def CyclesRawWrongFalsely : Prop := cyclesRawRow.holds Try.pinned (OpenSpec.ofChange cyclesRawWrong)

/- THE SECOND FORM. 'bulk': how many values and letters a reading holds, each counted each time it is reached (what is shared counts as often as it is met; a slice's spare places count too). A statement '..UptoSaid' is the law's where the arguments, and the package variables that the reading takes, are together of bulk at most 1048576: NARROWER than '..Said'. Prove '..Said' where nothing that the law and all that it calls make is longer than what came in: it says more and counts as full. Else prove '..UptoSaid'. A law counts once. -/
mutual
def uptoBulk {H : Type} : DataW H → Nat
  | .lit (.string bytes) => bytes.length + 1
  | .lit _ => 1
  | .nil => 1
  | .ptr d => uptoBulk d + 1
  | .slice elems spare => uptoBulkAll elems + uptoBulkAll spare + 1
  | .agg parts => uptoBulkAll parts + 1
  | .iface _ d => uptoBulk d + 1
  | .map entries => uptoBulkEntries entries + 1
  | .held _ => 1
def uptoBulkAll {H : Type} : List (DataW H) → Nat
  | [] => 0
  | d :: r => uptoBulk d + uptoBulkAll r
def uptoBulkEntries {H : Type} : List (Lit × DataW H) → Nat
  | [] => 0
  | x :: r => uptoBulkEntry x + uptoBulkEntries r
def uptoBulkEntry {H : Type} : Lit × DataW H → Nat
  | (.string bytes, d) => bytes.length + uptoBulk d + 1
  | (_, d) => uptoBulk d + 1
 end
def uptoSmall : (H : Type) → List (DataW H) → Bool := fun _ ds => decide (uptoBulkAll ds ≤ 1048576)
def OpenSpec.upto (s : _root_.Go.ChangeSpec) : _root_.Go.OpenSpec := { _root_.Go.OpenSpec.ofChange s with cond := some uptoSmall }

/-- 'railplanlaw16.SimplexCutSplits', WHERE WHAT IT READS IS OF BULK AT MOST 1048576: true; the input reads as it did. -/
def simplexCutSplitsUptoRow : OpenClaim := { program := "ytbkjplomoegbdaa", sum := "1872e02a6bc1a25322a890406fe855b64900659c16a40614fe43512cddd77fda", func := "railplan/railplanlaw16.SimplexCutSplits", spec := "simplexCutSplits", unfollowed := true, recurses := true, apart := false, narrowed := true }
def SimplexCutSplitsUptoSaid : Prop := simplexCutSplitsUptoRow.holds Try.pinned (OpenSpec.upto simplexCutSplitsSpec)

/-- 'railplanlaw12.CyclesSums', WHERE WHAT IT READS IS OF BULK AT MOST 1048576: true; the input reads as it did. -/
def cyclesSumsUptoRow : OpenClaim := { program := "ytbkjplomoegbdaa", sum := "1872e02a6bc1a25322a890406fe855b64900659c16a40614fe43512cddd77fda", func := "railplan/railplanlaw12.CyclesSums", spec := "cyclesSums", unfollowed := true, recurses := true, apart := false, narrowed := true }
def CyclesSumsUptoSaid : Prop := cyclesSumsUptoRow.holds Try.pinned (OpenSpec.upto cyclesSumsSpec)

/-- 'railplanlaw12.CyclesPeriodicity', WHERE WHAT IT READS IS OF BULK AT MOST 1048576: true; the input reads as it did. -/
def cyclesPeriodicityUptoRow : OpenClaim := { program := "ytbkjplomoegbdaa", sum := "1872e02a6bc1a25322a890406fe855b64900659c16a40614fe43512cddd77fda", func := "railplan/railplanlaw12.CyclesPeriodicity", spec := "cyclesPeriodicity", unfollowed := true, recurses := true, apart := false, narrowed := true }
def CyclesPeriodicityUptoSaid : Prop := cyclesPeriodicityUptoRow.holds Try.pinned (OpenSpec.upto cyclesPeriodicitySpec)

/-- 'railplanlaw12.CyclesClosedValues', WHERE WHAT IT READS IS OF BULK AT MOST 1048576: true; the input reads as it did. -/
def cyclesClosedValuesUptoRow : OpenClaim := { program := "ytbkjplomoegbdaa", sum := "1872e02a6bc1a25322a890406fe855b64900659c16a40614fe43512cddd77fda", func := "railplan/railplanlaw12.CyclesClosedValues", spec := "cyclesClosedValues", unfollowed := true, recurses := true, apart := false, narrowed := true }
def CyclesClosedValuesUptoSaid : Prop := cyclesClosedValuesUptoRow.holds Try.pinned (OpenSpec.upto cyclesClosedValuesSpec)

/-- 'railplanlaw16.SimplexExamples', WHERE WHAT IT READS IS OF BULK AT MOST 1048576: true; the input reads as it did. -/
def simplexExamplesUptoRow : OpenClaim := { program := "ytbkjplomoegbdaa", sum := "1872e02a6bc1a25322a890406fe855b64900659c16a40614fe43512cddd77fda", func := "railplan/railplanlaw16.SimplexExamples", spec := "simplexExamples", unfollowed := true, recurses := true, apart := false, narrowed := true }
def SimplexExamplesUptoSaid : Prop := simplexExamplesUptoRow.holds Try.pinned (OpenSpec.upto simplexExamplesSpec)

/-- 'railplanlaw16.SimplexMoveTightens', WHERE WHAT IT READS IS OF BULK AT MOST 1048576: true; the input reads as it did. -/
def simplexMoveTightensUptoRow : OpenClaim := { program := "ytbkjplomoegbdaa", sum := "1872e02a6bc1a25322a890406fe855b64900659c16a40614fe43512cddd77fda", func := "railplan/railplanlaw16.SimplexMoveTightens", spec := "simplexMoveTightens", unfollowed := true, recurses := true, apart := false, narrowed := true }
def SimplexMoveTightensUptoSaid : Prop := simplexMoveTightensUptoRow.holds Try.pinned (OpenSpec.upto simplexMoveTightensSpec)

/-- 'railplanlaw15.BoundIsLower', WHERE WHAT IT READS IS OF BULK AT MOST 1048576: true; the input reads as it did. -/
def boundIsLowerUptoRow : OpenClaim := { program := "ytbkjplomoegbdaa", sum := "1872e02a6bc1a25322a890406fe855b64900659c16a40614fe43512cddd77fda", func := "railplan/railplanlaw15.BoundIsLower", spec := "boundIsLower", unfollowed := true, recurses := true, apart := false, narrowed := true }
def BoundIsLowerUptoSaid : Prop := boundIsLowerUptoRow.holds Try.pinned (OpenSpec.upto boundIsLowerSpec)

/-- 'railplanlaw15.BoundPartsAdd', WHERE WHAT IT READS IS OF BULK AT MOST 1048576: true; the input reads as it did. -/
def boundPartsAddUptoRow : OpenClaim := { program := "ytbkjplomoegbdaa", sum := "1872e02a6bc1a25322a890406fe855b64900659c16a40614fe43512cddd77fda", func := "railplan/railplanlaw15.BoundPartsAdd", spec := "boundPartsAdd", unfollowed := true, recurses := true, apart := false, narrowed := true }
def BoundPartsAddUptoSaid : Prop := boundPartsAddUptoRow.holds Try.pinned (OpenSpec.upto boundPartsAddSpec)

/-- 'railplanlaw15.BoundPackIsLower', WHERE WHAT IT READS IS OF BULK AT MOST 1048576: true; the input reads as it did. -/
def boundPackIsLowerUptoRow : OpenClaim := { program := "ytbkjplomoegbdaa", sum := "1872e02a6bc1a25322a890406fe855b64900659c16a40614fe43512cddd77fda", func := "railplan/railplanlaw15.BoundPackIsLower", spec := "boundPackIsLower", unfollowed := true, recurses := true, apart := false, narrowed := true }
def BoundPackIsLowerUptoSaid : Prop := boundPackIsLowerUptoRow.holds Try.pinned (OpenSpec.upto boundPackIsLowerSpec)

/-- 'railplanlaw15.BoundInfeasible', WHERE WHAT IT READS IS OF BULK AT MOST 1048576: true; the input reads as it did. -/
def boundInfeasibleUptoRow : OpenClaim := { program := "ytbkjplomoegbdaa", sum := "1872e02a6bc1a25322a890406fe855b64900659c16a40614fe43512cddd77fda", func := "railplan/railplanlaw15.BoundInfeasible", spec := "boundInfeasible", unfollowed := true, recurses := true, apart := false, narrowed := true }
def BoundInfeasibleUptoSaid : Prop := boundInfeasibleUptoRow.holds Try.pinned (OpenSpec.upto boundInfeasibleSpec)

/-- 'railplanlaw15.BoundKeepsCycles', WHERE WHAT IT READS IS OF BULK AT MOST 1048576: true; the input reads as it did. -/
def boundKeepsCyclesUptoRow : OpenClaim := { program := "ytbkjplomoegbdaa", sum := "1872e02a6bc1a25322a890406fe855b64900659c16a40614fe43512cddd77fda", func := "railplan/railplanlaw15.BoundKeepsCycles", spec := "boundKeepsCycles", unfollowed := true, recurses := true, apart := false, narrowed := true }
def BoundKeepsCyclesUptoSaid : Prop := boundKeepsCyclesUptoRow.holds Try.pinned (OpenSpec.upto boundKeepsCyclesSpec)

/-- 'railplanlaw16.SimplexImproves', WHERE WHAT IT READS IS OF BULK AT MOST 1048576: true; the input reads as it did. -/
def simplexImprovesUptoRow : OpenClaim := { program := "ytbkjplomoegbdaa", sum := "1872e02a6bc1a25322a890406fe855b64900659c16a40614fe43512cddd77fda", func := "railplan/railplanlaw16.SimplexImproves", spec := "simplexImproves", unfollowed := true, recurses := true, apart := false, narrowed := true }
def SimplexImprovesUptoSaid : Prop := simplexImprovesUptoRow.holds Try.pinned (OpenSpec.upto simplexImprovesSpec)

/-- 'railplanlaw16.SimplexKeepsArguments', WHERE WHAT IT READS IS OF BULK AT MOST 1048576: true; the input reads as it did. -/
def simplexKeepsArgumentsUptoRow : OpenClaim := { program := "ytbkjplomoegbdaa", sum := "1872e02a6bc1a25322a890406fe855b64900659c16a40614fe43512cddd77fda", func := "railplan/railplanlaw16.SimplexKeepsArguments", spec := "simplexKeepsArguments", unfollowed := true, recurses := true, apart := false, narrowed := true }
def SimplexKeepsArgumentsUptoSaid : Prop := simplexKeepsArgumentsUptoRow.holds Try.pinned (OpenSpec.upto simplexKeepsArgumentsSpec)

/-- 'railplanlaw16.SimplexRaw', WHERE WHAT IT READS IS OF BULK AT MOST 1048576: true; the input reads as it did. -/
def simplexRawUptoRow : OpenClaim := { program := "ytbkjplomoegbdaa", sum := "1872e02a6bc1a25322a890406fe855b64900659c16a40614fe43512cddd77fda", func := "railplan/railplanlaw16.SimplexRaw", spec := "simplexRaw", unfollowed := true, recurses := true, apart := false, narrowed := true }
def SimplexRawUptoSaid : Prop := simplexRawUptoRow.holds Try.pinned (OpenSpec.upto simplexRawSpec)

/-- 'railplanlaw16.SimplexGenerated', WHERE WHAT IT READS IS OF BULK AT MOST 1048576: true; the input reads as it did. -/
def simplexGeneratedUptoRow : OpenClaim := { program := "ytbkjplomoegbdaa", sum := "1872e02a6bc1a25322a890406fe855b64900659c16a40614fe43512cddd77fda", func := "railplan/railplanlaw16.SimplexGenerated", spec := "simplexGenerated", unfollowed := true, recurses := true, apart := false, narrowed := true }
def SimplexGeneratedUptoSaid : Prop := simplexGeneratedUptoRow.holds Try.pinned (OpenSpec.upto simplexGeneratedSpec)

/-- 'railplanlaw16.SimplexWide', WHERE WHAT IT READS IS OF BULK AT MOST 1048576: true; the input reads as it did. -/
def simplexWideUptoRow : OpenClaim := { program := "ytbkjplomoegbdaa", sum := "1872e02a6bc1a25322a890406fe855b64900659c16a40614fe43512cddd77fda", func := "railplan/railplanlaw16.SimplexWide", spec := "simplexWide", unfollowed := true, recurses := true, apart := false, narrowed := true }
def SimplexWideUptoSaid : Prop := simplexWideUptoRow.holds Try.pinned (OpenSpec.upto simplexWideSpec)

/-- 'railplanlaw16.SimplexEndsLocally', WHERE WHAT IT READS IS OF BULK AT MOST 1048576: true; the input reads as it did. -/
def simplexEndsLocallyUptoRow : OpenClaim := { program := "ytbkjplomoegbdaa", sum := "1872e02a6bc1a25322a890406fe855b64900659c16a40614fe43512cddd77fda", func := "railplan/railplanlaw16.SimplexEndsLocally", spec := "simplexEndsLocally", unfollowed := true, recurses := true, apart := false, narrowed := true }
def SimplexEndsLocallyUptoSaid : Prop := simplexEndsLocallyUptoRow.holds Try.pinned (OpenSpec.upto simplexEndsLocallySpec)

/-- 'railplanlaw15.BoundExamples', WHERE WHAT IT READS IS OF BULK AT MOST 1048576: true; the input reads as it did. -/
def boundExamplesUptoRow : OpenClaim := { program := "ytbkjplomoegbdaa", sum := "1872e02a6bc1a25322a890406fe855b64900659c16a40614fe43512cddd77fda", func := "railplan/railplanlaw15.BoundExamples", spec := "boundExamples", unfollowed := true, recurses := true, apart := false, narrowed := true }
def BoundExamplesUptoSaid : Prop := boundExamplesUptoRow.holds Try.pinned (OpenSpec.upto boundExamplesSpec)

/-- 'railplanlaw15.BoundRaw', WHERE WHAT IT READS IS OF BULK AT MOST 1048576: true; the input reads as it did. -/
def boundRawUptoRow : OpenClaim := { program := "ytbkjplomoegbdaa", sum := "1872e02a6bc1a25322a890406fe855b64900659c16a40614fe43512cddd77fda", func := "railplan/railplanlaw15.BoundRaw", spec := "boundRaw", unfollowed := true, recurses := true, apart := false, narrowed := true }
def BoundRawUptoSaid : Prop := boundRawUptoRow.holds Try.pinned (OpenSpec.upto boundRawSpec)

/-- 'railplanlaw15.BoundGenerated', WHERE WHAT IT READS IS OF BULK AT MOST 1048576: true; the input reads as it did. -/
def boundGeneratedUptoRow : OpenClaim := { program := "ytbkjplomoegbdaa", sum := "1872e02a6bc1a25322a890406fe855b64900659c16a40614fe43512cddd77fda", func := "railplan/railplanlaw15.BoundGenerated", spec := "boundGenerated", unfollowed := true, recurses := true, apart := false, narrowed := true }
def BoundGeneratedUptoSaid : Prop := boundGeneratedUptoRow.holds Try.pinned (OpenSpec.upto boundGeneratedSpec)

/-- 'railplanlaw15.BoundPackIsChecked', WHERE WHAT IT READS IS OF BULK AT MOST 1048576: true; the input reads as it did. -/
def boundPackIsCheckedUptoRow : OpenClaim := { program := "ytbkjplomoegbdaa", sum := "1872e02a6bc1a25322a890406fe855b64900659c16a40614fe43512cddd77fda", func := "railplan/railplanlaw15.BoundPackIsChecked", spec := "boundPackIsChecked", unfollowed := true, recurses := true, apart := false, narrowed := true }
def BoundPackIsCheckedUptoSaid : Prop := boundPackIsCheckedUptoRow.holds Try.pinned (OpenSpec.upto boundPackIsCheckedSpec)

/-- 'railplanlaw15.BoundPackIsMaximal', WHERE WHAT IT READS IS OF BULK AT MOST 1048576: true; the input reads as it did. -/
def boundPackIsMaximalUptoRow : OpenClaim := { program := "ytbkjplomoegbdaa", sum := "1872e02a6bc1a25322a890406fe855b64900659c16a40614fe43512cddd77fda", func := "railplan/railplanlaw15.BoundPackIsMaximal", spec := "boundPackIsMaximal", unfollowed := true, recurses := true, apart := false, narrowed := true }
def BoundPackIsMaximalUptoSaid : Prop := boundPackIsMaximalUptoRow.holds Try.pinned (OpenSpec.upto boundPackIsMaximalSpec)

/-- 'railplanlaw12.CyclesComponents', WHERE WHAT IT READS IS OF BULK AT MOST 1048576: true; the input reads as it did. -/
def cyclesComponentsUptoRow : OpenClaim := { program := "ytbkjplomoegbdaa", sum := "1872e02a6bc1a25322a890406fe855b64900659c16a40614fe43512cddd77fda", func := "railplan/railplanlaw12.CyclesComponents", spec := "cyclesComponents", unfollowed := true, recurses := true, apart := false, narrowed := true }
def CyclesComponentsUptoSaid : Prop := cyclesComponentsUptoRow.holds Try.pinned (OpenSpec.upto cyclesComponentsSpec)

/-- 'railplanlaw12.CyclesExamples', WHERE WHAT IT READS IS OF BULK AT MOST 1048576: true; the input reads as it did. -/
def cyclesExamplesUptoRow : OpenClaim := { program := "ytbkjplomoegbdaa", sum := "1872e02a6bc1a25322a890406fe855b64900659c16a40614fe43512cddd77fda", func := "railplan/railplanlaw12.CyclesExamples", spec := "cyclesExamples", unfollowed := true, recurses := true, apart := false, narrowed := true }
def CyclesExamplesUptoSaid : Prop := cyclesExamplesUptoRow.holds Try.pinned (OpenSpec.upto cyclesExamplesSpec)

/-- 'railplanlaw12.CyclesTreeIsLeast', WHERE WHAT IT READS IS OF BULK AT MOST 1048576: true; the input reads as it did. -/
def cyclesTreeIsLeastUptoRow : OpenClaim := { program := "ytbkjplomoegbdaa", sum := "1872e02a6bc1a25322a890406fe855b64900659c16a40614fe43512cddd77fda", func := "railplan/railplanlaw12.CyclesTreeIsLeast", spec := "cyclesTreeIsLeast", unfollowed := true, recurses := true, apart := false, narrowed := true }
def CyclesTreeIsLeastUptoSaid : Prop := cyclesTreeIsLeastUptoRow.holds Try.pinned (OpenSpec.upto cyclesTreeIsLeastSpec)

/-- 'railplanlaw12.CyclesPotentialsInvertTensions', WHERE WHAT IT READS IS OF BULK AT MOST 1048576: true; the input reads as it did. -/
def cyclesPotentialsInvertTensionsUptoRow : OpenClaim := { program := "ytbkjplomoegbdaa", sum := "1872e02a6bc1a25322a890406fe855b64900659c16a40614fe43512cddd77fda", func := "railplan/railplanlaw12.CyclesPotentialsInvertTensions", spec := "cyclesPotentialsInvertTensions", unfollowed := true, recurses := true, apart := false, narrowed := true }
def CyclesPotentialsInvertTensionsUptoSaid : Prop := cyclesPotentialsInvertTensionsUptoRow.holds Try.pinned (OpenSpec.upto cyclesPotentialsInvertTensionsSpec)

/-- 'railplanlaw12.CyclesForests', WHERE WHAT IT READS IS OF BULK AT MOST 1048576: true; the input reads as it did. -/
def cyclesForestsUptoRow : OpenClaim := { program := "ytbkjplomoegbdaa", sum := "1872e02a6bc1a25322a890406fe855b64900659c16a40614fe43512cddd77fda", func := "railplan/railplanlaw12.CyclesForests", spec := "cyclesForests", unfollowed := true, recurses := true, apart := false, narrowed := true }
def CyclesForestsUptoSaid : Prop := cyclesForestsUptoRow.holds Try.pinned (OpenSpec.upto cyclesForestsSpec)

/-- 'railplanlaw12.CyclesRaw', WHERE WHAT IT READS IS OF BULK AT MOST 1048576: true; the input reads as it did. -/
def cyclesRawUptoRow : OpenClaim := { program := "ytbkjplomoegbdaa", sum := "1872e02a6bc1a25322a890406fe855b64900659c16a40614fe43512cddd77fda", func := "railplan/railplanlaw12.CyclesRaw", spec := "cyclesRaw", unfollowed := true, recurses := true, apart := false, narrowed := true }
def CyclesRawUptoSaid : Prop := cyclesRawUptoRow.holds Try.pinned (OpenSpec.upto cyclesRawSpec)

end Rows
end Go.Proofs.Ytbkjplomoegbdaa
