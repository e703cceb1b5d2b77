/-
  No cell of these rows narrows 'for every input' (looked for: loops, veiled, ifaces, maps, wideKeys, modest, calm, conditions, laid).
  DERIVED. THE GIVEN ROWS OF THIS SEAT. 26 by the template 'for every input the law returns true; each argument reads behind the call as it read before'; 0 by the template 'total and deterministic' (their statements: YtjbfplfopagpjaaTotals.lean).
  GIVEN WITH THE SEED: the statements are not yours to turn. If you find one false, say at which input.
  Laid BY PROGRAM, IN A SANDBOX (cutbox-rows.mjs): the forced cells as the released guide's own fill.sh prints them over the translation 3f7887243a292d77… (all of the seat's roots in one cut). By AI agents, Wed Nov 11 2026. No macro, syntax, notation, axiom, sorry.
-/
import Derived.Test.YtjbfplfopagpjaaChecked
import GoSem.Claim
import GoSem.ClaimJoined
import GoSem.ClaimMapViews
import Derived.JoinedTies
import Derived.KernelRfl
namespace Go.Proofs.Ytjbfplfopagpjaa
/- THE CELL 'sum', in the pinned program and in every row, IS THE sha256 OF THE DUMP (.gsa) THAT YtjbfplfopagpjaaProg.lean LOADS. Nothing in Lean hashes anything: it is a label: what it is worth is what the hold of that sum in a sandbox is worth. -/
noncomputable def Try.pinned : Pinned := { name := "ytjbfplfopagpjaa", sum := "3f7887243a292d77bb2e9f35f845b0ca0f20241852e9b4ab102643c7010e5850", checked := Try.checked }
namespace Rows
def none {H : Type} : Left H := { results := [], args := [] }

/-- 'vidimuslaw08.SimTells': WHATEVER THE INPUT: true; the input reads as it did. -/
def simTellsSpec : ChangeSpec := { name := "simTells", fn := fun _ => fun
  | [d] => { results := [.lit (.bool true)], args := [d] }
  | _ => none }
def simTellsRow : OpenClaim := { program := "ytjbfplfopagpjaa", sum := "3f7887243a292d77bb2e9f35f845b0ca0f20241852e9b4ab102643c7010e5850", func := "vidimus/vidimuslaw08.SimTells", spec := "simTells", unfollowed := true, recurses := true, apart := false }
def SimTellsSaid : Prop := simTellsRow.holds Try.pinned (OpenSpec.ofChange simTellsSpec)

/-- ITS FALSE NEIGHBOUR: 'it returns false'. Refute it at one input. -/
def simTellsWrong : ChangeSpec := { name := "simTells", fn := fun _ => fun
  | [d] => { results := [.lit (.bool false)], args := [d] }
  | _ => none }
def SimTellsWrongFalsely : Prop := simTellsRow.holds Try.pinned (OpenSpec.ofChange simTellsWrong)

/-- 'vidimuslaw08.SimGates': WHATEVER THE INPUT: true; the input reads as it did. -/
def simGatesSpec : ChangeSpec := { name := "simGates", fn := fun _ => fun
  | [d] => { results := [.lit (.bool true)], args := [d] }
  | _ => none }
def simGatesRow : OpenClaim := { program := "ytjbfplfopagpjaa", sum := "3f7887243a292d77bb2e9f35f845b0ca0f20241852e9b4ab102643c7010e5850", func := "vidimus/vidimuslaw08.SimGates", spec := "simGates", unfollowed := true, recurses := true, apart := false }
def SimGatesSaid : Prop := simGatesRow.holds Try.pinned (OpenSpec.ofChange simGatesSpec)

/-- ITS FALSE NEIGHBOUR: 'it returns false'. Refute it at one input. -/
def simGatesWrong : ChangeSpec := { name := "simGates", fn := fun _ => fun
  | [d] => { results := [.lit (.bool false)], args := [d] }
  | _ => none }
def SimGatesWrongFalsely : Prop := simGatesRow.holds Try.pinned (OpenSpec.ofChange simGatesWrong)

/-- 'vidimuslaw08.SimRuns': WHATEVER THE INPUT: true; the input reads as it did. -/
def simRunsSpec : ChangeSpec := { name := "simRuns", fn := fun _ => fun
  | [d] => { results := [.lit (.bool true)], args := [d] }
  | _ => none }
def simRunsRow : OpenClaim := { program := "ytjbfplfopagpjaa", sum := "3f7887243a292d77bb2e9f35f845b0ca0f20241852e9b4ab102643c7010e5850", func := "vidimus/vidimuslaw08.SimRuns", spec := "simRuns", unfollowed := true, recurses := true, apart := false }
def SimRunsSaid : Prop := simRunsRow.holds Try.pinned (OpenSpec.ofChange simRunsSpec)

/-- ITS FALSE NEIGHBOUR: 'it returns false'. Refute it at one input. -/
def simRunsWrong : ChangeSpec := { name := "simRuns", fn := fun _ => fun
  | [d] => { results := [.lit (.bool false)], args := [d] }
  | _ => none }
def SimRunsWrongFalsely : Prop := simRunsRow.holds Try.pinned (OpenSpec.ofChange simRunsWrong)

/-- 'vidimuslaw08.SimShapes': WHATEVER THE INPUT: true; the input reads as it did. -/
def simShapesSpec : ChangeSpec := { name := "simShapes", fn := fun _ => fun
  | [d1, d2, d3] => { results := [.lit (.bool true)], args := [d1, d2, d3] }
  | _ => none }
def simShapesRow : OpenClaim := { program := "ytjbfplfopagpjaa", sum := "3f7887243a292d77bb2e9f35f845b0ca0f20241852e9b4ab102643c7010e5850", func := "vidimus/vidimuslaw08.SimShapes", spec := "simShapes", unfollowed := true, recurses := true, apart := false }
def SimShapesSaid : Prop := simShapesRow.holds Try.pinned (OpenSpec.ofChange simShapesSpec)

/-- ITS FALSE NEIGHBOUR: 'it returns false'. Refute it at one input. -/
def simShapesWrong : ChangeSpec := { name := "simShapes", fn := fun _ => fun
  | [d1, d2, d3] => { results := [.lit (.bool false)], args := [d1, d2, d3] }
  | _ => none }
def SimShapesWrongFalsely : Prop := simShapesRow.holds Try.pinned (OpenSpec.ofChange simShapesWrong)

/-- 'vidimuslaw08.SimTaken': WHATEVER THE INPUT: true; the input reads as it did. -/
def simTakenSpec : ChangeSpec := { name := "simTaken", fn := fun _ => fun
  | [d1, d2, d3] => { results := [.lit (.bool true)], args := [d1, d2, d3] }
  | _ => none }
def simTakenRow : OpenClaim := { program := "ytjbfplfopagpjaa", sum := "3f7887243a292d77bb2e9f35f845b0ca0f20241852e9b4ab102643c7010e5850", func := "vidimus/vidimuslaw08.SimTaken", spec := "simTaken", unfollowed := true, recurses := true, apart := false }
def SimTakenSaid : Prop := simTakenRow.holds Try.pinned (OpenSpec.ofChange simTakenSpec)

/-- ITS FALSE NEIGHBOUR: 'it returns false'. Refute it at one input. -/
def simTakenWrong : ChangeSpec := { name := "simTaken", fn := fun _ => fun
  | [d1, d2, d3] => { results := [.lit (.bool false)], args := [d1, d2, d3] }
  | _ => none }
def SimTakenWrongFalsely : Prop := simTakenRow.holds Try.pinned (OpenSpec.ofChange simTakenWrong)

/-- 'vidimuslaw08.SimMore': WHATEVER THE INPUT: true; the input reads as it did. -/
def simMoreSpec : ChangeSpec := { name := "simMore", fn := fun _ => fun
  | [d] => { results := [.lit (.bool true)], args := [d] }
  | _ => none }
def simMoreRow : OpenClaim := { program := "ytjbfplfopagpjaa", sum := "3f7887243a292d77bb2e9f35f845b0ca0f20241852e9b4ab102643c7010e5850", func := "vidimus/vidimuslaw08.SimMore", spec := "simMore", unfollowed := true, recurses := true, apart := false }
def SimMoreSaid : Prop := simMoreRow.holds Try.pinned (OpenSpec.ofChange simMoreSpec)

/-- ITS FALSE NEIGHBOUR: 'it returns false'. Refute it at one input. -/
def simMoreWrong : ChangeSpec := { name := "simMore", fn := fun _ => fun
  | [d] => { results := [.lit (.bool false)], args := [d] }
  | _ => none }
def SimMoreWrongFalsely : Prop := simMoreRow.holds Try.pinned (OpenSpec.ofChange simMoreWrong)

/-- 'vidimuslaw08.SimFirst': WHATEVER THE INPUT: true; the input reads as it did. -/
def simFirstSpec : ChangeSpec := { name := "simFirst", fn := fun _ => fun
  | [d1, d2] => { results := [.lit (.bool true)], args := [d1, d2] }
  | _ => none }
def simFirstRow : OpenClaim := { program := "ytjbfplfopagpjaa", sum := "3f7887243a292d77bb2e9f35f845b0ca0f20241852e9b4ab102643c7010e5850", func := "vidimus/vidimuslaw08.SimFirst", spec := "simFirst", unfollowed := true, recurses := true, apart := false }
def SimFirstSaid : Prop := simFirstRow.holds Try.pinned (OpenSpec.ofChange simFirstSpec)

/-- ITS FALSE NEIGHBOUR: 'it returns false'. Refute it at one input. -/
def simFirstWrong : ChangeSpec := { name := "simFirst", fn := fun _ => fun
  | [d1, d2] => { results := [.lit (.bool false)], args := [d1, d2] }
  | _ => none }
def SimFirstWrongFalsely : Prop := simFirstRow.holds Try.pinned (OpenSpec.ofChange simFirstWrong)

/-- 'vidimuslaw09.TernTells': WHATEVER THE INPUT: true; the input reads as it did. -/
def ternTellsSpec : ChangeSpec := { name := "ternTells", fn := fun _ => fun
  | [d1, d2] => { results := [.lit (.bool true)], args := [d1, d2] }
  | _ => none }
def ternTellsRow : OpenClaim := { program := "ytjbfplfopagpjaa", sum := "3f7887243a292d77bb2e9f35f845b0ca0f20241852e9b4ab102643c7010e5850", func := "vidimus/vidimuslaw09.TernTells", spec := "ternTells", unfollowed := true, recurses := true, apart := false }
def TernTellsSaid : Prop := ternTellsRow.holds Try.pinned (OpenSpec.ofChange ternTellsSpec)

/-- ITS FALSE NEIGHBOUR: 'it returns false'. Refute it at one input. -/
def ternTellsWrong : ChangeSpec := { name := "ternTells", fn := fun _ => fun
  | [d1, d2] => { results := [.lit (.bool false)], args := [d1, d2] }
  | _ => none }
def TernTellsWrongFalsely : Prop := ternTellsRow.holds Try.pinned (OpenSpec.ofChange ternTellsWrong)

/-- 'vidimuslaw09.TernSteps': WHATEVER THE INPUT: true; the input reads as it did. -/
def ternStepsSpec : ChangeSpec := { name := "ternSteps", fn := fun _ => fun
  | [d] => { results := [.lit (.bool true)], args := [d] }
  | _ => none }
def ternStepsRow : OpenClaim := { program := "ytjbfplfopagpjaa", sum := "3f7887243a292d77bb2e9f35f845b0ca0f20241852e9b4ab102643c7010e5850", func := "vidimus/vidimuslaw09.TernSteps", spec := "ternSteps", unfollowed := true, recurses := true, apart := false }
def TernStepsSaid : Prop := ternStepsRow.holds Try.pinned (OpenSpec.ofChange ternStepsSpec)

/-- ITS FALSE NEIGHBOUR: 'it returns false'. Refute it at one input. -/
def ternStepsWrong : ChangeSpec := { name := "ternSteps", fn := fun _ => fun
  | [d] => { results := [.lit (.bool false)], args := [d] }
  | _ => none }
def TernStepsWrongFalsely : Prop := ternStepsRow.holds Try.pinned (OpenSpec.ofChange ternStepsWrong)

/-- 'vidimuslaw09.TernBelow': WHATEVER THE INPUT: true; the input reads as it did. -/
def ternBelowSpec : ChangeSpec := { name := "ternBelow", fn := fun _ => fun
  | [d1, d2, d3] => { results := [.lit (.bool true)], args := [d1, d2, d3] }
  | _ => none }
def ternBelowRow : OpenClaim := { program := "ytjbfplfopagpjaa", sum := "3f7887243a292d77bb2e9f35f845b0ca0f20241852e9b4ab102643c7010e5850", func := "vidimus/vidimuslaw09.TernBelow", spec := "ternBelow", unfollowed := true, recurses := true, apart := false }
def TernBelowSaid : Prop := ternBelowRow.holds Try.pinned (OpenSpec.ofChange ternBelowSpec)

/-- ITS FALSE NEIGHBOUR: 'it returns false'. Refute it at one input. -/
def ternBelowWrong : ChangeSpec := { name := "ternBelow", fn := fun _ => fun
  | [d1, d2, d3] => { results := [.lit (.bool false)], args := [d1, d2, d3] }
  | _ => none }
def TernBelowWrongFalsely : Prop := ternBelowRow.holds Try.pinned (OpenSpec.ofChange ternBelowWrong)

/-- 'vidimuslaw09.TernOrder': WHATEVER THE INPUT: true; the input reads as it did. -/
def ternOrderSpec : ChangeSpec := { name := "ternOrder", fn := fun _ => fun
  | [d1, d2, d3] => { results := [.lit (.bool true)], args := [d1, d2, d3] }
  | _ => none }
def ternOrderRow : OpenClaim := { program := "ytjbfplfopagpjaa", sum := "3f7887243a292d77bb2e9f35f845b0ca0f20241852e9b4ab102643c7010e5850", func := "vidimus/vidimuslaw09.TernOrder", spec := "ternOrder", unfollowed := true, recurses := true, apart := false }
def TernOrderSaid : Prop := ternOrderRow.holds Try.pinned (OpenSpec.ofChange ternOrderSpec)

/-- ITS FALSE NEIGHBOUR: 'it returns false'. Refute it at one input. -/
def ternOrderWrong : ChangeSpec := { name := "ternOrder", fn := fun _ => fun
  | [d1, d2, d3] => { results := [.lit (.bool false)], args := [d1, d2, d3] }
  | _ => none }
def TernOrderWrongFalsely : Prop := ternOrderRow.holds Try.pinned (OpenSpec.ofChange ternOrderWrong)

/-- 'vidimuslaw09.TernBelows': WHATEVER THE INPUT: true; the input reads as it did. -/
def ternBelowsSpec : ChangeSpec := { name := "ternBelows", fn := fun _ => fun
  | [d1, d2, d3] => { results := [.lit (.bool true)], args := [d1, d2, d3] }
  | _ => none }
def ternBelowsRow : OpenClaim := { program := "ytjbfplfopagpjaa", sum := "3f7887243a292d77bb2e9f35f845b0ca0f20241852e9b4ab102643c7010e5850", func := "vidimus/vidimuslaw09.TernBelows", spec := "ternBelows", unfollowed := true, recurses := true, apart := false }
def TernBelowsSaid : Prop := ternBelowsRow.holds Try.pinned (OpenSpec.ofChange ternBelowsSpec)

/-- ITS FALSE NEIGHBOUR: 'it returns false'. Refute it at one input. -/
def ternBelowsWrong : ChangeSpec := { name := "ternBelows", fn := fun _ => fun
  | [d1, d2, d3] => { results := [.lit (.bool false)], args := [d1, d2, d3] }
  | _ => none }
def TernBelowsWrongFalsely : Prop := ternBelowsRow.holds Try.pinned (OpenSpec.ofChange ternBelowsWrong)

/-- 'vidimuslaw09.TernExact': WHATEVER THE INPUT: true; the input reads as it did. -/
def ternExactSpec : ChangeSpec := { name := "ternExact", fn := fun _ => fun
  | [d] => { results := [.lit (.bool true)], args := [d] }
  | _ => none }
def ternExactRow : OpenClaim := { program := "ytjbfplfopagpjaa", sum := "3f7887243a292d77bb2e9f35f845b0ca0f20241852e9b4ab102643c7010e5850", func := "vidimus/vidimuslaw09.TernExact", spec := "ternExact", unfollowed := true, recurses := true, apart := false }
def TernExactSaid : Prop := ternExactRow.holds Try.pinned (OpenSpec.ofChange ternExactSpec)

/-- ITS FALSE NEIGHBOUR: 'it returns false'. Refute it at one input. -/
def ternExactWrong : ChangeSpec := { name := "ternExact", fn := fun _ => fun
  | [d] => { results := [.lit (.bool false)], args := [d] }
  | _ => none }
def TernExactWrongFalsely : Prop := ternExactRow.holds Try.pinned (OpenSpec.ofChange ternExactWrong)

/-- 'vidimuslaw09.TernTwo': WHATEVER THE INPUT: true; the input reads as it did. -/
def ternTwoSpec : ChangeSpec := { name := "ternTwo", fn := fun _ => fun
  | [d1, d2, d3] => { results := [.lit (.bool true)], args := [d1, d2, d3] }
  | _ => none }
def ternTwoRow : OpenClaim := { program := "ytjbfplfopagpjaa", sum := "3f7887243a292d77bb2e9f35f845b0ca0f20241852e9b4ab102643c7010e5850", func := "vidimus/vidimuslaw09.TernTwo", spec := "ternTwo", unfollowed := true, recurses := true, apart := false }
def TernTwoSaid : Prop := ternTwoRow.holds Try.pinned (OpenSpec.ofChange ternTwoSpec)

/-- ITS FALSE NEIGHBOUR: 'it returns false'. Refute it at one input. -/
def ternTwoWrong : ChangeSpec := { name := "ternTwo", fn := fun _ => fun
  | [d1, d2, d3] => { results := [.lit (.bool false)], args := [d1, d2, d3] }
  | _ => none }
def TernTwoWrongFalsely : Prop := ternTwoRow.holds Try.pinned (OpenSpec.ofChange ternTwoWrong)

/-- 'vidimuslaw12.ShrinkLeast': WHATEVER THE INPUT: true; the input reads as it did. -/
def shrinkLeastSpec : ChangeSpec := { name := "shrinkLeast", fn := fun _ => fun
  | [d1, d2] => { results := [.lit (.bool true)], args := [d1, d2] }
  | _ => none }
def shrinkLeastRow : OpenClaim := { program := "ytjbfplfopagpjaa", sum := "3f7887243a292d77bb2e9f35f845b0ca0f20241852e9b4ab102643c7010e5850", func := "vidimus/vidimuslaw12.ShrinkLeast", spec := "shrinkLeast", unfollowed := true, recurses := true, apart := false }
def ShrinkLeastSaid : Prop := shrinkLeastRow.holds Try.pinned (OpenSpec.ofChange shrinkLeastSpec)

/-- ITS FALSE NEIGHBOUR: 'it returns false'. Refute it at one input. -/
def shrinkLeastWrong : ChangeSpec := { name := "shrinkLeast", fn := fun _ => fun
  | [d1, d2] => { results := [.lit (.bool false)], args := [d1, d2] }
  | _ => none }
def ShrinkLeastWrongFalsely : Prop := shrinkLeastRow.holds Try.pinned (OpenSpec.ofChange shrinkLeastWrong)

/-- 'vidimuslaw12.ShrinkFills': WHATEVER THE INPUT: true; the input reads as it did. -/
def shrinkFillsSpec : ChangeSpec := { name := "shrinkFills", fn := fun _ => fun
  | [d1, d2, d3] => { results := [.lit (.bool true)], args := [d1, d2, d3] }
  | _ => none }
def shrinkFillsRow : OpenClaim := { program := "ytjbfplfopagpjaa", sum := "3f7887243a292d77bb2e9f35f845b0ca0f20241852e9b4ab102643c7010e5850", func := "vidimus/vidimuslaw12.ShrinkFills", spec := "shrinkFills", unfollowed := true, recurses := true, apart := false }
def ShrinkFillsSaid : Prop := shrinkFillsRow.holds Try.pinned (OpenSpec.ofChange shrinkFillsSpec)

/-- ITS FALSE NEIGHBOUR: 'it returns false'. Refute it at one input. -/
def shrinkFillsWrong : ChangeSpec := { name := "shrinkFills", fn := fun _ => fun
  | [d1, d2, d3] => { results := [.lit (.bool false)], args := [d1, d2, d3] }
  | _ => none }
def ShrinkFillsWrongFalsely : Prop := shrinkFillsRow.holds Try.pinned (OpenSpec.ofChange shrinkFillsWrong)

/-- 'vidimuslaw12.ShrinkUnder': WHATEVER THE INPUT: true; the input reads as it did. -/
def shrinkUnderSpec : ChangeSpec := { name := "shrinkUnder", fn := fun _ => fun
  | [d] => { results := [.lit (.bool true)], args := [d] }
  | _ => none }
def shrinkUnderRow : OpenClaim := { program := "ytjbfplfopagpjaa", sum := "3f7887243a292d77bb2e9f35f845b0ca0f20241852e9b4ab102643c7010e5850", func := "vidimus/vidimuslaw12.ShrinkUnder", spec := "shrinkUnder", unfollowed := true, recurses := true, apart := false }
def ShrinkUnderSaid : Prop := shrinkUnderRow.holds Try.pinned (OpenSpec.ofChange shrinkUnderSpec)

/-- ITS FALSE NEIGHBOUR: 'it returns false'. Refute it at one input. -/
def shrinkUnderWrong : ChangeSpec := { name := "shrinkUnder", fn := fun _ => fun
  | [d] => { results := [.lit (.bool false)], args := [d] }
  | _ => none }
def ShrinkUnderWrongFalsely : Prop := shrinkUnderRow.holds Try.pinned (OpenSpec.ofChange shrinkUnderWrong)

/-- 'vidimuslaw12.ShrinkOf': WHATEVER THE INPUT: true; the input reads as it did. -/
def shrinkOfSpec : ChangeSpec := { name := "shrinkOf", fn := fun _ => fun
  | [d1, d2, d3] => { results := [.lit (.bool true)], args := [d1, d2, d3] }
  | _ => none }
def shrinkOfRow : OpenClaim := { program := "ytjbfplfopagpjaa", sum := "3f7887243a292d77bb2e9f35f845b0ca0f20241852e9b4ab102643c7010e5850", func := "vidimus/vidimuslaw12.ShrinkOf", spec := "shrinkOf", unfollowed := true, recurses := true, apart := false }
def ShrinkOfSaid : Prop := shrinkOfRow.holds Try.pinned (OpenSpec.ofChange shrinkOfSpec)

/-- ITS FALSE NEIGHBOUR: 'it returns false'. Refute it at one input. -/
def shrinkOfWrong : ChangeSpec := { name := "shrinkOf", fn := fun _ => fun
  | [d1, d2, d3] => { results := [.lit (.bool false)], args := [d1, d2, d3] }
  | _ => none }
def ShrinkOfWrongFalsely : Prop := shrinkOfRow.holds Try.pinned (OpenSpec.ofChange shrinkOfWrong)

/-- 'vidimuslaw12.ShrinkHoles': WHATEVER THE INPUT: true; the input reads as it did. -/
def shrinkHolesSpec : ChangeSpec := { name := "shrinkHoles", fn := fun _ => fun
  | [d1, d2] => { results := [.lit (.bool true)], args := [d1, d2] }
  | _ => none }
def shrinkHolesRow : OpenClaim := { program := "ytjbfplfopagpjaa", sum := "3f7887243a292d77bb2e9f35f845b0ca0f20241852e9b4ab102643c7010e5850", func := "vidimus/vidimuslaw12.ShrinkHoles", spec := "shrinkHoles", unfollowed := true, recurses := true, apart := false }
def ShrinkHolesSaid : Prop := shrinkHolesRow.holds Try.pinned (OpenSpec.ofChange shrinkHolesSpec)

/-- ITS FALSE NEIGHBOUR: 'it returns false'. Refute it at one input. -/
def shrinkHolesWrong : ChangeSpec := { name := "shrinkHoles", fn := fun _ => fun
  | [d1, d2] => { results := [.lit (.bool false)], args := [d1, d2] }
  | _ => none }
def ShrinkHolesWrongFalsely : Prop := shrinkHolesRow.holds Try.pinned (OpenSpec.ofChange shrinkHolesWrong)

/-- 'vidimuslaw11.PlayTells': WHATEVER THE INPUT: true; the input reads as it did. -/
def playTellsSpec : ChangeSpec := { name := "playTells", fn := fun _ => fun
  | [d1, d2] => { results := [.lit (.bool true)], args := [d1, d2] }
  | _ => none }
def playTellsRow : OpenClaim := { program := "ytjbfplfopagpjaa", sum := "3f7887243a292d77bb2e9f35f845b0ca0f20241852e9b4ab102643c7010e5850", func := "vidimus/vidimuslaw11.PlayTells", spec := "playTells", unfollowed := true, recurses := true, apart := false }
def PlayTellsSaid : Prop := playTellsRow.holds Try.pinned (OpenSpec.ofChange playTellsSpec)

/-- ITS FALSE NEIGHBOUR: 'it returns false'. Refute it at one input. -/
def playTellsWrong : ChangeSpec := { name := "playTells", fn := fun _ => fun
  | [d1, d2] => { results := [.lit (.bool false)], args := [d1, d2] }
  | _ => none }
def PlayTellsWrongFalsely : Prop := playTellsRow.holds Try.pinned (OpenSpec.ofChange playTellsWrong)

/-- 'vidimuslaw11.PlayEvery': WHATEVER THE INPUT: true; the input reads as it did. -/
def playEverySpec : ChangeSpec := { name := "playEvery", fn := fun _ => fun
  | [d1, d2, d3] => { results := [.lit (.bool true)], args := [d1, d2, d3] }
  | _ => none }
def playEveryRow : OpenClaim := { program := "ytjbfplfopagpjaa", sum := "3f7887243a292d77bb2e9f35f845b0ca0f20241852e9b4ab102643c7010e5850", func := "vidimus/vidimuslaw11.PlayEvery", spec := "playEvery", unfollowed := true, recurses := true, apart := false }
def PlayEverySaid : Prop := playEveryRow.holds Try.pinned (OpenSpec.ofChange playEverySpec)

/-- ITS FALSE NEIGHBOUR: 'it returns false'. Refute it at one input. -/
def playEveryWrong : ChangeSpec := { name := "playEvery", fn := fun _ => fun
  | [d1, d2, d3] => { results := [.lit (.bool false)], args := [d1, d2, d3] }
  | _ => none }
def PlayEveryWrongFalsely : Prop := playEveryRow.holds Try.pinned (OpenSpec.ofChange playEveryWrong)

/-- 'vidimuslaw11.PlayImplies': WHATEVER THE INPUT: true; the input reads as it did. -/
def playImpliesSpec : ChangeSpec := { name := "playImplies", fn := fun _ => fun
  | [d1, d2, d3] => { results := [.lit (.bool true)], args := [d1, d2, d3] }
  | _ => none }
def playImpliesRow : OpenClaim := { program := "ytjbfplfopagpjaa", sum := "3f7887243a292d77bb2e9f35f845b0ca0f20241852e9b4ab102643c7010e5850", func := "vidimus/vidimuslaw11.PlayImplies", spec := "playImplies", unfollowed := true, recurses := true, apart := false }
def PlayImpliesSaid : Prop := playImpliesRow.holds Try.pinned (OpenSpec.ofChange playImpliesSpec)

/-- ITS FALSE NEIGHBOUR: 'it returns false'. Refute it at one input. -/
def playImpliesWrong : ChangeSpec := { name := "playImplies", fn := fun _ => fun
  | [d1, d2, d3] => { results := [.lit (.bool false)], args := [d1, d2, d3] }
  | _ => none }
def PlayImpliesWrongFalsely : Prop := playImpliesRow.holds Try.pinned (OpenSpec.ofChange playImpliesWrong)

/-- 'vidimuslaw11.PlayBelow': WHATEVER THE INPUT: true; the input reads as it did. -/
def playBelowSpec : ChangeSpec := { name := "playBelow", fn := fun _ => fun
  | [d1, d2, d3] => { results := [.lit (.bool true)], args := [d1, d2, d3] }
  | _ => none }
def playBelowRow : OpenClaim := { program := "ytjbfplfopagpjaa", sum := "3f7887243a292d77bb2e9f35f845b0ca0f20241852e9b4ab102643c7010e5850", func := "vidimus/vidimuslaw11.PlayBelow", spec := "playBelow", unfollowed := true, recurses := true, apart := false }
def PlayBelowSaid : Prop := playBelowRow.holds Try.pinned (OpenSpec.ofChange playBelowSpec)

/-- ITS FALSE NEIGHBOUR: 'it returns false'. Refute it at one input. -/
def playBelowWrong : ChangeSpec := { name := "playBelow", fn := fun _ => fun
  | [d1, d2, d3] => { results := [.lit (.bool false)], args := [d1, d2, d3] }
  | _ => none }
def PlayBelowWrongFalsely : Prop := playBelowRow.holds Try.pinned (OpenSpec.ofChange playBelowWrong)

/-- 'vidimuslaw11.PlayFrames': WHATEVER THE INPUT: true; the input reads as it did. -/
def playFramesSpec : ChangeSpec := { name := "playFrames", fn := fun _ => fun
  | [d1, d2, d3] => { results := [.lit (.bool true)], args := [d1, d2, d3] }
  | _ => none }
def playFramesRow : OpenClaim := { program := "ytjbfplfopagpjaa", sum := "3f7887243a292d77bb2e9f35f845b0ca0f20241852e9b4ab102643c7010e5850", func := "vidimus/vidimuslaw11.PlayFrames", spec := "playFrames", unfollowed := true, recurses := true, apart := false }
def PlayFramesSaid : Prop := playFramesRow.holds Try.pinned (OpenSpec.ofChange playFramesSpec)

/-- ITS FALSE NEIGHBOUR: 'it returns false'. Refute it at one input. -/
def playFramesWrong : ChangeSpec := { name := "playFrames", fn := fun _ => fun
  | [d1, d2, d3] => { results := [.lit (.bool false)], args := [d1, d2, d3] }
  | _ => none }
def PlayFramesWrongFalsely : Prop := playFramesRow.holds Try.pinned (OpenSpec.ofChange playFramesWrong)

/-- 'vidimuslaw11.PlayCon': WHATEVER THE INPUT: true; the input reads as it did. -/
def playConSpec : ChangeSpec := { name := "playCon", fn := fun _ => fun
  | [d1, d2, d3] => { results := [.lit (.bool true)], args := [d1, d2, d3] }
  | _ => none }
def playConRow : OpenClaim := { program := "ytjbfplfopagpjaa", sum := "3f7887243a292d77bb2e9f35f845b0ca0f20241852e9b4ab102643c7010e5850", func := "vidimus/vidimuslaw11.PlayCon", spec := "playCon", unfollowed := true, recurses := true, apart := false }
def PlayConSaid : Prop := playConRow.holds Try.pinned (OpenSpec.ofChange playConSpec)

/-- ITS FALSE NEIGHBOUR: 'it returns false'. Refute it at one input. -/
def playConWrong : ChangeSpec := { name := "playCon", fn := fun _ => fun
  | [d1, d2, d3] => { results := [.lit (.bool false)], args := [d1, d2, d3] }
  | _ => none }
def PlayConWrongFalsely : Prop := playConRow.holds Try.pinned (OpenSpec.ofChange playConWrong)

/-- 'vidimuslaw11.PlayLast': WHATEVER THE INPUT: true; the input reads as it did. -/
def playLastSpec : ChangeSpec := { name := "playLast", fn := fun _ => fun
  | [d1, d2] => { results := [.lit (.bool true)], args := [d1, d2] }
  | _ => none }
def playLastRow : OpenClaim := { program := "ytjbfplfopagpjaa", sum := "3f7887243a292d77bb2e9f35f845b0ca0f20241852e9b4ab102643c7010e5850", func := "vidimus/vidimuslaw11.PlayLast", spec := "playLast", unfollowed := true, recurses := true, apart := false }
def PlayLastSaid : Prop := playLastRow.holds Try.pinned (OpenSpec.ofChange playLastSpec)

/-- ITS FALSE NEIGHBOUR: 'it returns false'. Refute it at one input. -/
def playLastWrong : ChangeSpec := { name := "playLast", fn := fun _ => fun
  | [d1, d2] => { results := [.lit (.bool false)], args := [d1, d2] }
  | _ => none }
def PlayLastWrongFalsely : Prop := playLastRow.holds Try.pinned (OpenSpec.ofChange playLastWrong)

/- THE SECOND FORM. 'bulk': how many values and letters a reading holds, each counted each time it is reached (what is shared counts as often as it is met; a slice's spare places count too). A statement '..UptoSaid' is the law's where the arguments, and the package variables that the reading takes, are together of bulk at most 1048576: NARROWER than '..Said'. Prove '..Said' where nothing that the law and all that it calls make is longer than what came in: it says more and counts as full. Else prove '..UptoSaid'. A law counts once. -/
mutual
def uptoBulk {H : Type} : DataW H → Nat
  | .lit (.string bytes) => bytes.length + 1
  | .lit _ => 1
  | .nil => 1
  | .ptr d => uptoBulk d + 1
  | .slice elems spare => uptoBulkAll elems + uptoBulkAll spare + 1
  | .agg parts => uptoBulkAll parts + 1
  | .iface _ d => uptoBulk d + 1
  | .map entries => uptoBulkEntries entries + 1
  | .held _ => 1
def uptoBulkAll {H : Type} : List (DataW H) → Nat
  | [] => 0
  | d :: r => uptoBulk d + uptoBulkAll r
def uptoBulkEntries {H : Type} : List (Lit × DataW H) → Nat
  | [] => 0
  | x :: r => uptoBulkEntry x + uptoBulkEntries r
def uptoBulkEntry {H : Type} : Lit × DataW H → Nat
  | (.string bytes, d) => bytes.length + uptoBulk d + 1
  | (_, d) => uptoBulk d + 1
 end
def uptoSmall : (H : Type) → List (DataW H) → Bool := fun _ ds => decide (uptoBulkAll ds ≤ 1048576)
def OpenSpec.upto (s : _root_.Go.ChangeSpec) : _root_.Go.OpenSpec := { _root_.Go.OpenSpec.ofChange s with cond := some uptoSmall }

/-- 'vidimuslaw08.SimTells', WHERE WHAT IT READS IS OF BULK AT MOST 1048576: true; the input reads as it did. -/
def simTellsUptoRow : OpenClaim := { program := "ytjbfplfopagpjaa", sum := "3f7887243a292d77bb2e9f35f845b0ca0f20241852e9b4ab102643c7010e5850", func := "vidimus/vidimuslaw08.SimTells", spec := "simTells", unfollowed := true, recurses := true, apart := false, narrowed := true }
def SimTellsUptoSaid : Prop := simTellsUptoRow.holds Try.pinned (OpenSpec.upto simTellsSpec)

/-- 'vidimuslaw08.SimGates', WHERE WHAT IT READS IS OF BULK AT MOST 1048576: true; the input reads as it did. -/
def simGatesUptoRow : OpenClaim := { program := "ytjbfplfopagpjaa", sum := "3f7887243a292d77bb2e9f35f845b0ca0f20241852e9b4ab102643c7010e5850", func := "vidimus/vidimuslaw08.SimGates", spec := "simGates", unfollowed := true, recurses := true, apart := false, narrowed := true }
def SimGatesUptoSaid : Prop := simGatesUptoRow.holds Try.pinned (OpenSpec.upto simGatesSpec)

/-- 'vidimuslaw08.SimRuns', WHERE WHAT IT READS IS OF BULK AT MOST 1048576: true; the input reads as it did. -/
def simRunsUptoRow : OpenClaim := { program := "ytjbfplfopagpjaa", sum := "3f7887243a292d77bb2e9f35f845b0ca0f20241852e9b4ab102643c7010e5850", func := "vidimus/vidimuslaw08.SimRuns", spec := "simRuns", unfollowed := true, recurses := true, apart := false, narrowed := true }
def SimRunsUptoSaid : Prop := simRunsUptoRow.holds Try.pinned (OpenSpec.upto simRunsSpec)

/-- 'vidimuslaw08.SimShapes', WHERE WHAT IT READS IS OF BULK AT MOST 1048576: true; the input reads as it did. -/
def simShapesUptoRow : OpenClaim := { program := "ytjbfplfopagpjaa", sum := "3f7887243a292d77bb2e9f35f845b0ca0f20241852e9b4ab102643c7010e5850", func := "vidimus/vidimuslaw08.SimShapes", spec := "simShapes", unfollowed := true, recurses := true, apart := false, narrowed := true }
def SimShapesUptoSaid : Prop := simShapesUptoRow.holds Try.pinned (OpenSpec.upto simShapesSpec)

/-- 'vidimuslaw08.SimTaken', WHERE WHAT IT READS IS OF BULK AT MOST 1048576: true; the input reads as it did. -/
def simTakenUptoRow : OpenClaim := { program := "ytjbfplfopagpjaa", sum := "3f7887243a292d77bb2e9f35f845b0ca0f20241852e9b4ab102643c7010e5850", func := "vidimus/vidimuslaw08.SimTaken", spec := "simTaken", unfollowed := true, recurses := true, apart := false, narrowed := true }
def SimTakenUptoSaid : Prop := simTakenUptoRow.holds Try.pinned (OpenSpec.upto simTakenSpec)

/-- 'vidimuslaw08.SimMore', WHERE WHAT IT READS IS OF BULK AT MOST 1048576: true; the input reads as it did. -/
def simMoreUptoRow : OpenClaim := { program := "ytjbfplfopagpjaa", sum := "3f7887243a292d77bb2e9f35f845b0ca0f20241852e9b4ab102643c7010e5850", func := "vidimus/vidimuslaw08.SimMore", spec := "simMore", unfollowed := true, recurses := true, apart := false, narrowed := true }
def SimMoreUptoSaid : Prop := simMoreUptoRow.holds Try.pinned (OpenSpec.upto simMoreSpec)

/-- 'vidimuslaw08.SimFirst', WHERE WHAT IT READS IS OF BULK AT MOST 1048576: true; the input reads as it did. -/
def simFirstUptoRow : OpenClaim := { program := "ytjbfplfopagpjaa", sum := "3f7887243a292d77bb2e9f35f845b0ca0f20241852e9b4ab102643c7010e5850", func := "vidimus/vidimuslaw08.SimFirst", spec := "simFirst", unfollowed := true, recurses := true, apart := false, narrowed := true }
def SimFirstUptoSaid : Prop := simFirstUptoRow.holds Try.pinned (OpenSpec.upto simFirstSpec)

/-- 'vidimuslaw09.TernTells', WHERE WHAT IT READS IS OF BULK AT MOST 1048576: true; the input reads as it did. -/
def ternTellsUptoRow : OpenClaim := { program := "ytjbfplfopagpjaa", sum := "3f7887243a292d77bb2e9f35f845b0ca0f20241852e9b4ab102643c7010e5850", func := "vidimus/vidimuslaw09.TernTells", spec := "ternTells", unfollowed := true, recurses := true, apart := false, narrowed := true }
def TernTellsUptoSaid : Prop := ternTellsUptoRow.holds Try.pinned (OpenSpec.upto ternTellsSpec)

/-- 'vidimuslaw09.TernSteps', WHERE WHAT IT READS IS OF BULK AT MOST 1048576: true; the input reads as it did. -/
def ternStepsUptoRow : OpenClaim := { program := "ytjbfplfopagpjaa", sum := "3f7887243a292d77bb2e9f35f845b0ca0f20241852e9b4ab102643c7010e5850", func := "vidimus/vidimuslaw09.TernSteps", spec := "ternSteps", unfollowed := true, recurses := true, apart := false, narrowed := true }
def TernStepsUptoSaid : Prop := ternStepsUptoRow.holds Try.pinned (OpenSpec.upto ternStepsSpec)

/-- 'vidimuslaw09.TernBelow', WHERE WHAT IT READS IS OF BULK AT MOST 1048576: true; the input reads as it did. -/
def ternBelowUptoRow : OpenClaim := { program := "ytjbfplfopagpjaa", sum := "3f7887243a292d77bb2e9f35f845b0ca0f20241852e9b4ab102643c7010e5850", func := "vidimus/vidimuslaw09.TernBelow", spec := "ternBelow", unfollowed := true, recurses := true, apart := false, narrowed := true }
def TernBelowUptoSaid : Prop := ternBelowUptoRow.holds Try.pinned (OpenSpec.upto ternBelowSpec)

/-- 'vidimuslaw09.TernOrder', WHERE WHAT IT READS IS OF BULK AT MOST 1048576: true; the input reads as it did. -/
def ternOrderUptoRow : OpenClaim := { program := "ytjbfplfopagpjaa", sum := "3f7887243a292d77bb2e9f35f845b0ca0f20241852e9b4ab102643c7010e5850", func := "vidimus/vidimuslaw09.TernOrder", spec := "ternOrder", unfollowed := true, recurses := true, apart := false, narrowed := true }
def TernOrderUptoSaid : Prop := ternOrderUptoRow.holds Try.pinned (OpenSpec.upto ternOrderSpec)

/-- 'vidimuslaw09.TernBelows', WHERE WHAT IT READS IS OF BULK AT MOST 1048576: true; the input reads as it did. -/
def ternBelowsUptoRow : OpenClaim := { program := "ytjbfplfopagpjaa", sum := "3f7887243a292d77bb2e9f35f845b0ca0f20241852e9b4ab102643c7010e5850", func := "vidimus/vidimuslaw09.TernBelows", spec := "ternBelows", unfollowed := true, recurses := true, apart := false, narrowed := true }
def TernBelowsUptoSaid : Prop := ternBelowsUptoRow.holds Try.pinned (OpenSpec.upto ternBelowsSpec)

/-- 'vidimuslaw09.TernExact', WHERE WHAT IT READS IS OF BULK AT MOST 1048576: true; the input reads as it did. -/
def ternExactUptoRow : OpenClaim := { program := "ytjbfplfopagpjaa", sum := "3f7887243a292d77bb2e9f35f845b0ca0f20241852e9b4ab102643c7010e5850", func := "vidimus/vidimuslaw09.TernExact", spec := "ternExact", unfollowed := true, recurses := true, apart := false, narrowed := true }
def TernExactUptoSaid : Prop := ternExactUptoRow.holds Try.pinned (OpenSpec.upto ternExactSpec)

/-- 'vidimuslaw09.TernTwo', WHERE WHAT IT READS IS OF BULK AT MOST 1048576: true; the input reads as it did. -/
def ternTwoUptoRow : OpenClaim := { program := "ytjbfplfopagpjaa", sum := "3f7887243a292d77bb2e9f35f845b0ca0f20241852e9b4ab102643c7010e5850", func := "vidimus/vidimuslaw09.TernTwo", spec := "ternTwo", unfollowed := true, recurses := true, apart := false, narrowed := true }
def TernTwoUptoSaid : Prop := ternTwoUptoRow.holds Try.pinned (OpenSpec.upto ternTwoSpec)

/-- 'vidimuslaw12.ShrinkLeast', WHERE WHAT IT READS IS OF BULK AT MOST 1048576: true; the input reads as it did. -/
def shrinkLeastUptoRow : OpenClaim := { program := "ytjbfplfopagpjaa", sum := "3f7887243a292d77bb2e9f35f845b0ca0f20241852e9b4ab102643c7010e5850", func := "vidimus/vidimuslaw12.ShrinkLeast", spec := "shrinkLeast", unfollowed := true, recurses := true, apart := false, narrowed := true }
def ShrinkLeastUptoSaid : Prop := shrinkLeastUptoRow.holds Try.pinned (OpenSpec.upto shrinkLeastSpec)

/-- 'vidimuslaw12.ShrinkFills', WHERE WHAT IT READS IS OF BULK AT MOST 1048576: true; the input reads as it did. -/
def shrinkFillsUptoRow : OpenClaim := { program := "ytjbfplfopagpjaa", sum := "3f7887243a292d77bb2e9f35f845b0ca0f20241852e9b4ab102643c7010e5850", func := "vidimus/vidimuslaw12.ShrinkFills", spec := "shrinkFills", unfollowed := true, recurses := true, apart := false, narrowed := true }
def ShrinkFillsUptoSaid : Prop := shrinkFillsUptoRow.holds Try.pinned (OpenSpec.upto shrinkFillsSpec)

/-- 'vidimuslaw12.ShrinkUnder', WHERE WHAT IT READS IS OF BULK AT MOST 1048576: true; the input reads as it did. -/
def shrinkUnderUptoRow : OpenClaim := { program := "ytjbfplfopagpjaa", sum := "3f7887243a292d77bb2e9f35f845b0ca0f20241852e9b4ab102643c7010e5850", func := "vidimus/vidimuslaw12.ShrinkUnder", spec := "shrinkUnder", unfollowed := true, recurses := true, apart := false, narrowed := true }
def ShrinkUnderUptoSaid : Prop := shrinkUnderUptoRow.holds Try.pinned (OpenSpec.upto shrinkUnderSpec)

/-- 'vidimuslaw12.ShrinkOf', WHERE WHAT IT READS IS OF BULK AT MOST 1048576: true; the input reads as it did. -/
def shrinkOfUptoRow : OpenClaim := { program := "ytjbfplfopagpjaa", sum := "3f7887243a292d77bb2e9f35f845b0ca0f20241852e9b4ab102643c7010e5850", func := "vidimus/vidimuslaw12.ShrinkOf", spec := "shrinkOf", unfollowed := true, recurses := true, apart := false, narrowed := true }
def ShrinkOfUptoSaid : Prop := shrinkOfUptoRow.holds Try.pinned (OpenSpec.upto shrinkOfSpec)

/-- 'vidimuslaw12.ShrinkHoles', WHERE WHAT IT READS IS OF BULK AT MOST 1048576: true; the input reads as it did. -/
def shrinkHolesUptoRow : OpenClaim := { program := "ytjbfplfopagpjaa", sum := "3f7887243a292d77bb2e9f35f845b0ca0f20241852e9b4ab102643c7010e5850", func := "vidimus/vidimuslaw12.ShrinkHoles", spec := "shrinkHoles", unfollowed := true, recurses := true, apart := false, narrowed := true }
def ShrinkHolesUptoSaid : Prop := shrinkHolesUptoRow.holds Try.pinned (OpenSpec.upto shrinkHolesSpec)

/-- 'vidimuslaw11.PlayTells', WHERE WHAT IT READS IS OF BULK AT MOST 1048576: true; the input reads as it did. -/
def playTellsUptoRow : OpenClaim := { program := "ytjbfplfopagpjaa", sum := "3f7887243a292d77bb2e9f35f845b0ca0f20241852e9b4ab102643c7010e5850", func := "vidimus/vidimuslaw11.PlayTells", spec := "playTells", unfollowed := true, recurses := true, apart := false, narrowed := true }
def PlayTellsUptoSaid : Prop := playTellsUptoRow.holds Try.pinned (OpenSpec.upto playTellsSpec)

/-- 'vidimuslaw11.PlayEvery', WHERE WHAT IT READS IS OF BULK AT MOST 1048576: true; the input reads as it did. -/
def playEveryUptoRow : OpenClaim := { program := "ytjbfplfopagpjaa", sum := "3f7887243a292d77bb2e9f35f845b0ca0f20241852e9b4ab102643c7010e5850", func := "vidimus/vidimuslaw11.PlayEvery", spec := "playEvery", unfollowed := true, recurses := true, apart := false, narrowed := true }
def PlayEveryUptoSaid : Prop := playEveryUptoRow.holds Try.pinned (OpenSpec.upto playEverySpec)

/-- 'vidimuslaw11.PlayImplies', WHERE WHAT IT READS IS OF BULK AT MOST 1048576: true; the input reads as it did. -/
def playImpliesUptoRow : OpenClaim := { program := "ytjbfplfopagpjaa", sum := "3f7887243a292d77bb2e9f35f845b0ca0f20241852e9b4ab102643c7010e5850", func := "vidimus/vidimuslaw11.PlayImplies", spec := "playImplies", unfollowed := true, recurses := true, apart := false, narrowed := true }
def PlayImpliesUptoSaid : Prop := playImpliesUptoRow.holds Try.pinned (OpenSpec.upto playImpliesSpec)

/-- 'vidimuslaw11.PlayBelow', WHERE WHAT IT READS IS OF BULK AT MOST 1048576: true; the input reads as it did. -/
def playBelowUptoRow : OpenClaim := { program := "ytjbfplfopagpjaa", sum := "3f7887243a292d77bb2e9f35f845b0ca0f20241852e9b4ab102643c7010e5850", func := "vidimus/vidimuslaw11.PlayBelow", spec := "playBelow", unfollowed := true, recurses := true, apart := false, narrowed := true }
def PlayBelowUptoSaid : Prop := playBelowUptoRow.holds Try.pinned (OpenSpec.upto playBelowSpec)

/-- 'vidimuslaw11.PlayFrames', WHERE WHAT IT READS IS OF BULK AT MOST 1048576: true; the input reads as it did. -/
def playFramesUptoRow : OpenClaim := { program := "ytjbfplfopagpjaa", sum := "3f7887243a292d77bb2e9f35f845b0ca0f20241852e9b4ab102643c7010e5850", func := "vidimus/vidimuslaw11.PlayFrames", spec := "playFrames", unfollowed := true, recurses := true, apart := false, narrowed := true }
def PlayFramesUptoSaid : Prop := playFramesUptoRow.holds Try.pinned (OpenSpec.upto playFramesSpec)

/-- 'vidimuslaw11.PlayCon', WHERE WHAT IT READS IS OF BULK AT MOST 1048576: true; the input reads as it did. -/
def playConUptoRow : OpenClaim := { program := "ytjbfplfopagpjaa", sum := "3f7887243a292d77bb2e9f35f845b0ca0f20241852e9b4ab102643c7010e5850", func := "vidimus/vidimuslaw11.PlayCon", spec := "playCon", unfollowed := true, recurses := true, apart := false, narrowed := true }
def PlayConUptoSaid : Prop := playConUptoRow.holds Try.pinned (OpenSpec.upto playConSpec)

/-- 'vidimuslaw11.PlayLast', WHERE WHAT IT READS IS OF BULK AT MOST 1048576: true; the input reads as it did. -/
def playLastUptoRow : OpenClaim := { program := "ytjbfplfopagpjaa", sum := "3f7887243a292d77bb2e9f35f845b0ca0f20241852e9b4ab102643c7010e5850", func := "vidimus/vidimuslaw11.PlayLast", spec := "playLast", unfollowed := true, recurses := true, apart := false, narrowed := true }
def PlayLastUptoSaid : Prop := playLastUptoRow.holds Try.pinned (OpenSpec.upto playLastSpec)

end Rows
end Go.Proofs.Ytjbfplfopagpjaa
