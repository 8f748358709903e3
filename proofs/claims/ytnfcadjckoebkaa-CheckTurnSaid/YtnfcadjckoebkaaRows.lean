/-
  No cell of these rows narrows 'for every input' (looked for: loops, veiled, ifaces, maps, wideKeys, modest, calm, conditions, laid).
  DERIVED. THE GIVEN ROWS OF THIS SEAT. 22 by the template 'for every input the law returns true; each argument reads behind the call as it read before'; 0 by the template 'total and deterministic' (their statements: YtnfcadjckoebkaaTotals.lean).
  GIVEN WITH THE SEED: the statements are not yours to turn. If you find one false, say at which input.
  Laid BY PROGRAM, IN A SANDBOX (cutbox-rows.mjs): the forced cells as the released guide's own fill.sh prints them over the translation 604ce44f7316d411… (all of the seat's roots in one cut). By AI agents, Wed Nov 11 2026. No macro, syntax, notation, axiom, sorry.
-/
import Derived.Test.YtnfcadjckoebkaaChecked
import GoSem.Claim
import GoSem.ClaimJoined
import GoSem.ClaimMapViews
import Derived.JoinedTies
import Derived.KernelRfl
namespace Go.Proofs.Ytnfcadjckoebkaa
/- THE CELL 'sum', in the pinned program and in every row, IS THE sha256 OF THE DUMP (.gsa) THAT YtnfcadjckoebkaaProg.lean LOADS. Nothing in Lean hashes anything: it is a label: what it is worth is what the hold of that sum in a sandbox is worth. -/
noncomputable def Try.pinned : Pinned := { name := "ytnfcadjckoebkaa", sum := "604ce44f7316d4110be2b2a5124fd80bc9c38d975f997f591578e4e0e8ecec61", checked := Try.checked }
namespace Rows
def none {H : Type} : Left H := { results := [], args := [] }

/-- 'symbolonlaw05.CheckTells': WHATEVER THE INPUT: true; the input reads as it did. -/
def checkTellsSpec : ChangeSpec := { name := "checkTells", fn := fun _ => fun
  | [d1, d2] => { results := [.lit (.bool true)], args := [d1, d2] }
  | _ => none }
def checkTellsRow : OpenClaim := { program := "ytnfcadjckoebkaa", sum := "604ce44f7316d4110be2b2a5124fd80bc9c38d975f997f591578e4e0e8ecec61", func := "symbolon/symbolonlaw05.CheckTells", spec := "checkTells", unfollowed := true, recurses := true, apart := false }
def CheckTellsSaid : Prop := checkTellsRow.holds Try.pinned (OpenSpec.ofChange checkTellsSpec)

/-- ITS FALSE NEIGHBOUR: 'it returns false'. Refute it at one input. -/
def checkTellsWrong : ChangeSpec := { name := "checkTells", fn := fun _ => fun
  | [d1, d2] => { results := [.lit (.bool false)], args := [d1, d2] }
  | _ => none }
def CheckTellsWrongFalsely : Prop := checkTellsRow.holds Try.pinned (OpenSpec.ofChange checkTellsWrong)

/-- 'symbolonlaw05.CheckTurn': WHATEVER THE INPUT: true; the input reads as it did. -/
def checkTurnSpec : ChangeSpec := { name := "checkTurn", fn := fun _ => fun
  | [d] => { results := [.lit (.bool true)], args := [d] }
  | _ => none }
def checkTurnRow : OpenClaim := { program := "ytnfcadjckoebkaa", sum := "604ce44f7316d4110be2b2a5124fd80bc9c38d975f997f591578e4e0e8ecec61", func := "symbolon/symbolonlaw05.CheckTurn", spec := "checkTurn", unfollowed := true, recurses := true, apart := false }
def CheckTurnSaid : Prop := checkTurnRow.holds Try.pinned (OpenSpec.ofChange checkTurnSpec)

/-- ITS FALSE NEIGHBOUR: 'it returns false'. Refute it at one input. -/
def checkTurnWrong : ChangeSpec := { name := "checkTurn", fn := fun _ => fun
  | [d] => { results := [.lit (.bool false)], args := [d] }
  | _ => none }
def CheckTurnWrongFalsely : Prop := checkTurnRow.holds Try.pinned (OpenSpec.ofChange checkTurnWrong)

/-- 'symbolonlaw05.CheckCuts': WHATEVER THE INPUT: true; the input reads as it did. -/
def checkCutsSpec : ChangeSpec := { name := "checkCuts", fn := fun _ => fun
  | [d1, d2] => { results := [.lit (.bool true)], args := [d1, d2] }
  | _ => none }
def checkCutsRow : OpenClaim := { program := "ytnfcadjckoebkaa", sum := "604ce44f7316d4110be2b2a5124fd80bc9c38d975f997f591578e4e0e8ecec61", func := "symbolon/symbolonlaw05.CheckCuts", spec := "checkCuts", unfollowed := true, recurses := true, apart := false }
def CheckCutsSaid : Prop := checkCutsRow.holds Try.pinned (OpenSpec.ofChange checkCutsSpec)

/-- ITS FALSE NEIGHBOUR: 'it returns false'. Refute it at one input. -/
def checkCutsWrong : ChangeSpec := { name := "checkCuts", fn := fun _ => fun
  | [d1, d2] => { results := [.lit (.bool false)], args := [d1, d2] }
  | _ => none }
def CheckCutsWrongFalsely : Prop := checkCutsRow.holds Try.pinned (OpenSpec.ofChange checkCutsWrong)

/-- 'symbolonlaw05.CheckWeights': WHATEVER THE INPUT: true; the input reads as it did. -/
def checkWeightsSpec : ChangeSpec := { name := "checkWeights", fn := fun _ => fun
  | [d] => { results := [.lit (.bool true)], args := [d] }
  | _ => none }
def checkWeightsRow : OpenClaim := { program := "ytnfcadjckoebkaa", sum := "604ce44f7316d4110be2b2a5124fd80bc9c38d975f997f591578e4e0e8ecec61", func := "symbolon/symbolonlaw05.CheckWeights", spec := "checkWeights", unfollowed := true, recurses := true, apart := false }
def CheckWeightsSaid : Prop := checkWeightsRow.holds Try.pinned (OpenSpec.ofChange checkWeightsSpec)

/-- ITS FALSE NEIGHBOUR: 'it returns false'. Refute it at one input. -/
def checkWeightsWrong : ChangeSpec := { name := "checkWeights", fn := fun _ => fun
  | [d] => { results := [.lit (.bool false)], args := [d] }
  | _ => none }
def CheckWeightsWrongFalsely : Prop := checkWeightsRow.holds Try.pinned (OpenSpec.ofChange checkWeightsWrong)

/-- 'symbolonlaw05.CheckSquares': WHATEVER THE INPUT: true; the input reads as it did. -/
def checkSquaresSpec : ChangeSpec := { name := "checkSquares", fn := fun _ => fun
  | [d1, d2] => { results := [.lit (.bool true)], args := [d1, d2] }
  | _ => none }
def checkSquaresRow : OpenClaim := { program := "ytnfcadjckoebkaa", sum := "604ce44f7316d4110be2b2a5124fd80bc9c38d975f997f591578e4e0e8ecec61", func := "symbolon/symbolonlaw05.CheckSquares", spec := "checkSquares", unfollowed := true, recurses := true, apart := false }
def CheckSquaresSaid : Prop := checkSquaresRow.holds Try.pinned (OpenSpec.ofChange checkSquaresSpec)

/-- ITS FALSE NEIGHBOUR: 'it returns false'. Refute it at one input. -/
def checkSquaresWrong : ChangeSpec := { name := "checkSquares", fn := fun _ => fun
  | [d1, d2] => { results := [.lit (.bool false)], args := [d1, d2] }
  | _ => none }
def CheckSquaresWrongFalsely : Prop := checkSquaresRow.holds Try.pinned (OpenSpec.ofChange checkSquaresWrong)

/-- 'symbolonlaw05.CheckWrong': WHATEVER THE INPUT: true; the input reads as it did. -/
def checkWrongSpec : ChangeSpec := { name := "checkWrong", fn := fun _ => fun
  | [d1, d2] => { results := [.lit (.bool true)], args := [d1, d2] }
  | _ => none }
def checkWrongRow : OpenClaim := { program := "ytnfcadjckoebkaa", sum := "604ce44f7316d4110be2b2a5124fd80bc9c38d975f997f591578e4e0e8ecec61", func := "symbolon/symbolonlaw05.CheckWrong", spec := "checkWrong", unfollowed := true, recurses := true, apart := false }
def CheckWrongSaid : Prop := checkWrongRow.holds Try.pinned (OpenSpec.ofChange checkWrongSpec)

/-- ITS FALSE NEIGHBOUR: 'it returns false'. Refute it at one input. -/
def checkWrongWrong : ChangeSpec := { name := "checkWrong", fn := fun _ => fun
  | [d1, d2] => { results := [.lit (.bool false)], args := [d1, d2] }
  | _ => none }
def CheckWrongWrongFalsely : Prop := checkWrongRow.holds Try.pinned (OpenSpec.ofChange checkWrongWrong)

/-- 'symbolonlaw06.TermsTells': WHATEVER THE INPUT: true; the input reads as it did. -/
def termsTellsSpec : ChangeSpec := { name := "termsTells", fn := fun _ => fun
  | [d1, d2, d3] => { results := [.lit (.bool true)], args := [d1, d2, d3] }
  | _ => none }
def termsTellsRow : OpenClaim := { program := "ytnfcadjckoebkaa", sum := "604ce44f7316d4110be2b2a5124fd80bc9c38d975f997f591578e4e0e8ecec61", func := "symbolon/symbolonlaw06.TermsTells", spec := "termsTells", unfollowed := true, recurses := true, apart := false }
def TermsTellsSaid : Prop := termsTellsRow.holds Try.pinned (OpenSpec.ofChange termsTellsSpec)

/-- ITS FALSE NEIGHBOUR: 'it returns false'. Refute it at one input. -/
def termsTellsWrong : ChangeSpec := { name := "termsTells", fn := fun _ => fun
  | [d1, d2, d3] => { results := [.lit (.bool false)], args := [d1, d2, d3] }
  | _ => none }
def TermsTellsWrongFalsely : Prop := termsTellsRow.holds Try.pinned (OpenSpec.ofChange termsTellsWrong)

/-- 'symbolonlaw06.TermsCount': WHATEVER THE INPUT: true; the input reads as it did. -/
def termsCountSpec : ChangeSpec := { name := "termsCount", fn := fun _ => fun
  | [d1, d2] => { results := [.lit (.bool true)], args := [d1, d2] }
  | _ => none }
def termsCountRow : OpenClaim := { program := "ytnfcadjckoebkaa", sum := "604ce44f7316d4110be2b2a5124fd80bc9c38d975f997f591578e4e0e8ecec61", func := "symbolon/symbolonlaw06.TermsCount", spec := "termsCount", unfollowed := true, recurses := true, apart := false }
def TermsCountSaid : Prop := termsCountRow.holds Try.pinned (OpenSpec.ofChange termsCountSpec)

/-- ITS FALSE NEIGHBOUR: 'it returns false'. Refute it at one input. -/
def termsCountWrong : ChangeSpec := { name := "termsCount", fn := fun _ => fun
  | [d1, d2] => { results := [.lit (.bool false)], args := [d1, d2] }
  | _ => none }
def TermsCountWrongFalsely : Prop := termsCountRow.holds Try.pinned (OpenSpec.ofChange termsCountWrong)

/-- 'symbolonlaw06.TermsWeights': WHATEVER THE INPUT: true; the input reads as it did. -/
def termsWeightsSpec : ChangeSpec := { name := "termsWeights", fn := fun _ => fun
  | [d1, d2, d3] => { results := [.lit (.bool true)], args := [d1, d2, d3] }
  | _ => none }
def termsWeightsRow : OpenClaim := { program := "ytnfcadjckoebkaa", sum := "604ce44f7316d4110be2b2a5124fd80bc9c38d975f997f591578e4e0e8ecec61", func := "symbolon/symbolonlaw06.TermsWeights", spec := "termsWeights", unfollowed := true, recurses := true, apart := false }
def TermsWeightsSaid : Prop := termsWeightsRow.holds Try.pinned (OpenSpec.ofChange termsWeightsSpec)

/-- ITS FALSE NEIGHBOUR: 'it returns false'. Refute it at one input. -/
def termsWeightsWrong : ChangeSpec := { name := "termsWeights", fn := fun _ => fun
  | [d1, d2, d3] => { results := [.lit (.bool false)], args := [d1, d2, d3] }
  | _ => none }
def TermsWeightsWrongFalsely : Prop := termsWeightsRow.holds Try.pinned (OpenSpec.ofChange termsWeightsWrong)

/-- 'symbolonlaw06.TermsApart': WHATEVER THE INPUT: true; the input reads as it did. -/
def termsApartSpec : ChangeSpec := { name := "termsApart", fn := fun _ => fun
  | [d1, d2, d3, d4] => { results := [.lit (.bool true)], args := [d1, d2, d3, d4] }
  | _ => none }
def termsApartRow : OpenClaim := { program := "ytnfcadjckoebkaa", sum := "604ce44f7316d4110be2b2a5124fd80bc9c38d975f997f591578e4e0e8ecec61", func := "symbolon/symbolonlaw06.TermsApart", spec := "termsApart", unfollowed := true, recurses := true, apart := false }
def TermsApartSaid : Prop := termsApartRow.holds Try.pinned (OpenSpec.ofChange termsApartSpec)

/-- ITS FALSE NEIGHBOUR: 'it returns false'. Refute it at one input. -/
def termsApartWrong : ChangeSpec := { name := "termsApart", fn := fun _ => fun
  | [d1, d2, d3, d4] => { results := [.lit (.bool false)], args := [d1, d2, d3, d4] }
  | _ => none }
def TermsApartWrongFalsely : Prop := termsApartRow.holds Try.pinned (OpenSpec.ofChange termsApartWrong)

/-- 'symbolonlaw06.TermsBlocks': WHATEVER THE INPUT: true; the input reads as it did. -/
def termsBlocksSpec : ChangeSpec := { name := "termsBlocks", fn := fun _ => fun
  | [d1, d2] => { results := [.lit (.bool true)], args := [d1, d2] }
  | _ => none }
def termsBlocksRow : OpenClaim := { program := "ytnfcadjckoebkaa", sum := "604ce44f7316d4110be2b2a5124fd80bc9c38d975f997f591578e4e0e8ecec61", func := "symbolon/symbolonlaw06.TermsBlocks", spec := "termsBlocks", unfollowed := true, recurses := true, apart := false }
def TermsBlocksSaid : Prop := termsBlocksRow.holds Try.pinned (OpenSpec.ofChange termsBlocksSpec)

/-- ITS FALSE NEIGHBOUR: 'it returns false'. Refute it at one input. -/
def termsBlocksWrong : ChangeSpec := { name := "termsBlocks", fn := fun _ => fun
  | [d1, d2] => { results := [.lit (.bool false)], args := [d1, d2] }
  | _ => none }
def TermsBlocksWrongFalsely : Prop := termsBlocksRow.holds Try.pinned (OpenSpec.ofChange termsBlocksWrong)

/-- 'symbolonlaw06.TermsSteps': WHATEVER THE INPUT: true; the input reads as it did. -/
def termsStepsSpec : ChangeSpec := { name := "termsSteps", fn := fun _ => fun
  | [d1, d2, d3] => { results := [.lit (.bool true)], args := [d1, d2, d3] }
  | _ => none }
def termsStepsRow : OpenClaim := { program := "ytnfcadjckoebkaa", sum := "604ce44f7316d4110be2b2a5124fd80bc9c38d975f997f591578e4e0e8ecec61", func := "symbolon/symbolonlaw06.TermsSteps", spec := "termsSteps", unfollowed := true, recurses := true, apart := false }
def TermsStepsSaid : Prop := termsStepsRow.holds Try.pinned (OpenSpec.ofChange termsStepsSpec)

/-- ITS FALSE NEIGHBOUR: 'it returns false'. Refute it at one input. -/
def termsStepsWrong : ChangeSpec := { name := "termsSteps", fn := fun _ => fun
  | [d1, d2, d3] => { results := [.lit (.bool false)], args := [d1, d2, d3] }
  | _ => none }
def TermsStepsWrongFalsely : Prop := termsStepsRow.holds Try.pinned (OpenSpec.ofChange termsStepsWrong)

/-- 'symbolonlaw07.PlainTells': WHATEVER THE INPUT: true; the input reads as it did. -/
def plainTellsSpec : ChangeSpec := { name := "plainTells", fn := fun _ => fun
  | [d1, d2, d3, d4] => { results := [.lit (.bool true)], args := [d1, d2, d3, d4] }
  | _ => none }
def plainTellsRow : OpenClaim := { program := "ytnfcadjckoebkaa", sum := "604ce44f7316d4110be2b2a5124fd80bc9c38d975f997f591578e4e0e8ecec61", func := "symbolon/symbolonlaw07.PlainTells", spec := "plainTells", unfollowed := true, recurses := true, apart := false }
def PlainTellsSaid : Prop := plainTellsRow.holds Try.pinned (OpenSpec.ofChange plainTellsSpec)

/-- ITS FALSE NEIGHBOUR: 'it returns false'. Refute it at one input. -/
def plainTellsWrong : ChangeSpec := { name := "plainTells", fn := fun _ => fun
  | [d1, d2, d3, d4] => { results := [.lit (.bool false)], args := [d1, d2, d3, d4] }
  | _ => none }
def PlainTellsWrongFalsely : Prop := plainTellsRow.holds Try.pinned (OpenSpec.ofChange plainTellsWrong)

/-- 'symbolonlaw07.PlainLinear': WHATEVER THE INPUT: true; the input reads as it did. -/
def plainLinearSpec : ChangeSpec := { name := "plainLinear", fn := fun _ => fun
  | [d1, d2, d3, d4, d5, d6] => { results := [.lit (.bool true)], args := [d1, d2, d3, d4, d5, d6] }
  | _ => none }
def plainLinearRow : OpenClaim := { program := "ytnfcadjckoebkaa", sum := "604ce44f7316d4110be2b2a5124fd80bc9c38d975f997f591578e4e0e8ecec61", func := "symbolon/symbolonlaw07.PlainLinear", spec := "plainLinear", unfollowed := true, recurses := true, apart := false }
def PlainLinearSaid : Prop := plainLinearRow.holds Try.pinned (OpenSpec.ofChange plainLinearSpec)

/-- ITS FALSE NEIGHBOUR: 'it returns false'. Refute it at one input. -/
def plainLinearWrong : ChangeSpec := { name := "plainLinear", fn := fun _ => fun
  | [d1, d2, d3, d4, d5, d6] => { results := [.lit (.bool false)], args := [d1, d2, d3, d4, d5, d6] }
  | _ => none }
def PlainLinearWrongFalsely : Prop := plainLinearRow.holds Try.pinned (OpenSpec.ofChange plainLinearWrong)

/-- 'symbolonlaw07.PlainWeights': WHATEVER THE INPUT: true; the input reads as it did. -/
def plainWeightsSpec : ChangeSpec := { name := "plainWeights", fn := fun _ => fun
  | [d1, d2, d3, d4, d5, d6] => { results := [.lit (.bool true)], args := [d1, d2, d3, d4, d5, d6] }
  | _ => none }
def plainWeightsRow : OpenClaim := { program := "ytnfcadjckoebkaa", sum := "604ce44f7316d4110be2b2a5124fd80bc9c38d975f997f591578e4e0e8ecec61", func := "symbolon/symbolonlaw07.PlainWeights", spec := "plainWeights", unfollowed := true, recurses := true, apart := false }
def PlainWeightsSaid : Prop := plainWeightsRow.holds Try.pinned (OpenSpec.ofChange plainWeightsSpec)

/-- ITS FALSE NEIGHBOUR: 'it returns false'. Refute it at one input. -/
def plainWeightsWrong : ChangeSpec := { name := "plainWeights", fn := fun _ => fun
  | [d1, d2, d3, d4, d5, d6] => { results := [.lit (.bool false)], args := [d1, d2, d3, d4, d5, d6] }
  | _ => none }
def PlainWeightsWrongFalsely : Prop := plainWeightsRow.holds Try.pinned (OpenSpec.ofChange plainWeightsWrong)

/-- 'symbolonlaw07.PlainSquare': WHATEVER THE INPUT: true; the input reads as it did. -/
def plainSquareSpec : ChangeSpec := { name := "plainSquare", fn := fun _ => fun
  | [d1, d2, d3, d4, d5] => { results := [.lit (.bool true)], args := [d1, d2, d3, d4, d5] }
  | _ => none }
def plainSquareRow : OpenClaim := { program := "ytnfcadjckoebkaa", sum := "604ce44f7316d4110be2b2a5124fd80bc9c38d975f997f591578e4e0e8ecec61", func := "symbolon/symbolonlaw07.PlainSquare", spec := "plainSquare", unfollowed := true, recurses := true, apart := false }
def PlainSquareSaid : Prop := plainSquareRow.holds Try.pinned (OpenSpec.ofChange plainSquareSpec)

/-- ITS FALSE NEIGHBOUR: 'it returns false'. Refute it at one input. -/
def plainSquareWrong : ChangeSpec := { name := "plainSquare", fn := fun _ => fun
  | [d1, d2, d3, d4, d5] => { results := [.lit (.bool false)], args := [d1, d2, d3, d4, d5] }
  | _ => none }
def PlainSquareWrongFalsely : Prop := plainSquareRow.holds Try.pinned (OpenSpec.ofChange plainSquareWrong)

/-- 'symbolonlaw07.PlainTurn': WHATEVER THE INPUT: true; the input reads as it did. -/
def plainTurnSpec : ChangeSpec := { name := "plainTurn", fn := fun _ => fun
  | [d1, d2, d3] => { results := [.lit (.bool true)], args := [d1, d2, d3] }
  | _ => none }
def plainTurnRow : OpenClaim := { program := "ytnfcadjckoebkaa", sum := "604ce44f7316d4110be2b2a5124fd80bc9c38d975f997f591578e4e0e8ecec61", func := "symbolon/symbolonlaw07.PlainTurn", spec := "plainTurn", unfollowed := true, recurses := true, apart := false }
def PlainTurnSaid : Prop := plainTurnRow.holds Try.pinned (OpenSpec.ofChange plainTurnSpec)

/-- ITS FALSE NEIGHBOUR: 'it returns false'. Refute it at one input. -/
def plainTurnWrong : ChangeSpec := { name := "plainTurn", fn := fun _ => fun
  | [d1, d2, d3] => { results := [.lit (.bool false)], args := [d1, d2, d3] }
  | _ => none }
def PlainTurnWrongFalsely : Prop := plainTurnRow.holds Try.pinned (OpenSpec.ofChange plainTurnWrong)

/-- 'symbolonlaw07.PlainCut': WHATEVER THE INPUT: true; the input reads as it did. -/
def plainCutSpec : ChangeSpec := { name := "plainCut", fn := fun _ => fun
  | [d1, d2, d3, d4] => { results := [.lit (.bool true)], args := [d1, d2, d3, d4] }
  | _ => none }
def plainCutRow : OpenClaim := { program := "ytnfcadjckoebkaa", sum := "604ce44f7316d4110be2b2a5124fd80bc9c38d975f997f591578e4e0e8ecec61", func := "symbolon/symbolonlaw07.PlainCut", spec := "plainCut", unfollowed := true, recurses := true, apart := false }
def PlainCutSaid : Prop := plainCutRow.holds Try.pinned (OpenSpec.ofChange plainCutSpec)

/-- ITS FALSE NEIGHBOUR: 'it returns false'. Refute it at one input. -/
def plainCutWrong : ChangeSpec := { name := "plainCut", fn := fun _ => fun
  | [d1, d2, d3, d4] => { results := [.lit (.bool false)], args := [d1, d2, d3, d4] }
  | _ => none }
def PlainCutWrongFalsely : Prop := plainCutRow.holds Try.pinned (OpenSpec.ofChange plainCutWrong)

/-- 'symbolonlaw07.PlainZero': WHATEVER THE INPUT: true; the input reads as it did. -/
def plainZeroSpec : ChangeSpec := { name := "plainZero", fn := fun _ => fun
  | [d1, d2, d3, d4] => { results := [.lit (.bool true)], args := [d1, d2, d3, d4] }
  | _ => none }
def plainZeroRow : OpenClaim := { program := "ytnfcadjckoebkaa", sum := "604ce44f7316d4110be2b2a5124fd80bc9c38d975f997f591578e4e0e8ecec61", func := "symbolon/symbolonlaw07.PlainZero", spec := "plainZero", unfollowed := true, recurses := true, apart := false }
def PlainZeroSaid : Prop := plainZeroRow.holds Try.pinned (OpenSpec.ofChange plainZeroSpec)

/-- ITS FALSE NEIGHBOUR: 'it returns false'. Refute it at one input. -/
def plainZeroWrong : ChangeSpec := { name := "plainZero", fn := fun _ => fun
  | [d1, d2, d3, d4] => { results := [.lit (.bool false)], args := [d1, d2, d3, d4] }
  | _ => none }
def PlainZeroWrongFalsely : Prop := plainZeroRow.holds Try.pinned (OpenSpec.ofChange plainZeroWrong)

/-- 'symbolonlaw08.GatesTells': WHATEVER THE INPUT: true; the input reads as it did. -/
def gatesTellsSpec : ChangeSpec := { name := "gatesTells", fn := fun _ => fun
  | [d1, d2, d3, d4, d5, d6] => { results := [.lit (.bool true)], args := [d1, d2, d3, d4, d5, d6] }
  | _ => none }
def gatesTellsRow : OpenClaim := { program := "ytnfcadjckoebkaa", sum := "604ce44f7316d4110be2b2a5124fd80bc9c38d975f997f591578e4e0e8ecec61", func := "symbolon/symbolonlaw08.GatesTells", spec := "gatesTells", unfollowed := true, recurses := true, apart := false }
def GatesTellsSaid : Prop := gatesTellsRow.holds Try.pinned (OpenSpec.ofChange gatesTellsSpec)

/-- ITS FALSE NEIGHBOUR: 'it returns false'. Refute it at one input. -/
def gatesTellsWrong : ChangeSpec := { name := "gatesTells", fn := fun _ => fun
  | [d1, d2, d3, d4, d5, d6] => { results := [.lit (.bool false)], args := [d1, d2, d3, d4, d5, d6] }
  | _ => none }
def GatesTellsWrongFalsely : Prop := gatesTellsRow.holds Try.pinned (OpenSpec.ofChange gatesTellsWrong)

/-- 'symbolonlaw08.GatesBack': WHATEVER THE INPUT: true; the input reads as it did. -/
def gatesBackSpec : ChangeSpec := { name := "gatesBack", fn := fun _ => fun
  | [d1, d2, d3, d4, d5] => { results := [.lit (.bool true)], args := [d1, d2, d3, d4, d5] }
  | _ => none }
def gatesBackRow : OpenClaim := { program := "ytnfcadjckoebkaa", sum := "604ce44f7316d4110be2b2a5124fd80bc9c38d975f997f591578e4e0e8ecec61", func := "symbolon/symbolonlaw08.GatesBack", spec := "gatesBack", unfollowed := true, recurses := true, apart := false }
def GatesBackSaid : Prop := gatesBackRow.holds Try.pinned (OpenSpec.ofChange gatesBackSpec)

/-- ITS FALSE NEIGHBOUR: 'it returns false'. Refute it at one input. -/
def gatesBackWrong : ChangeSpec := { name := "gatesBack", fn := fun _ => fun
  | [d1, d2, d3, d4, d5] => { results := [.lit (.bool false)], args := [d1, d2, d3, d4, d5] }
  | _ => none }
def GatesBackWrongFalsely : Prop := gatesBackRow.holds Try.pinned (OpenSpec.ofChange gatesBackWrong)

/-- 'symbolonlaw08.GatesTerms': WHATEVER THE INPUT: true; the input reads as it did. -/
def gatesTermsSpec : ChangeSpec := { name := "gatesTerms", fn := fun _ => fun
  | [d1, d2, d3] => { results := [.lit (.bool true)], args := [d1, d2, d3] }
  | _ => none }
def gatesTermsRow : OpenClaim := { program := "ytnfcadjckoebkaa", sum := "604ce44f7316d4110be2b2a5124fd80bc9c38d975f997f591578e4e0e8ecec61", func := "symbolon/symbolonlaw08.GatesTerms", spec := "gatesTerms", unfollowed := true, recurses := true, apart := false }
def GatesTermsSaid : Prop := gatesTermsRow.holds Try.pinned (OpenSpec.ofChange gatesTermsSpec)

/-- ITS FALSE NEIGHBOUR: 'it returns false'. Refute it at one input. -/
def gatesTermsWrong : ChangeSpec := { name := "gatesTerms", fn := fun _ => fun
  | [d1, d2, d3] => { results := [.lit (.bool false)], args := [d1, d2, d3] }
  | _ => none }
def GatesTermsWrongFalsely : Prop := gatesTermsRow.holds Try.pinned (OpenSpec.ofChange gatesTermsWrong)

/- THE SECOND FORM. 'bulk': how many values and letters a reading holds, each counted each time it is reached (what is shared counts as often as it is met; a slice's spare places count too). A statement '..UptoSaid' is the law's where the arguments, and the package variables that the reading takes, are together of bulk at most 1048576: NARROWER than '..Said'. Prove '..Said' where nothing that the law and all that it calls make is longer than what came in: it says more and counts as full. Else prove '..UptoSaid'. A law counts once. -/
mutual
def uptoBulk {H : Type} : DataW H → Nat
  | .lit (.string bytes) => bytes.length + 1
  | .lit _ => 1
  | .nil => 1
  | .ptr d => uptoBulk d + 1
  | .slice elems spare => uptoBulkAll elems + uptoBulkAll spare + 1
  | .agg parts => uptoBulkAll parts + 1
  | .iface _ d => uptoBulk d + 1
  | .map entries => uptoBulkEntries entries + 1
  | .held _ => 1
def uptoBulkAll {H : Type} : List (DataW H) → Nat
  | [] => 0
  | d :: r => uptoBulk d + uptoBulkAll r
def uptoBulkEntries {H : Type} : List (Lit × DataW H) → Nat
  | [] => 0
  | x :: r => uptoBulkEntry x + uptoBulkEntries r
def uptoBulkEntry {H : Type} : Lit × DataW H → Nat
  | (.string bytes, d) => bytes.length + uptoBulk d + 1
  | (_, d) => uptoBulk d + 1
 end
def uptoSmall : (H : Type) → List (DataW H) → Bool := fun _ ds => decide (uptoBulkAll ds ≤ 1048576)
def OpenSpec.upto (s : _root_.Go.ChangeSpec) : _root_.Go.OpenSpec := { _root_.Go.OpenSpec.ofChange s with cond := some uptoSmall }

/-- 'symbolonlaw05.CheckTells', WHERE WHAT IT READS IS OF BULK AT MOST 1048576: true; the input reads as it did. -/
def checkTellsUptoRow : OpenClaim := { program := "ytnfcadjckoebkaa", sum := "604ce44f7316d4110be2b2a5124fd80bc9c38d975f997f591578e4e0e8ecec61", func := "symbolon/symbolonlaw05.CheckTells", spec := "checkTells", unfollowed := true, recurses := true, apart := false, narrowed := true }
def CheckTellsUptoSaid : Prop := checkTellsUptoRow.holds Try.pinned (OpenSpec.upto checkTellsSpec)

/-- 'symbolonlaw05.CheckTurn', WHERE WHAT IT READS IS OF BULK AT MOST 1048576: true; the input reads as it did. -/
def checkTurnUptoRow : OpenClaim := { program := "ytnfcadjckoebkaa", sum := "604ce44f7316d4110be2b2a5124fd80bc9c38d975f997f591578e4e0e8ecec61", func := "symbolon/symbolonlaw05.CheckTurn", spec := "checkTurn", unfollowed := true, recurses := true, apart := false, narrowed := true }
def CheckTurnUptoSaid : Prop := checkTurnUptoRow.holds Try.pinned (OpenSpec.upto checkTurnSpec)

/-- 'symbolonlaw05.CheckCuts', WHERE WHAT IT READS IS OF BULK AT MOST 1048576: true; the input reads as it did. -/
def checkCutsUptoRow : OpenClaim := { program := "ytnfcadjckoebkaa", sum := "604ce44f7316d4110be2b2a5124fd80bc9c38d975f997f591578e4e0e8ecec61", func := "symbolon/symbolonlaw05.CheckCuts", spec := "checkCuts", unfollowed := true, recurses := true, apart := false, narrowed := true }
def CheckCutsUptoSaid : Prop := checkCutsUptoRow.holds Try.pinned (OpenSpec.upto checkCutsSpec)

/-- 'symbolonlaw05.CheckWeights', WHERE WHAT IT READS IS OF BULK AT MOST 1048576: true; the input reads as it did. -/
def checkWeightsUptoRow : OpenClaim := { program := "ytnfcadjckoebkaa", sum := "604ce44f7316d4110be2b2a5124fd80bc9c38d975f997f591578e4e0e8ecec61", func := "symbolon/symbolonlaw05.CheckWeights", spec := "checkWeights", unfollowed := true, recurses := true, apart := false, narrowed := true }
def CheckWeightsUptoSaid : Prop := checkWeightsUptoRow.holds Try.pinned (OpenSpec.upto checkWeightsSpec)

/-- 'symbolonlaw05.CheckSquares', WHERE WHAT IT READS IS OF BULK AT MOST 1048576: true; the input reads as it did. -/
def checkSquaresUptoRow : OpenClaim := { program := "ytnfcadjckoebkaa", sum := "604ce44f7316d4110be2b2a5124fd80bc9c38d975f997f591578e4e0e8ecec61", func := "symbolon/symbolonlaw05.CheckSquares", spec := "checkSquares", unfollowed := true, recurses := true, apart := false, narrowed := true }
def CheckSquaresUptoSaid : Prop := checkSquaresUptoRow.holds Try.pinned (OpenSpec.upto checkSquaresSpec)

/-- 'symbolonlaw05.CheckWrong', WHERE WHAT IT READS IS OF BULK AT MOST 1048576: true; the input reads as it did. -/
def checkWrongUptoRow : OpenClaim := { program := "ytnfcadjckoebkaa", sum := "604ce44f7316d4110be2b2a5124fd80bc9c38d975f997f591578e4e0e8ecec61", func := "symbolon/symbolonlaw05.CheckWrong", spec := "checkWrong", unfollowed := true, recurses := true, apart := false, narrowed := true }
def CheckWrongUptoSaid : Prop := checkWrongUptoRow.holds Try.pinned (OpenSpec.upto checkWrongSpec)

/-- 'symbolonlaw06.TermsTells', WHERE WHAT IT READS IS OF BULK AT MOST 1048576: true; the input reads as it did. -/
def termsTellsUptoRow : OpenClaim := { program := "ytnfcadjckoebkaa", sum := "604ce44f7316d4110be2b2a5124fd80bc9c38d975f997f591578e4e0e8ecec61", func := "symbolon/symbolonlaw06.TermsTells", spec := "termsTells", unfollowed := true, recurses := true, apart := false, narrowed := true }
def TermsTellsUptoSaid : Prop := termsTellsUptoRow.holds Try.pinned (OpenSpec.upto termsTellsSpec)

/-- 'symbolonlaw06.TermsCount', WHERE WHAT IT READS IS OF BULK AT MOST 1048576: true; the input reads as it did. -/
def termsCountUptoRow : OpenClaim := { program := "ytnfcadjckoebkaa", sum := "604ce44f7316d4110be2b2a5124fd80bc9c38d975f997f591578e4e0e8ecec61", func := "symbolon/symbolonlaw06.TermsCount", spec := "termsCount", unfollowed := true, recurses := true, apart := false, narrowed := true }
def TermsCountUptoSaid : Prop := termsCountUptoRow.holds Try.pinned (OpenSpec.upto termsCountSpec)

/-- 'symbolonlaw06.TermsWeights', WHERE WHAT IT READS IS OF BULK AT MOST 1048576: true; the input reads as it did. -/
def termsWeightsUptoRow : OpenClaim := { program := "ytnfcadjckoebkaa", sum := "604ce44f7316d4110be2b2a5124fd80bc9c38d975f997f591578e4e0e8ecec61", func := "symbolon/symbolonlaw06.TermsWeights", spec := "termsWeights", unfollowed := true, recurses := true, apart := false, narrowed := true }
def TermsWeightsUptoSaid : Prop := termsWeightsUptoRow.holds Try.pinned (OpenSpec.upto termsWeightsSpec)

/-- 'symbolonlaw06.TermsApart', WHERE WHAT IT READS IS OF BULK AT MOST 1048576: true; the input reads as it did. -/
def termsApartUptoRow : OpenClaim := { program := "ytnfcadjckoebkaa", sum := "604ce44f7316d4110be2b2a5124fd80bc9c38d975f997f591578e4e0e8ecec61", func := "symbolon/symbolonlaw06.TermsApart", spec := "termsApart", unfollowed := true, recurses := true, apart := false, narrowed := true }
def TermsApartUptoSaid : Prop := termsApartUptoRow.holds Try.pinned (OpenSpec.upto termsApartSpec)

/-- 'symbolonlaw06.TermsBlocks', WHERE WHAT IT READS IS OF BULK AT MOST 1048576: true; the input reads as it did. -/
def termsBlocksUptoRow : OpenClaim := { program := "ytnfcadjckoebkaa", sum := "604ce44f7316d4110be2b2a5124fd80bc9c38d975f997f591578e4e0e8ecec61", func := "symbolon/symbolonlaw06.TermsBlocks", spec := "termsBlocks", unfollowed := true, recurses := true, apart := false, narrowed := true }
def TermsBlocksUptoSaid : Prop := termsBlocksUptoRow.holds Try.pinned (OpenSpec.upto termsBlocksSpec)

/-- 'symbolonlaw06.TermsSteps', WHERE WHAT IT READS IS OF BULK AT MOST 1048576: true; the input reads as it did. -/
def termsStepsUptoRow : OpenClaim := { program := "ytnfcadjckoebkaa", sum := "604ce44f7316d4110be2b2a5124fd80bc9c38d975f997f591578e4e0e8ecec61", func := "symbolon/symbolonlaw06.TermsSteps", spec := "termsSteps", unfollowed := true, recurses := true, apart := false, narrowed := true }
def TermsStepsUptoSaid : Prop := termsStepsUptoRow.holds Try.pinned (OpenSpec.upto termsStepsSpec)

/-- 'symbolonlaw07.PlainTells', WHERE WHAT IT READS IS OF BULK AT MOST 1048576: true; the input reads as it did. -/
def plainTellsUptoRow : OpenClaim := { program := "ytnfcadjckoebkaa", sum := "604ce44f7316d4110be2b2a5124fd80bc9c38d975f997f591578e4e0e8ecec61", func := "symbolon/symbolonlaw07.PlainTells", spec := "plainTells", unfollowed := true, recurses := true, apart := false, narrowed := true }
def PlainTellsUptoSaid : Prop := plainTellsUptoRow.holds Try.pinned (OpenSpec.upto plainTellsSpec)

/-- 'symbolonlaw07.PlainLinear', WHERE WHAT IT READS IS OF BULK AT MOST 1048576: true; the input reads as it did. -/
def plainLinearUptoRow : OpenClaim := { program := "ytnfcadjckoebkaa", sum := "604ce44f7316d4110be2b2a5124fd80bc9c38d975f997f591578e4e0e8ecec61", func := "symbolon/symbolonlaw07.PlainLinear", spec := "plainLinear", unfollowed := true, recurses := true, apart := false, narrowed := true }
def PlainLinearUptoSaid : Prop := plainLinearUptoRow.holds Try.pinned (OpenSpec.upto plainLinearSpec)

/-- 'symbolonlaw07.PlainWeights', WHERE WHAT IT READS IS OF BULK AT MOST 1048576: true; the input reads as it did. -/
def plainWeightsUptoRow : OpenClaim := { program := "ytnfcadjckoebkaa", sum := "604ce44f7316d4110be2b2a5124fd80bc9c38d975f997f591578e4e0e8ecec61", func := "symbolon/symbolonlaw07.PlainWeights", spec := "plainWeights", unfollowed := true, recurses := true, apart := false, narrowed := true }
def PlainWeightsUptoSaid : Prop := plainWeightsUptoRow.holds Try.pinned (OpenSpec.upto plainWeightsSpec)

/-- 'symbolonlaw07.PlainSquare', WHERE WHAT IT READS IS OF BULK AT MOST 1048576: true; the input reads as it did. -/
def plainSquareUptoRow : OpenClaim := { program := "ytnfcadjckoebkaa", sum := "604ce44f7316d4110be2b2a5124fd80bc9c38d975f997f591578e4e0e8ecec61", func := "symbolon/symbolonlaw07.PlainSquare", spec := "plainSquare", unfollowed := true, recurses := true, apart := false, narrowed := true }
def PlainSquareUptoSaid : Prop := plainSquareUptoRow.holds Try.pinned (OpenSpec.upto plainSquareSpec)

/-- 'symbolonlaw07.PlainTurn', WHERE WHAT IT READS IS OF BULK AT MOST 1048576: true; the input reads as it did. -/
def plainTurnUptoRow : OpenClaim := { program := "ytnfcadjckoebkaa", sum := "604ce44f7316d4110be2b2a5124fd80bc9c38d975f997f591578e4e0e8ecec61", func := "symbolon/symbolonlaw07.PlainTurn", spec := "plainTurn", unfollowed := true, recurses := true, apart := false, narrowed := true }
def PlainTurnUptoSaid : Prop := plainTurnUptoRow.holds Try.pinned (OpenSpec.upto plainTurnSpec)

/-- 'symbolonlaw07.PlainCut', WHERE WHAT IT READS IS OF BULK AT MOST 1048576: true; the input reads as it did. -/
def plainCutUptoRow : OpenClaim := { program := "ytnfcadjckoebkaa", sum := "604ce44f7316d4110be2b2a5124fd80bc9c38d975f997f591578e4e0e8ecec61", func := "symbolon/symbolonlaw07.PlainCut", spec := "plainCut", unfollowed := true, recurses := true, apart := false, narrowed := true }
def PlainCutUptoSaid : Prop := plainCutUptoRow.holds Try.pinned (OpenSpec.upto plainCutSpec)

/-- 'symbolonlaw07.PlainZero', WHERE WHAT IT READS IS OF BULK AT MOST 1048576: true; the input reads as it did. -/
def plainZeroUptoRow : OpenClaim := { program := "ytnfcadjckoebkaa", sum := "604ce44f7316d4110be2b2a5124fd80bc9c38d975f997f591578e4e0e8ecec61", func := "symbolon/symbolonlaw07.PlainZero", spec := "plainZero", unfollowed := true, recurses := true, apart := false, narrowed := true }
def PlainZeroUptoSaid : Prop := plainZeroUptoRow.holds Try.pinned (OpenSpec.upto plainZeroSpec)

/-- 'symbolonlaw08.GatesTells', WHERE WHAT IT READS IS OF BULK AT MOST 1048576: true; the input reads as it did. -/
def gatesTellsUptoRow : OpenClaim := { program := "ytnfcadjckoebkaa", sum := "604ce44f7316d4110be2b2a5124fd80bc9c38d975f997f591578e4e0e8ecec61", func := "symbolon/symbolonlaw08.GatesTells", spec := "gatesTells", unfollowed := true, recurses := true, apart := false, narrowed := true }
def GatesTellsUptoSaid : Prop := gatesTellsUptoRow.holds Try.pinned (OpenSpec.upto gatesTellsSpec)

/-- 'symbolonlaw08.GatesBack', WHERE WHAT IT READS IS OF BULK AT MOST 1048576: true; the input reads as it did. -/
def gatesBackUptoRow : OpenClaim := { program := "ytnfcadjckoebkaa", sum := "604ce44f7316d4110be2b2a5124fd80bc9c38d975f997f591578e4e0e8ecec61", func := "symbolon/symbolonlaw08.GatesBack", spec := "gatesBack", unfollowed := true, recurses := true, apart := false, narrowed := true }
def GatesBackUptoSaid : Prop := gatesBackUptoRow.holds Try.pinned (OpenSpec.upto gatesBackSpec)

/-- 'symbolonlaw08.GatesTerms', WHERE WHAT IT READS IS OF BULK AT MOST 1048576: true; the input reads as it did. -/
def gatesTermsUptoRow : OpenClaim := { program := "ytnfcadjckoebkaa", sum := "604ce44f7316d4110be2b2a5124fd80bc9c38d975f997f591578e4e0e8ecec61", func := "symbolon/symbolonlaw08.GatesTerms", spec := "gatesTerms", unfollowed := true, recurses := true, apart := false, narrowed := true }
def GatesTermsUptoSaid : Prop := gatesTermsUptoRow.holds Try.pinned (OpenSpec.upto gatesTermsSpec)

end Rows
end Go.Proofs.Ytnfcadjckoebkaa
