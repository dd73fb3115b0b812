/-
  No cell of these rows narrows 'for every input' (looked for: loops, veiled, ifaces, maps, wideKeys, modest, calm, conditions, laid).
  DERIVED. THE GIVEN ROWS OF THIS SEAT. 12 by the template 'for every input the law returns true; each argument reads behind the call as it read before'; 0 by the template 'total and deterministic' (their statements: YtahffpadaffmdaaTotals.lean).
  GIVEN WITH THE SEED: the statements are not yours to turn. If you find one false, say at which input.
  Laid BY PROGRAM, IN A SANDBOX (cutbox-rows.mjs): the forced cells as the released guide's own fill.sh prints them over the translation 77b7408844eecc1a… (all of the seat's roots in one cut). By AI agents, Wed Nov 11 2026. No macro, syntax, notation, axiom, sorry.
-/
import Derived.Test.YtahffpadaffmdaaChecked
import GoSem.Claim
import GoSem.ClaimJoined
import GoSem.ClaimMapViews
import Derived.JoinedTies
import Derived.KernelRfl
namespace Go.Proofs.Ytahffpadaffmdaa
/- THE CELL 'sum', in the pinned program and in every row, IS THE sha256 OF THE DUMP (.gsa) THAT YtahffpadaffmdaaProg.lean LOADS. Nothing in Lean hashes anything: it is a label: what it is worth is what the hold of that sum in a sandbox is worth. -/
noncomputable def Try.pinned : Pinned := { name := "ytahffpadaffmdaa", sum := "77b7408844eecc1a61c12c477b2d7b2306a71c71a8aaeef58217061ac87f8aed", checked := Try.checked }
namespace Rows
def none {H : Type} : Left H := { results := [], args := [] }

/-- 'laws.FnExactMeetsWhere': WHATEVER THE INPUT: true; the input reads as it did. -/
def fnExactMeetsWhereSpec : ChangeSpec := { name := "fnExactMeetsWhere", fn := fun _ => fun
  | [d1, d2, d3] => { results := [.lit (.bool true)], args := [d1, d2, d3] }
  | _ => none }
def fnExactMeetsWhereRow : OpenClaim := { program := "ytahffpadaffmdaa", sum := "77b7408844eecc1a61c12c477b2d7b2306a71c71a8aaeef58217061ac87f8aed", func := "loop.example/g00908/laws.FnExactMeetsWhere", spec := "fnExactMeetsWhere", apart := false }
def FnExactMeetsWhereSaid : Prop := fnExactMeetsWhereRow.holds Try.pinned (OpenSpec.ofChange fnExactMeetsWhereSpec)

/-- ITS FALSE NEIGHBOUR: 'it returns false'. Refute it at one input. -/
def fnExactMeetsWhereWrong : ChangeSpec := { name := "fnExactMeetsWhere", fn := fun _ => fun
  | [d1, d2, d3] => { results := [.lit (.bool false)], args := [d1, d2, d3] }
  | _ => none }
def FnExactMeetsWhereWrongFalsely : Prop := fnExactMeetsWhereRow.holds Try.pinned (OpenSpec.ofChange fnExactMeetsWhereWrong)

/-- 'laws.FnExactIsTable': WHATEVER THE INPUT: true; the input reads as it did. -/
def fnExactIsTableSpec : ChangeSpec := { name := "fnExactIsTable", fn := fun _ => fun
  | [d1, d2, d3] => { results := [.lit (.bool true)], args := [d1, d2, d3] }
  | _ => none }
def fnExactIsTableRow : OpenClaim := { program := "ytahffpadaffmdaa", sum := "77b7408844eecc1a61c12c477b2d7b2306a71c71a8aaeef58217061ac87f8aed", func := "loop.example/g00908/laws.FnExactIsTable", spec := "fnExactIsTable", apart := false }
def FnExactIsTableSaid : Prop := fnExactIsTableRow.holds Try.pinned (OpenSpec.ofChange fnExactIsTableSpec)

/-- ITS FALSE NEIGHBOUR: 'it returns false'. Refute it at one input. -/
def fnExactIsTableWrong : ChangeSpec := { name := "fnExactIsTable", fn := fun _ => fun
  | [d1, d2, d3] => { results := [.lit (.bool false)], args := [d1, d2, d3] }
  | _ => none }
def FnExactIsTableWrongFalsely : Prop := fnExactIsTableRow.holds Try.pinned (OpenSpec.ofChange fnExactIsTableWrong)

/-- 'laws.FnExactCellCount': WHATEVER THE INPUT: true; the input reads as it did. -/
def fnExactCellCountSpec : ChangeSpec := { name := "fnExactCellCount", fn := fun _ => fun
  | [d1, d2, d3] => { results := [.lit (.bool true)], args := [d1, d2, d3] }
  | _ => none }
def fnExactCellCountRow : OpenClaim := { program := "ytahffpadaffmdaa", sum := "77b7408844eecc1a61c12c477b2d7b2306a71c71a8aaeef58217061ac87f8aed", func := "loop.example/g00908/laws.FnExactCellCount", spec := "fnExactCellCount", apart := false }
def FnExactCellCountSaid : Prop := fnExactCellCountRow.holds Try.pinned (OpenSpec.ofChange fnExactCellCountSpec)

/-- ITS FALSE NEIGHBOUR: 'it returns false'. Refute it at one input. -/
def fnExactCellCountWrong : ChangeSpec := { name := "fnExactCellCount", fn := fun _ => fun
  | [d1, d2, d3] => { results := [.lit (.bool false)], args := [d1, d2, d3] }
  | _ => none }
def FnExactCellCountWrongFalsely : Prop := fnExactCellCountRow.holds Try.pinned (OpenSpec.ofChange fnExactCellCountWrong)

/-- 'laws.FnExactIsSurvey': WHATEVER THE INPUT: true; the input reads as it did. -/
def fnExactIsSurveySpec : ChangeSpec := { name := "fnExactIsSurvey", fn := fun _ => fun
  | [d1, d2, d3] => { results := [.lit (.bool true)], args := [d1, d2, d3] }
  | _ => none }
def fnExactIsSurveyRow : OpenClaim := { program := "ytahffpadaffmdaa", sum := "77b7408844eecc1a61c12c477b2d7b2306a71c71a8aaeef58217061ac87f8aed", func := "loop.example/g00908/laws.FnExactIsSurvey", spec := "fnExactIsSurvey", apart := false }
def FnExactIsSurveySaid : Prop := fnExactIsSurveyRow.holds Try.pinned (OpenSpec.ofChange fnExactIsSurveySpec)

/-- ITS FALSE NEIGHBOUR: 'it returns false'. Refute it at one input. -/
def fnExactIsSurveyWrong : ChangeSpec := { name := "fnExactIsSurvey", fn := fun _ => fun
  | [d1, d2, d3] => { results := [.lit (.bool false)], args := [d1, d2, d3] }
  | _ => none }
def FnExactIsSurveyWrongFalsely : Prop := fnExactIsSurveyRow.holds Try.pinned (OpenSpec.ofChange fnExactIsSurveyWrong)

/-- 'laws.FnExactSameMeaning': WHATEVER THE INPUT: true; the input reads as it did. -/
def fnExactSameMeaningSpec : ChangeSpec := { name := "fnExactSameMeaning", fn := fun _ => fun
  | [d1, d2, d3, d4] => { results := [.lit (.bool true)], args := [d1, d2, d3, d4] }
  | _ => none }
def fnExactSameMeaningRow : OpenClaim := { program := "ytahffpadaffmdaa", sum := "77b7408844eecc1a61c12c477b2d7b2306a71c71a8aaeef58217061ac87f8aed", func := "loop.example/g00908/laws.FnExactSameMeaning", spec := "fnExactSameMeaning", apart := false }
def FnExactSameMeaningSaid : Prop := fnExactSameMeaningRow.holds Try.pinned (OpenSpec.ofChange fnExactSameMeaningSpec)

/-- ITS FALSE NEIGHBOUR: 'it returns false'. Refute it at one input. -/
def fnExactSameMeaningWrong : ChangeSpec := { name := "fnExactSameMeaning", fn := fun _ => fun
  | [d1, d2, d3, d4] => { results := [.lit (.bool false)], args := [d1, d2, d3, d4] }
  | _ => none }
def FnExactSameMeaningWrongFalsely : Prop := fnExactSameMeaningRow.holds Try.pinned (OpenSpec.ofChange fnExactSameMeaningWrong)

/-- 'laws.FnExactCellAt': WHATEVER THE INPUT: true; the input reads as it did. -/
def fnExactCellAtSpec : ChangeSpec := { name := "fnExactCellAt", fn := fun _ => fun
  | [d1, d2, d3, d4] => { results := [.lit (.bool true)], args := [d1, d2, d3, d4] }
  | _ => none }
def fnExactCellAtRow : OpenClaim := { program := "ytahffpadaffmdaa", sum := "77b7408844eecc1a61c12c477b2d7b2306a71c71a8aaeef58217061ac87f8aed", func := "loop.example/g00908/laws.FnExactCellAt", spec := "fnExactCellAt", apart := false }
def FnExactCellAtSaid : Prop := fnExactCellAtRow.holds Try.pinned (OpenSpec.ofChange fnExactCellAtSpec)

/-- ITS FALSE NEIGHBOUR: 'it returns false'. Refute it at one input. -/
def fnExactCellAtWrong : ChangeSpec := { name := "fnExactCellAt", fn := fun _ => fun
  | [d1, d2, d3, d4] => { results := [.lit (.bool false)], args := [d1, d2, d3, d4] }
  | _ => none }
def FnExactCellAtWrongFalsely : Prop := fnExactCellAtRow.holds Try.pinned (OpenSpec.ofChange fnExactCellAtWrong)

/-- 'laws.FnExactCellIndex': WHATEVER THE INPUT: true; the input reads as it did. -/
def fnExactCellIndexSpec : ChangeSpec := { name := "fnExactCellIndex", fn := fun _ => fun
  | [d1, d2, d3, d4, d5] => { results := [.lit (.bool true)], args := [d1, d2, d3, d4, d5] }
  | _ => none }
def fnExactCellIndexRow : OpenClaim := { program := "ytahffpadaffmdaa", sum := "77b7408844eecc1a61c12c477b2d7b2306a71c71a8aaeef58217061ac87f8aed", func := "loop.example/g00908/laws.FnExactCellIndex", spec := "fnExactCellIndex", apart := false }
def FnExactCellIndexSaid : Prop := fnExactCellIndexRow.holds Try.pinned (OpenSpec.ofChange fnExactCellIndexSpec)

/-- ITS FALSE NEIGHBOUR: 'it returns false'. Refute it at one input. -/
def fnExactCellIndexWrong : ChangeSpec := { name := "fnExactCellIndex", fn := fun _ => fun
  | [d1, d2, d3, d4, d5] => { results := [.lit (.bool false)], args := [d1, d2, d3, d4, d5] }
  | _ => none }
def FnExactCellIndexWrongFalsely : Prop := fnExactCellIndexRow.holds Try.pinned (OpenSpec.ofChange fnExactCellIndexWrong)

/-- 'laws.FnExactNormalTable': WHATEVER THE INPUT: true; the input reads as it did. -/
def fnExactNormalTableSpec : ChangeSpec := { name := "fnExactNormalTable", fn := fun _ => fun
  | [d1, d2, d3] => { results := [.lit (.bool true)], args := [d1, d2, d3] }
  | _ => none }
def fnExactNormalTableRow : OpenClaim := { program := "ytahffpadaffmdaa", sum := "77b7408844eecc1a61c12c477b2d7b2306a71c71a8aaeef58217061ac87f8aed", func := "loop.example/g00908/laws.FnExactNormalTable", spec := "fnExactNormalTable", apart := false }
def FnExactNormalTableSaid : Prop := fnExactNormalTableRow.holds Try.pinned (OpenSpec.ofChange fnExactNormalTableSpec)

/-- ITS FALSE NEIGHBOUR: 'it returns false'. Refute it at one input. -/
def fnExactNormalTableWrong : ChangeSpec := { name := "fnExactNormalTable", fn := fun _ => fun
  | [d1, d2, d3] => { results := [.lit (.bool false)], args := [d1, d2, d3] }
  | _ => none }
def FnExactNormalTableWrongFalsely : Prop := fnExactNormalTableRow.holds Try.pinned (OpenSpec.ofChange fnExactNormalTableWrong)

/-- 'laws.FnExactSensitivityOf': WHATEVER THE INPUT: true; the input reads as it did. -/
def fnExactSensitivityOfSpec : ChangeSpec := { name := "fnExactSensitivityOf", fn := fun _ => fun
  | [d1, d2, d3] => { results := [.lit (.bool true)], args := [d1, d2, d3] }
  | _ => none }
def fnExactSensitivityOfRow : OpenClaim := { program := "ytahffpadaffmdaa", sum := "77b7408844eecc1a61c12c477b2d7b2306a71c71a8aaeef58217061ac87f8aed", func := "loop.example/g00908/laws.FnExactSensitivityOf", spec := "fnExactSensitivityOf", apart := false }
def FnExactSensitivityOfSaid : Prop := fnExactSensitivityOfRow.holds Try.pinned (OpenSpec.ofChange fnExactSensitivityOfSpec)

/-- ITS FALSE NEIGHBOUR: 'it returns false'. Refute it at one input. -/
def fnExactSensitivityOfWrong : ChangeSpec := { name := "fnExactSensitivityOf", fn := fun _ => fun
  | [d1, d2, d3] => { results := [.lit (.bool false)], args := [d1, d2, d3] }
  | _ => none }
def FnExactSensitivityOfWrongFalsely : Prop := fnExactSensitivityOfRow.holds Try.pinned (OpenSpec.ofChange fnExactSensitivityOfWrong)

/-- 'laws.FnExactPlanSizes': WHATEVER THE INPUT: true; the input reads as it did. -/
def fnExactPlanSizesSpec : ChangeSpec := { name := "fnExactPlanSizes", fn := fun _ => fun
  | [d1, d2, d3] => { results := [.lit (.bool true)], args := [d1, d2, d3] }
  | _ => none }
def fnExactPlanSizesRow : OpenClaim := { program := "ytahffpadaffmdaa", sum := "77b7408844eecc1a61c12c477b2d7b2306a71c71a8aaeef58217061ac87f8aed", func := "loop.example/g00908/laws.FnExactPlanSizes", spec := "fnExactPlanSizes", apart := false }
def FnExactPlanSizesSaid : Prop := fnExactPlanSizesRow.holds Try.pinned (OpenSpec.ofChange fnExactPlanSizesSpec)

/-- ITS FALSE NEIGHBOUR: 'it returns false'. Refute it at one input. -/
def fnExactPlanSizesWrong : ChangeSpec := { name := "fnExactPlanSizes", fn := fun _ => fun
  | [d1, d2, d3] => { results := [.lit (.bool false)], args := [d1, d2, d3] }
  | _ => none }
def FnExactPlanSizesWrongFalsely : Prop := fnExactPlanSizesRow.holds Try.pinned (OpenSpec.ofChange fnExactPlanSizesWrong)

/-- 'laws.FnExactFollowsFrom': WHATEVER THE INPUT: true; the input reads as it did. -/
def fnExactFollowsFromSpec : ChangeSpec := { name := "fnExactFollowsFrom", fn := fun _ => fun
  | [d1, d2, d3, d4] => { results := [.lit (.bool true)], args := [d1, d2, d3, d4] }
  | _ => none }
def fnExactFollowsFromRow : OpenClaim := { program := "ytahffpadaffmdaa", sum := "77b7408844eecc1a61c12c477b2d7b2306a71c71a8aaeef58217061ac87f8aed", func := "loop.example/g00908/laws.FnExactFollowsFrom", spec := "fnExactFollowsFrom", apart := false }
def FnExactFollowsFromSaid : Prop := fnExactFollowsFromRow.holds Try.pinned (OpenSpec.ofChange fnExactFollowsFromSpec)

/-- ITS FALSE NEIGHBOUR: 'it returns false'. Refute it at one input. -/
def fnExactFollowsFromWrong : ChangeSpec := { name := "fnExactFollowsFrom", fn := fun _ => fun
  | [d1, d2, d3, d4] => { results := [.lit (.bool false)], args := [d1, d2, d3, d4] }
  | _ => none }
def FnExactFollowsFromWrongFalsely : Prop := fnExactFollowsFromRow.holds Try.pinned (OpenSpec.ofChange fnExactFollowsFromWrong)

/-- 'laws.FnExactCheapestSource': WHATEVER THE INPUT: true; the input reads as it did. -/
def fnExactCheapestSourceSpec : ChangeSpec := { name := "fnExactCheapestSource", fn := fun _ => fun
  | [d1, d2, d3, d4] => { results := [.lit (.bool true)], args := [d1, d2, d3, d4] }
  | _ => none }
def fnExactCheapestSourceRow : OpenClaim := { program := "ytahffpadaffmdaa", sum := "77b7408844eecc1a61c12c477b2d7b2306a71c71a8aaeef58217061ac87f8aed", func := "loop.example/g00908/laws.FnExactCheapestSource", spec := "fnExactCheapestSource", apart := false }
def FnExactCheapestSourceSaid : Prop := fnExactCheapestSourceRow.holds Try.pinned (OpenSpec.ofChange fnExactCheapestSourceSpec)

/-- ITS FALSE NEIGHBOUR: 'it returns false'. Refute it at one input. -/
def fnExactCheapestSourceWrong : ChangeSpec := { name := "fnExactCheapestSource", fn := fun _ => fun
  | [d1, d2, d3, d4] => { results := [.lit (.bool false)], args := [d1, d2, d3, d4] }
  | _ => none }
def FnExactCheapestSourceWrongFalsely : Prop := fnExactCheapestSourceRow.holds Try.pinned (OpenSpec.ofChange fnExactCheapestSourceWrong)

/- THE SECOND FORM. 'bulk': how many values and letters a reading holds, each counted each time it is reached (what is shared counts as often as it is met; a slice's spare places count too). A statement '..UptoSaid' is the law's where the arguments, and the package variables that the reading takes, are together of bulk at most 1048576: NARROWER than '..Said'. Prove '..Said' where nothing that the law and all that it calls make is longer than what came in: it says more and counts as full. Else prove '..UptoSaid'. A law counts once. -/
mutual
def uptoBulk {H : Type} : DataW H → Nat
  | .lit (.string bytes) => bytes.length + 1
  | .lit _ => 1
  | .nil => 1
  | .ptr d => uptoBulk d + 1
  | .slice elems spare => uptoBulkAll elems + uptoBulkAll spare + 1
  | .agg parts => uptoBulkAll parts + 1
  | .iface _ d => uptoBulk d + 1
  | .map entries => uptoBulkEntries entries + 1
  | .held _ => 1
def uptoBulkAll {H : Type} : List (DataW H) → Nat
  | [] => 0
  | d :: r => uptoBulk d + uptoBulkAll r
def uptoBulkEntries {H : Type} : List (Lit × DataW H) → Nat
  | [] => 0
  | x :: r => uptoBulkEntry x + uptoBulkEntries r
def uptoBulkEntry {H : Type} : Lit × DataW H → Nat
  | (.string bytes, d) => bytes.length + uptoBulk d + 1
  | (_, d) => uptoBulk d + 1
 end
def uptoSmall : (H : Type) → List (DataW H) → Bool := fun _ ds => decide (uptoBulkAll ds ≤ 1048576)
def OpenSpec.upto (s : _root_.Go.ChangeSpec) : _root_.Go.OpenSpec := { _root_.Go.OpenSpec.ofChange s with cond := some uptoSmall }

/-- 'laws.FnExactMeetsWhere', WHERE WHAT IT READS IS OF BULK AT MOST 1048576: true; the input reads as it did. -/
def fnExactMeetsWhereUptoRow : OpenClaim := { program := "ytahffpadaffmdaa", sum := "77b7408844eecc1a61c12c477b2d7b2306a71c71a8aaeef58217061ac87f8aed", func := "loop.example/g00908/laws.FnExactMeetsWhere", spec := "fnExactMeetsWhere", apart := false, narrowed := true }
def FnExactMeetsWhereUptoSaid : Prop := fnExactMeetsWhereUptoRow.holds Try.pinned (OpenSpec.upto fnExactMeetsWhereSpec)

/-- 'laws.FnExactIsTable', WHERE WHAT IT READS IS OF BULK AT MOST 1048576: true; the input reads as it did. -/
def fnExactIsTableUptoRow : OpenClaim := { program := "ytahffpadaffmdaa", sum := "77b7408844eecc1a61c12c477b2d7b2306a71c71a8aaeef58217061ac87f8aed", func := "loop.example/g00908/laws.FnExactIsTable", spec := "fnExactIsTable", apart := false, narrowed := true }
def FnExactIsTableUptoSaid : Prop := fnExactIsTableUptoRow.holds Try.pinned (OpenSpec.upto fnExactIsTableSpec)

/-- 'laws.FnExactCellCount', WHERE WHAT IT READS IS OF BULK AT MOST 1048576: true; the input reads as it did. -/
def fnExactCellCountUptoRow : OpenClaim := { program := "ytahffpadaffmdaa", sum := "77b7408844eecc1a61c12c477b2d7b2306a71c71a8aaeef58217061ac87f8aed", func := "loop.example/g00908/laws.FnExactCellCount", spec := "fnExactCellCount", apart := false, narrowed := true }
def FnExactCellCountUptoSaid : Prop := fnExactCellCountUptoRow.holds Try.pinned (OpenSpec.upto fnExactCellCountSpec)

/-- 'laws.FnExactIsSurvey', WHERE WHAT IT READS IS OF BULK AT MOST 1048576: true; the input reads as it did. -/
def fnExactIsSurveyUptoRow : OpenClaim := { program := "ytahffpadaffmdaa", sum := "77b7408844eecc1a61c12c477b2d7b2306a71c71a8aaeef58217061ac87f8aed", func := "loop.example/g00908/laws.FnExactIsSurvey", spec := "fnExactIsSurvey", apart := false, narrowed := true }
def FnExactIsSurveyUptoSaid : Prop := fnExactIsSurveyUptoRow.holds Try.pinned (OpenSpec.upto fnExactIsSurveySpec)

/-- 'laws.FnExactSameMeaning', WHERE WHAT IT READS IS OF BULK AT MOST 1048576: true; the input reads as it did. -/
def fnExactSameMeaningUptoRow : OpenClaim := { program := "ytahffpadaffmdaa", sum := "77b7408844eecc1a61c12c477b2d7b2306a71c71a8aaeef58217061ac87f8aed", func := "loop.example/g00908/laws.FnExactSameMeaning", spec := "fnExactSameMeaning", apart := false, narrowed := true }
def FnExactSameMeaningUptoSaid : Prop := fnExactSameMeaningUptoRow.holds Try.pinned (OpenSpec.upto fnExactSameMeaningSpec)

/-- 'laws.FnExactCellAt', WHERE WHAT IT READS IS OF BULK AT MOST 1048576: true; the input reads as it did. -/
def fnExactCellAtUptoRow : OpenClaim := { program := "ytahffpadaffmdaa", sum := "77b7408844eecc1a61c12c477b2d7b2306a71c71a8aaeef58217061ac87f8aed", func := "loop.example/g00908/laws.FnExactCellAt", spec := "fnExactCellAt", apart := false, narrowed := true }
def FnExactCellAtUptoSaid : Prop := fnExactCellAtUptoRow.holds Try.pinned (OpenSpec.upto fnExactCellAtSpec)

/-- 'laws.FnExactCellIndex', WHERE WHAT IT READS IS OF BULK AT MOST 1048576: true; the input reads as it did. -/
def fnExactCellIndexUptoRow : OpenClaim := { program := "ytahffpadaffmdaa", sum := "77b7408844eecc1a61c12c477b2d7b2306a71c71a8aaeef58217061ac87f8aed", func := "loop.example/g00908/laws.FnExactCellIndex", spec := "fnExactCellIndex", apart := false, narrowed := true }
def FnExactCellIndexUptoSaid : Prop := fnExactCellIndexUptoRow.holds Try.pinned (OpenSpec.upto fnExactCellIndexSpec)

/-- 'laws.FnExactNormalTable', WHERE WHAT IT READS IS OF BULK AT MOST 1048576: true; the input reads as it did. -/
def fnExactNormalTableUptoRow : OpenClaim := { program := "ytahffpadaffmdaa", sum := "77b7408844eecc1a61c12c477b2d7b2306a71c71a8aaeef58217061ac87f8aed", func := "loop.example/g00908/laws.FnExactNormalTable", spec := "fnExactNormalTable", apart := false, narrowed := true }
def FnExactNormalTableUptoSaid : Prop := fnExactNormalTableUptoRow.holds Try.pinned (OpenSpec.upto fnExactNormalTableSpec)

/-- 'laws.FnExactSensitivityOf', WHERE WHAT IT READS IS OF BULK AT MOST 1048576: true; the input reads as it did. -/
def fnExactSensitivityOfUptoRow : OpenClaim := { program := "ytahffpadaffmdaa", sum := "77b7408844eecc1a61c12c477b2d7b2306a71c71a8aaeef58217061ac87f8aed", func := "loop.example/g00908/laws.FnExactSensitivityOf", spec := "fnExactSensitivityOf", apart := false, narrowed := true }
def FnExactSensitivityOfUptoSaid : Prop := fnExactSensitivityOfUptoRow.holds Try.pinned (OpenSpec.upto fnExactSensitivityOfSpec)

/-- 'laws.FnExactPlanSizes', WHERE WHAT IT READS IS OF BULK AT MOST 1048576: true; the input reads as it did. -/
def fnExactPlanSizesUptoRow : OpenClaim := { program := "ytahffpadaffmdaa", sum := "77b7408844eecc1a61c12c477b2d7b2306a71c71a8aaeef58217061ac87f8aed", func := "loop.example/g00908/laws.FnExactPlanSizes", spec := "fnExactPlanSizes", apart := false, narrowed := true }
def FnExactPlanSizesUptoSaid : Prop := fnExactPlanSizesUptoRow.holds Try.pinned (OpenSpec.upto fnExactPlanSizesSpec)

/-- 'laws.FnExactFollowsFrom', WHERE WHAT IT READS IS OF BULK AT MOST 1048576: true; the input reads as it did. -/
def fnExactFollowsFromUptoRow : OpenClaim := { program := "ytahffpadaffmdaa", sum := "77b7408844eecc1a61c12c477b2d7b2306a71c71a8aaeef58217061ac87f8aed", func := "loop.example/g00908/laws.FnExactFollowsFrom", spec := "fnExactFollowsFrom", apart := false, narrowed := true }
def FnExactFollowsFromUptoSaid : Prop := fnExactFollowsFromUptoRow.holds Try.pinned (OpenSpec.upto fnExactFollowsFromSpec)

/-- 'laws.FnExactCheapestSource', WHERE WHAT IT READS IS OF BULK AT MOST 1048576: true; the input reads as it did. -/
def fnExactCheapestSourceUptoRow : OpenClaim := { program := "ytahffpadaffmdaa", sum := "77b7408844eecc1a61c12c477b2d7b2306a71c71a8aaeef58217061ac87f8aed", func := "loop.example/g00908/laws.FnExactCheapestSource", spec := "fnExactCheapestSource", apart := false, narrowed := true }
def FnExactCheapestSourceUptoSaid : Prop := fnExactCheapestSourceUptoRow.holds Try.pinned (OpenSpec.upto fnExactCheapestSourceSpec)

end Rows
end Go.Proofs.Ytahffpadaffmdaa
