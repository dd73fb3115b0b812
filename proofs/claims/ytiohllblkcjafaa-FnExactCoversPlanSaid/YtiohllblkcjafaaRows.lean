/-
  No cell of these rows narrows 'for every input' (looked for: loops, veiled, ifaces, maps, wideKeys, modest, calm, conditions, laid).
  DERIVED. THE GIVEN ROWS OF THIS SEAT. 7 by the template 'for every input the law returns true; each argument reads behind the call as it read before'; 0 by the template 'total and deterministic' (their statements: YtiohllblkcjafaaTotals.lean).
  GIVEN WITH THE SEED: the statements are not yours to turn. If you find one false, say at which input.
  Laid BY PROGRAM, IN A SANDBOX (cutbox-rows.mjs): the forced cells as the released guide's own fill.sh prints them over the translation c1727801c96bd528… (all of the seat's roots in one cut). By AI agents, Wed Nov 11 2026. No macro, syntax, notation, axiom, sorry.
-/
import Derived.Test.YtiohllblkcjafaaChecked
import GoSem.Claim
import GoSem.ClaimJoined
import GoSem.ClaimMapViews
import Derived.JoinedTies
import Derived.KernelRfl
namespace Go.Proofs.Ytiohllblkcjafaa
/- THE CELL 'sum', in the pinned program and in every row, IS THE sha256 OF THE DUMP (.gsa) THAT YtiohllblkcjafaaProg.lean LOADS. Nothing in Lean hashes anything: it is a label: what it is worth is what the hold of that sum in a sandbox is worth. -/
noncomputable def Try.pinned : Pinned := { name := "ytiohllblkcjafaa", sum := "c1727801c96bd5286025c4333a9d44d43b3531dfaba3d968bde1d53628a829e9", checked := Try.checked }
namespace Rows
def none {H : Type} : Left H := { results := [], args := [] }

/-- 'laws.FnExactCoversPlan': WHATEVER THE INPUT: true; the input reads as it did. -/
def fnExactCoversPlanSpec : ChangeSpec := { name := "fnExactCoversPlan", fn := fun _ => fun
  | [d1, d2, d3, d4] => { results := [.lit (.bool true)], args := [d1, d2, d3, d4] }
  | _ => none }
def fnExactCoversPlanRow : OpenClaim := { program := "ytiohllblkcjafaa", sum := "c1727801c96bd5286025c4333a9d44d43b3531dfaba3d968bde1d53628a829e9", func := "loop.example/g00908/laws.FnExactCoversPlan", spec := "fnExactCoversPlan", unfollowed := true, recurses := true, apart := false }
def FnExactCoversPlanSaid : Prop := fnExactCoversPlanRow.holds Try.pinned (OpenSpec.ofChange fnExactCoversPlanSpec)

/-- ITS FALSE NEIGHBOUR: 'it returns false'. Refute it at one input. -/
def fnExactCoversPlanWrong : ChangeSpec := { name := "fnExactCoversPlan", fn := fun _ => fun
  | [d1, d2, d3, d4] => { results := [.lit (.bool false)], args := [d1, d2, d3, d4] }
  | _ => none }
def FnExactCoversPlanWrongFalsely : Prop := fnExactCoversPlanRow.holds Try.pinned (OpenSpec.ofChange fnExactCoversPlanWrong)

/-- 'laws.FnExactContributionOf': WHATEVER THE INPUT: true; the input reads as it did. -/
def fnExactContributionOfSpec : ChangeSpec := { name := "fnExactContributionOf", fn := fun _ => fun
  | [d1, d2, d3, d4] => { results := [.lit (.bool true)], args := [d1, d2, d3, d4] }
  | _ => none }
def fnExactContributionOfRow : OpenClaim := { program := "ytiohllblkcjafaa", sum := "c1727801c96bd5286025c4333a9d44d43b3531dfaba3d968bde1d53628a829e9", func := "loop.example/g00908/laws.FnExactContributionOf", spec := "fnExactContributionOf", apart := false }
def FnExactContributionOfSaid : Prop := fnExactContributionOfRow.holds Try.pinned (OpenSpec.ofChange fnExactContributionOfSpec)

/-- ITS FALSE NEIGHBOUR: 'it returns false'. Refute it at one input. -/
def fnExactContributionOfWrong : ChangeSpec := { name := "fnExactContributionOf", fn := fun _ => fun
  | [d1, d2, d3, d4] => { results := [.lit (.bool false)], args := [d1, d2, d3, d4] }
  | _ => none }
def FnExactContributionOfWrongFalsely : Prop := fnExactContributionOfRow.holds Try.pinned (OpenSpec.ofChange fnExactContributionOfWrong)

/-- 'laws.FnExactMergePlans': WHATEVER THE INPUT: true; the input reads as it did. -/
def fnExactMergePlansSpec : ChangeSpec := { name := "fnExactMergePlans", fn := fun _ => fun
  | [d1, d2, d3, d4] => { results := [.lit (.bool true)], args := [d1, d2, d3, d4] }
  | _ => none }
def fnExactMergePlansRow : OpenClaim := { program := "ytiohllblkcjafaa", sum := "c1727801c96bd5286025c4333a9d44d43b3531dfaba3d968bde1d53628a829e9", func := "loop.example/g00908/laws.FnExactMergePlans", spec := "fnExactMergePlans", unfollowed := true, recurses := true, apart := false }
def FnExactMergePlansSaid : Prop := fnExactMergePlansRow.holds Try.pinned (OpenSpec.ofChange fnExactMergePlansSpec)

/-- ITS FALSE NEIGHBOUR: 'it returns false'. Refute it at one input. -/
def fnExactMergePlansWrong : ChangeSpec := { name := "fnExactMergePlans", fn := fun _ => fun
  | [d1, d2, d3, d4] => { results := [.lit (.bool false)], args := [d1, d2, d3, d4] }
  | _ => none }
def FnExactMergePlansWrongFalsely : Prop := fnExactMergePlansRow.holds Try.pinned (OpenSpec.ofChange fnExactMergePlansWrong)

/-- 'laws.FnExactBaseTables': WHATEVER THE INPUT: true; the input reads as it did. -/
def fnExactBaseTablesSpec : ChangeSpec := { name := "fnExactBaseTables", fn := fun _ => fun
  | [d1, d2, d3] => { results := [.lit (.bool true)], args := [d1, d2, d3] }
  | _ => none }
def fnExactBaseTablesRow : OpenClaim := { program := "ytiohllblkcjafaa", sum := "c1727801c96bd5286025c4333a9d44d43b3531dfaba3d968bde1d53628a829e9", func := "loop.example/g00908/laws.FnExactBaseTables", spec := "fnExactBaseTables", apart := false }
def FnExactBaseTablesSaid : Prop := fnExactBaseTablesRow.holds Try.pinned (OpenSpec.ofChange fnExactBaseTablesSpec)

/-- ITS FALSE NEIGHBOUR: 'it returns false'. Refute it at one input. -/
def fnExactBaseTablesWrong : ChangeSpec := { name := "fnExactBaseTables", fn := fun _ => fun
  | [d1, d2, d3] => { results := [.lit (.bool false)], args := [d1, d2, d3] }
  | _ => none }
def FnExactBaseTablesWrongFalsely : Prop := fnExactBaseTablesRow.holds Try.pinned (OpenSpec.ofChange fnExactBaseTablesWrong)

/-- 'laws.FnExactJoinTables': WHATEVER THE INPUT: true; the input reads as it did. -/
def fnExactJoinTablesSpec : ChangeSpec := { name := "fnExactJoinTables", fn := fun _ => fun
  | [d1, d2, d3, d4] => { results := [.lit (.bool true)], args := [d1, d2, d3, d4] }
  | _ => none }
def fnExactJoinTablesRow : OpenClaim := { program := "ytiohllblkcjafaa", sum := "c1727801c96bd5286025c4333a9d44d43b3531dfaba3d968bde1d53628a829e9", func := "loop.example/g00908/laws.FnExactJoinTables", spec := "fnExactJoinTables", apart := false }
def FnExactJoinTablesSaid : Prop := fnExactJoinTablesRow.holds Try.pinned (OpenSpec.ofChange fnExactJoinTablesSpec)

/-- ITS FALSE NEIGHBOUR: 'it returns false'. Refute it at one input. -/
def fnExactJoinTablesWrong : ChangeSpec := { name := "fnExactJoinTables", fn := fun _ => fun
  | [d1, d2, d3, d4] => { results := [.lit (.bool false)], args := [d1, d2, d3, d4] }
  | _ => none }
def FnExactJoinTablesWrongFalsely : Prop := fnExactJoinTablesRow.holds Try.pinned (OpenSpec.ofChange fnExactJoinTablesWrong)

/-- 'laws.FnExactRecordsIn': WHATEVER THE INPUT: true; the input reads as it did. -/
def fnExactRecordsInSpec : ChangeSpec := { name := "fnExactRecordsIn", fn := fun _ => fun
  | [d1, d2, d3, d4, d5] => { results := [.lit (.bool true)], args := [d1, d2, d3, d4, d5] }
  | _ => none }
def fnExactRecordsInRow : OpenClaim := { program := "ytiohllblkcjafaa", sum := "c1727801c96bd5286025c4333a9d44d43b3531dfaba3d968bde1d53628a829e9", func := "loop.example/g00908/laws.FnExactRecordsIn", spec := "fnExactRecordsIn", apart := false }
def FnExactRecordsInSaid : Prop := fnExactRecordsInRow.holds Try.pinned (OpenSpec.ofChange fnExactRecordsInSpec)

/-- ITS FALSE NEIGHBOUR: 'it returns false'. Refute it at one input. -/
def fnExactRecordsInWrong : ChangeSpec := { name := "fnExactRecordsIn", fn := fun _ => fun
  | [d1, d2, d3, d4, d5] => { results := [.lit (.bool false)], args := [d1, d2, d3, d4, d5] }
  | _ => none }
def FnExactRecordsInWrongFalsely : Prop := fnExactRecordsInRow.holds Try.pinned (OpenSpec.ofChange fnExactRecordsInWrong)

/-- 'laws.FnExactTableOf': WHATEVER THE INPUT: true; the input reads as it did. -/
def fnExactTableOfSpec : ChangeSpec := { name := "fnExactTableOf", fn := fun _ => fun
  | [d1, d2, d3, d4] => { results := [.lit (.bool true)], args := [d1, d2, d3, d4] }
  | _ => none }
def fnExactTableOfRow : OpenClaim := { program := "ytiohllblkcjafaa", sum := "c1727801c96bd5286025c4333a9d44d43b3531dfaba3d968bde1d53628a829e9", func := "loop.example/g00908/laws.FnExactTableOf", spec := "fnExactTableOf", apart := false }
def FnExactTableOfSaid : Prop := fnExactTableOfRow.holds Try.pinned (OpenSpec.ofChange fnExactTableOfSpec)

/-- ITS FALSE NEIGHBOUR: 'it returns false'. Refute it at one input. -/
def fnExactTableOfWrong : ChangeSpec := { name := "fnExactTableOf", fn := fun _ => fun
  | [d1, d2, d3, d4] => { results := [.lit (.bool false)], args := [d1, d2, d3, d4] }
  | _ => none }
def FnExactTableOfWrongFalsely : Prop := fnExactTableOfRow.holds Try.pinned (OpenSpec.ofChange fnExactTableOfWrong)

/- THE SECOND FORM. 'bulk': how many values and letters a reading holds, each counted each time it is reached (what is shared counts as often as it is met; a slice's spare places count too). A statement '..UptoSaid' is the law's where the arguments, and the package variables that the reading takes, are together of bulk at most 1048576: NARROWER than '..Said'. Prove '..Said' where nothing that the law and all that it calls make is longer than what came in: it says more and counts as full. Else prove '..UptoSaid'. A law counts once. -/
mutual
def uptoBulk {H : Type} : DataW H → Nat
  | .lit (.string bytes) => bytes.length + 1
  | .lit _ => 1
  | .nil => 1
  | .ptr d => uptoBulk d + 1
  | .slice elems spare => uptoBulkAll elems + uptoBulkAll spare + 1
  | .agg parts => uptoBulkAll parts + 1
  | .iface _ d => uptoBulk d + 1
  | .map entries => uptoBulkEntries entries + 1
  | .held _ => 1
def uptoBulkAll {H : Type} : List (DataW H) → Nat
  | [] => 0
  | d :: r => uptoBulk d + uptoBulkAll r
def uptoBulkEntries {H : Type} : List (Lit × DataW H) → Nat
  | [] => 0
  | x :: r => uptoBulkEntry x + uptoBulkEntries r
def uptoBulkEntry {H : Type} : Lit × DataW H → Nat
  | (.string bytes, d) => bytes.length + uptoBulk d + 1
  | (_, d) => uptoBulk d + 1
 end
def uptoSmall : (H : Type) → List (DataW H) → Bool := fun _ ds => decide (uptoBulkAll ds ≤ 1048576)
def OpenSpec.upto (s : _root_.Go.ChangeSpec) : _root_.Go.OpenSpec := { _root_.Go.OpenSpec.ofChange s with cond := some uptoSmall }

/-- 'laws.FnExactCoversPlan', WHERE WHAT IT READS IS OF BULK AT MOST 1048576: true; the input reads as it did. -/
def fnExactCoversPlanUptoRow : OpenClaim := { program := "ytiohllblkcjafaa", sum := "c1727801c96bd5286025c4333a9d44d43b3531dfaba3d968bde1d53628a829e9", func := "loop.example/g00908/laws.FnExactCoversPlan", spec := "fnExactCoversPlan", unfollowed := true, recurses := true, apart := false, narrowed := true }
def FnExactCoversPlanUptoSaid : Prop := fnExactCoversPlanUptoRow.holds Try.pinned (OpenSpec.upto fnExactCoversPlanSpec)

/-- 'laws.FnExactContributionOf', WHERE WHAT IT READS IS OF BULK AT MOST 1048576: true; the input reads as it did. -/
def fnExactContributionOfUptoRow : OpenClaim := { program := "ytiohllblkcjafaa", sum := "c1727801c96bd5286025c4333a9d44d43b3531dfaba3d968bde1d53628a829e9", func := "loop.example/g00908/laws.FnExactContributionOf", spec := "fnExactContributionOf", apart := false, narrowed := true }
def FnExactContributionOfUptoSaid : Prop := fnExactContributionOfUptoRow.holds Try.pinned (OpenSpec.upto fnExactContributionOfSpec)

/-- 'laws.FnExactMergePlans', WHERE WHAT IT READS IS OF BULK AT MOST 1048576: true; the input reads as it did. -/
def fnExactMergePlansUptoRow : OpenClaim := { program := "ytiohllblkcjafaa", sum := "c1727801c96bd5286025c4333a9d44d43b3531dfaba3d968bde1d53628a829e9", func := "loop.example/g00908/laws.FnExactMergePlans", spec := "fnExactMergePlans", unfollowed := true, recurses := true, apart := false, narrowed := true }
def FnExactMergePlansUptoSaid : Prop := fnExactMergePlansUptoRow.holds Try.pinned (OpenSpec.upto fnExactMergePlansSpec)

/-- 'laws.FnExactBaseTables', WHERE WHAT IT READS IS OF BULK AT MOST 1048576: true; the input reads as it did. -/
def fnExactBaseTablesUptoRow : OpenClaim := { program := "ytiohllblkcjafaa", sum := "c1727801c96bd5286025c4333a9d44d43b3531dfaba3d968bde1d53628a829e9", func := "loop.example/g00908/laws.FnExactBaseTables", spec := "fnExactBaseTables", apart := false, narrowed := true }
def FnExactBaseTablesUptoSaid : Prop := fnExactBaseTablesUptoRow.holds Try.pinned (OpenSpec.upto fnExactBaseTablesSpec)

/-- 'laws.FnExactJoinTables', WHERE WHAT IT READS IS OF BULK AT MOST 1048576: true; the input reads as it did. -/
def fnExactJoinTablesUptoRow : OpenClaim := { program := "ytiohllblkcjafaa", sum := "c1727801c96bd5286025c4333a9d44d43b3531dfaba3d968bde1d53628a829e9", func := "loop.example/g00908/laws.FnExactJoinTables", spec := "fnExactJoinTables", apart := false, narrowed := true }
def FnExactJoinTablesUptoSaid : Prop := fnExactJoinTablesUptoRow.holds Try.pinned (OpenSpec.upto fnExactJoinTablesSpec)

/-- 'laws.FnExactRecordsIn', WHERE WHAT IT READS IS OF BULK AT MOST 1048576: true; the input reads as it did. -/
def fnExactRecordsInUptoRow : OpenClaim := { program := "ytiohllblkcjafaa", sum := "c1727801c96bd5286025c4333a9d44d43b3531dfaba3d968bde1d53628a829e9", func := "loop.example/g00908/laws.FnExactRecordsIn", spec := "fnExactRecordsIn", apart := false, narrowed := true }
def FnExactRecordsInUptoSaid : Prop := fnExactRecordsInUptoRow.holds Try.pinned (OpenSpec.upto fnExactRecordsInSpec)

/-- 'laws.FnExactTableOf', WHERE WHAT IT READS IS OF BULK AT MOST 1048576: true; the input reads as it did. -/
def fnExactTableOfUptoRow : OpenClaim := { program := "ytiohllblkcjafaa", sum := "c1727801c96bd5286025c4333a9d44d43b3531dfaba3d968bde1d53628a829e9", func := "loop.example/g00908/laws.FnExactTableOf", spec := "fnExactTableOf", apart := false, narrowed := true }
def FnExactTableOfUptoSaid : Prop := fnExactTableOfUptoRow.holds Try.pinned (OpenSpec.upto fnExactTableOfSpec)

end Rows
end Go.Proofs.Ytiohllblkcjafaa
