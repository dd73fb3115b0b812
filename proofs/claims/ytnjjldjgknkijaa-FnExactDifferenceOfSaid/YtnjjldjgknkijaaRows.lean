/-
  No cell of these rows narrows 'for every input' (looked for: loops, veiled, ifaces, maps, wideKeys, modest, calm, conditions, laid).
  DERIVED. THE GIVEN ROWS OF THIS SEAT. 12 by the template 'for every input the law returns true; each argument reads behind the call as it read before'; 0 by the template 'total and deterministic' (their statements: YtnjjldjgknkijaaTotals.lean).
  GIVEN WITH THE SEED: the statements are not yours to turn. If you find one false, say at which input.
  Laid BY PROGRAM, IN A SANDBOX (cutbox-rows.mjs): the forced cells as the released guide's own fill.sh prints them over the translation 167ac6dc32044dba… (all of the seat's roots in one cut). By AI agents, Wed Nov 11 2026. No macro, syntax, notation, axiom, sorry.
-/
import Derived.Test.YtnjjldjgknkijaaChecked
import GoSem.Claim
import GoSem.ClaimJoined
import GoSem.ClaimMapViews
import Derived.JoinedTies
import Derived.KernelRfl
namespace Go.Proofs.Ytnjjldjgknkijaa
/- THE CELL 'sum', in the pinned program and in every row, IS THE sha256 OF THE DUMP (.gsa) THAT YtnjjldjgknkijaaProg.lean LOADS. Nothing in Lean hashes anything: it is a label: what it is worth is what the hold of that sum in a sandbox is worth. -/
noncomputable def Try.pinned : Pinned := { name := "ytnjjldjgknkijaa", sum := "167ac6dc32044dbafe7cb194e7be1bedace8a7831e7d7a72afea38421c294343", checked := Try.checked }
namespace Rows
def none {H : Type} : Left H := { results := [], args := [] }

/-- 'laws.FnExactAddCells': WHATEVER THE INPUT: true; the input reads as it did. -/
def fnExactAddCellsSpec : ChangeSpec := { name := "fnExactAddCells", fn := fun _ => fun
  | [d1, d2] => { results := [.lit (.bool true)], args := [d1, d2] }
  | _ => none }
def fnExactAddCellsRow : OpenClaim := { program := "ytnjjldjgknkijaa", sum := "167ac6dc32044dbafe7cb194e7be1bedace8a7831e7d7a72afea38421c294343", func := "loop.example/g00908/laws.FnExactAddCells", spec := "fnExactAddCells", apart := false }
def FnExactAddCellsSaid : Prop := fnExactAddCellsRow.holds Try.pinned (OpenSpec.ofChange fnExactAddCellsSpec)

/-- ITS FALSE NEIGHBOUR: 'it returns false'. Refute it at one input. -/
def fnExactAddCellsWrong : ChangeSpec := { name := "fnExactAddCells", fn := fun _ => fun
  | [d1, d2] => { results := [.lit (.bool false)], args := [d1, d2] }
  | _ => none }
def FnExactAddCellsWrongFalsely : Prop := fnExactAddCellsRow.holds Try.pinned (OpenSpec.ofChange fnExactAddCellsWrong)

/-- 'laws.FnExactPartsOf': WHATEVER THE INPUT: true; the input reads as it did. -/
def fnExactPartsOfSpec : ChangeSpec := { name := "fnExactPartsOf", fn := fun _ => fun
  | [d1, d2] => { results := [.lit (.bool true)], args := [d1, d2] }
  | _ => none }
def fnExactPartsOfRow : OpenClaim := { program := "ytnjjldjgknkijaa", sum := "167ac6dc32044dbafe7cb194e7be1bedace8a7831e7d7a72afea38421c294343", func := "loop.example/g00908/laws.FnExactPartsOf", spec := "fnExactPartsOf", apart := false }
def FnExactPartsOfSaid : Prop := fnExactPartsOfRow.holds Try.pinned (OpenSpec.ofChange fnExactPartsOfSpec)

/-- ITS FALSE NEIGHBOUR: 'it returns false'. Refute it at one input. -/
def fnExactPartsOfWrong : ChangeSpec := { name := "fnExactPartsOf", fn := fun _ => fun
  | [d1, d2] => { results := [.lit (.bool false)], args := [d1, d2] }
  | _ => none }
def FnExactPartsOfWrongFalsely : Prop := fnExactPartsOfRow.holds Try.pinned (OpenSpec.ofChange fnExactPartsOfWrong)

/-- 'laws.FnExactIsCube': WHATEVER THE INPUT: true; the input reads as it did. -/
def fnExactIsCubeSpec : ChangeSpec := { name := "fnExactIsCube", fn := fun _ => fun
  | [d] => { results := [.lit (.bool true)], args := [d] }
  | _ => none }
def fnExactIsCubeRow : OpenClaim := { program := "ytnjjldjgknkijaa", sum := "167ac6dc32044dbafe7cb194e7be1bedace8a7831e7d7a72afea38421c294343", func := "loop.example/g00908/laws.FnExactIsCube", spec := "fnExactIsCube", apart := false }
def FnExactIsCubeSaid : Prop := fnExactIsCubeRow.holds Try.pinned (OpenSpec.ofChange fnExactIsCubeSpec)

/-- ITS FALSE NEIGHBOUR: 'it returns false'. Refute it at one input. -/
def fnExactIsCubeWrong : ChangeSpec := { name := "fnExactIsCube", fn := fun _ => fun
  | [d] => { results := [.lit (.bool false)], args := [d] }
  | _ => none }
def FnExactIsCubeWrongFalsely : Prop := fnExactIsCubeRow.holds Try.pinned (OpenSpec.ofChange fnExactIsCubeWrong)

/-- 'laws.FnExactFirstBreak': WHATEVER THE INPUT: true; the input reads as it did. -/
def fnExactFirstBreakSpec : ChangeSpec := { name := "fnExactFirstBreak", fn := fun _ => fun
  | [d] => { results := [.lit (.bool true)], args := [d] }
  | _ => none }
def fnExactFirstBreakRow : OpenClaim := { program := "ytnjjldjgknkijaa", sum := "167ac6dc32044dbafe7cb194e7be1bedace8a7831e7d7a72afea38421c294343", func := "loop.example/g00908/laws.FnExactFirstBreak", spec := "fnExactFirstBreak", apart := false }
def FnExactFirstBreakSaid : Prop := fnExactFirstBreakRow.holds Try.pinned (OpenSpec.ofChange fnExactFirstBreakSpec)

/-- ITS FALSE NEIGHBOUR: 'it returns false'. Refute it at one input. -/
def fnExactFirstBreakWrong : ChangeSpec := { name := "fnExactFirstBreak", fn := fun _ => fun
  | [d] => { results := [.lit (.bool false)], args := [d] }
  | _ => none }
def FnExactFirstBreakWrongFalsely : Prop := fnExactFirstBreakRow.holds Try.pinned (OpenSpec.ofChange fnExactFirstBreakWrong)

/-- 'laws.FnExactChangeCost': WHATEVER THE INPUT: true; the input reads as it did. -/
def fnExactChangeCostSpec : ChangeSpec := { name := "fnExactChangeCost", fn := fun _ => fun
  | [d1, d2, d3, d4] => { results := [.lit (.bool true)], args := [d1, d2, d3, d4] }
  | _ => none }
def fnExactChangeCostRow : OpenClaim := { program := "ytnjjldjgknkijaa", sum := "167ac6dc32044dbafe7cb194e7be1bedace8a7831e7d7a72afea38421c294343", func := "loop.example/g00908/laws.FnExactChangeCost", spec := "fnExactChangeCost", apart := false }
def FnExactChangeCostSaid : Prop := fnExactChangeCostRow.holds Try.pinned (OpenSpec.ofChange fnExactChangeCostSpec)

/-- ITS FALSE NEIGHBOUR: 'it returns false'. Refute it at one input. -/
def fnExactChangeCostWrong : ChangeSpec := { name := "fnExactChangeCost", fn := fun _ => fun
  | [d1, d2, d3, d4] => { results := [.lit (.bool false)], args := [d1, d2, d3, d4] }
  | _ => none }
def FnExactChangeCostWrongFalsely : Prop := fnExactChangeCostRow.holds Try.pinned (OpenSpec.ofChange fnExactChangeCostWrong)

/-- 'laws.FnExactCubeCell': WHATEVER THE INPUT: true; the input reads as it did. -/
def fnExactCubeCellSpec : ChangeSpec := { name := "fnExactCubeCell", fn := fun _ => fun
  | [d1, d2] => { results := [.lit (.bool true)], args := [d1, d2] }
  | _ => none }
def fnExactCubeCellRow : OpenClaim := { program := "ytnjjldjgknkijaa", sum := "167ac6dc32044dbafe7cb194e7be1bedace8a7831e7d7a72afea38421c294343", func := "loop.example/g00908/laws.FnExactCubeCell", spec := "fnExactCubeCell", apart := false }
def FnExactCubeCellSaid : Prop := fnExactCubeCellRow.holds Try.pinned (OpenSpec.ofChange fnExactCubeCellSpec)

/-- ITS FALSE NEIGHBOUR: 'it returns false'. Refute it at one input. -/
def fnExactCubeCellWrong : ChangeSpec := { name := "fnExactCubeCell", fn := fun _ => fun
  | [d1, d2] => { results := [.lit (.bool false)], args := [d1, d2] }
  | _ => none }
def FnExactCubeCellWrongFalsely : Prop := fnExactCubeCellRow.holds Try.pinned (OpenSpec.ofChange fnExactCubeCellWrong)

/-- 'laws.FnExactBaseOf': WHATEVER THE INPUT: true; the input reads as it did. -/
def fnExactBaseOfSpec : ChangeSpec := { name := "fnExactBaseOf", fn := fun _ => fun
  | [d] => { results := [.lit (.bool true)], args := [d] }
  | _ => none }
def fnExactBaseOfRow : OpenClaim := { program := "ytnjjldjgknkijaa", sum := "167ac6dc32044dbafe7cb194e7be1bedace8a7831e7d7a72afea38421c294343", func := "loop.example/g00908/laws.FnExactBaseOf", spec := "fnExactBaseOf", apart := false }
def FnExactBaseOfSaid : Prop := fnExactBaseOfRow.holds Try.pinned (OpenSpec.ofChange fnExactBaseOfSpec)

/-- ITS FALSE NEIGHBOUR: 'it returns false'. Refute it at one input. -/
def fnExactBaseOfWrong : ChangeSpec := { name := "fnExactBaseOf", fn := fun _ => fun
  | [d] => { results := [.lit (.bool false)], args := [d] }
  | _ => none }
def FnExactBaseOfWrongFalsely : Prop := fnExactBaseOfRow.holds Try.pinned (OpenSpec.ofChange fnExactBaseOfWrong)

/-- 'laws.FnExactCubeOf': WHATEVER THE INPUT: true; the input reads as it did. -/
def fnExactCubeOfSpec : ChangeSpec := { name := "fnExactCubeOf", fn := fun _ => fun
  | [d1, d2] => { results := [.lit (.bool true)], args := [d1, d2] }
  | _ => none }
def fnExactCubeOfRow : OpenClaim := { program := "ytnjjldjgknkijaa", sum := "167ac6dc32044dbafe7cb194e7be1bedace8a7831e7d7a72afea38421c294343", func := "loop.example/g00908/laws.FnExactCubeOf", spec := "fnExactCubeOf", apart := false }
def FnExactCubeOfSaid : Prop := fnExactCubeOfRow.holds Try.pinned (OpenSpec.ofChange fnExactCubeOfSpec)

/-- ITS FALSE NEIGHBOUR: 'it returns false'. Refute it at one input. -/
def fnExactCubeOfWrong : ChangeSpec := { name := "fnExactCubeOf", fn := fun _ => fun
  | [d1, d2] => { results := [.lit (.bool false)], args := [d1, d2] }
  | _ => none }
def FnExactCubeOfWrongFalsely : Prop := fnExactCubeOfRow.holds Try.pinned (OpenSpec.ofChange fnExactCubeOfWrong)

/-- 'laws.FnExactDifferenceOf': WHATEVER THE INPUT: true; the input reads as it did. -/
def fnExactDifferenceOfSpec : ChangeSpec := { name := "fnExactDifferenceOf", fn := fun _ => fun
  | [d1, d2] => { results := [.lit (.bool true)], args := [d1, d2] }
  | _ => none }
def fnExactDifferenceOfRow : OpenClaim := { program := "ytnjjldjgknkijaa", sum := "167ac6dc32044dbafe7cb194e7be1bedace8a7831e7d7a72afea38421c294343", func := "loop.example/g00908/laws.FnExactDifferenceOf", spec := "fnExactDifferenceOf", apart := false }
def FnExactDifferenceOfSaid : Prop := fnExactDifferenceOfRow.holds Try.pinned (OpenSpec.ofChange fnExactDifferenceOfSpec)

/-- ITS FALSE NEIGHBOUR: 'it returns false'. Refute it at one input. -/
def fnExactDifferenceOfWrong : ChangeSpec := { name := "fnExactDifferenceOf", fn := fun _ => fun
  | [d1, d2] => { results := [.lit (.bool false)], args := [d1, d2] }
  | _ => none }
def FnExactDifferenceOfWrongFalsely : Prop := fnExactDifferenceOfRow.holds Try.pinned (OpenSpec.ofChange fnExactDifferenceOfWrong)

/-- 'laws.FnExactMarginOf': WHATEVER THE INPUT: true; the input reads as it did. -/
def fnExactMarginOfSpec : ChangeSpec := { name := "fnExactMarginOf", fn := fun _ => fun
  | [d1, d2] => { results := [.lit (.bool true)], args := [d1, d2] }
  | _ => none }
def fnExactMarginOfRow : OpenClaim := { program := "ytnjjldjgknkijaa", sum := "167ac6dc32044dbafe7cb194e7be1bedace8a7831e7d7a72afea38421c294343", func := "loop.example/g00908/laws.FnExactMarginOf", spec := "fnExactMarginOf", apart := false }
def FnExactMarginOfSaid : Prop := fnExactMarginOfRow.holds Try.pinned (OpenSpec.ofChange fnExactMarginOfSpec)

/-- ITS FALSE NEIGHBOUR: 'it returns false'. Refute it at one input. -/
def fnExactMarginOfWrong : ChangeSpec := { name := "fnExactMarginOf", fn := fun _ => fun
  | [d1, d2] => { results := [.lit (.bool false)], args := [d1, d2] }
  | _ => none }
def FnExactMarginOfWrongFalsely : Prop := fnExactMarginOfRow.holds Try.pinned (OpenSpec.ofChange fnExactMarginOfWrong)

/-- 'laws.FnExactSliceOf': WHATEVER THE INPUT: true; the input reads as it did. -/
def fnExactSliceOfSpec : ChangeSpec := { name := "fnExactSliceOf", fn := fun _ => fun
  | [d1, d2, d3] => { results := [.lit (.bool true)], args := [d1, d2, d3] }
  | _ => none }
def fnExactSliceOfRow : OpenClaim := { program := "ytnjjldjgknkijaa", sum := "167ac6dc32044dbafe7cb194e7be1bedace8a7831e7d7a72afea38421c294343", func := "loop.example/g00908/laws.FnExactSliceOf", spec := "fnExactSliceOf", apart := false }
def FnExactSliceOfSaid : Prop := fnExactSliceOfRow.holds Try.pinned (OpenSpec.ofChange fnExactSliceOfSpec)

/-- ITS FALSE NEIGHBOUR: 'it returns false'. Refute it at one input. -/
def fnExactSliceOfWrong : ChangeSpec := { name := "fnExactSliceOf", fn := fun _ => fun
  | [d1, d2, d3] => { results := [.lit (.bool false)], args := [d1, d2, d3] }
  | _ => none }
def FnExactSliceOfWrongFalsely : Prop := fnExactSliceOfRow.holds Try.pinned (OpenSpec.ofChange fnExactSliceOfWrong)

/-- 'laws.FnExactGroupCube': WHATEVER THE INPUT: true; the input reads as it did. -/
def fnExactGroupCubeSpec : ChangeSpec := { name := "fnExactGroupCube", fn := fun _ => fun
  | [d1, d2, d3] => { results := [.lit (.bool true)], args := [d1, d2, d3] }
  | _ => none }
def fnExactGroupCubeRow : OpenClaim := { program := "ytnjjldjgknkijaa", sum := "167ac6dc32044dbafe7cb194e7be1bedace8a7831e7d7a72afea38421c294343", func := "loop.example/g00908/laws.FnExactGroupCube", spec := "fnExactGroupCube", apart := false }
def FnExactGroupCubeSaid : Prop := fnExactGroupCubeRow.holds Try.pinned (OpenSpec.ofChange fnExactGroupCubeSpec)

/-- ITS FALSE NEIGHBOUR: 'it returns false'. Refute it at one input. -/
def fnExactGroupCubeWrong : ChangeSpec := { name := "fnExactGroupCube", fn := fun _ => fun
  | [d1, d2, d3] => { results := [.lit (.bool false)], args := [d1, d2, d3] }
  | _ => none }
def FnExactGroupCubeWrongFalsely : Prop := fnExactGroupCubeRow.holds Try.pinned (OpenSpec.ofChange fnExactGroupCubeWrong)

/- THE SECOND FORM. 'bulk': how many values and letters a reading holds, each counted each time it is reached (what is shared counts as often as it is met; a slice's spare places count too). A statement '..UptoSaid' is the law's where the arguments, and the package variables that the reading takes, are together of bulk at most 1048576: NARROWER than '..Said'. Prove '..Said' where nothing that the law and all that it calls make is longer than what came in: it says more and counts as full. Else prove '..UptoSaid'. A law counts once. -/
mutual
def uptoBulk {H : Type} : DataW H → Nat
  | .lit (.string bytes) => bytes.length + 1
  | .lit _ => 1
  | .nil => 1
  | .ptr d => uptoBulk d + 1
  | .slice elems spare => uptoBulkAll elems + uptoBulkAll spare + 1
  | .agg parts => uptoBulkAll parts + 1
  | .iface _ d => uptoBulk d + 1
  | .map entries => uptoBulkEntries entries + 1
  | .held _ => 1
def uptoBulkAll {H : Type} : List (DataW H) → Nat
  | [] => 0
  | d :: r => uptoBulk d + uptoBulkAll r
def uptoBulkEntries {H : Type} : List (Lit × DataW H) → Nat
  | [] => 0
  | x :: r => uptoBulkEntry x + uptoBulkEntries r
def uptoBulkEntry {H : Type} : Lit × DataW H → Nat
  | (.string bytes, d) => bytes.length + uptoBulk d + 1
  | (_, d) => uptoBulk d + 1
 end
def uptoSmall : (H : Type) → List (DataW H) → Bool := fun _ ds => decide (uptoBulkAll ds ≤ 1048576)
def OpenSpec.upto (s : _root_.Go.ChangeSpec) : _root_.Go.OpenSpec := { _root_.Go.OpenSpec.ofChange s with cond := some uptoSmall }

/-- 'laws.FnExactAddCells', WHERE WHAT IT READS IS OF BULK AT MOST 1048576: true; the input reads as it did. -/
def fnExactAddCellsUptoRow : OpenClaim := { program := "ytnjjldjgknkijaa", sum := "167ac6dc32044dbafe7cb194e7be1bedace8a7831e7d7a72afea38421c294343", func := "loop.example/g00908/laws.FnExactAddCells", spec := "fnExactAddCells", apart := false, narrowed := true }
def FnExactAddCellsUptoSaid : Prop := fnExactAddCellsUptoRow.holds Try.pinned (OpenSpec.upto fnExactAddCellsSpec)

/-- 'laws.FnExactPartsOf', WHERE WHAT IT READS IS OF BULK AT MOST 1048576: true; the input reads as it did. -/
def fnExactPartsOfUptoRow : OpenClaim := { program := "ytnjjldjgknkijaa", sum := "167ac6dc32044dbafe7cb194e7be1bedace8a7831e7d7a72afea38421c294343", func := "loop.example/g00908/laws.FnExactPartsOf", spec := "fnExactPartsOf", apart := false, narrowed := true }
def FnExactPartsOfUptoSaid : Prop := fnExactPartsOfUptoRow.holds Try.pinned (OpenSpec.upto fnExactPartsOfSpec)

/-- 'laws.FnExactIsCube', WHERE WHAT IT READS IS OF BULK AT MOST 1048576: true; the input reads as it did. -/
def fnExactIsCubeUptoRow : OpenClaim := { program := "ytnjjldjgknkijaa", sum := "167ac6dc32044dbafe7cb194e7be1bedace8a7831e7d7a72afea38421c294343", func := "loop.example/g00908/laws.FnExactIsCube", spec := "fnExactIsCube", apart := false, narrowed := true }
def FnExactIsCubeUptoSaid : Prop := fnExactIsCubeUptoRow.holds Try.pinned (OpenSpec.upto fnExactIsCubeSpec)

/-- 'laws.FnExactFirstBreak', WHERE WHAT IT READS IS OF BULK AT MOST 1048576: true; the input reads as it did. -/
def fnExactFirstBreakUptoRow : OpenClaim := { program := "ytnjjldjgknkijaa", sum := "167ac6dc32044dbafe7cb194e7be1bedace8a7831e7d7a72afea38421c294343", func := "loop.example/g00908/laws.FnExactFirstBreak", spec := "fnExactFirstBreak", apart := false, narrowed := true }
def FnExactFirstBreakUptoSaid : Prop := fnExactFirstBreakUptoRow.holds Try.pinned (OpenSpec.upto fnExactFirstBreakSpec)

/-- 'laws.FnExactChangeCost', WHERE WHAT IT READS IS OF BULK AT MOST 1048576: true; the input reads as it did. -/
def fnExactChangeCostUptoRow : OpenClaim := { program := "ytnjjldjgknkijaa", sum := "167ac6dc32044dbafe7cb194e7be1bedace8a7831e7d7a72afea38421c294343", func := "loop.example/g00908/laws.FnExactChangeCost", spec := "fnExactChangeCost", apart := false, narrowed := true }
def FnExactChangeCostUptoSaid : Prop := fnExactChangeCostUptoRow.holds Try.pinned (OpenSpec.upto fnExactChangeCostSpec)

/-- 'laws.FnExactCubeCell', WHERE WHAT IT READS IS OF BULK AT MOST 1048576: true; the input reads as it did. -/
def fnExactCubeCellUptoRow : OpenClaim := { program := "ytnjjldjgknkijaa", sum := "167ac6dc32044dbafe7cb194e7be1bedace8a7831e7d7a72afea38421c294343", func := "loop.example/g00908/laws.FnExactCubeCell", spec := "fnExactCubeCell", apart := false, narrowed := true }
def FnExactCubeCellUptoSaid : Prop := fnExactCubeCellUptoRow.holds Try.pinned (OpenSpec.upto fnExactCubeCellSpec)

/-- 'laws.FnExactBaseOf', WHERE WHAT IT READS IS OF BULK AT MOST 1048576: true; the input reads as it did. -/
def fnExactBaseOfUptoRow : OpenClaim := { program := "ytnjjldjgknkijaa", sum := "167ac6dc32044dbafe7cb194e7be1bedace8a7831e7d7a72afea38421c294343", func := "loop.example/g00908/laws.FnExactBaseOf", spec := "fnExactBaseOf", apart := false, narrowed := true }
def FnExactBaseOfUptoSaid : Prop := fnExactBaseOfUptoRow.holds Try.pinned (OpenSpec.upto fnExactBaseOfSpec)

/-- 'laws.FnExactCubeOf', WHERE WHAT IT READS IS OF BULK AT MOST 1048576: true; the input reads as it did. -/
def fnExactCubeOfUptoRow : OpenClaim := { program := "ytnjjldjgknkijaa", sum := "167ac6dc32044dbafe7cb194e7be1bedace8a7831e7d7a72afea38421c294343", func := "loop.example/g00908/laws.FnExactCubeOf", spec := "fnExactCubeOf", apart := false, narrowed := true }
def FnExactCubeOfUptoSaid : Prop := fnExactCubeOfUptoRow.holds Try.pinned (OpenSpec.upto fnExactCubeOfSpec)

/-- 'laws.FnExactDifferenceOf', WHERE WHAT IT READS IS OF BULK AT MOST 1048576: true; the input reads as it did. -/
def fnExactDifferenceOfUptoRow : OpenClaim := { program := "ytnjjldjgknkijaa", sum := "167ac6dc32044dbafe7cb194e7be1bedace8a7831e7d7a72afea38421c294343", func := "loop.example/g00908/laws.FnExactDifferenceOf", spec := "fnExactDifferenceOf", apart := false, narrowed := true }
def FnExactDifferenceOfUptoSaid : Prop := fnExactDifferenceOfUptoRow.holds Try.pinned (OpenSpec.upto fnExactDifferenceOfSpec)

/-- 'laws.FnExactMarginOf', WHERE WHAT IT READS IS OF BULK AT MOST 1048576: true; the input reads as it did. -/
def fnExactMarginOfUptoRow : OpenClaim := { program := "ytnjjldjgknkijaa", sum := "167ac6dc32044dbafe7cb194e7be1bedace8a7831e7d7a72afea38421c294343", func := "loop.example/g00908/laws.FnExactMarginOf", spec := "fnExactMarginOf", apart := false, narrowed := true }
def FnExactMarginOfUptoSaid : Prop := fnExactMarginOfUptoRow.holds Try.pinned (OpenSpec.upto fnExactMarginOfSpec)

/-- 'laws.FnExactSliceOf', WHERE WHAT IT READS IS OF BULK AT MOST 1048576: true; the input reads as it did. -/
def fnExactSliceOfUptoRow : OpenClaim := { program := "ytnjjldjgknkijaa", sum := "167ac6dc32044dbafe7cb194e7be1bedace8a7831e7d7a72afea38421c294343", func := "loop.example/g00908/laws.FnExactSliceOf", spec := "fnExactSliceOf", apart := false, narrowed := true }
def FnExactSliceOfUptoSaid : Prop := fnExactSliceOfUptoRow.holds Try.pinned (OpenSpec.upto fnExactSliceOfSpec)

/-- 'laws.FnExactGroupCube', WHERE WHAT IT READS IS OF BULK AT MOST 1048576: true; the input reads as it did. -/
def fnExactGroupCubeUptoRow : OpenClaim := { program := "ytnjjldjgknkijaa", sum := "167ac6dc32044dbafe7cb194e7be1bedace8a7831e7d7a72afea38421c294343", func := "loop.example/g00908/laws.FnExactGroupCube", spec := "fnExactGroupCube", apart := false, narrowed := true }
def FnExactGroupCubeUptoSaid : Prop := fnExactGroupCubeUptoRow.holds Try.pinned (OpenSpec.upto fnExactGroupCubeSpec)

end Rows
end Go.Proofs.Ytnjjldjgknkijaa
