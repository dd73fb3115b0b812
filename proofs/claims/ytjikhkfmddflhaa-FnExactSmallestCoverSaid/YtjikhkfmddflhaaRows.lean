/-
  No cell of these rows narrows 'for every input' (looked for: loops, veiled, ifaces, maps, wideKeys, modest, calm, conditions, laid).
  DERIVED. THE GIVEN ROWS OF THIS SEAT. 10 by the template 'for every input the law returns true; each argument reads behind the call as it read before'; 0 by the template 'total and deterministic' (their statements: YtjikhkfmddflhaaTotals.lean).
  GIVEN WITH THE SEED: the statements are not yours to turn. If you find one false, say at which input.
  Laid BY PROGRAM, IN A SANDBOX (cutbox-rows.mjs): the forced cells as the released guide's own fill.sh prints them over the translation 50d9655ce57dbaf5… (all of the seat's roots in one cut). By AI agents, Wed Nov 11 2026. No macro, syntax, notation, axiom, sorry.
-/
import Derived.Test.YtjikhkfmddflhaaChecked
import GoSem.Claim
import GoSem.ClaimJoined
import GoSem.ClaimMapViews
import Derived.JoinedTies
import Derived.KernelRfl
namespace Go.Proofs.Ytjikhkfmddflhaa
/- THE CELL 'sum', in the pinned program and in every row, IS THE sha256 OF THE DUMP (.gsa) THAT YtjikhkfmddflhaaProg.lean LOADS. Nothing in Lean hashes anything: it is a label: what it is worth is what the hold of that sum in a sandbox is worth. -/
noncomputable def Try.pinned : Pinned := { name := "ytjikhkfmddflhaa", sum := "50d9655ce57dbaf5510c066625f72a26bf7eb04c4ca0727da0aa012a0ecb2774", checked := Try.checked }
namespace Rows
def none {H : Type} : Left H := { results := [], args := [] }

/-- 'laws.FnExactFirstPassing': WHATEVER THE INPUT: true; the input reads as it did. -/
def fnExactFirstPassingSpec : ChangeSpec := { name := "fnExactFirstPassing", fn := fun _ => fun
  | [d1, d2] => { results := [.lit (.bool true)], args := [d1, d2] }
  | _ => none }
def fnExactFirstPassingRow : OpenClaim := { program := "ytjikhkfmddflhaa", sum := "50d9655ce57dbaf5510c066625f72a26bf7eb04c4ca0727da0aa012a0ecb2774", func := "loop.example/g00908/laws.FnExactFirstPassing", spec := "fnExactFirstPassing", unfollowed := true, recurses := true, apart := false }
def FnExactFirstPassingSaid : Prop := fnExactFirstPassingRow.holds Try.pinned (OpenSpec.ofChange fnExactFirstPassingSpec)

/-- ITS FALSE NEIGHBOUR: 'it returns false'. Refute it at one input. -/
def fnExactFirstPassingWrong : ChangeSpec := { name := "fnExactFirstPassing", fn := fun _ => fun
  | [d1, d2] => { results := [.lit (.bool false)], args := [d1, d2] }
  | _ => none }
def FnExactFirstPassingWrongFalsely : Prop := fnExactFirstPassingRow.holds Try.pinned (OpenSpec.ofChange fnExactFirstPassingWrong)

/-- 'laws.FnExactCanComplete': WHATEVER THE INPUT: true; the input reads as it did. -/
def fnExactCanCompleteSpec : ChangeSpec := { name := "fnExactCanComplete", fn := fun _ => fun
  | [d1, d2, d3, d4] => { results := [.lit (.bool true)], args := [d1, d2, d3, d4] }
  | _ => none }
def fnExactCanCompleteRow : OpenClaim := { program := "ytjikhkfmddflhaa", sum := "50d9655ce57dbaf5510c066625f72a26bf7eb04c4ca0727da0aa012a0ecb2774", func := "loop.example/g00908/laws.FnExactCanComplete", spec := "fnExactCanComplete", unfollowed := true, recurses := true, apart := false }
def FnExactCanCompleteSaid : Prop := fnExactCanCompleteRow.holds Try.pinned (OpenSpec.ofChange fnExactCanCompleteSpec)

/-- ITS FALSE NEIGHBOUR: 'it returns false'. Refute it at one input. -/
def fnExactCanCompleteWrong : ChangeSpec := { name := "fnExactCanComplete", fn := fun _ => fun
  | [d1, d2, d3, d4] => { results := [.lit (.bool false)], args := [d1, d2, d3, d4] }
  | _ => none }
def FnExactCanCompleteWrongFalsely : Prop := fnExactCanCompleteRow.holds Try.pinned (OpenSpec.ofChange fnExactCanCompleteWrong)

/-- 'laws.FnExactCompletionOf': WHATEVER THE INPUT: true; the input reads as it did. -/
def fnExactCompletionOfSpec : ChangeSpec := { name := "fnExactCompletionOf", fn := fun _ => fun
  | [d1, d2, d3, d4] => { results := [.lit (.bool true)], args := [d1, d2, d3, d4] }
  | _ => none }
def fnExactCompletionOfRow : OpenClaim := { program := "ytjikhkfmddflhaa", sum := "50d9655ce57dbaf5510c066625f72a26bf7eb04c4ca0727da0aa012a0ecb2774", func := "loop.example/g00908/laws.FnExactCompletionOf", spec := "fnExactCompletionOf", unfollowed := true, recurses := true, apart := false }
def FnExactCompletionOfSaid : Prop := fnExactCompletionOfRow.holds Try.pinned (OpenSpec.ofChange fnExactCompletionOfSpec)

/-- ITS FALSE NEIGHBOUR: 'it returns false'. Refute it at one input. -/
def fnExactCompletionOfWrong : ChangeSpec := { name := "fnExactCompletionOf", fn := fun _ => fun
  | [d1, d2, d3, d4] => { results := [.lit (.bool false)], args := [d1, d2, d3, d4] }
  | _ => none }
def FnExactCompletionOfWrongFalsely : Prop := fnExactCompletionOfRow.holds Try.pinned (OpenSpec.ofChange fnExactCompletionOfWrong)

/-- 'laws.FnExactSmallestCover': WHATEVER THE INPUT: true; the input reads as it did. -/
def fnExactSmallestCoverSpec : ChangeSpec := { name := "fnExactSmallestCover", fn := fun _ => fun
  | [d1, d2, d3] => { results := [.lit (.bool true)], args := [d1, d2, d3] }
  | _ => none }
def fnExactSmallestCoverRow : OpenClaim := { program := "ytjikhkfmddflhaa", sum := "50d9655ce57dbaf5510c066625f72a26bf7eb04c4ca0727da0aa012a0ecb2774", func := "loop.example/g00908/laws.FnExactSmallestCover", spec := "fnExactSmallestCover", unfollowed := true, recurses := true, apart := false }
def FnExactSmallestCoverSaid : Prop := fnExactSmallestCoverRow.holds Try.pinned (OpenSpec.ofChange fnExactSmallestCoverSpec)

/-- ITS FALSE NEIGHBOUR: 'it returns false'. Refute it at one input. -/
def fnExactSmallestCoverWrong : ChangeSpec := { name := "fnExactSmallestCover", fn := fun _ => fun
  | [d1, d2, d3] => { results := [.lit (.bool false)], args := [d1, d2, d3] }
  | _ => none }
def FnExactSmallestCoverWrongFalsely : Prop := fnExactSmallestCoverRow.holds Try.pinned (OpenSpec.ofChange fnExactSmallestCoverWrong)

/-- 'laws.FnExactCheapestChange': WHATEVER THE INPUT: true; the input reads as it did. -/
def fnExactCheapestChangeSpec : ChangeSpec := { name := "fnExactCheapestChange", fn := fun _ => fun
  | [d1, d2, d3, d4] => { results := [.lit (.bool true)], args := [d1, d2, d3, d4] }
  | _ => none }
def fnExactCheapestChangeRow : OpenClaim := { program := "ytjikhkfmddflhaa", sum := "50d9655ce57dbaf5510c066625f72a26bf7eb04c4ca0727da0aa012a0ecb2774", func := "loop.example/g00908/laws.FnExactCheapestChange", spec := "fnExactCheapestChange", unfollowed := true, recurses := true, apart := false }
def FnExactCheapestChangeSaid : Prop := fnExactCheapestChangeRow.holds Try.pinned (OpenSpec.ofChange fnExactCheapestChangeSpec)

/-- ITS FALSE NEIGHBOUR: 'it returns false'. Refute it at one input. -/
def fnExactCheapestChangeWrong : ChangeSpec := { name := "fnExactCheapestChange", fn := fun _ => fun
  | [d1, d2, d3, d4] => { results := [.lit (.bool false)], args := [d1, d2, d3, d4] }
  | _ => none }
def FnExactCheapestChangeWrongFalsely : Prop := fnExactCheapestChangeRow.holds Try.pinned (OpenSpec.ofChange fnExactCheapestChangeWrong)

/-- 'laws.FnExactMendValues': WHATEVER THE INPUT: true; the input reads as it did. -/
def fnExactMendValuesSpec : ChangeSpec := { name := "fnExactMendValues", fn := fun _ => fun
  | [d1, d2, d3, d4] => { results := [.lit (.bool true)], args := [d1, d2, d3, d4] }
  | _ => none }
def fnExactMendValuesRow : OpenClaim := { program := "ytjikhkfmddflhaa", sum := "50d9655ce57dbaf5510c066625f72a26bf7eb04c4ca0727da0aa012a0ecb2774", func := "loop.example/g00908/laws.FnExactMendValues", spec := "fnExactMendValues", unfollowed := true, recurses := true, apart := false }
def FnExactMendValuesSaid : Prop := fnExactMendValuesRow.holds Try.pinned (OpenSpec.ofChange fnExactMendValuesSpec)

/-- ITS FALSE NEIGHBOUR: 'it returns false'. Refute it at one input. -/
def fnExactMendValuesWrong : ChangeSpec := { name := "fnExactMendValues", fn := fun _ => fun
  | [d1, d2, d3, d4] => { results := [.lit (.bool false)], args := [d1, d2, d3, d4] }
  | _ => none }
def FnExactMendValuesWrongFalsely : Prop := fnExactMendValuesRow.holds Try.pinned (OpenSpec.ofChange fnExactMendValuesWrong)

/-- 'laws.FnExactDonorMend': WHATEVER THE INPUT: true; the input reads as it did. -/
def fnExactDonorMendSpec : ChangeSpec := { name := "fnExactDonorMend", fn := fun _ => fun
  | [d1, d2, d3, d4, d5] => { results := [.lit (.bool true)], args := [d1, d2, d3, d4, d5] }
  | _ => none }
def fnExactDonorMendRow : OpenClaim := { program := "ytjikhkfmddflhaa", sum := "50d9655ce57dbaf5510c066625f72a26bf7eb04c4ca0727da0aa012a0ecb2774", func := "loop.example/g00908/laws.FnExactDonorMend", spec := "fnExactDonorMend", unfollowed := true, recurses := true, apart := false }
def FnExactDonorMendSaid : Prop := fnExactDonorMendRow.holds Try.pinned (OpenSpec.ofChange fnExactDonorMendSpec)

/-- ITS FALSE NEIGHBOUR: 'it returns false'. Refute it at one input. -/
def fnExactDonorMendWrong : ChangeSpec := { name := "fnExactDonorMend", fn := fun _ => fun
  | [d1, d2, d3, d4, d5] => { results := [.lit (.bool false)], args := [d1, d2, d3, d4, d5] }
  | _ => none }
def FnExactDonorMendWrongFalsely : Prop := fnExactDonorMendRow.holds Try.pinned (OpenSpec.ofChange fnExactDonorMendWrong)

/-- 'laws.FnExactMendData': WHATEVER THE INPUT: true; the input reads as it did. -/
def fnExactMendDataSpec : ChangeSpec := { name := "fnExactMendData", fn := fun _ => fun
  | [d1, d2, d3, d4] => { results := [.lit (.bool true)], args := [d1, d2, d3, d4] }
  | _ => none }
def fnExactMendDataRow : OpenClaim := { program := "ytjikhkfmddflhaa", sum := "50d9655ce57dbaf5510c066625f72a26bf7eb04c4ca0727da0aa012a0ecb2774", func := "loop.example/g00908/laws.FnExactMendData", spec := "fnExactMendData", unfollowed := true, recurses := true, apart := false }
def FnExactMendDataSaid : Prop := fnExactMendDataRow.holds Try.pinned (OpenSpec.ofChange fnExactMendDataSpec)

/-- ITS FALSE NEIGHBOUR: 'it returns false'. Refute it at one input. -/
def fnExactMendDataWrong : ChangeSpec := { name := "fnExactMendData", fn := fun _ => fun
  | [d1, d2, d3, d4] => { results := [.lit (.bool false)], args := [d1, d2, d3, d4] }
  | _ => none }
def FnExactMendDataWrongFalsely : Prop := fnExactMendDataRow.holds Try.pinned (OpenSpec.ofChange fnExactMendDataWrong)

/-- 'laws.FnExactWithoutContained': WHATEVER THE INPUT: true; the input reads as it did. -/
def fnExactWithoutContainedSpec : ChangeSpec := { name := "fnExactWithoutContained", fn := fun _ => fun
  | [d1, d2] => { results := [.lit (.bool true)], args := [d1, d2] }
  | _ => none }
def fnExactWithoutContainedRow : OpenClaim := { program := "ytjikhkfmddflhaa", sum := "50d9655ce57dbaf5510c066625f72a26bf7eb04c4ca0727da0aa012a0ecb2774", func := "loop.example/g00908/laws.FnExactWithoutContained", spec := "fnExactWithoutContained", unfollowed := true, recurses := true, apart := false }
def FnExactWithoutContainedSaid : Prop := fnExactWithoutContainedRow.holds Try.pinned (OpenSpec.ofChange fnExactWithoutContainedSpec)

/-- ITS FALSE NEIGHBOUR: 'it returns false'. Refute it at one input. -/
def fnExactWithoutContainedWrong : ChangeSpec := { name := "fnExactWithoutContained", fn := fun _ => fun
  | [d1, d2] => { results := [.lit (.bool false)], args := [d1, d2] }
  | _ => none }
def FnExactWithoutContainedWrongFalsely : Prop := fnExactWithoutContainedRow.holds Try.pinned (OpenSpec.ofChange fnExactWithoutContainedWrong)

/-- 'laws.FnExactGroupCube': WHATEVER THE INPUT: true; the input reads as it did. -/
def fnExactGroupCubeSpec : ChangeSpec := { name := "fnExactGroupCube", fn := fun _ => fun
  | [d1, d2, d3] => { results := [.lit (.bool true)], args := [d1, d2, d3] }
  | _ => none }
def fnExactGroupCubeRow : OpenClaim := { program := "ytjikhkfmddflhaa", sum := "50d9655ce57dbaf5510c066625f72a26bf7eb04c4ca0727da0aa012a0ecb2774", func := "loop.example/g00908/laws.FnExactGroupCube", spec := "fnExactGroupCube", apart := false }
def FnExactGroupCubeSaid : Prop := fnExactGroupCubeRow.holds Try.pinned (OpenSpec.ofChange fnExactGroupCubeSpec)

/-- ITS FALSE NEIGHBOUR: 'it returns false'. Refute it at one input. -/
def fnExactGroupCubeWrong : ChangeSpec := { name := "fnExactGroupCube", fn := fun _ => fun
  | [d1, d2, d3] => { results := [.lit (.bool false)], args := [d1, d2, d3] }
  | _ => none }
def FnExactGroupCubeWrongFalsely : Prop := fnExactGroupCubeRow.holds Try.pinned (OpenSpec.ofChange fnExactGroupCubeWrong)

/- THE SECOND FORM. 'bulk': how many values and letters a reading holds, each counted each time it is reached (what is shared counts as often as it is met; a slice's spare places count too). A statement '..UptoSaid' is the law's where the arguments, and the package variables that the reading takes, are together of bulk at most 1048576: NARROWER than '..Said'. Prove '..Said' where nothing that the law and all that it calls make is longer than what came in: it says more and counts as full. Else prove '..UptoSaid'. A law counts once. -/
mutual
def uptoBulk {H : Type} : DataW H → Nat
  | .lit (.string bytes) => bytes.length + 1
  | .lit _ => 1
  | .nil => 1
  | .ptr d => uptoBulk d + 1
  | .slice elems spare => uptoBulkAll elems + uptoBulkAll spare + 1
  | .agg parts => uptoBulkAll parts + 1
  | .iface _ d => uptoBulk d + 1
  | .map entries => uptoBulkEntries entries + 1
  | .held _ => 1
def uptoBulkAll {H : Type} : List (DataW H) → Nat
  | [] => 0
  | d :: r => uptoBulk d + uptoBulkAll r
def uptoBulkEntries {H : Type} : List (Lit × DataW H) → Nat
  | [] => 0
  | x :: r => uptoBulkEntry x + uptoBulkEntries r
def uptoBulkEntry {H : Type} : Lit × DataW H → Nat
  | (.string bytes, d) => bytes.length + uptoBulk d + 1
  | (_, d) => uptoBulk d + 1
 end
def uptoSmall : (H : Type) → List (DataW H) → Bool := fun _ ds => decide (uptoBulkAll ds ≤ 1048576)
def OpenSpec.upto (s : _root_.Go.ChangeSpec) : _root_.Go.OpenSpec := { _root_.Go.OpenSpec.ofChange s with cond := some uptoSmall }

/-- 'laws.FnExactFirstPassing', WHERE WHAT IT READS IS OF BULK AT MOST 1048576: true; the input reads as it did. -/
def fnExactFirstPassingUptoRow : OpenClaim := { program := "ytjikhkfmddflhaa", sum := "50d9655ce57dbaf5510c066625f72a26bf7eb04c4ca0727da0aa012a0ecb2774", func := "loop.example/g00908/laws.FnExactFirstPassing", spec := "fnExactFirstPassing", unfollowed := true, recurses := true, apart := false, narrowed := true }
def FnExactFirstPassingUptoSaid : Prop := fnExactFirstPassingUptoRow.holds Try.pinned (OpenSpec.upto fnExactFirstPassingSpec)

/-- 'laws.FnExactCanComplete', WHERE WHAT IT READS IS OF BULK AT MOST 1048576: true; the input reads as it did. -/
def fnExactCanCompleteUptoRow : OpenClaim := { program := "ytjikhkfmddflhaa", sum := "50d9655ce57dbaf5510c066625f72a26bf7eb04c4ca0727da0aa012a0ecb2774", func := "loop.example/g00908/laws.FnExactCanComplete", spec := "fnExactCanComplete", unfollowed := true, recurses := true, apart := false, narrowed := true }
def FnExactCanCompleteUptoSaid : Prop := fnExactCanCompleteUptoRow.holds Try.pinned (OpenSpec.upto fnExactCanCompleteSpec)

/-- 'laws.FnExactCompletionOf', WHERE WHAT IT READS IS OF BULK AT MOST 1048576: true; the input reads as it did. -/
def fnExactCompletionOfUptoRow : OpenClaim := { program := "ytjikhkfmddflhaa", sum := "50d9655ce57dbaf5510c066625f72a26bf7eb04c4ca0727da0aa012a0ecb2774", func := "loop.example/g00908/laws.FnExactCompletionOf", spec := "fnExactCompletionOf", unfollowed := true, recurses := true, apart := false, narrowed := true }
def FnExactCompletionOfUptoSaid : Prop := fnExactCompletionOfUptoRow.holds Try.pinned (OpenSpec.upto fnExactCompletionOfSpec)

/-- 'laws.FnExactSmallestCover', WHERE WHAT IT READS IS OF BULK AT MOST 1048576: true; the input reads as it did. -/
def fnExactSmallestCoverUptoRow : OpenClaim := { program := "ytjikhkfmddflhaa", sum := "50d9655ce57dbaf5510c066625f72a26bf7eb04c4ca0727da0aa012a0ecb2774", func := "loop.example/g00908/laws.FnExactSmallestCover", spec := "fnExactSmallestCover", unfollowed := true, recurses := true, apart := false, narrowed := true }
def FnExactSmallestCoverUptoSaid : Prop := fnExactSmallestCoverUptoRow.holds Try.pinned (OpenSpec.upto fnExactSmallestCoverSpec)

/-- 'laws.FnExactCheapestChange', WHERE WHAT IT READS IS OF BULK AT MOST 1048576: true; the input reads as it did. -/
def fnExactCheapestChangeUptoRow : OpenClaim := { program := "ytjikhkfmddflhaa", sum := "50d9655ce57dbaf5510c066625f72a26bf7eb04c4ca0727da0aa012a0ecb2774", func := "loop.example/g00908/laws.FnExactCheapestChange", spec := "fnExactCheapestChange", unfollowed := true, recurses := true, apart := false, narrowed := true }
def FnExactCheapestChangeUptoSaid : Prop := fnExactCheapestChangeUptoRow.holds Try.pinned (OpenSpec.upto fnExactCheapestChangeSpec)

/-- 'laws.FnExactMendValues', WHERE WHAT IT READS IS OF BULK AT MOST 1048576: true; the input reads as it did. -/
def fnExactMendValuesUptoRow : OpenClaim := { program := "ytjikhkfmddflhaa", sum := "50d9655ce57dbaf5510c066625f72a26bf7eb04c4ca0727da0aa012a0ecb2774", func := "loop.example/g00908/laws.FnExactMendValues", spec := "fnExactMendValues", unfollowed := true, recurses := true, apart := false, narrowed := true }
def FnExactMendValuesUptoSaid : Prop := fnExactMendValuesUptoRow.holds Try.pinned (OpenSpec.upto fnExactMendValuesSpec)

/-- 'laws.FnExactDonorMend', WHERE WHAT IT READS IS OF BULK AT MOST 1048576: true; the input reads as it did. -/
def fnExactDonorMendUptoRow : OpenClaim := { program := "ytjikhkfmddflhaa", sum := "50d9655ce57dbaf5510c066625f72a26bf7eb04c4ca0727da0aa012a0ecb2774", func := "loop.example/g00908/laws.FnExactDonorMend", spec := "fnExactDonorMend", unfollowed := true, recurses := true, apart := false, narrowed := true }
def FnExactDonorMendUptoSaid : Prop := fnExactDonorMendUptoRow.holds Try.pinned (OpenSpec.upto fnExactDonorMendSpec)

/-- 'laws.FnExactMendData', WHERE WHAT IT READS IS OF BULK AT MOST 1048576: true; the input reads as it did. -/
def fnExactMendDataUptoRow : OpenClaim := { program := "ytjikhkfmddflhaa", sum := "50d9655ce57dbaf5510c066625f72a26bf7eb04c4ca0727da0aa012a0ecb2774", func := "loop.example/g00908/laws.FnExactMendData", spec := "fnExactMendData", unfollowed := true, recurses := true, apart := false, narrowed := true }
def FnExactMendDataUptoSaid : Prop := fnExactMendDataUptoRow.holds Try.pinned (OpenSpec.upto fnExactMendDataSpec)

/-- 'laws.FnExactWithoutContained', WHERE WHAT IT READS IS OF BULK AT MOST 1048576: true; the input reads as it did. -/
def fnExactWithoutContainedUptoRow : OpenClaim := { program := "ytjikhkfmddflhaa", sum := "50d9655ce57dbaf5510c066625f72a26bf7eb04c4ca0727da0aa012a0ecb2774", func := "loop.example/g00908/laws.FnExactWithoutContained", spec := "fnExactWithoutContained", unfollowed := true, recurses := true, apart := false, narrowed := true }
def FnExactWithoutContainedUptoSaid : Prop := fnExactWithoutContainedUptoRow.holds Try.pinned (OpenSpec.upto fnExactWithoutContainedSpec)

/-- 'laws.FnExactGroupCube', WHERE WHAT IT READS IS OF BULK AT MOST 1048576: true; the input reads as it did. -/
def fnExactGroupCubeUptoRow : OpenClaim := { program := "ytjikhkfmddflhaa", sum := "50d9655ce57dbaf5510c066625f72a26bf7eb04c4ca0727da0aa012a0ecb2774", func := "loop.example/g00908/laws.FnExactGroupCube", spec := "fnExactGroupCube", apart := false, narrowed := true }
def FnExactGroupCubeUptoSaid : Prop := fnExactGroupCubeUptoRow.holds Try.pinned (OpenSpec.upto fnExactGroupCubeSpec)

end Rows
end Go.Proofs.Ytjikhkfmddflhaa
