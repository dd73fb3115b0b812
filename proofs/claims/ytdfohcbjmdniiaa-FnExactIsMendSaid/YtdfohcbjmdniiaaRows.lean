/-
  No cell of these rows narrows 'for every input' (looked for: loops, veiled, ifaces, maps, wideKeys, modest, calm, conditions, laid).
  DERIVED. THE GIVEN ROWS OF THIS SEAT. 11 by the template 'for every input the law returns true; each argument reads behind the call as it read before'; 0 by the template 'total and deterministic' (their statements: YtdfohcbjmdniiaaTotals.lean).
  GIVEN WITH THE SEED: the statements are not yours to turn. If you find one false, say at which input.
  Laid BY PROGRAM, IN A SANDBOX (cutbox-rows.mjs): the forced cells as the released guide's own fill.sh prints them over the translation b1889c14248f902a… (all of the seat's roots in one cut). By AI agents, Wed Nov 11 2026. No macro, syntax, notation, axiom, sorry.
-/
import Derived.Test.YtdfohcbjmdniiaaChecked
import GoSem.Claim
import GoSem.ClaimJoined
import GoSem.ClaimMapViews
import Derived.JoinedTies
import Derived.KernelRfl
namespace Go.Proofs.Ytdfohcbjmdniiaa
/- THE CELL 'sum', in the pinned program and in every row, IS THE sha256 OF THE DUMP (.gsa) THAT YtdfohcbjmdniiaaProg.lean LOADS. Nothing in Lean hashes anything: it is a label: what it is worth is what the hold of that sum in a sandbox is worth. -/
noncomputable def Try.pinned : Pinned := { name := "ytdfohcbjmdniiaa", sum := "b1889c14248f902a57b9d5edb05a1e8922eb90ab73537a0c1b5d1da469bb75be", checked := Try.checked }
namespace Rows
def none {H : Type} : Left H := { results := [], args := [] }

/-- 'laws.FnExactResolveEdits': WHATEVER THE INPUT: true; the input reads as it did. -/
def fnExactResolveEditsSpec : ChangeSpec := { name := "fnExactResolveEdits", fn := fun _ => fun
  | [d1, d2, d3, d4] => { results := [.lit (.bool true)], args := [d1, d2, d3, d4] }
  | _ => none }
def fnExactResolveEditsRow : OpenClaim := { program := "ytdfohcbjmdniiaa", sum := "b1889c14248f902a57b9d5edb05a1e8922eb90ab73537a0c1b5d1da469bb75be", func := "loop.example/g00908/laws.FnExactResolveEdits", spec := "fnExactResolveEdits", apart := false }
def FnExactResolveEditsSaid : Prop := fnExactResolveEditsRow.holds Try.pinned (OpenSpec.ofChange fnExactResolveEditsSpec)

/-- ITS FALSE NEIGHBOUR: 'it returns false'. Refute it at one input. -/
def fnExactResolveEditsWrong : ChangeSpec := { name := "fnExactResolveEdits", fn := fun _ => fun
  | [d1, d2, d3, d4] => { results := [.lit (.bool false)], args := [d1, d2, d3, d4] }
  | _ => none }
def FnExactResolveEditsWrongFalsely : Prop := fnExactResolveEditsRow.holds Try.pinned (OpenSpec.ofChange fnExactResolveEditsWrong)

/-- 'laws.FnExactIsImplied': WHATEVER THE INPUT: true; the input reads as it did. -/
def fnExactIsImpliedSpec : ChangeSpec := { name := "fnExactIsImplied", fn := fun _ => fun
  | [d1, d2, d3] => { results := [.lit (.bool true)], args := [d1, d2, d3] }
  | _ => none }
def fnExactIsImpliedRow : OpenClaim := { program := "ytdfohcbjmdniiaa", sum := "b1889c14248f902a57b9d5edb05a1e8922eb90ab73537a0c1b5d1da469bb75be", func := "loop.example/g00908/laws.FnExactIsImplied", spec := "fnExactIsImplied", apart := false }
def FnExactIsImpliedSaid : Prop := fnExactIsImpliedRow.holds Try.pinned (OpenSpec.ofChange fnExactIsImpliedSpec)

/-- ITS FALSE NEIGHBOUR: 'it returns false'. Refute it at one input. -/
def fnExactIsImpliedWrong : ChangeSpec := { name := "fnExactIsImplied", fn := fun _ => fun
  | [d1, d2, d3] => { results := [.lit (.bool false)], args := [d1, d2, d3] }
  | _ => none }
def FnExactIsImpliedWrongFalsely : Prop := fnExactIsImpliedRow.holds Try.pinned (OpenSpec.ofChange fnExactIsImpliedWrong)

/-- 'laws.FnExactEditText': WHATEVER THE INPUT: true; the input reads as it did. -/
def fnExactEditTextSpec : ChangeSpec := { name := "fnExactEditText", fn := fun _ => fun
  | [d1, d2] => { results := [.lit (.bool true)], args := [d1, d2] }
  | _ => none }
def fnExactEditTextRow : OpenClaim := { program := "ytdfohcbjmdniiaa", sum := "b1889c14248f902a57b9d5edb05a1e8922eb90ab73537a0c1b5d1da469bb75be", func := "loop.example/g00908/laws.FnExactEditText", spec := "fnExactEditText", inPlace := ["internal/abi.NoEscape", "internal/bytealg.MakeNoZero"], recurses := true, apart := false }
def FnExactEditTextSaid : Prop := fnExactEditTextRow.holds Try.pinned (OpenSpec.ofChange fnExactEditTextSpec)

/-- ITS FALSE NEIGHBOUR: 'it returns false'. Refute it at one input. -/
def fnExactEditTextWrong : ChangeSpec := { name := "fnExactEditText", fn := fun _ => fun
  | [d1, d2] => { results := [.lit (.bool false)], args := [d1, d2] }
  | _ => none }
def FnExactEditTextWrongFalsely : Prop := fnExactEditTextRow.holds Try.pinned (OpenSpec.ofChange fnExactEditTextWrong)

/-- 'laws.FnExactIsContradictory': WHATEVER THE INPUT: true; the input reads as it did. -/
def fnExactIsContradictorySpec : ChangeSpec := { name := "fnExactIsContradictory", fn := fun _ => fun
  | [d1, d2] => { results := [.lit (.bool true)], args := [d1, d2] }
  | _ => none }
def fnExactIsContradictoryRow : OpenClaim := { program := "ytdfohcbjmdniiaa", sum := "b1889c14248f902a57b9d5edb05a1e8922eb90ab73537a0c1b5d1da469bb75be", func := "loop.example/g00908/laws.FnExactIsContradictory", spec := "fnExactIsContradictory", apart := false }
def FnExactIsContradictorySaid : Prop := fnExactIsContradictoryRow.holds Try.pinned (OpenSpec.ofChange fnExactIsContradictorySpec)

/-- ITS FALSE NEIGHBOUR: 'it returns false'. Refute it at one input. -/
def fnExactIsContradictoryWrong : ChangeSpec := { name := "fnExactIsContradictory", fn := fun _ => fun
  | [d1, d2] => { results := [.lit (.bool false)], args := [d1, d2] }
  | _ => none }
def FnExactIsContradictoryWrongFalsely : Prop := fnExactIsContradictoryRow.holds Try.pinned (OpenSpec.ofChange fnExactIsContradictoryWrong)

/-- 'laws.FnExactFirstPassing': WHATEVER THE INPUT: true; the input reads as it did. -/
def fnExactFirstPassingSpec : ChangeSpec := { name := "fnExactFirstPassing", fn := fun _ => fun
  | [d1, d2] => { results := [.lit (.bool true)], args := [d1, d2] }
  | _ => none }
def fnExactFirstPassingRow : OpenClaim := { program := "ytdfohcbjmdniiaa", sum := "b1889c14248f902a57b9d5edb05a1e8922eb90ab73537a0c1b5d1da469bb75be", func := "loop.example/g00908/laws.FnExactFirstPassing", spec := "fnExactFirstPassing", unfollowed := true, recurses := true, apart := false }
def FnExactFirstPassingSaid : Prop := fnExactFirstPassingRow.holds Try.pinned (OpenSpec.ofChange fnExactFirstPassingSpec)

/-- ITS FALSE NEIGHBOUR: 'it returns false'. Refute it at one input. -/
def fnExactFirstPassingWrong : ChangeSpec := { name := "fnExactFirstPassing", fn := fun _ => fun
  | [d1, d2] => { results := [.lit (.bool false)], args := [d1, d2] }
  | _ => none }
def FnExactFirstPassingWrongFalsely : Prop := fnExactFirstPassingRow.holds Try.pinned (OpenSpec.ofChange fnExactFirstPassingWrong)

/-- 'laws.FnExactIsMend': WHATEVER THE INPUT: true; the input reads as it did. -/
def fnExactIsMendSpec : ChangeSpec := { name := "fnExactIsMend", fn := fun _ => fun
  | [d1, d2, d3, d4, d5] => { results := [.lit (.bool true)], args := [d1, d2, d3, d4, d5] }
  | _ => none }
def fnExactIsMendRow : OpenClaim := { program := "ytdfohcbjmdniiaa", sum := "b1889c14248f902a57b9d5edb05a1e8922eb90ab73537a0c1b5d1da469bb75be", func := "loop.example/g00908/laws.FnExactIsMend", spec := "fnExactIsMend", apart := false }
def FnExactIsMendSaid : Prop := fnExactIsMendRow.holds Try.pinned (OpenSpec.ofChange fnExactIsMendSpec)

/-- ITS FALSE NEIGHBOUR: 'it returns false'. Refute it at one input. -/
def fnExactIsMendWrong : ChangeSpec := { name := "fnExactIsMend", fn := fun _ => fun
  | [d1, d2, d3, d4, d5] => { results := [.lit (.bool false)], args := [d1, d2, d3, d4, d5] }
  | _ => none }
def FnExactIsMendWrongFalsely : Prop := fnExactIsMendRow.holds Try.pinned (OpenSpec.ofChange fnExactIsMendWrong)

/-- 'laws.FnExactCanComplete': WHATEVER THE INPUT: true; the input reads as it did. -/
def fnExactCanCompleteSpec : ChangeSpec := { name := "fnExactCanComplete", fn := fun _ => fun
  | [d1, d2, d3, d4] => { results := [.lit (.bool true)], args := [d1, d2, d3, d4] }
  | _ => none }
def fnExactCanCompleteRow : OpenClaim := { program := "ytdfohcbjmdniiaa", sum := "b1889c14248f902a57b9d5edb05a1e8922eb90ab73537a0c1b5d1da469bb75be", func := "loop.example/g00908/laws.FnExactCanComplete", spec := "fnExactCanComplete", unfollowed := true, recurses := true, apart := false }
def FnExactCanCompleteSaid : Prop := fnExactCanCompleteRow.holds Try.pinned (OpenSpec.ofChange fnExactCanCompleteSpec)

/-- ITS FALSE NEIGHBOUR: 'it returns false'. Refute it at one input. -/
def fnExactCanCompleteWrong : ChangeSpec := { name := "fnExactCanComplete", fn := fun _ => fun
  | [d1, d2, d3, d4] => { results := [.lit (.bool false)], args := [d1, d2, d3, d4] }
  | _ => none }
def FnExactCanCompleteWrongFalsely : Prop := fnExactCanCompleteRow.holds Try.pinned (OpenSpec.ofChange fnExactCanCompleteWrong)

/-- 'laws.FnExactCompletionOf': WHATEVER THE INPUT: true; the input reads as it did. -/
def fnExactCompletionOfSpec : ChangeSpec := { name := "fnExactCompletionOf", fn := fun _ => fun
  | [d1, d2, d3, d4] => { results := [.lit (.bool true)], args := [d1, d2, d3, d4] }
  | _ => none }
def fnExactCompletionOfRow : OpenClaim := { program := "ytdfohcbjmdniiaa", sum := "b1889c14248f902a57b9d5edb05a1e8922eb90ab73537a0c1b5d1da469bb75be", func := "loop.example/g00908/laws.FnExactCompletionOf", spec := "fnExactCompletionOf", unfollowed := true, recurses := true, apart := false }
def FnExactCompletionOfSaid : Prop := fnExactCompletionOfRow.holds Try.pinned (OpenSpec.ofChange fnExactCompletionOfSpec)

/-- ITS FALSE NEIGHBOUR: 'it returns false'. Refute it at one input. -/
def fnExactCompletionOfWrong : ChangeSpec := { name := "fnExactCompletionOf", fn := fun _ => fun
  | [d1, d2, d3, d4] => { results := [.lit (.bool false)], args := [d1, d2, d3, d4] }
  | _ => none }
def FnExactCompletionOfWrongFalsely : Prop := fnExactCompletionOfRow.holds Try.pinned (OpenSpec.ofChange fnExactCompletionOfWrong)

/-- 'laws.FnExactFailureCounts': WHATEVER THE INPUT: true; the input reads as it did. -/
def fnExactFailureCountsSpec : ChangeSpec := { name := "fnExactFailureCounts", fn := fun _ => fun
  | [d1, d2, d3] => { results := [.lit (.bool true)], args := [d1, d2, d3] }
  | _ => none }
def fnExactFailureCountsRow : OpenClaim := { program := "ytdfohcbjmdniiaa", sum := "b1889c14248f902a57b9d5edb05a1e8922eb90ab73537a0c1b5d1da469bb75be", func := "loop.example/g00908/laws.FnExactFailureCounts", spec := "fnExactFailureCounts", apart := false }
def FnExactFailureCountsSaid : Prop := fnExactFailureCountsRow.holds Try.pinned (OpenSpec.ofChange fnExactFailureCountsSpec)

/-- ITS FALSE NEIGHBOUR: 'it returns false'. Refute it at one input. -/
def fnExactFailureCountsWrong : ChangeSpec := { name := "fnExactFailureCounts", fn := fun _ => fun
  | [d1, d2, d3] => { results := [.lit (.bool false)], args := [d1, d2, d3] }
  | _ => none }
def FnExactFailureCountsWrongFalsely : Prop := fnExactFailureCountsRow.holds Try.pinned (OpenSpec.ofChange fnExactFailureCountsWrong)

/-- 'laws.FnExactFailingRecords': WHATEVER THE INPUT: true; the input reads as it did. -/
def fnExactFailingRecordsSpec : ChangeSpec := { name := "fnExactFailingRecords", fn := fun _ => fun
  | [d1, d2, d3] => { results := [.lit (.bool true)], args := [d1, d2, d3] }
  | _ => none }
def fnExactFailingRecordsRow : OpenClaim := { program := "ytdfohcbjmdniiaa", sum := "b1889c14248f902a57b9d5edb05a1e8922eb90ab73537a0c1b5d1da469bb75be", func := "loop.example/g00908/laws.FnExactFailingRecords", spec := "fnExactFailingRecords", apart := false }
def FnExactFailingRecordsSaid : Prop := fnExactFailingRecordsRow.holds Try.pinned (OpenSpec.ofChange fnExactFailingRecordsSpec)

/-- ITS FALSE NEIGHBOUR: 'it returns false'. Refute it at one input. -/
def fnExactFailingRecordsWrong : ChangeSpec := { name := "fnExactFailingRecords", fn := fun _ => fun
  | [d1, d2, d3] => { results := [.lit (.bool false)], args := [d1, d2, d3] }
  | _ => none }
def FnExactFailingRecordsWrongFalsely : Prop := fnExactFailingRecordsRow.holds Try.pinned (OpenSpec.ofChange fnExactFailingRecordsWrong)

/-- 'laws.FnExactNearestDonor': WHATEVER THE INPUT: true; the input reads as it did. -/
def fnExactNearestDonorSpec : ChangeSpec := { name := "fnExactNearestDonor", fn := fun _ => fun
  | [d1, d2, d3, d4, d5] => { results := [.lit (.bool true)], args := [d1, d2, d3, d4, d5] }
  | _ => none }
def fnExactNearestDonorRow : OpenClaim := { program := "ytdfohcbjmdniiaa", sum := "b1889c14248f902a57b9d5edb05a1e8922eb90ab73537a0c1b5d1da469bb75be", func := "loop.example/g00908/laws.FnExactNearestDonor", spec := "fnExactNearestDonor", apart := false }
def FnExactNearestDonorSaid : Prop := fnExactNearestDonorRow.holds Try.pinned (OpenSpec.ofChange fnExactNearestDonorSpec)

/-- ITS FALSE NEIGHBOUR: 'it returns false'. Refute it at one input. -/
def fnExactNearestDonorWrong : ChangeSpec := { name := "fnExactNearestDonor", fn := fun _ => fun
  | [d1, d2, d3, d4, d5] => { results := [.lit (.bool false)], args := [d1, d2, d3, d4, d5] }
  | _ => none }
def FnExactNearestDonorWrongFalsely : Prop := fnExactNearestDonorRow.holds Try.pinned (OpenSpec.ofChange fnExactNearestDonorWrong)

/- THE SECOND FORM. 'bulk': how many values and letters a reading holds, each counted each time it is reached (what is shared counts as often as it is met; a slice's spare places count too). A statement '..UptoSaid' is the law's where the arguments, and the package variables that the reading takes, are together of bulk at most 1048576: NARROWER than '..Said'. Prove '..Said' where nothing that the law and all that it calls make is longer than what came in: it says more and counts as full. Else prove '..UptoSaid'. A law counts once. -/
mutual
def uptoBulk {H : Type} : DataW H → Nat
  | .lit (.string bytes) => bytes.length + 1
  | .lit _ => 1
  | .nil => 1
  | .ptr d => uptoBulk d + 1
  | .slice elems spare => uptoBulkAll elems + uptoBulkAll spare + 1
  | .agg parts => uptoBulkAll parts + 1
  | .iface _ d => uptoBulk d + 1
  | .map entries => uptoBulkEntries entries + 1
  | .held _ => 1
def uptoBulkAll {H : Type} : List (DataW H) → Nat
  | [] => 0
  | d :: r => uptoBulk d + uptoBulkAll r
def uptoBulkEntries {H : Type} : List (Lit × DataW H) → Nat
  | [] => 0
  | x :: r => uptoBulkEntry x + uptoBulkEntries r
def uptoBulkEntry {H : Type} : Lit × DataW H → Nat
  | (.string bytes, d) => bytes.length + uptoBulk d + 1
  | (_, d) => uptoBulk d + 1
 end
def uptoSmall : (H : Type) → List (DataW H) → Bool := fun _ ds => decide (uptoBulkAll ds ≤ 1048576)
def OpenSpec.upto (s : _root_.Go.ChangeSpec) : _root_.Go.OpenSpec := { _root_.Go.OpenSpec.ofChange s with cond := some uptoSmall }

/-- 'laws.FnExactResolveEdits', WHERE WHAT IT READS IS OF BULK AT MOST 1048576: true; the input reads as it did. -/
def fnExactResolveEditsUptoRow : OpenClaim := { program := "ytdfohcbjmdniiaa", sum := "b1889c14248f902a57b9d5edb05a1e8922eb90ab73537a0c1b5d1da469bb75be", func := "loop.example/g00908/laws.FnExactResolveEdits", spec := "fnExactResolveEdits", apart := false, narrowed := true }
def FnExactResolveEditsUptoSaid : Prop := fnExactResolveEditsUptoRow.holds Try.pinned (OpenSpec.upto fnExactResolveEditsSpec)

/-- 'laws.FnExactIsImplied', WHERE WHAT IT READS IS OF BULK AT MOST 1048576: true; the input reads as it did. -/
def fnExactIsImpliedUptoRow : OpenClaim := { program := "ytdfohcbjmdniiaa", sum := "b1889c14248f902a57b9d5edb05a1e8922eb90ab73537a0c1b5d1da469bb75be", func := "loop.example/g00908/laws.FnExactIsImplied", spec := "fnExactIsImplied", apart := false, narrowed := true }
def FnExactIsImpliedUptoSaid : Prop := fnExactIsImpliedUptoRow.holds Try.pinned (OpenSpec.upto fnExactIsImpliedSpec)

/-- 'laws.FnExactEditText', WHERE WHAT IT READS IS OF BULK AT MOST 1048576: true; the input reads as it did. -/
def fnExactEditTextUptoRow : OpenClaim := { program := "ytdfohcbjmdniiaa", sum := "b1889c14248f902a57b9d5edb05a1e8922eb90ab73537a0c1b5d1da469bb75be", func := "loop.example/g00908/laws.FnExactEditText", spec := "fnExactEditText", inPlace := ["internal/abi.NoEscape", "internal/bytealg.MakeNoZero"], recurses := true, apart := false, narrowed := true }
def FnExactEditTextUptoSaid : Prop := fnExactEditTextUptoRow.holds Try.pinned (OpenSpec.upto fnExactEditTextSpec)

/-- 'laws.FnExactIsContradictory', WHERE WHAT IT READS IS OF BULK AT MOST 1048576: true; the input reads as it did. -/
def fnExactIsContradictoryUptoRow : OpenClaim := { program := "ytdfohcbjmdniiaa", sum := "b1889c14248f902a57b9d5edb05a1e8922eb90ab73537a0c1b5d1da469bb75be", func := "loop.example/g00908/laws.FnExactIsContradictory", spec := "fnExactIsContradictory", apart := false, narrowed := true }
def FnExactIsContradictoryUptoSaid : Prop := fnExactIsContradictoryUptoRow.holds Try.pinned (OpenSpec.upto fnExactIsContradictorySpec)

/-- 'laws.FnExactFirstPassing', WHERE WHAT IT READS IS OF BULK AT MOST 1048576: true; the input reads as it did. -/
def fnExactFirstPassingUptoRow : OpenClaim := { program := "ytdfohcbjmdniiaa", sum := "b1889c14248f902a57b9d5edb05a1e8922eb90ab73537a0c1b5d1da469bb75be", func := "loop.example/g00908/laws.FnExactFirstPassing", spec := "fnExactFirstPassing", unfollowed := true, recurses := true, apart := false, narrowed := true }
def FnExactFirstPassingUptoSaid : Prop := fnExactFirstPassingUptoRow.holds Try.pinned (OpenSpec.upto fnExactFirstPassingSpec)

/-- 'laws.FnExactIsMend', WHERE WHAT IT READS IS OF BULK AT MOST 1048576: true; the input reads as it did. -/
def fnExactIsMendUptoRow : OpenClaim := { program := "ytdfohcbjmdniiaa", sum := "b1889c14248f902a57b9d5edb05a1e8922eb90ab73537a0c1b5d1da469bb75be", func := "loop.example/g00908/laws.FnExactIsMend", spec := "fnExactIsMend", apart := false, narrowed := true }
def FnExactIsMendUptoSaid : Prop := fnExactIsMendUptoRow.holds Try.pinned (OpenSpec.upto fnExactIsMendSpec)

/-- 'laws.FnExactCanComplete', WHERE WHAT IT READS IS OF BULK AT MOST 1048576: true; the input reads as it did. -/
def fnExactCanCompleteUptoRow : OpenClaim := { program := "ytdfohcbjmdniiaa", sum := "b1889c14248f902a57b9d5edb05a1e8922eb90ab73537a0c1b5d1da469bb75be", func := "loop.example/g00908/laws.FnExactCanComplete", spec := "fnExactCanComplete", unfollowed := true, recurses := true, apart := false, narrowed := true }
def FnExactCanCompleteUptoSaid : Prop := fnExactCanCompleteUptoRow.holds Try.pinned (OpenSpec.upto fnExactCanCompleteSpec)

/-- 'laws.FnExactCompletionOf', WHERE WHAT IT READS IS OF BULK AT MOST 1048576: true; the input reads as it did. -/
def fnExactCompletionOfUptoRow : OpenClaim := { program := "ytdfohcbjmdniiaa", sum := "b1889c14248f902a57b9d5edb05a1e8922eb90ab73537a0c1b5d1da469bb75be", func := "loop.example/g00908/laws.FnExactCompletionOf", spec := "fnExactCompletionOf", unfollowed := true, recurses := true, apart := false, narrowed := true }
def FnExactCompletionOfUptoSaid : Prop := fnExactCompletionOfUptoRow.holds Try.pinned (OpenSpec.upto fnExactCompletionOfSpec)

/-- 'laws.FnExactFailureCounts', WHERE WHAT IT READS IS OF BULK AT MOST 1048576: true; the input reads as it did. -/
def fnExactFailureCountsUptoRow : OpenClaim := { program := "ytdfohcbjmdniiaa", sum := "b1889c14248f902a57b9d5edb05a1e8922eb90ab73537a0c1b5d1da469bb75be", func := "loop.example/g00908/laws.FnExactFailureCounts", spec := "fnExactFailureCounts", apart := false, narrowed := true }
def FnExactFailureCountsUptoSaid : Prop := fnExactFailureCountsUptoRow.holds Try.pinned (OpenSpec.upto fnExactFailureCountsSpec)

/-- 'laws.FnExactFailingRecords', WHERE WHAT IT READS IS OF BULK AT MOST 1048576: true; the input reads as it did. -/
def fnExactFailingRecordsUptoRow : OpenClaim := { program := "ytdfohcbjmdniiaa", sum := "b1889c14248f902a57b9d5edb05a1e8922eb90ab73537a0c1b5d1da469bb75be", func := "loop.example/g00908/laws.FnExactFailingRecords", spec := "fnExactFailingRecords", apart := false, narrowed := true }
def FnExactFailingRecordsUptoSaid : Prop := fnExactFailingRecordsUptoRow.holds Try.pinned (OpenSpec.upto fnExactFailingRecordsSpec)

/-- 'laws.FnExactNearestDonor', WHERE WHAT IT READS IS OF BULK AT MOST 1048576: true; the input reads as it did. -/
def fnExactNearestDonorUptoRow : OpenClaim := { program := "ytdfohcbjmdniiaa", sum := "b1889c14248f902a57b9d5edb05a1e8922eb90ab73537a0c1b5d1da469bb75be", func := "loop.example/g00908/laws.FnExactNearestDonor", spec := "fnExactNearestDonor", apart := false, narrowed := true }
def FnExactNearestDonorUptoSaid : Prop := fnExactNearestDonorUptoRow.holds Try.pinned (OpenSpec.upto fnExactNearestDonorSpec)

end Rows
end Go.Proofs.Ytdfohcbjmdniiaa
