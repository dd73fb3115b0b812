/- Plain lemmas. No condition. -/
import Derived.Test.YtahffpadaffmdaaKc
import Derived.Test.YtahffpadaffmdaaMab
import Derived.Test.YtahffpadaffmdaaMah
set_option linter.unusedVariables false
set_option linter.unusedSimpArgs false
namespace AS
/-- Has a cell no totals? -/
def baseB : List Int → List Int → Bool
  | [], _ => true
  | x :: l, s :: t => decide (x ≠ s) && baseB l t
  | _ :: _, [] => false
def basesL (s : List Int) (n : Nat) : List Nat := (List.range n).filter fun i => baseB (idxL s i) s
theorem basesL_succ (s : List Int) (n : Nat) : basesL s (n + 1) = basesL s n ++ (if baseB (idxL s n) s = true then [n] else []) := by
  simp only [basesL, List.range_succ, List.filter_append]
  congr 1
  by_cases h : baseB (idxL s n) s = true <;> simp [h]
theorem basesL_len (s : List Int) (n : Nat) : (basesL s n).length ≤ n := by
  have := List.length_filter_le (fun i : Nat => baseB (idxL s (i : Int)) s) (List.range n)
  simpa [basesL] using this
theorem basesL_mem {s : List Int} {n i : Nat} (h : i ∈ basesL s n) : i < n := by
  simp only [basesL, List.mem_filter, List.mem_range] at h; exact h.1
theorem baseFold {s : List Int} (hv : valid s) {i : Nat} : ∀ (k : Nat), k ≤ s.length → True := fun _ _ => trivial
end AS

