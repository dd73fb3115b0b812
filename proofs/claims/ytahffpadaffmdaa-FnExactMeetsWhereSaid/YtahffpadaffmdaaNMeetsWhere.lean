/- The law MeetsWhere, plainly. No condition. -/
import Derived.Test.YtahffpadaffmdaaKc
import Derived.Test.YtahffpadaffmdaaMad
import Derived.Test.YtahffpadaffmdaaMag
import Derived.Test.YtahffpadaffmdaaMb
import Derived.Test.YtahffpadaffmdaaMp
import Derived.Test.YtahffpadaffmdaaMr
import Derived.Test.YtahffpadaffmdaaSda
set_option linter.unusedVariables false
set_option linter.unusedSimpArgs false
namespace AS
theorem law_MeetsWhere (v0 : List XVariable) (v1 : XTable) (v2 : XRecord) (b0 : Bd.bd v0) (b1 : Bd.bd v1) (b2 : Bd.bd v2) : sh_laws_FnExactMeetsWhere v0 v1 v2 = some true := by
  unfold sh_laws_FnExactMeetsWhere
  rw [szVariableS_eq (by omega) (by omega) b0, Option.bind_some]
  by_cases h0 : ((bulkVS v0 : Nat) : Int) ≤ 1048576
  · rw [left_pos h0]
    simp only [show ¬ ((1048576 : Int) - ((bulkVS v0 : Nat) : Int) < 0) by omega, decide_false, Bool.false_eq_true, if_false]
    rw [szTable_eq (by omega) (by omega) b1, Option.bind_some]
    by_cases h1 : ((bulkT v1 : Nat) : Int) ≤ 1048576 - ((bulkVS v0 : Nat) : Int)
    · rw [left_pos h1]
      simp only [show ¬ (1048576 - ((bulkVS v0 : Nat) : Int) - ((bulkT v1 : Nat) : Int) < 0) by omega, decide_false, Bool.false_eq_true, if_false]
      rw [szRecord_eq (by omega) (by omega) b2, Option.bind_some]
      by_cases h2 : ((bulkR v2 : Nat) : Int) ≤ 1048576 - ((bulkVS v0 : Nat) : Int) - ((bulkT v1 : Nat) : Int)
      · rw [left_pos h2]
        simp only [show ¬ (1048576 - ((bulkVS v0 : Nat) : Int) - ((bulkT v1 : Nat) : Int) - ((bulkR v2 : Nat) : Int) < 0) by omega, decide_false, Bool.false_eq_true, if_false]
        obtain ⟨r, e1, e2⟩ := core_MeetsWhere v0 v1 v2 (by omega) (by omega) (by omega)
        have n0 : v0.length ≤ bulkVS v0 := Nat.le_add_right _ _
        simp [e1, e2, toVariableS_eq (s := v0) (by omega),
      eqVariableS_eq (a := v0) (b := v0) (by omega),
      toTable_eq (t := v1) (by omega),
      eqTable_eq (a := v1) (b := v1) (by omega),
      toRecord_eq (r := v2) (by omega),
      eqRecord_eq (a := v2) (b := v2) (by omega)]
      · rw [left_no h2]; simp
    · rw [left_no h1]; simp
  · rw [left_no h0]; simp
end AS
