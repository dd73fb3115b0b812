/- The law CellCount, plainly. No condition. -/
import Derived.Test.YtahffpadaffmdaaKc
import Derived.Test.YtahffpadaffmdaaMad
import Derived.Test.YtahffpadaffmdaaMag
import Derived.Test.YtahffpadaffmdaaMb
import Derived.Test.YtahffpadaffmdaaMp
import Derived.Test.YtahffpadaffmdaaMr
import Derived.Test.YtahffpadaffmdaaSda
import Derived.Test.YtahffpadaffmdaaSdb
import Derived.Test.YtahffpadaffmdaaSdc
set_option linter.unusedVariables false
set_option linter.unusedSimpArgs false
namespace AS
theorem law_CellCount (v0 : XGeo) (v1 : List XVariable) (v2 : XTable) (b0 : Bd.bd v0) (b1 : Bd.bd v1) (b2 : Bd.bd v2) : sh_laws_FnExactCellCount v0 v1 v2 = some true := by
  unfold sh_laws_FnExactCellCount
  rw [szGeo_eq (by omega) (by omega) b0, Option.bind_some]
  by_cases h0 : ((bulkG v0 : Nat) : Int) ≤ 1048576
  · rw [left_pos h0]
    simp only [show ¬ ((1048576 : Int) - ((bulkG v0 : Nat) : Int) < 0) by omega, decide_false, Bool.false_eq_true, if_false]
    rw [szVariableS_eq (by omega) (by omega) b1, Option.bind_some]
    by_cases h1 : ((bulkVS v1 : Nat) : Int) ≤ 1048576 - ((bulkG v0 : Nat) : Int)
    · rw [left_pos h1]
      simp only [show ¬ (1048576 - ((bulkG v0 : Nat) : Int) - ((bulkVS v1 : Nat) : Int) < 0) by omega, decide_false, Bool.false_eq_true, if_false]
      rw [szTable_eq (by omega) (by omega) b2, Option.bind_some]
      by_cases h2 : ((bulkT v2 : Nat) : Int) ≤ 1048576 - ((bulkG v0 : Nat) : Int) - ((bulkVS v1 : Nat) : Int)
      · rw [left_pos h2]
        simp only [show ¬ (1048576 - ((bulkG v0 : Nat) : Int) - ((bulkVS v1 : Nat) : Int) - ((bulkT v2 : Nat) : Int) < 0) by omega, decide_false, Bool.false_eq_true, if_false]
        obtain ⟨r, e1, e2⟩ := core_CellCount v0 v1 v2 (by omega) (by omega) (by omega)
        have n1 : v1.length ≤ bulkVS v1 := Nat.le_add_right _ _
        simp [e1, e2, toGeo_eq (g := v0) (by omega),
      eqGeo_eq (a := v0) (b := v0) (by omega),
      toVariableS_eq (s := v1) (by omega),
      eqVariableS_eq (a := v1) (b := v1) (by omega),
      toTable_eq (t := v2) (by omega),
      eqTable_eq (a := v2) (b := v2) (by omega)]
      · rw [left_no h2]; simp
    · rw [left_no h1]; simp
  · rw [left_no h0]; simp
end AS
