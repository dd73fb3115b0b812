/- FirstBreak. No condition. -/
import Derived.Test.YtnjjldjgknkijaaSaf
import Derived.Test.YtnjjldjgknkijaaMad
set_option linter.unusedVariables false
set_option linter.unusedSimpArgs false
namespace AS
def firstR (c : XCube) : Int × Bool := if formB c then (fstB c c.Cells 0, true) else (0, false)
theorem specFirst_eq (c : XCube) : sh_spec_FirstBreak c = some (firstR c) := by
  unfold sh_spec_FirstBreak
  rw [cbForm_eq, Option.bind_some]
  cases h : formB c with
  | false => simp [firstR, h]
  | true =>
    simp only [Bool.not_true, Bool.false_eq_true, if_false]
    rw [cbFirst_eq (formB_form h), Option.bind_some]; simp [firstR, h]
theorem implFirst_eq (c : XCube) : sh_impl_FirstBreak c = some (firstR c) := by
  unfold sh_impl_FirstBreak
  rw [rightForm_eq, Option.bind_some]
  cases h : formB c with
  | false => simp [firstR, h]
  | true =>
    simp only [Bool.not_true, Bool.false_eq_true, if_false]
    rw [firstBreak_eq (formB_form h), Option.bind_some]; simp [firstR, h]
theorem law_FirstBreak (c : XCube) (hb : Bd.bd c) : sh_laws_FnExactFirstBreak c = some true := by
  unfold sh_laws_FnExactFirstBreak
  rw [szCube_eq (by omega) (by omega) hb, Option.bind_some]
  by_cases h : ((bulkC c : Nat) : Int) ≤ 1048576
  · rw [left_pos h]
    simp [show ¬ ((1048576 : Int) - (bulkC c : Nat) < 0) by omega, toCube_eq (c := c) (by omega), specFirst_eq, implFirst_eq, eqCube_eq (a := c) (b := c) (by omega)]
  · rw [left_no h]; simp
end AS
