/- IsCube. No condition. -/
import Derived.Test.YtnjjldjgknkijaaSae
import Derived.Test.YtnjjldjgknkijaaMad
set_option linter.unusedVariables false
set_option linter.unusedSimpArgs false
namespace AS
theorem implIsCube_eq (c : XCube) : sh_impl_IsCube c = some (goodB c) := by
  unfold sh_impl_IsCube
  rw [rightForm_eq, Option.bind_some]
  cases h : formB c with
  | false => simp [goodB, h]
  | true =>
    have hf := formB_form h
    have := hf.le
    simp only [if_true]
    rw [firstBreak_eq hf, Option.bind_some, lmO_pos (by omega)]
    simp [goodB, h]
theorem specIsCube_eq (c : XCube) : sh_spec_IsCube c = some (goodB c) := by
  unfold sh_spec_IsCube
  rw [cbGood_eq]; rfl
theorem law_IsCube (c : XCube) (hb : Bd.bd c) : sh_laws_FnExactIsCube c = some true := by
  unfold sh_laws_FnExactIsCube
  rw [szCube_eq (by omega) (by omega) hb, Option.bind_some]
  by_cases h : ((bulkC c : Nat) : Int) ≤ 1048576
  · rw [left_pos h]
    simp [show ¬ ((1048576 : Int) - (bulkC c : Nat) < 0) by omega, toCube_eq (c := c) (by omega), specIsCube_eq, implIsCube_eq, eqCube_eq (a := c) (b := c) (by omega)]
  · rw [left_no h]; simp
end AS
