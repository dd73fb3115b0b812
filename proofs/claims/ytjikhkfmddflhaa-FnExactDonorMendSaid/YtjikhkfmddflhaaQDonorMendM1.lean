/- Plain lemmas, and the law. No condition. -/
import Derived.Test.YtjikhkfmddflhaaQDonorMendS
import Derived.Test.YtjikhkfmddflhaaQDonorMendM0
set_option linter.unusedVariables false
set_option linter.unusedSimpArgs false
namespace AS
theorem law_DonorMend (v0 : List XVariable) (v1 : List XEdit) (v2 : List Int) (v3 : List Int) (v4 : List Int) (b0 : Bd.bd v0) (b1 : Bd.bd v1) (b2 : Bd.bd v2) (b3 : Bd.bd v3) (b4 : Bd.bd v4) : sh_laws_FnExactDonorMend v0 v1 v2 v3 v4 = some true := by
  unfold sh_laws_FnExactDonorMend
  by_cases h2 : v2.length ≤ 1048576
  · simp only [show ¬ ((1048576 : Int) < (v2.length : Int)) by omega, decide_false, Bool.false_eq_true, if_false]
    by_cases h3 : v3.length ≤ 1048576
    · simp only [show ¬ ((1048576 : Int) < (v3.length : Int)) by omega, decide_false, Bool.false_eq_true, if_false]
      by_cases h4 : v4.length ≤ 1048576
      · simp only [show ¬ ((1048576 : Int) < (v4.length : Int)) by omega, decide_false, Bool.false_eq_true, if_false]
        rw [szVariableS_eq (by omega) (by omega) b0, Option.bind_some]
        by_cases h0 : ((bulkVS v0 : Nat) : Int) ≤ 1048576
        · rw [left_pos h0]
          simp only [show ¬ ((1048576 : Int) - ((bulkVS v0 : Nat) : Int) < 0) by omega, decide_false, Bool.false_eq_true, if_false]
          rw [szEditS_eq (by omega) (by omega) b1, Option.bind_some]
          by_cases h1 : ((bulkES v1 : Nat) : Int) ≤ 1048576 - ((bulkVS v0 : Nat) : Int)
          · rw [left_pos h1]
            simp only [show ¬ (1048576 - ((bulkVS v0 : Nat) : Int) - ((bulkES v1 : Nat) : Int) < 0) by omega, decide_false, Bool.false_eq_true, if_false]
            obtain ⟨r, e1, e2, q0⟩ := core_DonorMend v0 v1 v2 v3 v4 (by omega) (by omega) h2 h3 h4
            have q0' := q0
            have n0 : v0.length ≤ bulkVS v0 := Nat.le_add_right _ _
            have m0 := marksVS_le v0
            have n1 : v1.length ≤ bulkES v1 := Nat.le_add_right _ _
            have m1 := marksES_le v1
            simp [e1, e2, toVariableS_eq (s := v0) (by omega),
      eqVariableS_eq (a := v0) (b := v0) (by omega),
      toEditS_eq (l := v1) (by omega),
      eqEditS_eq (a := v1) (b := v1) (by omega),
      toIntS_eq (l := v2) (by omega),
      eqIntS_eq (a := v2) (b := v2) (by omega),
      toIntS_eq (l := v3) (by omega),
      eqIntS_eq (a := v3) (b := v3) (by omega),
      toIntS_eq (l := v4) (by omega),
      eqIntS_eq (a := v4) (b := v4) (by omega),
      markVariableS_eq (l := v0) (n := 1) (by omega) (by omega) (by omega),
      markEditS_eq (l := v1) (n := 1 + ((marksVS v0 : Nat) : Int)) (by omega) (by omega) (by omega),
      markIntS_eq (l := v2) (n := 1 + ((marksVS v0 : Nat) : Int) + ((marksES v1 : Nat) : Int)) (by omega) (by omega),
      markIntS_eq (l := v3) (n := 1 + ((marksVS v0 : Nat) : Int) + ((marksES v1 : Nat) : Int) + (v2.length : Int)) (by omega) (by omega),
      markIntS_eq (l := v4) (n := 1 + ((marksVS v0 : Nat) : Int) + ((marksES v1 : Nat) : Int) + (v2.length : Int) + (v3.length : Int)) (by omega) (by omega),
      show ¬ ((1 : Int) + ((marksVS v0 : Nat) : Int) + ((marksES v1 : Nat) : Int) + (v2.length : Int) + (v3.length : Int) + (v4.length : Int) < 0) by omega,
      eqIntS_eq (a := r.1) (b := r.1) (by omega),
      markIntS_eq (l := r.1) (n := 1) (by omega) (by omega),
      heldIntS_eq (m := (r.1).length) (n := 1) (by omega) (by omega),
      show ¬ ((1 : Int) + ((r.1).length : Int) < 0) by omega]
          · rw [left_no h1]; simp
        · rw [left_no h0]; simp
      · simp [show ((1048576 : Int) < (v4.length : Int)) by omega]
    · simp [show ((1048576 : Int) < (v3.length : Int)) by omega]
  · simp [show ((1048576 : Int) < (v2.length : Int)) by omega]
end AS
