/- CubeCell. No condition. -/
import Derived.Test.YtnjjldjgknkijaaSah
import Derived.Test.YtnjjldjgknkijaaMae
set_option linter.unusedVariables false
set_option linter.unusedSimpArgs false
namespace AS
theorem good_form {c : XCube} (h : goodB c = true) : Form c := formB_form (by simp only [goodB, Bool.and_eq_true] at h; exact h.1)
def inB : List Int → List Int → Bool
  | [], _ => true
  | x :: l, s :: t => decide (0 ≤ x) && decide (x ≤ s) && inB l t
  | _ :: _, [] => false
theorem inB_fits : ∀ {ix s : List Int}, ix.length = s.length → inB ix s = true → fits s ix
  | [], [], _, _ => ⟨rfl, fun k x y hx _ => by simp at hx⟩
  | a :: as, b :: bs, hl, h => by
    simp only [inB, Bool.and_eq_true, decide_eq_true_eq] at h
    have := inB_fits (ix := as) (s := bs) (by simpa using hl) h.2
    refine ⟨hl, fun k x y hx hy => ?_⟩
    cases k with
    | zero => simp at hx hy; subst hx; subst hy; exact h.1
    | succ k => exact this.2 k x y (by simpa using hx) (by simpa using hy)
def cellR (c : XCube) (ix : List Int) : Int × Bool :=
  if goodB c && decide (ix.length = c.Sizes.length) && inB ix c.Sizes then (cellAt c (atL c.Sizes ix), true) else (0, false)
theorem specCell_eq (c : XCube) (ix : List Int) : sh_spec_CubeCell c ix = some (cellR c ix) := by
  unfold sh_spec_CubeCell
  rw [cbGood_eq, Option.bind_some]
  cases h : goodB c with
  | false => simp [cellR, h]
  | true =>
    have hf := good_form h
    by_cases hl : ix.length = c.Sizes.length
    · simp only [Bool.not_true, Bool.false_eq_true, if_false, show decide (((ix.length : Nat) : Int) ≠ (c.Sizes.length : Int)) = false by simp [hl]]
      refine (range_mem (I := fun k _ => inB ix c.Sizes = inB (ix.drop k) (c.Sizes.drop k)) (G := fun l k _ => some (if inB l (c.Sizes.drop k) = true then (cellAt c (atL c.Sizes ix), true) else (0, false))) ?_ ?_ () (by simp)).trans (by simp [cellR, h, hl])
      · intro k s hI hk
        rw [hk, List.drop_length] at hI
        have hfit := inB_fits hl (by rw [hI]; rfl)
        have hb := atL_bd hf.v.2 hfit
        have := hf.n
        rw [cbAt_eq hf.v hfit, Option.bind_some, getO_cell hb.1 (by omega)]
        simp [inB]
      · intro x l' k s next hx hd hI hn
        have hk := (List.getElem?_eq_some_iff.1 hx).1
        have hk2 : k < c.Sizes.length := by omega
        rw [getO_nat hk2, l1In_eq, Option.bind_some]
        rw [List.drop_eq_getElem_cons hk2]
        rw [hd, List.drop_eq_getElem_cons hk2] at hI
        cases hc : (decide (0 ≤ x) && decide (x ≤ c.Sizes[k])) with
        | false => simp [inB, hc]
        | true =>
          have h2 : List.drop (k + 1) ix = l' := by
            have := congrArg List.tail hd
            simpa using this
          simp only [Bool.not_true, Bool.false_eq_true, if_false]
          rw [hn () (by rw [hI, h2]; simp [inB, hc])]
          simp [inB, hc]
    · simp [cellR, h, hl, show ¬ ((ix.length : Int) = (c.Sizes.length : Int)) by omega]
theorem implCell_eq (c : XCube) (ix : List Int) : sh_impl_CubeCell c ix = some (cellR c ix) := by
  unfold sh_impl_CubeCell
  rw [implIsCube_eq, Option.bind_some]
  cases h : goodB c with
  | false => simp [cellR, h]
  | true =>
    have hf := good_form h
    by_cases hl : ix.length = c.Sizes.length
    · simp only [Bool.not_true, Bool.false_eq_true, if_false, show decide (((ix.length : Nat) : Int) ≠ (c.Sizes.length : Int)) = false by simp [hl]]
      refine (range_mem (I := fun k _ => inB ix c.Sizes = inB (ix.drop k) (c.Sizes.drop k)) (G := fun l k _ => some (if inB l (c.Sizes.drop k) = true then (cellAt c (atL c.Sizes ix), true) else (0, false))) ?_ ?_ () (by simp)).trans (by simp [cellR, h, hl])
      · intro k s hI hk
        rw [hk, List.drop_length] at hI
        have hfit := inB_fits hl (by rw [hI]; rfl)
        have hb := atL_bd hf.v.2 hfit
        have := hf.n
        rw [cellOf_eq hf.v hfit, Option.bind_some, getO_cell hb.1 (by omega)]
        simp [inB]
      · intro x l' k s next hx hd hI hn
        have hk := (List.getElem?_eq_some_iff.1 hx).1
        have hk2 : k < c.Sizes.length := by omega
        rw [getO_nat hk2]
        rw [List.drop_eq_getElem_cons hk2]
        rw [hd, List.drop_eq_getElem_cons hk2] at hI
        by_cases h0 : x < 0
        · simp [h0, inB, show ¬ (0 ≤ x) by omega]
        · by_cases h1 : c.Sizes[k] < x
          · simp [h0, h1, inB, show ¬ (x ≤ c.Sizes[k]) by omega]
          · have hc : (decide (0 ≤ x) && decide (x ≤ c.Sizes[k])) = true := by simp; omega
            have h2 : List.drop (k + 1) ix = l' := by
              have := congrArg List.tail hd
              simpa using this
            simp only [h0, h1, decide_false, Bool.false_eq_true, if_false]
            rw [hn () (by rw [hI, h2]; simp [inB, hc])]
            simp [inB, hc]
    · simp [cellR, h, hl, show ¬ ((ix.length : Int) = (c.Sizes.length : Int)) by omega]
theorem law_CubeCell (c : XCube) (ix : List Int) (hb : Bd.bd c) (_ : Bd.bd ix) : sh_laws_FnExactCubeCell c ix = some true := by
  unfold sh_laws_FnExactCubeCell
  by_cases h1 : ix.length ≤ 1048576
  · rw [szCube_eq (by omega) (by omega) hb, Option.bind_some]
    simp only [show ¬ ((1048576 : Int) < (ix.length : Int)) by omega, decide_false, Bool.false_eq_true, if_false]
    by_cases h : ((bulkC c : Nat) : Int) ≤ 1048576
    · rw [left_pos h]
      simp [show ¬ ((1048576 : Int) - (bulkC c : Nat) < 0) by omega, toCube_eq (c := c) (by omega), toIntS_eq h1, specCell_eq, implCell_eq, eqCube_eq (a := c) (b := c) (by omega), eqIntS_eq (a := ix) (b := ix) (by omega)]
    · rw [left_no h]; simp
  · simp [show ((1048576 : Int) < (ix.length : Int)) by omega]
end AS
