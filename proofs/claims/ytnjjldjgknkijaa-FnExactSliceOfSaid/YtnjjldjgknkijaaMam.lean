/- SliceOf. No condition. -/
import Derived.Test.YtnjjldjgknkijaaSam
import Derived.Test.YtnjjldjgknkijaaMal
set_option linter.unusedVariables false
set_option linter.unusedSimpArgs false
namespace AS
def othersL (n : Nat) (d : Int) : List Int := ((List.range n).filter fun (k : Nat) => decide ((k : Int) ≠ d)).map fun (k : Nat) => (k : Int)
theorem othersL_succ (n : Nat) (d : Int) : othersL (n + 1) d = othersL n d ++ (if (n : Int) ≠ d then [(n : Int)] else []) := by
  simp only [othersL, List.range_succ, List.filter_append, List.map_append]
  congr 1
  by_cases h : (n : Int) = d <;> simp [h]
theorem othersL_len (n : Nat) (d : Int) : (othersL n d).length ≤ n := by
  have := List.length_filter_le (fun k : Nat => decide ((k : Int) ≠ d)) (List.range n)
  simpa [othersL] using this
theorem othersL_ok (s : List Int) (d : Int) : dimsOk s (othersL s.length d) := by
  intro x hx
  simp only [othersL, List.mem_map, List.mem_filter, List.mem_range] at hx
  obtain ⟨k, ⟨h1, _⟩, rfl⟩ := hx
  omega
theorem othersLoop {R : Type} {s : List Int} {d : Int} {fin : List Int → Option R} (hs : s.length ≤ 1048576) :
    rangeF (fun (k : Nat) (_ : Int) (st : List Int) (nx : List Int → Option R) => (if (decide ((k : Int) ≠ d)) = true then lnO (st.length + [(k : Int)].length) <| nx (st ++ [(k : Int)]) else nx st)) fin s 0 ([] : List Int) = fin (othersL s.length d) := by
  refine range_mem (I := fun (k : Nat) (st : List Int) => st = othersL k d ∧ k ≤ s.length) (G := fun _ _ _ => fin (othersL s.length d)) ?_ ?_ [] ⟨by simp [othersL], by omega⟩
  · intro k st hI hk; rw [hI.1, hk]
  · intro x l' k st next hx _ hI hn
    obtain ⟨rfl, _⟩ := hI
    have hk := (List.getElem?_eq_some_iff.1 hx).1
    have hlen := othersL_len k d
    by_cases h : (k : Int) = d
    · simp only [h, ne_eq, not_true_eq_false, decide_false, Bool.false_eq_true, if_false]
      exact hn _ ⟨by rw [othersL_succ]; simp [h], by omega⟩
    · simp only [h, ne_eq, not_false_eq_true, decide_true, if_true]
      rw [lnO_pos (by simp; omega)]
      exact hn _ ⟨by rw [othersL_succ]; simp [h], by omega⟩
def sliceOk (c : XCube) (d i : Int) : Bool := goodB c && (decide (0 ≤ d) && (decide (d < c.Sizes.length) && (decide (0 ≤ i) && decide (i ≤ c.Sizes.getD d.toNat 0))))
def sliceR (c : XCube) (d i : Int) : XCube × Bool := if sliceOk c d i then (fromC c (othersL c.Sizes.length d) (c.Sizes.set d.toNat i), true) else (⟨[], []⟩, false)
theorem specSlice_eq (c : XCube) (d i : Int) : sh_spec_SliceOf c d i = some (sliceR c d i) := by
  unfold sh_spec_SliceOf
  rw [cbGood_eq, Option.bind_some]
  cases h : goodB c with
  | false => simp [sliceR, sliceOk, h]
  | true =>
    have hf := good_form h
    have hv := hf.v.1
    simp only [Bool.not_true, Bool.false_eq_true, if_false]
    rw [ckI_pos (by omega) (by omega), l1In_eq, Option.bind_some]
    by_cases hd : 0 ≤ d ∧ d < c.Sizes.length
    · have hs := sub_get hd.1 hd.2
      simp only [show decide (0 ≤ d) = true by simp [hd.1], show decide (d ≤ (c.Sizes.length : Int) - 1) = true by (simp; omega), Bool.and_self, Bool.not_true, Bool.false_eq_true, if_false]
      rw [getO_int (k := d.toNat) (by omega) hs, l1In_eq, Option.bind_some]
      by_cases hi : 0 ≤ i ∧ i ≤ c.Sizes.getD d.toNat 0
      · simp only [show decide (0 ≤ i) = true by simp [hi.1], show decide (i ≤ c.Sizes.getD d.toNat 0) = true by simp only [decide_eq_true_eq]; exact hi.2, Bool.and_self, Bool.not_true, Bool.false_eq_true, if_false]
        rw [othersLoop (by omega), l1Own_eq (by omega), Option.bind_some, getO_int (k := d.toNat) (by omega) hs]
        have hlen := othersL_len c.Sizes.length d
        rw [cbFrom_eq hf (othersL_ok _ _) ((fits_self hf.v).set hs hi.1 hi.2) (by omega), Option.bind_some]
        have hok : sliceOk c d i = true := by simp only [sliceOk, h, Bool.true_and, Bool.and_eq_true, decide_eq_true_eq]; exact ⟨hd.1, hd.2, hi.1, hi.2⟩
        simp [sliceR, hok]
      · have e : (decide (0 ≤ i) && decide (i ≤ c.Sizes.getD d.toNat 0)) = false := by simp only [Bool.and_eq_false_iff, decide_eq_false_iff_not]; omega
        have hok : sliceOk c d i = false := by simp only [sliceOk, e, Bool.and_false]
        simp only [e, Bool.not_false, if_true, sliceR, hok, Bool.false_eq_true, if_false]
    · have e : (decide (0 ≤ d) && decide (d ≤ (c.Sizes.length : Int) - 1)) = false := by simp only [Bool.and_eq_false_iff, decide_eq_false_iff_not]; omega
      have hok : sliceOk c d i = false := by
        have : (decide (0 ≤ d) && decide (d < (c.Sizes.length : Int))) = false := by simp only [Bool.and_eq_false_iff, decide_eq_false_iff_not]; omega
        simp only [sliceOk, ← Bool.and_assoc, h, Bool.true_and, this, Bool.false_and]
      simp only [e, Bool.not_false, if_true, sliceR, hok, Bool.false_eq_true, if_false]
theorem implSlice_eq (c : XCube) (d i : Int) : sh_impl_SliceOf c d i = some (sliceR c d i) := by
  unfold sh_impl_SliceOf
  rw [implIsCube_eq, Option.bind_some]
  cases h : goodB c with
  | false => simp [sliceR, sliceOk, h]
  | true =>
    have hf := good_form h
    have hv := hf.v.1
    simp only [Bool.not_true, Bool.false_eq_true, if_false]
    by_cases h1 : d < 0
    · simp [h1, sliceR, sliceOk, show ¬ (0 ≤ d) by omega]
    · by_cases h2 : (c.Sizes.length : Int) ≤ d
      · simp [h1, h2, sliceR, sliceOk, show ¬ (d < (c.Sizes.length : Int)) by omega]
      · by_cases h3 : i < 0
        · simp [h1, h2, h3, sliceR, sliceOk, show ¬ (0 ≤ i) by omega]
        · have hs := sub_get (s := c.Sizes) (d := d) (by omega) (by omega)
          simp only [h1, h2, h3, decide_false, Bool.false_eq_true, if_false]
          rw [getO_int (k := d.toNat) (by omega) hs, Option.bind_some]
          by_cases h4 : c.Sizes.getD d.toNat 0 < i
          · have hok : sliceOk c d i = false := by simp only [sliceOk, show decide (i ≤ c.Sizes.getD d.toNat 0) = false by (simp only [decide_eq_false_iff_not]; omega), Bool.and_false]
            simp only [h4, decide_true, if_true, sliceR, hok, Bool.false_eq_true, if_false]
          · simp only [h4, decide_false, Bool.false_eq_true, if_false]
            rw [othersLoop (by omega), Clone_eq (by omega), Option.bind_some, getO_int (k := d.toNat) (by omega) hs]
            have hlen := othersL_len c.Sizes.length d
            rw [taken_eq hf (othersL_ok _ _) ((fits_self hf.v).set hs (by omega) (by omega)) (by omega), Option.bind_some]
            have hok : sliceOk c d i = true := by simp only [sliceOk, h, Bool.true_and, Bool.and_eq_true, decide_eq_true_eq]; exact ⟨by omega, by omega, by omega, by omega⟩
            simp [sliceR, hok]
theorem sliceR_bulk {c : XCube} {d i : Int} : bulkC (sliceR c d i).1 ≤ 1048576 := by
  unfold sliceR
  split
  · rename_i hok
    have hg : goodB c = true := by simp only [sliceOk, Bool.and_eq_true] at hok; exact hok.1
    have hv := (good_form hg).v.1
    have hlen := othersL_len c.Sizes.length d
    exact fromC_bulk (by omega)
  · simp [bulkC]
theorem law_SliceOf (c : XCube) (d i : Int) (hb : Bd.bd c) (_ : Bd.bd d) (_ : Bd.bd i) : sh_laws_FnExactSliceOf c d i = some true := by
  unfold sh_laws_FnExactSliceOf
  rw [szCube_eq (by omega) (by omega) hb, Option.bind_some]
  by_cases h : ((bulkC c : Nat) : Int) ≤ 1048576
  · rw [left_pos h]
    have hl := sliceR_bulk (c := c) (d := d) (i := i)
    simp [show ¬ ((1048576 : Int) - (bulkC c : Nat) < 0) by omega, toCube_eq (c := c) (by omega), specSlice_eq, implSlice_eq, eqCube_eq (a := c) (b := c) (by omega), eqCube_eq (a := (sliceR c d i).1) (b := (sliceR c d i).1) hl,
      markCube_eq (c := c) (n := 1) (by omega) (by omega), markCube_eq (c := (sliceR c d i).1) (n := 1) (by omega) (by omega), heldCube_eq (c := (sliceR c d i).1) (n := 1) (by omega) (by omega),
      show ¬ (1 + (bulkC c : Int) < 0) by omega, show ¬ (1 + (bulkC (sliceR c d i).1 : Int) < 0) by omega]
  · rw [left_no h]; simp
end AS
