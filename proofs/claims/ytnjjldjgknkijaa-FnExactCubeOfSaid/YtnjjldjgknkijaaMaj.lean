/- CubeOf: the law. No condition. -/
import Derived.Test.YtnjjldjgknkijaaMajc
set_option linter.unusedVariables false
set_option linter.unusedSimpArgs false
namespace AS
theorem tot_psum {s base : List Int} (hv : valid s) {i : Nat} (hi : (i : Int) < vol s) {k : Nat} {x : Int} (hs : s[k]? = some x) (hx : (idxL s (i : Int))[k]? = some x) :
    psum ⟨s, totL s (vol s).toNat base⟩ (i : Int) k x = cellAt ⟨s, totL s (vol s).toNat base⟩ (i : Int) := by
  have hc : ∀ j : Int, 0 ≤ j → j < vol s → cellAt ⟨s, totL s (vol s).toNat base⟩ j = tot s (pairs s (vol s).toNat base) (idxL s j) := by
    intro j h0 h1
    have hl : j.toNat < (vol s).toNat := by omega
    simp only [cellAt, totL]
    rw [List.getD_eq_getElem?_getD, List.getElem?_map, List.getElem?_range hl]
    simp only [Option.map_some, Option.getD_some, Int.toNat_of_nonneg h0]
  have hil : (idxL s (i : Int)).length = s.length := idxL_len _ _
  rw [hc _ (by omega) hi, psum, ← tot_part hv.2 (pairs_ok hv) hil hs hx]
  congr 1
  rw [partL, List.map_map]
  apply List.map_congr_left
  intro q hq
  simp only [List.mem_range] at hq
  have hb := partF_bd hv (show (0 : Int) ≤ i by omega) hi hs hx (show (q : Int) ≤ x by omega)
  show cellAt _ (partF s (i : Int) k x q) = _
  rw [hc _ hb.1 (by omega)]
  have hdl := (List.getElem?_eq_some_iff.1 hs).1
  have hfit := (idxL_fits hv (show (0 : Int) ≤ i by omega)).set hs (show (0 : Int) ≤ q by omega) (show (q : Int) ≤ x by omega)
  have hat : atL s ((idxL s (i : Int)).set k (q : Int)) = partF s (i : Int) k x q := by
    have : (idxL s (i : Int))[k]'(by omega) = x := (List.getElem?_eq_some_iff.1 hx).2
    rw [atL_set hil hdl (by omega), atL_idxL hv.2 (by omega), Int.emod_eq_of_lt (by omega) hi, this, partF, show (q : Int) - x = -(x - q) by omega, Int.neg_mul]; omega
  rw [← hat, idxL_atL hv.2 hfit]
theorem brk_no {s base : List Int} (hv : valid s) {i : Nat} (hi : (i : Int) < vol s) : ∀ (l : List Int) (k : Nat), (idxL s (i : Int)).drop k = l → brk ⟨s, totL s (vol s).toNat base⟩ (i : Int) l k = false
  | [], _, _ => rfl
  | x :: l, k, h => by
    have hx : (idxL s (i : Int))[k]? = some x := by
      have := congrArg (fun t => t[0]?) h
      simpa using this
    have ih := brk_no (base := base) hv hi l (k + 1) (by have := congrArg List.tail h; simpa using this)
    simp only [brk]
    split
    · rename_i hs
      rw [if_neg (by simp [tot_psum hv hi hs hx])]
      exact ih
    · exact ih
theorem fst_no {s base : List Int} (hv : valid s) : ∀ (l : List Int) (k : Nat), (k : Int) + l.length = vol s → fstB ⟨s, totL s (vol s).toNat base⟩ l k = ((totL s (vol s).toNat base).length : Int)
  | [], _, _ => rfl
  | x :: l, k, h => by
    simp only [List.length_cons] at h
    simp only [fstB]
    rw [brk_no hv (by omega) _ 0 (by simp), if_neg (by simp)]
    exact fst_no hv l (k + 1) (by omega)
theorem totL_len (s : List Int) (n : Nat) (base : List Int) : (totL s n base).length = n := by simp [totL]
theorem good_tot {s base : List Int} (hv : valid s) (hc : cntB s = vol s) : goodB ⟨s, totL s (vol s).toNat base⟩ = smallL (totL s (vol s).toNat base) := by
  have hvb := vol_bd hv
  have h1 := fst_no (base := base) hv (totL s (vol s).toNat base) 0 (by rw [totL_len]; omega)
  have h2 : ((totL s (vol s).toNat base).length : Int) = cntB s := by rw [totL_len]; omega
  unfold goodB formB
  simp only [h1, h2, show (0 < cntB s) by omega, decide_true, Bool.and_true, Bool.true_and]
def cubeOfR (s base : List Int) : XCube × Bool := if cntB s = 0 then (⟨[], []⟩, false) else cubeR s base
theorem implCubeOfX_eq {s base : List Int} : sh_impl_CubeOf s base = some (cubeOfR s base) := by
  unfold sh_impl_CubeOf
  rw [cubeCells_eq, Option.bind_some]
  by_cases h : cntB s = 0
  · simp [h, cubeOfR]
  · have hn := cntB_nonneg s
    obtain ⟨hv, hc, hN⟩ := cntB_pos (show 0 < cntB s by omega)
    simp only [h, decide_false, Bool.false_eq_true, if_false]
    rw [implCubeOf_eq hv hc hN]
    simp [cubeOfR, h]
theorem specCubeOfX_eq {s base : List Int} : sh_spec_CubeOf s base = some (cubeOfR s base) := by
  unfold sh_spec_CubeOf
  rw [cbCount_eq, Option.bind_some]
  by_cases h : cntB s = 0
  · simp [h, cubeOfR]
  · have hn := cntB_nonneg s
    obtain ⟨hv, hc, hN⟩ := cntB_pos (show 0 < cntB s by omega)
    simp only [h, decide_false, Bool.false_eq_true, if_false]
    rw [cbBase_eq hv hc, Option.bind_some]
    by_cases hlen : base.length = (basesL s (vol s).toNat).length
    · have e : decide ((base.length : Int) ≠ (((basesL s (vol s).toNat).map fun (i : Nat) => (i : Int)).length : Int)) = false := by simp [hlen]
      simp only [e, Bool.false_eq_true, if_false]
      rw [l1All_eq, Option.bind_some]
      have hsm2 : (base.all fun x => decide (-1000000 ≤ x) && decide (x ≤ 1000000)) = smallL base := rfl
      rw [hsm2]
      cases hsm : smallL base with
      | false => simp [cubeOfR, h, cubeR, hsm]
      | true =>
        simp only [Bool.not_true, Bool.false_eq_true, if_false]
        rw [cbOf_eq hv hc hN hlen hsm, Option.bind_some]
        unfold sh_spec_cbIf
        rw [cbGood_eq, Option.bind_some, good_tot hv hc]
        cases h2 : smallL (totL s (vol s).toNat base) with
        | false => simp [cubeOfR, h, cubeR, hsm, h2]
        | true => simp [cubeOfR, h, cubeR, hsm, h2, hlen]
    · have e : decide ((base.length : Int) ≠ (((basesL s (vol s).toNat).map fun (i : Nat) => (i : Int)).length : Int)) = true := by simp; omega
      simp only [e, if_true]
      simp [cubeOfR, h, cubeR, hlen]
theorem cubeOfR_bulk {s base : List Int} : bulkC (cubeOfR s base).1 ≤ 1048576 := by
  unfold cubeOfR
  split
  · simp [bulkC]
  · rename_i h
    have hn := cntB_nonneg s
    obtain ⟨hv, hc, hN⟩ := cntB_pos (show 0 < cntB s by omega)
    have := hv.1
    unfold cubeR
    split
    · simp only [bulkC, totL_len]; omega
    · simp [bulkC]
theorem law_CubeOf (s base : List Int) (_ : Bd.bd s) (_ : Bd.bd base) : sh_laws_FnExactCubeOf s base = some true := by
  unfold sh_laws_FnExactCubeOf
  by_cases h1 : s.length ≤ 1048576
  · by_cases h2 : base.length ≤ 1048576
    · have hl := cubeOfR_bulk (s := s) (base := base)
      simp [show ¬ ((1048576 : Int) < (s.length : Int)) by omega, show ¬ ((1048576 : Int) < (base.length : Int)) by omega, toIntS_eq h1, toIntS_eq h2, specCubeOfX_eq, implCubeOfX_eq, eqCube_eq (a := (cubeOfR s base).1) (b := (cubeOfR s base).1) hl, eqIntS_eq (a := s) (b := s) (by omega), eqIntS_eq (a := base) (b := base) (by omega),
        markIntS_eq (l := s) (n := 1) (by omega) (by omega), markIntS_eq (l := base) (n := 1 + s.length) (by omega) (by omega), markCube_eq (c := (cubeOfR s base).1) (n := 1) (by omega) (by omega), heldCube_eq (c := (cubeOfR s base).1) (n := 1) (by omega) (by omega),
        show ¬ (1 + (s.length : Int) + (base.length : Int) < 0) by omega, show ¬ (1 + (bulkC (cubeOfR s base).1 : Int) < 0) by omega]
    · simp [show ¬ ((1048576 : Int) < (s.length : Int)) by omega, show ((1048576 : Int) < (base.length : Int)) by omega]
  · simp [show ((1048576 : Int) < (s.length : Int)) by omega]
end AS
