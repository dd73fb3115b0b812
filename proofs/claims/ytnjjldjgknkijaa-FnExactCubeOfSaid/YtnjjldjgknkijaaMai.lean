/- BaseOf. No condition. -/
import Derived.Test.YtnjjldjgknkijaaSai
import Derived.Test.YtnjjldjgknkijaaMah
set_option linter.unusedVariables false
set_option linter.unusedSimpArgs false
namespace AS
/-- Has a cell no totals? -/
def baseB : List Int → List Int → Bool
  | [], _ => true
  | x :: l, s :: t => decide (x ≠ s) && baseB l t
  | _ :: _, [] => false
theorem isBase_eq {s ix : List Int} (hl : ix.length ≤ s.length) : sh_impl_isBase s ix = some (baseB ix s) := by
  unfold sh_impl_isBase
  refine (range_mem (I := fun _ _ => True) (G := fun l k _ => some (baseB l (s.drop k))) ?_ ?_ () trivial).trans (by simp)
  · intro k u _ _; simp [baseB]
  · intro x l' k u next hx hd _ hn
    have hk := (List.getElem?_eq_some_iff.1 hx).1
    have hk2 : k < s.length := by omega
    rw [getO_nat hk2, List.drop_eq_getElem_cons hk2, hn () trivial]
    by_cases e : x = s[k] <;> simp [e, baseB]
def basesL (s : List Int) (n : Nat) : List Nat := (List.range n).filter fun i => baseB (idxL s i) s
theorem basesL_succ (s : List Int) (n : Nat) : basesL s (n + 1) = basesL s n ++ (if baseB (idxL s n) s = true then [n] else []) := by
  simp only [basesL, List.range_succ, List.filter_append]
  congr 1
  by_cases h : baseB (idxL s n) s = true <;> simp [h]
theorem basesL_len (s : List Int) (n : Nat) : (basesL s n).length ≤ n := by
  have := List.length_filter_le (fun i : Nat => baseB (idxL s (i : Int)) s) (List.range n)
  simpa [basesL] using this
theorem basesL_mem {s : List Int} {n i : Nat} (h : i ∈ basesL s n) : i < n := by
  simp only [basesL, List.mem_filter, List.mem_range] at h; exact h.1
theorem baseFold {s : List Int} (hv : valid s) {i : Nat} : ∀ (k : Nat), k ≤ s.length → True := fun _ _ => trivial
theorem cbBase_eq {s : List Int} (hv : valid s) (hc : cntB s = vol s) : sh_spec_cbBase s = some ((basesL s (vol s).toNat).map fun (i : Nat) => (i : Int)) := by
  unfold sh_spec_cbBase
  have hb := vol_bd hv
  have e0 : ((([] : List Int), (0 : Int)) : List Int × Int) = (fun n : Nat => ((basesL s n).map (fun (i : Nat) => (i : Int)), (n : Int))) 0 := by simp [basesL]
  rw [e0]
  refine (loop_up (vol s).toNat (fun n : Nat => ((basesL s n).map (fun (i : Nat) => (i : Int)), (n : Int))) (fun _ => some ((basesL s (vol s).toNat).map fun (i : Nat) => (i : Int))) (by omega) ?_ ?_)
  · intro next n hn hx
    have hn2 : (n : Int) < vol s := by omega
    have hlen := basesL_len s n
    rw [cbCount_eq, Option.bind_some, hc]
    simp only [hn2, decide_true, if_true]
    rw [cbIndices_eq hv (by omega) (by omega), Option.bind_some]
    have hfit := idxL_fits hv (show (0 : Int) ≤ n by omega)
    refine (range_mem (I := fun k a => baseB (idxL s n) s = (a && baseB ((idxL s n).drop k) (s.drop k))) (G := fun _ _ _ => some ((basesL s (vol s).toNat).map fun (i : Nat) => (i : Int))) ?_ ?_ true (by simp))
    · intro k a hI hk
      rw [hk, List.drop_length] at hI
      simp only [baseB, Bool.and_true] at hI
      rw [← hx]
      cases a with
      | true =>
        simp only [if_true]
        rw [ckI_succ (by omega), lnO_pos (by simp; omega)]
        simp [basesL_succ, hI]
      | false =>
        simp only [Bool.false_eq_true, if_false]
        rw [ckI_succ (by omega)]
        simp [basesL_succ, hI]
    · intro x l' k a nx2 hx2 hd hI hn3
      have hk := (List.getElem?_eq_some_iff.1 hx2).1
      rw [idxL_len] at hk
      have h2 : List.drop (k + 1) (idxL s n) = l' := by
        have := congrArg List.tail hd
        simpa using this
      rw [hd, List.drop_eq_getElem_cons hk] at hI
      simp only [baseB] at hI
      have hf := hfit.2 k s[k] x (List.getElem?_eq_getElem hk) hx2
      rw [h2] at hn3
      cases a with
      | false =>
        simp only [Bool.false_eq_true, if_false]
        exact hn3 _ (by rw [hI]; simp)
      | true =>
        simp only [if_true]
        rw [getO_nat hk]
        refine hn3 _ ?_
        rw [hI]
        have : decide (x < s[k]) = decide (x ≠ s[k]) := by
          congr 1; apply propext; omega
        rw [this]; simp
  · intro next
    rw [cbCount_eq, Option.bind_some, hc]
    simp only [show ¬ (((vol s).toNat : Int) < vol s) by omega, decide_false, Bool.false_eq_true, if_false]
def valuesL (c : XCube) : List Int := (basesL c.Sizes c.Cells.length).map fun (i : Nat) => cellAt c i
theorem valuesL_len (c : XCube) : (valuesL c).length ≤ c.Cells.length := by
  simp only [valuesL, List.length_map]; exact basesL_len _ _
theorem cbValues_eq {c : XCube} (hf : Form c) : sh_spec_cbValues c = some (valuesL c) := by
  unfold sh_spec_cbValues
  have hn := hf.n
  have hle := hf.le
  rw [cbBase_eq hf.v hf.cnt, Option.bind_some, show (vol c.Sizes).toNat = c.Cells.length by omega]
  have hlen := basesL_len c.Sizes c.Cells.length
  refine (range_mem (I := fun k (a : List Int) => a.length ≤ k ∧ k ≤ c.Cells.length) (G := fun l _ a => some (a ++ l.map (cellAt c))) ?_ ?_ [] ⟨by simp, by omega⟩).trans (by simp [valuesL, Function.comp_def])
  · intro k a _ _; simp
  · intro x l' k a next hx _ hI hn2
    obtain ⟨hk, hxe⟩ := List.getElem?_eq_some_iff.1 hx
    simp only [List.length_map] at hk
    simp only [List.getElem_map] at hxe
    have := basesL_mem (List.getElem_mem hk)
    rw [getO_cell (by omega) (by omega), lnO_pos (by simp; omega), hn2 _ ⟨by simp; omega, by omega⟩]
    simp
theorem implBaseL_eq {c : XCube} (hf : Form c) : sh_impl_baseOf c = some (valuesL c) := by
  unfold sh_impl_baseOf
  have hn := hf.n
  have hle := hf.le
  refine (range_mem (I := fun k (a : List Int) => a = (basesL c.Sizes k).map (fun (i : Nat) => cellAt c i) ∧ k ≤ c.Cells.length) (G := fun _ _ _ => some (valuesL c)) ?_ ?_ [] ⟨by simp [basesL], by omega⟩)
  · intro k a hI hk
    obtain ⟨rfl, _⟩ := hI
    rw [hk]; rfl
  · intro x l' k a next hx _ hI hn2
    obtain ⟨rfl, _⟩ := hI
    have hk := (List.getElem?_eq_some_iff.1 hx).1
    have hlen := basesL_len c.Sizes k
    have hxe : x = cellAt c k := by
      have := cell_get (c := c) (i := (k : Int)) (by omega) (by omega)
      rw [Int.toNat_natCast, hx] at this; exact Option.some.inj this
    rw [indexOf_eq hf.v (by omega) (by omega), Option.bind_some, isBase_eq (by rw [idxL_len]; exact Nat.le_refl _), Option.bind_some]
    by_cases hb : baseB (idxL c.Sizes k) c.Sizes = true
    · simp only [hb, if_true]
      rw [lnO_pos (by simp; omega)]
      exact hn2 _ ⟨by simp [basesL_succ, hb, hxe], by omega⟩
    · simp only [hb, if_false]
      exact hn2 _ ⟨by simp [basesL_succ, hb], by omega⟩
def baseR (c : XCube) : List Int × Bool := if goodB c then (valuesL c, true) else ([], false)
theorem specBaseOf_eq (c : XCube) : sh_spec_BaseOf c = some (baseR c) := by
  unfold sh_spec_BaseOf
  rw [cbGood_eq, Option.bind_some]
  cases h : goodB c with
  | false => simp [baseR, h]
  | true =>
    simp only [Bool.not_true, Bool.false_eq_true, if_false]
    rw [cbValues_eq (good_form h), Option.bind_some]; simp [baseR, h]
theorem implBaseOf_eq (c : XCube) : sh_impl_BaseOf c = some (baseR c) := by
  unfold sh_impl_BaseOf
  rw [implIsCube_eq, Option.bind_some]
  cases h : goodB c with
  | false => simp [baseR, h]
  | true =>
    simp only [Bool.not_true, Bool.false_eq_true, if_false]
    rw [implBaseL_eq (good_form h), Option.bind_some]; simp [baseR, h]
theorem baseR_len (c : XCube) (h : bulkC c ≤ 1048576) : (baseR c).1.length ≤ 1048576 := by
  unfold baseR
  have := valuesL_len c
  unfold bulkC at h
  split
  · show (valuesL c).length ≤ _; omega
  · simp
theorem law_BaseOf (c : XCube) (hb : Bd.bd c) : sh_laws_FnExactBaseOf c = some true := by
  unfold sh_laws_FnExactBaseOf
  rw [szCube_eq (by omega) (by omega) hb, Option.bind_some]
  by_cases h : ((bulkC c : Nat) : Int) ≤ 1048576
  · rw [left_pos h]
    have hl := baseR_len c (by omega)
    simp [show ¬ ((1048576 : Int) - (bulkC c : Nat) < 0) by omega, toCube_eq (c := c) (by omega), specBaseOf_eq, implBaseOf_eq, eqCube_eq (a := c) (b := c) (by omega), eqIntS_eq (a := (baseR c).1) (b := (baseR c).1) (by omega),
      markCube_eq (c := c) (n := 1) (by omega) (by omega), markIntS_eq (l := (baseR c).1) (n := 1) (by omega) (by omega), heldIntS_eq (m := (baseR c).1.length) (n := 1) (by omega) (by omega),
      show ¬ (1 + (bulkC c : Int) < 0) by omega, show ¬ (1 + ((baseR c).1.length : Int) < 0) by omega]
  · rw [left_no h]; simp
end AS
