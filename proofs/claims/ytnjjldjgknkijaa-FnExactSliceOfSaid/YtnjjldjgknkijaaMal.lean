/- Cubes out of cubes: MarginOf. No condition. -/
import Derived.Test.YtnjjldjgknkijaaSal
import Derived.Test.YtnjjldjgknkijaaMai
set_option linter.unusedVariables false
set_option linter.unusedSimpArgs false
namespace AS
/-- Dimensions that are there. -/
def dimsOk (s dims : List Int) : Prop := ∀ d ∈ dims, 0 ≤ d ∧ d < s.length
def subL (s dims : List Int) : List Int := dims.map fun d => s.getD d.toNat 0
def setAll (cur : List Int) : List Int → List Int → List Int
  | x :: ix, d :: dims => setAll (cur.set d.toNat x) ix dims
  | _, _ => cur
theorem sub_get {s : List Int} {d : Int} (h0 : 0 ≤ d) (h1 : d < s.length) : s[d.toNat]? = some (s.getD d.toNat 0) := by
  have : d.toNat < s.length := by omega
  simp [this]
theorem setAll_fits {s : List Int} : ∀ {ix dims cur : List Int}, fits s cur → dimsOk s dims → ix.length = dims.length → (∀ (k : Nat) (x y : Int), (subL s dims)[k]? = some x → ix[k]? = some y → 0 ≤ y ∧ y ≤ x) → fits s (setAll cur ix dims)
  | [], dims, cur, h, _, _, _ => by cases dims <;> exact h
  | x :: ix, [], cur, h, _, hl, _ => by simp at hl
  | x :: ix, d :: dims, cur, h, hd, hl, hb => by
    have h1 := hd d (by simp)
    have h2 := hb 0 (s.getD d.toNat 0) x (by simp [subL]) rfl
    show fits s (setAll (cur.set d.toNat x) ix dims)
    exact setAll_fits (h.set (sub_get h1.1 h1.2) h2.1 h2.2) (fun e he => hd e (by simp [he])) (by simpa using hl) (fun k x' y' hx hy => hb (k + 1) x' y' (by simpa only [subL, List.map_cons, List.getElem?_cons_succ] using hx) (by simpa only [List.getElem?_cons_succ] using hy))
theorem setLoop {R : Type} {s dims cur ix : List Int} {fin : List Int → Option R} (hl : ix.length = dims.length) (hd : dimsOk s dims) (hc : cur.length = s.length) :
    rangeF (fun (k : Nat) (x : Int) (st : List Int) (nx : List Int → Option R) => getO dims (k : Int) fun d => getO st d fun _ => nx (st.set d.toNat x)) fin ix 0 cur = fin (setAll cur ix dims) := by
  refine (range_mem (I := fun (k : Nat) (st : List Int) => st.length = s.length) (G := fun l k st => fin (setAll st l (dims.drop k))) ?_ ?_ cur hc).trans (by simp)
  · intro k st _ _; simp [setAll]
  · intro x l' k st next hx _ hst hn
    have hk : k < dims.length := by have := (List.getElem?_eq_some_iff.1 hx).1; omega
    have hdk := hd dims[k] (List.getElem_mem hk)
    have hlt : dims[k].toNat < st.length := by omega
    rw [getO_nat hk, getO_int (k := dims[k].toNat) (by omega) (List.getElem?_eq_getElem hlt), hn _ (by simpa using hst), List.drop_eq_getElem_cons hk]
    rfl
theorem sPick_eq {s dims : List Int} (hd : dimsOk s dims) (hl : dims.length ≤ 1048576) : sh_spec_sPick s dims = some (subL s dims) := by
  unfold sh_spec_sPick
  refine (range_mem (I := fun (k : Nat) (a : List Int) => a.length ≤ k ∧ k ≤ dims.length) (G := fun l _ a => some (a ++ subL s l)) ?_ ?_ [] ⟨by simp, by omega⟩).trans (by simp)
  · intro k a _ _; simp [subL]
  · intro x l' k a next hx _ hI hn
    have hk := (List.getElem?_eq_some_iff.1 hx).1
    have hdk := hd x (List.mem_of_getElem? hx)
    rw [getO_int (k := x.toNat) (by omega) (sub_get hdk.1 hdk.2), lnO_pos (by simp; omega), hn _ ⟨by simp; omega, by omega⟩]
    simp [subL]
def fromCell (c : XCube) (dims fixed : List Int) (i : Nat) : Int := cellAt c (atL c.Sizes (setAll fixed (idxL (subL c.Sizes dims) (i : Int)) dims))
def fromC (c : XCube) (dims fixed : List Int) : XCube := ⟨subL c.Sizes dims, (List.range (cntB (subL c.Sizes dims)).toNat).map (fromCell c dims fixed)⟩
theorem subL_len (s dims : List Int) : (subL s dims).length = dims.length := by simp [subL]
/-- The step: indices, the cell. -/
theorem from_step {c : XCube} (hf : Form c) {dims fixed : List Int} (hd : dimsOk c.Sizes dims) (hx : fits c.Sizes fixed) {i : Nat} (hi : (i : Int) < cntB (subL c.Sizes dims)) :
    valid (subL c.Sizes dims) ∧ cntB (subL c.Sizes dims) = vol (subL c.Sizes dims) ∧ fits c.Sizes (setAll fixed (idxL (subL c.Sizes dims) (i : Int)) dims) ∧ 0 ≤ atL c.Sizes (setAll fixed (idxL (subL c.Sizes dims) (i : Int)) dims) ∧ atL c.Sizes (setAll fixed (idxL (subL c.Sizes dims) (i : Int)) dims) < c.Cells.length := by
  obtain ⟨hv, hc, _⟩ := cntB_pos (show 0 < cntB (subL c.Sizes dims) by omega)
  have hif := idxL_fits hv (show (0 : Int) ≤ i by omega)
  have h1 := setAll_fits hx hd (by rw [idxL_len, subL_len]) (fun k x y hx hy => hif.2 k x y hx hy)
  have h2 := atL_bd hf.v.2 h1
  have := hf.n
  exact ⟨hv, hc, h1, h2.1, by omega⟩
theorem cbFrom_eq {c : XCube} (hf : Form c) {dims fixed : List Int} (hd : dimsOk c.Sizes dims) (hx : fits c.Sizes fixed) (hl : dims.length ≤ 1048576) : sh_spec_cbFrom c dims fixed = some (fromC c dims fixed) := by
  unfold sh_spec_cbFrom
  have hcn := cntB_nonneg (subL c.Sizes dims)
  have hfl : fixed.length ≤ 1099511627776 := by have := hx.1; have := hf.v.1; omega
  rw [sPick_eq hd hl, Option.bind_some]
  have e0 : (((⟨subL c.Sizes dims, ([] : List Int)⟩ : XCube), (0 : Int)) : XCube × Int) = (fun n : Nat => ((⟨subL c.Sizes dims, (List.range n).map (fromCell c dims fixed)⟩ : XCube), (n : Int))) 0 := by simp
  rw [e0]
  refine (loop_up (cntB (subL c.Sizes dims)).toNat (fun n : Nat => ((⟨subL c.Sizes dims, (List.range n).map (fromCell c dims fixed)⟩ : XCube), (n : Int))) (fun _ => some (fromC c dims fixed)) (by omega) ?_ ?_)
  · intro next i hi hn
    have hi2 : (i : Int) < cntB (subL c.Sizes dims) := by omega
    obtain ⟨hv, hc, h1, h2, h3⟩ := from_step hf hd hx hi2
    rw [cbCount_eq, Option.bind_some]
    simp only [hi2, decide_true, if_true]
    rw [l1Own_eq hfl, Option.bind_some, cbIndices_eq hv (by omega) (by omega), Option.bind_some]
    rw [setLoop (s := c.Sizes) (by rw [idxL_len, subL_len]) hd hx.1, cbAt_eq hf.v h1, Option.bind_some, getO_cell h2 h3, lnO_pos (by simp; omega), ckI_succ (by omega)]
    rw [← hn, range_map_succ]
    rfl
  · intro next
    rw [cbCount_eq, Option.bind_some]
    simp only [show ¬ (((cntB (subL c.Sizes dims)).toNat : Int) < cntB (subL c.Sizes dims)) by omega, decide_false, Bool.false_eq_true, if_false]
    rfl
theorem taken_eq {c : XCube} (hf : Form c) {dims fixed : List Int} (hd : dimsOk c.Sizes dims) (hx : fits c.Sizes fixed) (hl : dims.length ≤ 1048576) : sh_impl_taken c dims fixed = some (fromC c dims fixed) := by
  unfold sh_impl_taken
  have hcn := cntB_nonneg (subL c.Sizes dims)
  have hfl : fixed.length ≤ 1099511627776 := by have := hx.1; have := hf.v.1; omega
  refine (range_mem (I := fun (k : Nat) (a : XCube) => a.Cells = [] ∧ a.Sizes = subL c.Sizes (dims.take k) ∧ k ≤ dims.length) (G := fun _ _ _ => some (fromC c dims fixed)) ?_ ?_ _ ⟨rfl, by simp [subL], by omega⟩)
  · intro k a hI hk
    obtain ⟨h1, h2, _⟩ := hI
    rw [hk, List.take_length] at h2
    rw [h2, cubeCells_eq, Option.bind_some, mkO_pos (by omega) (by omega)]
    have hz : ((List.range (cntB (subL c.Sizes dims)).toNat).map (fromCell c dims fixed)).length = (List.replicate (cntB (subL c.Sizes dims)).toNat (0 : Int)).length := by simp
    refine (range_mem (I := fun (i : Nat) (a : XCube) => a = ⟨subL c.Sizes dims, mixL ((List.range (cntB (subL c.Sizes dims)).toNat).map (fromCell c dims fixed)) (List.replicate (cntB (subL c.Sizes dims)).toNat (0 : Int)) i⟩) (G := fun _ _ _ => some (fromC c dims fixed)) ?_ ?_ _ (by simp [mixL_zero]))
    · intro i a hI hi
      subst hI
      have := mixL_end hz
      simp only [List.length_map, List.length_range] at this
      simp only [List.length_replicate] at hi
      rw [hi, this]; rfl
    · intro x l' i a next hx2 _ hI hn
      subst hI
      have hi := (List.getElem?_eq_some_iff.1 hx2).1
      simp only [List.length_replicate] at hi
      obtain ⟨hv, hc, g1, g2, g3⟩ := from_step hf hd hx (show (i : Int) < cntB (subL c.Sizes dims) by omega)
      have hi3 : i < ((List.range (cntB (subL c.Sizes dims)).toNat).map (fromCell c dims fixed)).length := by simpa using hi
      rw [Clone_eq hfl, Option.bind_some, indexOf_eq hv (by omega) (by omega), Option.bind_some]
      rw [setLoop (s := c.Sizes) (by rw [idxL_len, subL_len]) hd hx.1, cellOf_eq hf.v g1, Option.bind_some, getO_cell g2 g3, getO_some (mixL_get hz (by simpa using hi))]
      refine hn _ ?_
      rw [Int.toNat_natCast, ← mixL_set hz hi3]
      congr 2
      simp [fromCell]
  · intro x l' k a next hx2 _ hI hn
    obtain ⟨h1, h2, _⟩ := hI
    have hk := (List.getElem?_eq_some_iff.1 hx2).1
    have hdk := hd x (List.mem_of_getElem? hx2)
    have hlen : a.Sizes.length ≤ k := by rw [h2, subL_len]; simp; omega
    rw [getO_int (k := x.toNat) (by omega) (sub_get hdk.1 hdk.2), lnO_pos (by simp; omega)]
    refine hn _ ⟨h1, ?_, by omega⟩
    show a.Sizes ++ [_] = _
    rw [h2, List.take_add_one, hx2]
    simp [subL]
theorem fromC_bulk {c : XCube} {dims fixed : List Int} (hl : dims.length ≤ 1048576) : bulkC (fromC c dims fixed) ≤ 1048576 := by
  unfold bulkC fromC
  have hcn := cntB_nonneg (subL c.Sizes dims)
  simp only [subL_len, List.length_map, List.length_range]
  by_cases h : 0 < cntB (subL c.Sizes dims)
  · obtain ⟨hv, _⟩ := cntB_pos h
    have := hv.1
    rw [subL_len] at this
    omega
  · omega
theorem fits_self {s : List Int} (h : valid s) : fits s s := ⟨rfl, fun k x y hx hy => by rw [hx] at hy; cases hy; have := h.get hx; omega⟩

theorem drop_tl {α : Type} {l l' : List α} {x : α} {k : Nat} (h : l.drop k = x :: l') : l.drop (k + 1) = l' := by
  have := congrArg List.tail h
  simpa using this

/-! ### MarginOf -/
def risB (n : Int) : Int → List Int → Bool
  | _, [] => true
  | a, x :: l => decide (a < x) && (decide (x < n) && risB n x l)
theorem risB_ok {s : List Int} : ∀ {l : List Int} {a : Int}, -1 ≤ a → risB s.length a l = true → dimsOk s l
  | [], _, _, _, d, hd => by simp at hd
  | x :: l, a, ha, h, d, hd => by
    simp only [risB, Bool.and_eq_true, decide_eq_true_eq] at h
    rcases List.mem_cons.1 hd with rfl | hd
    · omega
    · exact risB_ok (a := x) (by omega) h.2.2 d hd
theorem l1Rising_eq (l : List Int) (n : Int) (hl : l.length ≤ 1048576) : sh_spec_l1Rising l 0 (n - 1) = some (risB n (-1) l) := by
  unfold sh_spec_l1Rising
  refine (range_mem (I := fun k _ => ∀ j, j + 1 = k → ∃ x, l[j]? = some x ∧ 0 ≤ x) (G := fun l' k _ => some (risB n (if k = 0 then -1 else l.getD (k - 1) 0) l')) ?_ ?_ () (fun j hj => by omega)).trans (by simp)
  · intro k u _ _; simp [risB]
  · intro x l' k u next hx _ hI hn
    have hk := (List.getElem?_eq_some_iff.1 hx).1
    rw [l1In_eq, Option.bind_some]
    by_cases h0 : 0 ≤ x ∧ x ≤ n - 1
    · simp only [show decide (0 ≤ x) = true by simp [h0.1], show decide (x ≤ n - 1) = true by simp [h0.2], Bool.and_self, Bool.not_true, Bool.false_eq_true, if_false, risB, show decide (x < n) = true by (simp; omega), Bool.true_and]
      have hn' := hn () (fun j hj => ⟨x, by rw [show j = k by omega]; exact hx, h0.1⟩)
      have hgx : l.getD k 0 = x := by simp [List.getD_eq_getElem?_getD, hx]
      simp only [show ¬ (k + 1 = 0) by omega, if_false, Nat.add_sub_cancel, hgx] at hn'
      by_cases hk0 : k = 0
      · subst hk0
        simp only [show ¬ ((0 : Int) < ((0 : Nat) : Int)) by omega, decide_false, Bool.false_eq_true, if_false, if_true, show decide (-1 < x) = true by (simp; omega), Bool.true_and]
        exact hn'
      · obtain ⟨y, hy, hy0⟩ := hI (k - 1) (by omega)
        have hgy : l.getD (k - 1) 0 = y := by simp [List.getD_eq_getElem?_getD, hy]
        simp only [show ((0 : Int) < (k : Int)) by omega, decide_true, if_true, hk0, if_false, hgy]
        rw [ckI_pos (by omega) (by omega), getO_int (k := k - 1) (by omega) hy]
        by_cases h1 : x ≤ y
        · simp [h1, show ¬ (y < x) by omega]
        · simp only [h1, decide_false, Bool.false_eq_true, if_false, show decide (y < x) = true by (simp; omega), Bool.true_and]
          exact hn'
    · have e : (decide (0 ≤ x) && decide (x ≤ n - 1)) = false := by simp only [Bool.and_eq_false_iff, decide_eq_false_iff_not]; omega
      simp only [e, Bool.not_false, if_true, risB, Option.some.injEq]
      by_cases h1 : x < n
      · have : ¬ 0 ≤ x := by omega
        have hlast : ¬ ((if k = 0 then (-1 : Int) else l.getD (k - 1) 0) < x) := by
          by_cases hk0 : k = 0
          · simp only [hk0, if_true]; omega
          · obtain ⟨y, hy, hy0⟩ := hI (k - 1) (by omega)
            have hgy : l.getD (k - 1) 0 = y := by simp [List.getD_eq_getElem?_getD, hy]
            simp only [hk0, if_false, hgy]; omega
        simp only [hlast, decide_false, Bool.false_and]
      · simp only [h1, decide_false, Bool.false_and, Bool.and_false]
def marginR (c : XCube) (dims : List Int) : XCube × Bool := if goodB c && risB c.Sizes.length (-1) dims then (fromC c dims c.Sizes, true) else (⟨[], []⟩, false)
theorem specMargin_eq {c : XCube} {dims : List Int} (hl : dims.length ≤ 1048576) : sh_spec_MarginOf c dims = some (marginR c dims) := by
  unfold sh_spec_MarginOf
  rw [cbGood_eq, Option.bind_some]
  cases h : goodB c with
  | false => simp [marginR, h]
  | true =>
    have hf := good_form h
    have hv := hf.v.1
    simp only [Bool.not_true, Bool.false_eq_true, if_false]
    rw [ckI_pos (by omega) (by omega), l1Rising_eq _ _ hl, Option.bind_some]
    cases h2 : risB c.Sizes.length (-1) dims with
    | false => simp [marginR, h, h2]
    | true =>
      simp only [Bool.not_true, Bool.false_eq_true, if_false]
      rw [cbFrom_eq hf (risB_ok (by omega) h2) (fits_self hf.v) hl, Option.bind_some]
      simp [marginR, h, h2]
theorem implMargin_eq {c : XCube} {dims : List Int} (hl : dims.length ≤ 1048576) : sh_impl_MarginOf c dims = some (marginR c dims) := by
  unfold sh_impl_MarginOf
  refine (range_mem (I := fun k a => risB c.Sizes.length (-1) dims = risB c.Sizes.length a (dims.drop k)) (G := fun l _ a => some (if goodB c && risB c.Sizes.length a l then (fromC c dims c.Sizes, true) else (⟨[], []⟩, false))) ?_ ?_ (-1) (by simp)).trans (by simp [marginR])
  · intro k a hI hk
    rw [hk, List.drop_length] at hI
    rw [implIsCube_eq, Option.bind_some]
    cases h : goodB c with
    | false => simp
    | true =>
      have hf := good_form h
      simp only [Bool.not_true, Bool.false_eq_true, if_false]
      rw [taken_eq hf (risB_ok (a := -1) (by omega) (by rw [hI]; rfl)) (fits_self hf.v) hl, Option.bind_some]
      simp [risB]
  · intro x l' k a next hx hd hI hn
    rw [hd] at hI
    simp only [risB] at hI ⊢
    by_cases h1 : x ≤ a
    · simp [h1, show ¬ (a < x) by omega]
    · by_cases h2 : (c.Sizes.length : Int) ≤ x
      · simp [h1, h2, show ¬ (x < (c.Sizes.length : Int)) by omega]
      · have e1 : decide (a < x) = true := by simp; omega
        have e2 : decide (x < (c.Sizes.length : Int)) = true := by simp; omega
        simp only [h1, h2, decide_false, Bool.false_eq_true, if_false, e1, e2, Bool.true_and] at hI ⊢
        exact hn _ (by rw [hI, drop_tl hd])
theorem marginR_bulk {c : XCube} {dims : List Int} (hl : dims.length ≤ 1048576) : bulkC (marginR c dims).1 ≤ 1048576 := by
  unfold marginR
  split
  · exact fromC_bulk hl
  · simp [bulkC]
theorem law_MarginOf (c : XCube) (dims : List Int) (hb : Bd.bd c) (_ : Bd.bd dims) : sh_laws_FnExactMarginOf c dims = some true := by
  unfold sh_laws_FnExactMarginOf
  by_cases h1 : dims.length ≤ 1048576
  · rw [szCube_eq (by omega) (by omega) hb, Option.bind_some]
    simp only [show ¬ ((1048576 : Int) < (dims.length : Int)) by omega, decide_false, Bool.false_eq_true, if_false]
    by_cases h : ((bulkC c : Nat) : Int) ≤ 1048576
    · rw [left_pos h]
      have hl := marginR_bulk (c := c) h1
      simp [show ¬ ((1048576 : Int) - (bulkC c : Nat) < 0) by omega, toCube_eq (c := c) (by omega), toIntS_eq h1, specMargin_eq h1, implMargin_eq h1, eqCube_eq (a := c) (b := c) (by omega), eqCube_eq (a := (marginR c dims).1) (b := (marginR c dims).1) hl, eqIntS_eq (a := dims) (b := dims) (by omega),
        markCube_eq (c := c) (n := 1) (by omega) (by omega), markIntS_eq (l := dims) (n := 1 + bulkC c) (by omega) (by omega), markCube_eq (c := (marginR c dims).1) (n := 1) (by omega) (by omega), heldCube_eq (c := (marginR c dims).1) (n := 1) (by omega) (by omega),
        show ¬ (1 + (bulkC c : Int) + (dims.length : Int) < 0) by omega, show ¬ (1 + (bulkC (marginR c dims).1 : Int) < 0) by omega]
    · rw [left_no h]; simp
  · simp [show ((1048576 : Int) < (dims.length : Int)) by omega]
end AS
