/- Cubes: right form, the first break. No condition. -/
import Derived.Test.YtnjjldjgknkijaaSad
import Derived.Test.YtnjjldjgknkijaaMac
set_option linter.unusedVariables false
set_option linter.unusedSimpArgs false
namespace AS
theorem szIntS_eq {l : List Int} {a : Int} (h0 : 0 ≤ a) (h1 : a ≤ 1048576) (hl : l.length ≤ 9223372036854775807) : sh_laws_szIntS l a = some (left a l.length) := by
  unfold sh_laws_szIntS
  rw [ckI_pos (by omega) (by omega)]
  unfold left
  by_cases h : a - (l.length : Int) < 0
  · simp [h, show ¬ ((l.length : Int) ≤ a) by omega]
  · simp [h, show ((l.length : Int) ≤ a) by omega]
def bulkC (c : XCube) : Nat := c.Sizes.length + c.Cells.length
theorem left_left {a : Int} {m n : Nat} (h : (m : Int) ≤ a) : left (a - m) n = left a (m + n) := by
  unfold left; split <;> split <;> omega
theorem left_out {a : Int} {m n : Nat} (h : ¬ (m : Int) ≤ a) : left a (m + n) = -1 := if_neg (by omega)
theorem left_no {a : Int} {m : Nat} (h : ¬ (m : Int) ≤ a) : left a m = -1 := if_neg h
theorem szCube_eq {c : XCube} {a : Int} (h0 : 0 ≤ a) (h1 : a ≤ 1048576) (hb : Bd.bd c) : sh_laws_szCube c a = some (left a (bulkC c)) := by
  unfold sh_laws_szCube
  obtain ⟨hs, hc⟩ := hb
  rw [szIntS_eq h0 h1 hs.1, Option.bind_some]
  by_cases h : (c.Sizes.length : Int) ≤ a
  · rw [left_pos h, szIntS_eq (by omega) (by omega) hc.1, Option.bind_some, left_left h]
    simp only [show ¬ (a - (c.Sizes.length : Int) < 0) by omega, decide_false, Bool.false_eq_true, if_false]
    by_cases h2 : left a (c.Sizes.length + c.Cells.length) < 0
    · have := (left_neg h0).1 h2
      simp [h2, bulkC, left_no this]
    · simp [h2, bulkC]
  · rw [left_no h]; simp [bulkC, left_out h]
theorem toCube_eq {c : XCube} (h : bulkC c ≤ 1048576) : sh_laws_toCube c = some c := by
  unfold sh_laws_toCube
  unfold bulkC at h
  rw [toIntS_eq (by omega), Option.bind_some, toIntS_eq (by omega), Option.bind_some]
theorem XCube.ext' {a b : XCube} (h1 : a.Sizes = b.Sizes) (h2 : a.Cells = b.Cells) : a = b := by cases a; cases b; simp_all
theorem eqCube_eq {a b : XCube} (h : bulkC a ≤ 1048576) : sh_laws_eqCube a b = some (decide (a = b)) := by
  unfold sh_laws_eqCube
  unfold bulkC at h
  rw [eqIntS_eq (by omega), Option.bind_some, eqIntS_eq (by omega), Option.bind_some]
  by_cases h1 : a.Sizes = b.Sizes
  · by_cases h2 : a.Cells = b.Cells
    · simp [h1, h2, XCube.ext' h1 h2]
    · simp [h1, h2, show ¬ a = b from fun e => h2 (by rw [e])]
  · simp [h1, show ¬ a = b from fun e => h1 (by rw [e])]
def mkCube (c : XCube) (n : Int) : XCube := ⟨mks n c.Sizes.length, mks (n + c.Sizes.length) c.Cells.length⟩
theorem markCube_eq {c : XCube} {n : Int} (h0 : 0 ≤ n) (h : n + bulkC c ≤ 4611686018427387904) : sh_laws_markCube c n = some (mkCube c n, n + bulkC c) := by
  unfold sh_laws_markCube
  unfold bulkC at h ⊢
  rw [markIntS_eq h0 (by omega), Option.bind_some, markIntS_eq (by omega) (by omega), Option.bind_some]
  simp only [mkCube, Option.some.injEq, Prod.mk.injEq, true_and]; omega
theorem heldCube_eq {c : XCube} {n : Int} (h0 : 0 ≤ n) (h : n + bulkC c ≤ 4611686018427387904) : sh_laws_heldCube (mkCube c n) n = some (n + bulkC c) := by
  unfold sh_laws_heldCube
  unfold bulkC at h ⊢
  simp only [mkCube]
  rw [heldIntS_eq h0 (by omega), Option.bind_some, heldIntS_eq (by omega) (by omega), Option.bind_some]
  simp [show ¬ (n + (c.Sizes.length : Int) < 0) by omega, show ¬ (n + (c.Sizes.length : Int) + (c.Cells.length : Int) < 0) by omega]; omega

/-! ### Right form -/
theorem areCubeValues_eq (l : List Int) : sh_impl_areCubeValues l = some (smallL l) := by
  unfold sh_impl_areCubeValues
  refine range_all (G := fun l _ _ => some (smallL l)) (fun _ _ => rfl) ?_ 0 ()
  intro x l k s next ih
  simp only [ih, smallL, List.all_cons]
  by_cases h1 : x < -1000000
  · simp [h1, show ¬ (-1000000 ≤ x) by omega]
  · by_cases h2 : 1000000 < x
    · simp [h1, h2, show ¬ (x ≤ 1000000) by omega]
    · simp [h1, h2, show (-1000000 ≤ x) by omega, show x ≤ 1000000 by omega]
def formB (c : XCube) : Bool := decide (0 < cntB c.Sizes) && decide ((c.Cells.length : Int) = cntB c.Sizes) && smallL c.Cells
theorem cbForm_eq (c : XCube) : sh_spec_cbForm c = some (formB c) := by
  unfold sh_spec_cbForm
  rw [cbCount_eq, Option.bind_some]
  unfold formB
  by_cases h1 : 0 < cntB c.Sizes
  · by_cases h2 : (c.Cells.length : Int) = cntB c.Sizes
    · simp only [h1, h2, decide_true, if_true, l1All_eq, Option.bind_some, Bool.true_and]; rfl
    · simp [h1, h2]
  · simp [h1]
theorem rightForm_eq (c : XCube) : sh_impl_hasRightForm c = some (formB c) := by
  unfold sh_impl_hasRightForm
  rw [cubeCells_eq, Option.bind_some]
  unfold formB
  by_cases h1 : 0 < cntB c.Sizes
  · by_cases h2 : (c.Cells.length : Int) = cntB c.Sizes
    · simp only [h1, h2, decide_true, if_true, areCubeValues_eq, Option.bind_some, Bool.true_and]
    · simp [h1, h2]
  · simp [h1]
structure Form (c : XCube) : Prop where
  v : valid c.Sizes
  n : (c.Cells.length : Int) = vol c.Sizes
  le : c.Cells.length ≤ 2000
  cnt : cntB c.Sizes = vol c.Sizes
  sm : smallL c.Cells = true
theorem formB_form {c : XCube} (h : formB c = true) : Form c := by
  simp only [formB, Bool.and_eq_true, decide_eq_true_eq] at h
  obtain ⟨⟨h1, h2⟩, h3⟩ := h
  obtain ⟨hv, hc, hle⟩ := cntB_pos h1
  exact ⟨hv, by omega, by omega, hc, h3⟩

/-! ### The first break -/
def cellAt (c : XCube) (i : Int) : Int := c.Cells.getD i.toNat 0
theorem cell_get {c : XCube} {i : Int} (h0 : 0 ≤ i) (h1 : i < c.Cells.length) : c.Cells[i.toNat]? = some (cellAt c i) := by
  have : i.toNat < c.Cells.length := by omega
  simp [cellAt, this]
theorem getO_cell {R : Type} {c : XCube} {i : Int} {f : Int → Option R} (h0 : 0 ≤ i) (h1 : i < c.Cells.length) : getO c.Cells i f = f (cellAt c i) :=
  getO_int (k := i.toNat) (by omega) (cell_get h0 h1)
theorem cell_bd {c : XCube} (h : Form c) {i : Int} (h0 : 0 ≤ i) (h1 : i < c.Cells.length) : -1000000 ≤ cellAt c i ∧ cellAt c i ≤ 1000000 := smallL_get h.sm (cell_get h0 h1)
def sumI : List Int → Int
  | [] => 0
  | x :: l => x + sumI l
theorem sumI_append : ∀ (a b : List Int), sumI (a ++ b) = sumI a + sumI b
  | [], b => by simp [sumI]
  | x :: a, b => by simp only [List.cons_append, sumI, sumI_append a b]; omega
theorem sumI_reverse : ∀ (a : List Int), sumI a.reverse = sumI a
  | [] => rfl
  | x :: a => by rw [List.reverse_cons, sumI_append, sumI_reverse a]; simp only [sumI]; omega
theorem sumI_bd {b : Int} (hb : 0 ≤ b) : ∀ {l : List Int}, (∀ x ∈ l, -b ≤ x ∧ x ≤ b) → -(b * l.length) ≤ sumI l ∧ sumI l ≤ b * l.length
  | [], _ => by simp [sumI]
  | x :: l, h => by
    have h1 := h x (by simp)
    have h2 := sumI_bd hb (l := l) (fun y hy => h y (by simp [hy]))
    simp only [sumI, List.length_cons, Int.natCast_add, Int.mul_add]
    omega
/-- The sum of the parts of a total. -/
def psum (c : XCube) (i : Int) (d : Nat) (x : Int) : Int := sumI ((partL c.Sizes i d x).map (cellAt c))
def brk (c : XCube) (i : Int) : List Int → Nat → Bool
  | [], _ => false
  | x :: l, k => if c.Sizes[k]? = some x then (if psum c i k x ≠ cellAt c i then true else brk c i l (k + 1)) else brk c i l (k + 1)
theorem cbBroken_eq {c : XCube} (h : Form c) {i : Int} (h0 : 0 ≤ i) (h1 : i < c.Cells.length) : sh_spec_cbBroken c i = some (brk c i (idxL c.Sizes i) 0) := by
  unfold sh_spec_cbBroken
  have hv := h.v
  have hn := h.n
  have hle := h.le
  rw [cbIndices_eq hv h0 (by omega), Option.bind_some]
  refine range_mem (I := fun _ _ => True) (G := fun l k _ => some (brk c i l k)) ?_ ?_ () trivial
  · intro k s _ _; rfl
  · intro x l' k s next hx _ _ hnx
    have hk := (List.getElem?_eq_some_iff.1 hx).1
    rw [idxL_len] at hk
    rw [getO_nat hk]
    have hnx' := hnx () trivial
    by_cases e : x = c.Sizes[k]
    · have hs : c.Sizes[k]? = some x := by rw [List.getElem?_eq_getElem hk, e]
      have hxb := hv.get hs
      simp only [show decide (x ≠ c.Sizes[k]) = false by simp [e], Bool.false_eq_true, if_false]
      rw [cbParts_eq hv h0 (by omega) hs hx, Option.bind_some]
      have hall : ∀ y ∈ partL c.Sizes i k x, 0 ≤ y ∧ y < c.Cells.length := by
        intro y hy
        simp only [partL, List.mem_map, List.mem_range] at hy
        obtain ⟨j, hj, rfl⟩ := hy
        have := partF_bd hv h0 (by omega) hs hx (show (j : Int) ≤ x by omega)
        omega
      have hlen := partL_len c.Sizes i k x
      have hsum : ∀ (m : Nat), -(1000000 * (m : Int)) ≤ sumI (((partL c.Sizes i k x).take m).map (cellAt c)) ∧ sumI (((partL c.Sizes i k x).take m).map (cellAt c)) ≤ 1000000 * (m : Int) := by
        intro m
        have := sumI_bd (b := 1000000) (by omega) (l := ((partL c.Sizes i k x).take m).map (cellAt c)) (fun y hy => by
          obtain ⟨z, hz, rfl⟩ := List.mem_map.1 hy
          have := hall z (List.mem_of_mem_take hz)
          exact cell_bd h this.1 this.2)
        simp only [List.length_map, List.length_take] at this
        omega
      refine range_mem (I := fun (m : Nat) (a : Int) => a = sumI (((partL c.Sizes i k x).take m).map (cellAt c)) ∧ m ≤ 30) (G := fun _ _ _ => some (brk c i (x :: l') k)) ?_ ?_ 0 ⟨by simp [sumI], by omega⟩
      · intro m a hI hm
        obtain ⟨rfl, _⟩ := hI
        rw [getO_cell h0 h1, hm, List.take_length]
        simp only [brk, if_pos hs]
        by_cases e2 : psum c i k x = cellAt c i
        · have : sumI ((partL c.Sizes i k x).map (cellAt c)) = cellAt c i := e2
          simp only [this, e2, ne_eq, not_true_eq_false, decide_false, Bool.false_eq_true, if_false]
          exact hnx'
        · have : ¬ sumI ((partL c.Sizes i k x).map (cellAt c)) = cellAt c i := e2
          simp [this, e2]
      · intro y l2 m a next2 hy _ hI hn2
        obtain ⟨rfl, hm30⟩ := hI
        obtain ⟨hm, hye⟩ := List.getElem?_eq_some_iff.1 hy
        have hb := hall y (List.mem_of_getElem? hy)
        have hcb := cell_bd h hb.1 hb.2
        have hs1 := hsum m
        rw [getO_cell hb.1 hb.2, ckI_pos (by omega) (by omega)]
        refine hn2 _ ⟨?_, by omega⟩
        rw [List.take_add_one, hy, List.map_append, sumI_append]
        simp [sumI]
    · have hs : ¬ c.Sizes[k]? = some x := by rw [List.getElem?_eq_getElem hk]; simp; exact fun h => e h.symm
      simp only [show decide (x ≠ c.Sizes[k]) = true by simp [e], if_true, brk, if_neg hs]
      exact hnx'
def fstB (c : XCube) : List Int → Nat → Int
  | [], _ => c.Cells.length
  | _ :: l, k => if brk c k (idxL c.Sizes k) 0 = true then k else fstB c l (k + 1)
theorem cbFirst_eq {c : XCube} (h : Form c) : sh_spec_cbFirst c = some (fstB c c.Cells 0) := by
  unfold sh_spec_cbFirst
  refine range_mem (I := fun _ _ => True) (G := fun l k _ => some (fstB c l k)) (fun _ _ _ _ => rfl) ?_ () trivial
  intro x l' k s next hx _ _ hn
  have hk := (List.getElem?_eq_some_iff.1 hx).1
  rw [cbBroken_eq h (by omega) (by omega), Option.bind_some]
  simp only [fstB, hn () trivial]
  split <;> rfl
theorem firstBreak_eq {c : XCube} (h : Form c) : sh_impl_firstBreak c = some (fstB c c.Cells 0) := by
  unfold sh_impl_firstBreak
  have hv := h.v
  have hnn := h.n
  have hle := h.le
  rw [strides_eq hv, Option.bind_some]
  refine range_mem (I := fun _ _ => True) (G := fun l k _ => some (fstB c l k)) (fun _ _ _ _ => rfl) ?_ () trivial
  intro v l' i s next hx _ _ hn
  have hi := (List.getElem?_eq_some_iff.1 hx).1
  have hvi : v = cellAt c i := by
    have := cell_get (c := c) (i := (i : Int)) (by omega) (by omega)
    rw [Int.toNat_natCast, hx] at this; exact Option.some.inj this
  rw [indexOf_eq hv (by omega) (by omega), Option.bind_some]
  have hnx := hn () trivial
  have goal : some (fstB c (v :: l') i) = (if brk c i (idxL c.Sizes i) 0 = true then some (i : Int) else next ()) := by
    rw [hnx]; simp only [fstB]; split <;> rfl
  rw [goal]
  refine range_mem (I := fun _ _ => True) (G := fun l k _ => if brk c i l k = true then some (i : Int) else next ()) (fun _ _ _ _ => by simp [brk]) ?_ () trivial
  intro x l2 k s2 next2 hx2 _ _ hn2
  have hk := (List.getElem?_eq_some_iff.1 hx2).1
  rw [idxL_len] at hk
  rw [getO_nat hk]
  have hn2' := hn2 () trivial
  by_cases e : x = c.Sizes[k]
  · have hs : c.Sizes[k]? = some x := by rw [List.getElem?_eq_getElem hk, e]
    have hxb := hv.get hs
    have hvd := vol_bd (hv.drop (k + 1))
    have hst : (strL c.Sizes)[k]? = some (vol (c.Sizes.drop (k + 1))) := by
      rw [List.getElem?_eq_getElem (by rw [strL_len]; exact hk), strL_get c.Sizes k hk]
    simp only [show decide (x ≠ c.Sizes[k]) = false by simp [e], Bool.false_eq_true, if_false]
    -- the sum, from the last part on
    have hpl : ∀ j : Nat, (j : Int) ≤ x → 0 ≤ partF c.Sizes i k x j ∧ partF c.Sizes i k x j < c.Cells.length := fun j hj => by
      have := partF_bd hv (show (0 : Int) ≤ i by omega) (by omega) hs hx2 hj; omega
    let g : Nat → Int := fun m => cellAt c ((i : Int) - ((m : Int) + 1) * vol (c.Sizes.drop (k + 1)))
    have hg : ∀ m : Nat, (m : Int) < x → g m = cellAt c (partF c.Sizes i k x (x.toNat - 1 - m)) ∧ 0 ≤ (i : Int) - ((m : Int) + 1) * vol (c.Sizes.drop (k + 1)) ∧ (i : Int) - ((m : Int) + 1) * vol (c.Sizes.drop (k + 1)) < c.Cells.length := fun m hm => by
      have e3 : partF c.Sizes i k x (x.toNat - 1 - m) = (i : Int) - ((m : Int) + 1) * vol (c.Sizes.drop (k + 1)) := by
        simp only [partF]; congr 2; omega
      have := hpl (x.toNat - 1 - m) (by omega)
      rw [e3] at this
      exact ⟨by rw [e3], this⟩
    have htot : sumI ((List.range x.toNat).map g) = psum c i k x := by
      rw [psum, partL, List.map_map, ← sumI_reverse ((List.range x.toNat).map (cellAt c ∘ partF c.Sizes i k x))]
      congr 1
      apply List.ext_getElem
      · simp
      · intro n h1 h2
        simp only [List.length_map, List.length_range] at h1
        have := (hg n (by omega)).1
        simp only [List.getElem_map, List.getElem_range, List.getElem_reverse, List.length_map, List.length_range, Function.comp]
        exact this
    have hsum : ∀ (m : Nat), (m : Int) ≤ x → -(1000000 * (m : Int)) ≤ sumI ((List.range m).map g) ∧ sumI ((List.range m).map g) ≤ 1000000 * (m : Int) := by
      intro m hm
      have := sumI_bd (b := 1000000) (by omega) (l := (List.range m).map g) (fun y hy => by
        simp only [List.mem_map, List.mem_range] at hy
        obtain ⟨z, hz, rfl⟩ := hy
        obtain ⟨_, q1, q2⟩ := hg z (by omega)
        exact cell_bd h q1 q2)
      simpa using this
    have e0 : (((0 : Int), (1 : Int)) : Int × Int) = (fun m : Nat => (sumI ((List.range m).map g), (m : Int) + 1)) 0 := by simp [sumI]
    rw [e0]
    refine (loop_up x.toNat (fun m : Nat => (sumI ((List.range m).map g), (m : Int) + 1)) (fun _ => if brk c i (x :: l2) k = true then some (i : Int) else next ()) (by omega) ?_ ?_)
    · intro nx m hm hnx3
      have hmx : (m : Int) + 1 ≤ x := by omega
      obtain ⟨_, q1, q2⟩ := hg m (by omega)
      have hcb := cell_bd h q1 q2
      have hs1 := hsum m (by omega)
      have hm0 : 0 ≤ ((m : Int) + 1) * vol (c.Sizes.drop (k + 1)) := Int.mul_nonneg (by omega) (by omega)
      simp only [hmx, decide_true, if_true]
      rw [getO_some hst, ckI_pos (by omega) (by omega), ckI_pos (by omega) (by omega), getO_cell q1 q2, ckI_pos (by omega) (by omega), ckI_pos (by omega) (by omega)]
      rw [← hnx3, range_map_succ, sumI_append]
      simp only [sumI, Int.add_zero, cast_succ]
      rfl
    · intro nx
      simp only [show ¬ (((x.toNat : Nat) : Int) + 1 ≤ x) by omega, decide_false, Bool.false_eq_true, if_false, htot, hvi, brk, if_pos hs]
      by_cases e2 : psum c i k x = cellAt c i
      · simp only [e2, ne_eq, not_true_eq_false, decide_false, Bool.false_eq_true, if_false]
        exact hn2'
      · simp [e2]
  · have hs : ¬ c.Sizes[k]? = some x := by rw [List.getElem?_eq_getElem hk]; simp; exact fun h => e h.symm
    simp only [show decide (x ≠ c.Sizes[k]) = true by simp [e], if_true, brk, if_neg hs]
    exact hn2'
def goodB (c : XCube) : Bool := formB c && decide (fstB c c.Cells 0 = c.Cells.length)
theorem cbGood_eq (c : XCube) : sh_spec_cbGood c = some (goodB c) := by
  unfold sh_spec_cbGood
  rw [cbForm_eq, Option.bind_some]
  cases h : formB c with
  | false => simp [goodB, h]
  | true =>
    have hf := formB_form h
    have := hf.le
    simp only [if_true]
    rw [cbFirst_eq hf, Option.bind_some, lmO_pos (by omega)]
    simp [goodB, h]
end AS
