/- PartsOf. No condition. -/
import Derived.Test.YtnjjldjgknkijaaSac
import Derived.Test.YtnjjldjgknkijaaMab
import Derived.Test.YtnjjldjgknkijaaMb
set_option linter.unusedVariables false
set_option linter.unusedSimpArgs false
namespace AS
theorem eqIntSS_eq {a b : List (List Int)} (h : a.length ≤ 1099511627776) (h2 : ∀ x ∈ a, x.length ≤ 1099511627776) : sh_laws_eqIntSS a b = some (decide (a = b)) := by
  unfold sh_laws_eqIntSS
  exact eq_loop h fun x hx y => eqIntS_eq (h2 x hx)
def mkSS (l : List (List Int)) (n : Int) : List (List Int) := mkL (fun x m => mks m x.length) List.length l n
theorem markIntSS_eq {l : List (List Int)} {n : Int} (hl : l.length ≤ 1099511627776) (h0 : 0 ≤ n) (h : n + (sumL List.length l : Nat) ≤ 4611686018427387904) : sh_laws_markIntSS l n = some (mkSS l n, n + (sumL List.length l : Nat)) := by
  unfold sh_laws_markIntSS
  exact mark_loop (mk := fun x m => mks m x.length) (sz := List.length) hl h0 h fun x _ m hm hb => markIntS_eq hm hb
theorem heldIntSS_eq {l : List (List Int)} {n : Int} (hl : l.length ≤ 1099511627776) (h0 : 0 ≤ n) (h : n + (sumL List.length l : Nat) ≤ 4611686018427387904) : sh_laws_heldIntSS (mkSS l n) n = some (n + (sumL List.length l : Nat)) := by
  unfold sh_laws_heldIntSS
  exact held_loop (mk := fun x m => mks m x.length) (sz := List.length) hl h0 h fun x _ m hm hb => heldIntS_eq hm hb

/-- The cells that a total is the sum of. -/
def partF (s : List Int) (i : Int) (d : Nat) (x : Int) (k : Nat) : Int := i - (x - k) * vol (s.drop (d + 1))
def partL (s : List Int) (i : Int) (d : Nat) (x : Int) : List Int := (List.range x.toNat).map (partF s i d x)
theorem partL_len (s : List Int) (i : Int) (d : Nat) (x : Int) : (partL s i d x).length = x.toNat := by simp [partL]
theorem range_map_succ {α : Type} (f : Nat → α) (k : Nat) : (List.range (k + 1)).map f = (List.range k).map f ++ [f k] := by
  rw [List.range_succ, List.map_append]; rfl
def idxAt (ix : List Int) (d : Nat) : Nat → List Int
  | 0 => ix
  | k + 1 => ix.set d (k : Int)
theorem cbParts_eq {s : List Int} {i : Int} {d : Nat} {x : Int} (h : valid s) (h0 : 0 ≤ i) (h1 : i < vol s) (hd : s[d]? = some x) (hx : (idxL s i)[d]? = some x) : sh_spec_cbParts s i (d : Int) = some (partL s i d x) := by
  unfold sh_spec_cbParts
  have hv := vol_bd h
  have hb := h.get hd
  have hdl := (List.getElem?_eq_some_iff.1 hd).1
  have hil : (idxL s i).length = s.length := idxL_len s i
  rw [cbIndices_eq h h0 (by omega), Option.bind_some]
  have hfit := idxL_fits h h0
  have e0 : ((idxL s i, ([] : List Int), (0 : Int)) : List Int × List Int × Int) = (fun k : Nat => (idxAt (idxL s i) d k, (List.range k).map (partF s i d x), (k : Int))) 0 := by simp [idxAt]
  rw [e0]
  refine (loop_up x.toNat (fun k : Nat => (idxAt (idxL s i) d k, (List.range k).map (partF s i d x), (k : Int))) (fun _ => some (partL s i d x)) (by omega) ?_ ?_)
  · intro next k hk hn
    have hkx : (k : Int) < x := by omega
    have hg : getO s (d : Int) = fun f : Int → Option (List Int) => f x := by funext f; exact getO_some hd
    simp only [hg, hkx, decide_true, if_true]
    have hset : ∀ j : List Int, (j = idxL s i ∨ ∃ y, j = (idxL s i).set d y) → (∃ y, j[d]? = some y) ∧ j.set (d : Int).toNat (k : Int) = (idxL s i).set d (k : Int) := by
      rintro j (rfl | ⟨y, rfl⟩)
      · exact ⟨⟨x, hx⟩, by simp⟩
      · exact ⟨⟨y, by rw [List.getElem?_set_self (by omega)]⟩, by simp⟩
    obtain ⟨⟨y, hy⟩, hs⟩ := hset (idxAt (idxL s i) d k) (by cases k with | zero => exact .inl rfl | succ k => exact .inr ⟨_, rfl⟩)
    rw [getO_some hy, hs, cbAt_eq h (hfit.set hd (by omega) (by omega)), Option.bind_some, lnO_pos (by simp; omega), ckI_succ (by omega)]
    have hat : atL s ((idxL s i).set d (k : Int)) = partF s i d x k := by
      rw [atL_set hil hdl (by omega), atL_idxL h.2 h0, Int.emod_eq_of_lt h0 h1]
      have : (idxL s i)[d]'(by omega) = x := by
        have := List.getElem?_eq_getElem (show d < (idxL s i).length by omega)
        rw [hx] at this; exact (Option.some.inj this).symm
      rw [this, partF, show (k : Int) - x = -(x - k) by omega, Int.neg_mul]; omega
    rw [hat, ← range_map_succ]
    exact hn
  · intro next
    have hg : getO s (d : Int) = fun f : Int → Option (List Int) => f x := by funext f; exact getO_some hd
    simp only [hg, show ¬ (((x.toNat : Nat) : Int) < x) by omega, decide_false, Bool.false_eq_true, if_false]
    rfl
theorem partF_bd {s : List Int} {i : Int} {d : Nat} {x : Int} (h : valid s) (h0 : 0 ≤ i) (h1 : i < vol s) (hd : s[d]? = some x) (hx : (idxL s i)[d]? = some x) {k : Nat} (hk : (k : Int) ≤ x) : 0 ≤ partF s i d x k ∧ partF s i d x k ≤ i := by
  have hdl := (List.getElem?_eq_some_iff.1 hd).1
  have hil : (idxL s i).length = s.length := idxL_len s i
  have hfit := (idxL_fits h h0).set hd (show (0 : Int) ≤ k by omega) hk
  have := atL_bd h.2 hfit
  have hat : atL s ((idxL s i).set d (k : Int)) = partF s i d x k := by
    rw [atL_set hil hdl (by omega), atL_idxL h.2 h0, Int.emod_eq_of_lt h0 h1]
    have : (idxL s i)[d]'(by omega) = x := by
      have := List.getElem?_eq_getElem (show d < (idxL s i).length by omega)
      rw [hx] at this; exact (Option.some.inj this).symm
    rw [this, partF, show (k : Int) - x = -(x - k) by omega, Int.neg_mul]; omega
  have hb := vol_bd (h.drop (d + 1))
  have : 0 ≤ (x - k) * vol (s.drop (d + 1)) := Int.mul_nonneg (by omega) (by omega)
  constructor
  · omega
  · rw [partF]; omega
def partsFrom (s : List Int) (i : Int) : List Int → Nat → List (List Int)
  | [], _ => []
  | x :: l, k => if s[k]? = some x then partL s i k x :: partsFrom s i l (k + 1) else partsFrom s i l (k + 1)
theorem partsFrom_len (s : List Int) (i : Int) : ∀ (l : List Int) (k : Nat), (partsFrom s i l k).length ≤ l.length
  | [], _ => by simp [partsFrom]
  | x :: l, k => by
    simp only [partsFrom]
    have := partsFrom_len s i l (k + 1)
    split <;> simp <;> omega
theorem partsFrom_mem {s : List Int} {i : Int} (h : valid s) : ∀ (l : List Int) (k : Nat), ∀ x ∈ partsFrom s i l k, x.length ≤ 30
  | [], _, x, hx => by simp [partsFrom] at hx
  | y :: l, k, x, hx => by
    simp only [partsFrom] at hx
    split at hx
    · rename_i e
      rcases List.mem_cons.1 hx with rfl | hx
      · rw [partL_len]; have := h.get e; omega
      · exact partsFrom_mem h l _ x hx
    · exact partsFrom_mem h l _ x hx
def partsR (s : List Int) (i : Int) : List (List Int) × Bool := if 0 ≤ i ∧ i < cntB s then (partsFrom s i (idxL s i) 0, true) else ([], false)
theorem specParts_eq {s : List Int} {i : Int} : sh_spec_PartsOf s i = some (partsR s i) := by
  unfold sh_spec_PartsOf
  have hc := cntB_nonneg s
  rw [cbCount_eq, Option.bind_some, ckI_pos (by omega) (by omega), l1In_eq, Option.bind_some]
  by_cases hi : 0 ≤ i ∧ i < cntB s
  · obtain ⟨hv, hcv, _⟩ := cntB_pos (show 0 < cntB s by omega)
    have hvb := vol_bd hv
    have hl := hv.1
    simp only [show decide (0 ≤ i) = true by simp [hi.1], show decide (i ≤ cntB s - 1) = true by (simp; omega), Bool.and_self, Bool.not_true, Bool.false_eq_true, if_false, partsR, if_pos hi]
    rw [cbIndices_eq hv hi.1 (by omega), Option.bind_some]
    refine (range_mem (I := fun (k : Nat) (a : List (List Int)) => a.length ≤ k ∧ k ≤ s.length) (G := fun l k a => some (a ++ partsFrom s i l k, true)) ?_ ?_ [] ⟨by simp, by omega⟩).trans (show some ([] ++ partsFrom s i (idxL s i) 0, true) = _ by simp)
    · intro k a _ _; simp [partsFrom]
    · intro x l' k a next hx hd hI hn
      have hk := (List.getElem?_eq_some_iff.1 hx).1
      rw [idxL_len] at hk
      rw [getO_nat hk]
      by_cases e : x = s[k]
      · have hs : s[k]? = some x := by rw [List.getElem?_eq_getElem hk, e]
        simp only [show decide (x = s[k]) = true by simp [e], if_true]
        rw [cbParts_eq hv hi.1 (by omega) hs hx, Option.bind_some, lnO_pos (by simp; omega), hn _ ⟨by simp; omega, by omega⟩]
        simp [partsFrom, hs]
      · have hs : ¬ s[k]? = some x := by rw [List.getElem?_eq_getElem hk]; simp; exact fun h => e h.symm
        simp only [show decide (x = s[k]) = false by simp [e], Bool.false_eq_true, if_false]
        rw [hn _ ⟨by omega, by omega⟩]
        simp only [partsFrom, if_neg hs]
  · have : (decide (0 ≤ i) && decide (i ≤ cntB s - 1)) = false := by
      simp only [Bool.and_eq_false_iff, decide_eq_false_iff_not]; omega
    simp only [this, Bool.not_false, if_true, partsR, if_neg hi]
theorem implParts_eq {s : List Int} {i : Int} : sh_impl_PartsOf s i = some (partsR s i) := by
  unfold sh_impl_PartsOf
  have hc := cntB_nonneg s
  by_cases hi : 0 ≤ i ∧ i < cntB s
  · obtain ⟨hv, hcv, _⟩ := cntB_pos (show 0 < cntB s by omega)
    have hvb := vol_bd hv
    have hl := hv.1
    simp only [show decide (i < 0) = false by (simp; omega), Bool.false_eq_true, if_false, cubeCells_eq, Option.bind_some, show decide (cntB s ≤ i) = false by (simp; omega), partsR, if_pos hi]
    rw [strides_eq hv, Option.bind_some, indexOf_eq hv hi.1 (by omega), Option.bind_some]
    refine (range_mem (I := fun (k : Nat) (a : List (List Int)) => a.length ≤ k ∧ k ≤ s.length) (G := fun l k a => some (a ++ partsFrom s i l k, true)) ?_ ?_ [] ⟨by simp, by omega⟩).trans (show some ([] ++ partsFrom s i (idxL s i) 0, true) = _ by simp)
    · intro k a _ _; simp [partsFrom]
    · intro x l' k a next hx hd hI hn
      have hk := (List.getElem?_eq_some_iff.1 hx).1
      rw [idxL_len] at hk
      rw [getO_nat hk]
      by_cases e : x = s[k]
      · have hs : s[k]? = some x := by rw [List.getElem?_eq_getElem hk, e]
        have hxb := hv.get hs
        have hvd := vol_bd (hv.drop (k + 1))
        have hst : (strL s)[k]? = some (vol (s.drop (k + 1))) := by
          rw [List.getElem?_eq_getElem (by rw [strL_len]; exact hk), strL_get s k hk]
        simp only [show decide (x ≠ s[k]) = false by simp [e], Bool.false_eq_true, if_false]
        have e0 : ((([] : List Int), x) : List Int × Int) = (fun j : Nat => ((List.range j).map (partF s i k x), x - (j : Int))) 0 := by simp
        rw [e0]
        have e1 : some (a ++ partsFrom s i (x :: l') k, true) = next (a ++ [partL s i k x]) := by
          rw [hn _ ⟨by simp; omega, by omega⟩]; simp [partsFrom, hs]
        rw [e1]
        refine (loop_up x.toNat (fun j : Nat => ((List.range j).map (partF s i k x), x - (j : Int))) (fun _ => next (a ++ [partL s i k x])) (by omega) ?_ ?_)
        · intro nx j hj hnx
          have hjx : (0 : Int) < x - (j : Int) := by omega
          have hm0 : 0 ≤ (x - (j : Int)) * vol (s.drop (k + 1)) := Int.mul_nonneg (by omega) (by omega)
          have hm1 : (x - (j : Int)) * vol (s.drop (k + 1)) ≤ 30 * 923521 := Int.mul_le_mul (by omega) hvd.2 (by omega) (by omega)
          simp only [hjx, decide_true, if_true]
          rw [getO_some hst, ckI_pos (by omega) (by omega), ckI_pos (by omega) (by omega), lnO_pos (by simp; omega), ckI_pos (by omega) (by omega)]
          rw [show i - (x - (j : Int)) * vol (s.drop (k + 1)) = partF s i k x j from rfl, ← range_map_succ, ← hnx]
          congr 2
          omega
        · intro nx
          simp only [show ¬ ((0 : Int) < x - ((x.toNat : Nat) : Int)) by omega, decide_false, Bool.false_eq_true, if_false]
          rw [lnO_pos (by simp; omega)]; rfl
      · have hs : ¬ s[k]? = some x := by rw [List.getElem?_eq_getElem hk]; simp; exact fun h => e h.symm
        simp only [show decide (x ≠ s[k]) = true by simp [e], if_true]
        rw [hn _ ⟨by omega, by omega⟩]
        simp only [partsFrom, if_neg hs]
  · simp only [partsR, if_neg hi]
    by_cases h0 : i < 0
    · simp [h0]
    · simp [h0, cubeCells_eq, show cntB s ≤ i by omega]
theorem sumL_bd {α : Type} {sz : α → Nat} {b : Nat} : ∀ {l : List α}, (∀ x ∈ l, sz x ≤ b) → sumL sz l ≤ l.length * b
  | [], _ => by simp [sumL]
  | x :: l, h => by
    rw [sumL_cons, List.length_cons, Nat.succ_mul]
    have := h x (by simp)
    have := sumL_bd (l := l) (b := b) (fun y hy => h y (by simp [hy]))
    omega
theorem partsR_bd (s : List Int) (i : Int) : (partsR s i).1.length ≤ 4 ∧ ∀ x ∈ (partsR s i).1, x.length ≤ 30 := by
  unfold partsR
  split
  · rename_i hi
    obtain ⟨hv, _⟩ := cntB_pos (show 0 < cntB s by omega)
    have := partsFrom_len s i (idxL s i) 0
    rw [idxL_len] at this
    exact ⟨by have := hv.1; show (partsFrom s i (idxL s i) 0).length ≤ 4; omega, partsFrom_mem hv _ _⟩
  · simp
theorem law_PartsOf (s : List Int) (i : Int) : sh_laws_FnExactPartsOf s i = some true := by
  unfold sh_laws_FnExactPartsOf
  by_cases h1 : s.length ≤ 1048576
  · obtain ⟨hb1, hb2⟩ := partsR_bd s i
    have hsum := sumL_bd hb2
    have hm : (sumL List.length (partsR s i).1 : Nat) ≤ 120 := by omega
    simp only [toIntS_eq h1, specParts_eq, implParts_eq, Option.bind_some, eqIntSS_eq (show (partsR s i).1.length ≤ 1099511627776 by omega) (fun x hx => by have := hb2 x hx; omega), eqIntS_eq (show s.length ≤ 1099511627776 by omega),
      markIntS_eq (l := s) (n := 1) (by omega) (by omega), markIntSS_eq (l := (partsR s i).1) (n := 1) (by omega) (by omega) (by omega), heldIntSS_eq (l := (partsR s i).1) (n := 1) (by omega) (by omega) (by omega)]
    simp [show ¬ ((1048576 : Int) < (s.length : Int)) by omega, show ¬ (1 + (s.length : Int) < 0) by omega, show ¬ (1 + (sumL List.length (partsR s i).1 : Int) < 0) by omega]
  · simp [show ((1048576 : Int) < (s.length : Int)) by omega]
end AS
