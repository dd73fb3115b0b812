/- Plain lemmas. No condition. -/
import Derived.Test.YtahffpadaffmdaaKc
import Derived.Test.YtahffpadaffmdaaMa
import Derived.Test.YtahffpadaffmdaaMaa
import Derived.Test.YtahffpadaffmdaaMab
import Derived.Test.YtahffpadaffmdaaMai
import Derived.Test.YtahffpadaffmdaaSdb
set_option linter.unusedVariables false
set_option linter.unusedSimpArgs false
namespace AS
/-- Dimensions that are there. -/
def dimsOk (s dims : List Int) : Prop := ∀ d ∈ dims, 0 ≤ d ∧ d < s.length
def subL (s dims : List Int) : List Int := dims.map fun d => s.getD d.toNat 0
def setAll (cur : List Int) : List Int → List Int → List Int
  | x :: ix, d :: dims => setAll (cur.set d.toNat x) ix dims
  | _, _ => cur
theorem sub_get {s : List Int} {d : Int} (h0 : 0 ≤ d) (h1 : d < s.length) : s[d.toNat]? = some (s.getD d.toNat 0) := by
  have : d.toNat < s.length := by omega
  simp [this]
theorem setAll_fits {s : List Int} : ∀ {ix dims cur : List Int}, fits s cur → dimsOk s dims → ix.length = dims.length → (∀ (k : Nat) (x y : Int), (subL s dims)[k]? = some x → ix[k]? = some y → 0 ≤ y ∧ y ≤ x) → fits s (setAll cur ix dims)
  | [], dims, cur, h, _, _, _ => by cases dims <;> exact h
  | x :: ix, [], cur, h, _, hl, _ => by simp at hl
  | x :: ix, d :: dims, cur, h, hd, hl, hb => by
    have h1 := hd d (by simp)
    have h2 := hb 0 (s.getD d.toNat 0) x (by simp [subL]) rfl
    show fits s (setAll (cur.set d.toNat x) ix dims)
    exact setAll_fits (h.set (sub_get h1.1 h1.2) h2.1 h2.2) (fun e he => hd e (by simp [he])) (by simpa using hl) (fun k x' y' hx hy => hb (k + 1) x' y' (by simpa only [subL, List.map_cons, List.getElem?_cons_succ] using hx) (by simpa only [List.getElem?_cons_succ] using hy))
theorem setLoop {R : Type} {s dims cur ix : List Int} {fin : List Int → Option R} (hl : ix.length = dims.length) (hd : dimsOk s dims) (hc : cur.length = s.length) :
    rangeF (fun (k : Nat) (x : Int) (st : List Int) (nx : List Int → Option R) => getO dims (k : Int) fun d => getO st d fun _ => nx (st.set d.toNat x)) fin ix 0 cur = fin (setAll cur ix dims) := by
  refine (range_mem (I := fun (k : Nat) (st : List Int) => st.length = s.length) (G := fun l k st => fin (setAll st l (dims.drop k))) ?_ ?_ cur hc).trans (by simp)
  · intro k st _ _; simp [setAll]
  · intro x l' k st next hx _ hst hn
    have hk : k < dims.length := by have := (List.getElem?_eq_some_iff.1 hx).1; omega
    have hdk := hd dims[k] (List.getElem_mem hk)
    have hlt : dims[k].toNat < st.length := by omega
    rw [getO_nat hk, getO_int (k := dims[k].toNat) (by omega) (List.getElem?_eq_getElem hlt), hn _ (by simpa using hst), List.drop_eq_getElem_cons hk]
    rfl
theorem subL_len (s dims : List Int) : (subL s dims).length = dims.length := by simp [subL]
theorem fits_self {s : List Int} (h : valid s) : fits s s := ⟨rfl, fun k x y hx hy => by rw [hx] at hy; cases hy; have := h.get hx; omega⟩

theorem drop_tl {α : Type} {l l' : List α} {x : α} {k : Nat} (h : l.drop k = x :: l') : l.drop (k + 1) = l' := by
  have := congrArg List.tail h
  simpa using this

/-! ### MarginOf -/
def risB (n : Int) : Int → List Int → Bool
  | _, [] => true
  | a, x :: l => decide (a < x) && (decide (x < n) && risB n x l)
theorem risB_ok {s : List Int} : ∀ {l : List Int} {a : Int}, -1 ≤ a → risB s.length a l = true → dimsOk s l
  | [], _, _, _, d, hd => by simp at hd
  | x :: l, a, ha, h, d, hd => by
    simp only [risB, Bool.and_eq_true, decide_eq_true_eq] at h
    rcases List.mem_cons.1 hd with rfl | hd
    · omega
    · exact risB_ok (a := x) (by omega) h.2.2 d hd
theorem l1Rising_eq (l : List Int) (n : Int) (hl : l.length ≤ 1048576) : sh_spec_l1Rising l 0 (n - 1) = some (risB n (-1) l) := by
  unfold sh_spec_l1Rising
  refine (range_mem (I := fun k _ => ∀ j, j + 1 = k → ∃ x, l[j]? = some x ∧ 0 ≤ x) (G := fun l' k _ => some (risB n (if k = 0 then -1 else l.getD (k - 1) 0) l')) ?_ ?_ () (fun j hj => by omega)).trans (by simp)
  · intro k u _ _; simp [risB]
  · intro x l' k u next hx _ hI hn
    have hk := (List.getElem?_eq_some_iff.1 hx).1
    rw [l1In_eq, Option.bind_some]
    by_cases h0 : 0 ≤ x ∧ x ≤ n - 1
    · simp only [show decide (0 ≤ x) = true by simp [h0.1], show decide (x ≤ n - 1) = true by simp [h0.2], Bool.and_self, Bool.not_true, Bool.false_eq_true, if_false, risB, show decide (x < n) = true by (simp; omega), Bool.true_and]
      have hn' := hn () (fun j hj => ⟨x, by rw [show j = k by omega]; exact hx, h0.1⟩)
      have hgx : l.getD k 0 = x := by simp [List.getD_eq_getElem?_getD, hx]
      simp only [show ¬ (k + 1 = 0) by omega, if_false, Nat.add_sub_cancel, hgx] at hn'
      by_cases hk0 : k = 0
      · subst hk0
        simp only [show ¬ ((0 : Int) < ((0 : Nat) : Int)) by omega, decide_false, Bool.false_eq_true, if_false, if_true, show decide (-1 < x) = true by (simp; omega), Bool.true_and]
        exact hn'
      · obtain ⟨y, hy, hy0⟩ := hI (k - 1) (by omega)
        have hgy : l.getD (k - 1) 0 = y := by simp [List.getD_eq_getElem?_getD, hy]
        simp only [show ((0 : Int) < (k : Int)) by omega, decide_true, if_true, hk0, if_false, hgy]
        rw [ckI_pos (by omega) (by omega), getO_int (k := k - 1) (by omega) hy]
        by_cases h1 : x ≤ y
        · simp [h1, show ¬ (y < x) by omega]
        · simp only [h1, decide_false, Bool.false_eq_true, if_false, show decide (y < x) = true by (simp; omega), Bool.true_and]
          exact hn'
    · have e : (decide (0 ≤ x) && decide (x ≤ n - 1)) = false := by simp only [Bool.and_eq_false_iff, decide_eq_false_iff_not]; omega
      simp only [e, Bool.not_false, if_true, risB, Option.some.injEq]
      by_cases h1 : x < n
      · have : ¬ 0 ≤ x := by omega
        have hlast : ¬ ((if k = 0 then (-1 : Int) else l.getD (k - 1) 0) < x) := by
          by_cases hk0 : k = 0
          · simp only [hk0, if_true]; omega
          · obtain ⟨y, hy, hy0⟩ := hI (k - 1) (by omega)
            have hgy : l.getD (k - 1) 0 = y := by simp [List.getD_eq_getElem?_getD, hy]
            simp only [hk0, if_false, hgy]; omega
        simp only [hlast, decide_false, Bool.false_and]
      · simp only [h1, decide_false, Bool.false_and, Bool.and_false]
end AS

