/- Plain lemmas. No condition. -/
import Derived.Test.YtahffpadaffmdaaKc
import Derived.Test.YtahffpadaffmdaaMa
import Derived.Test.YtahffpadaffmdaaMaa
set_option linter.unusedVariables false
set_option linter.unusedSimpArgs false
namespace AS

theorem loop_down {R σ : Type} {body : (σ → Option R) → σ → Option R} (n : Nat) (S : Nat → σ) (G : Nat → Option R) (hn : n ≤ 4611686018427387904)
    (hs : ∀ next k, k < n → next (S k) = G k → body next (S (k + 1)) = G (k + 1)) (he : ∀ next, body next (S 0) = G 0) : loopF body FUEL (S n) = G n := by
  have := loop_up (body := body) n (fun j => S (n - j)) (fun j => G (n - j)) hn (fun next k hk hx => by
    have e : n - k = (n - (k + 1)) + 1 := by omega
    rw [e]; exact hs next (n - (k + 1)) (by omega) hx) (fun next => by
    simp only [Nat.sub_self]; exact he next)
  simpa using this
theorem mixL_setD {α : Type} {a b : List α} (h : a.length = b.length) {k : Nat} (hk : k < b.length) : (mixL a b (k + 1)).set k b[k] = mixL a b k := by
  apply List.ext_getElem?
  intro i
  simp only [mixL]
  by_cases hi : i = k
  · subst hi
    rw [List.getElem?_set_self (by simp; omega), List.getElem?_append_right (by simp; omega)]
    simp [show min i a.length = i by omega, hk]
  · rw [List.getElem?_set_ne (Ne.symm hi)]
    simp only [List.getElem?_append, List.length_take, List.getElem?_take, List.getElem?_drop]
    by_cases h1 : i < k
    · simp [show i < min k a.length by omega, show i < min (k+1) a.length by omega, h1, show i < k + 1 by omega]
    · simp only [show ¬ i < min k a.length by omega, show ¬ i < min (k+1) a.length by omega, if_false]
      congr 1; omega
theorem mixL_getD {α : Type} {a b : List α} (h : a.length = b.length) {k : Nat} (hk : k < a.length) : (mixL a b (k + 1))[k]? = some a[k] := by
  simp only [mixL]
  rw [List.getElem?_append_left (by simp; omega), List.getElem?_take_of_lt (by omega), List.getElem?_eq_getElem hk]
theorem getO_int {R α : Type} {l : List α} {i : Int} {k : Nat} {x : α} {f : α → Option R} (hi : i = (k : Int)) (h : l[k]? = some x) : getO l i f = f x := by subst hi; exact getO_some h

def okS (x : Int) : Bool := decide (1 ≤ x) && decide (x ≤ 30)
def valid (s : List Int) : Prop := s.length ≤ 4 ∧ ∀ x ∈ s, 1 ≤ x ∧ x ≤ 30
def vol : List Int → Int
  | [] => 1
  | x :: l => (x + 1) * vol l
theorem valid.tail {x : Int} {s : List Int} (h : valid (x :: s)) : valid s := ⟨by have := h.1; simp at this; omega, fun y hy => h.2 y (by simp [hy])⟩
theorem valid.drop {s : List Int} (h : valid s) (k : Nat) : valid (s.drop k) := ⟨by have := h.1; simp; omega, fun y hy => h.2 y (List.mem_of_mem_drop hy)⟩
theorem valid.get {s : List Int} (h : valid s) {k : Nat} {x : Int} (hx : s[k]? = some x) : 1 ≤ x ∧ x ≤ 30 := h.2 x (List.mem_of_getElem? hx)
theorem vol_pow : ∀ {s : List Int}, (∀ x ∈ s, 1 ≤ x ∧ x ≤ 30) → 1 ≤ vol s ∧ vol s ≤ 31 ^ s.length
  | [], _ => by simp [vol]
  | x :: l, h => by
    obtain ⟨h1, h2⟩ := vol_pow (s := l) (fun y hy => h y (by simp [hy]))
    obtain ⟨h3, h4⟩ := h x (by simp)
    simp only [vol, List.length_cons, Int.pow_succ]
    have a1 : 1 * 1 ≤ (x + 1) * vol l := Int.mul_le_mul (by omega) h1 (by omega) (by omega)
    have a2 : (x + 1) * vol l ≤ 31 * 31 ^ l.length := Int.mul_le_mul (by omega) h2 (by omega) (by omega)
    exact ⟨by omega, by rw [Int.mul_comm (31 ^ l.length)]; exact a2⟩
theorem pow31 {k : Nat} (h : k ≤ 4) : (1 : Int) ≤ 31 ^ k ∧ (31 : Int) ^ k ≤ 923521 := by
  have : k = 0 ∨ k = 1 ∨ k = 2 ∨ k = 3 ∨ k = 4 := by omega
  rcases this with rfl | rfl | rfl | rfl | rfl <;> decide
theorem vol_bd {s : List Int} (h : valid s) : 1 ≤ vol s ∧ vol s ≤ 923521 := by
  have h1 := vol_pow h.2
  have h2 := pow31 h.1
  omega
theorem vol_drop {s : List Int} {k : Nat} (hk : k < s.length) : vol (s.drop k) = (s[k] + 1) * vol (s.drop (k + 1)) := by
  rw [List.drop_eq_getElem_cons hk]; rfl

/-! ### How many cells -/
def cntB (s : List Int) : Int := if s.length ≤ 4 ∧ (s.all okS) = true then (if 2000 < vol s then 0 else vol s) else 0
theorem okS_iff {s : List Int} : s.all okS = true ↔ ∀ x ∈ s, 1 ≤ x ∧ x ≤ 30 := by
  simp [okS, List.all_eq_true]
theorem mul_bd {a x : Int} {k : Nat} (hk : k ≤ 3) (h1 : 1 ≤ a) (h2 : a ≤ 31 ^ k) (h3 : 1 ≤ x) (h4 : x ≤ 30) : 1 ≤ a * (x + 1) ∧ a * (x + 1) ≤ 31 ^ (k + 1) := by
  have a1 : 1 * 1 ≤ a * (x + 1) := Int.mul_le_mul h1 (by omega) (by omega) (by omega)
  have a2 : a * (x + 1) ≤ 31 ^ k * 31 := Int.mul_le_mul h2 (by omega) (by omega) (by omega)
  exact ⟨by omega, by rw [Int.pow_succ]; exact a2⟩
theorem cntB_pos {s : List Int} (h : 0 < cntB s) : valid s ∧ cntB s = vol s ∧ vol s ≤ 2000 := by
  unfold cntB at h ⊢
  split at h
  · rename_i hv
    split at h
    · omega
    · rename_i h2
      refine ⟨⟨hv.1, okS_iff.1 hv.2⟩, ?_, by omega⟩
      rw [if_pos hv, if_neg h2]
  · omega
theorem cntB_nonneg (s : List Int) : 0 ≤ cntB s ∧ cntB s ≤ 2000 := by
  unfold cntB
  split
  · rename_i hv
    have := vol_bd (s := s) ⟨hv.1, okS_iff.1 hv.2⟩
    split <;> omega
  · omega

/-! ### Strides -/
def strL : List Int → List Int
  | [] => []
  | _ :: l => vol l :: strL l
theorem strL_len : ∀ s : List Int, (strL s).length = s.length
  | [] => rfl
  | _ :: l => by simp [strL, strL_len l]
theorem strL_get : ∀ (s : List Int) (k : Nat) (h : k < s.length), (strL s)[k]'(by rw [strL_len]; exact h) = vol (s.drop (k + 1))
  | x :: l, 0, _ => rfl
  | x :: l, k + 1, h => by
    simp only [strL, List.getElem_cons_succ, List.drop_succ_cons]
    exact strL_get l k (by simpa using h)
/-! ### Indices -/
def idxL : List Int → Int → List Int
  | [], _ => []
  | x :: l, i => (i / vol l) % (x + 1) :: idxL l i
theorem idxL_len : ∀ (s : List Int) (i : Int), (idxL s i).length = s.length
  | [], _ => rfl
  | _ :: l, i => by simp [idxL, idxL_len l]
theorem idxL_get : ∀ (s : List Int) (i : Int) (k : Nat) (h : k < s.length), (idxL s i)[k]'(by rw [idxL_len]; exact h) = (i / vol (s.drop (k + 1))) % (s[k] + 1)
  | x :: l, _, 0, _ => rfl
  | x :: l, i, k + 1, h => by
    simp only [idxL, List.getElem_cons_succ, List.drop_succ_cons]
    exact idxL_get l i k (by simpa using h)
theorem div_le_self {i a : Int} (h : 0 ≤ i) (ha : 1 ≤ a) : 0 ≤ i / a ∧ i / a ≤ i := ⟨Int.ediv_nonneg h (by omega), Int.ediv_le_self a h⟩
theorem mod_div {i a b : Int} (hi : 0 ≤ i) (ha : 0 < a) (hb : 0 < b) : i % (a * b) / b = i / b % a := by
  obtain ⟨i, rfl⟩ := Int.eq_ofNat_of_zero_le hi
  obtain ⟨a, rfl⟩ := Int.eq_ofNat_of_zero_le (by omega : 0 ≤ a)
  obtain ⟨b, rfl⟩ := Int.eq_ofNat_of_zero_le (by omega : 0 ≤ b)
  have := Nat.mod_mul_left_div_self i b a
  exact_mod_cast this
/-! ### Cells -/
def atL : List Int → List Int → Int
  | _ :: l, a :: as => a * vol l + atL l as
  | _, _ => 0
/-- Indices that fit sizes. -/
def fits (s ix : List Int) : Prop := ix.length = s.length ∧ ∀ (k : Nat) (x y : Int), s[k]? = some x → ix[k]? = some y → 0 ≤ y ∧ y ≤ x
theorem idxL_fits {s : List Int} {i : Int} (h : valid s) (h0 : 0 ≤ i) : fits s (idxL s i) := by
  refine ⟨idxL_len s i, fun k x y hx hy => ?_⟩
  obtain ⟨hk, rfl⟩ := List.getElem?_eq_some_iff.1 hx
  obtain ⟨hk2, rfl⟩ := List.getElem?_eq_some_iff.1 hy
  rw [idxL_get s i k hk]
  have hxx := h.get hx
  have h1 := Int.emod_nonneg (i / vol (s.drop (k + 1))) (show s[k] + 1 ≠ 0 by omega)
  have h2 := Int.emod_lt_of_pos (i / vol (s.drop (k + 1))) (show 0 < s[k] + 1 by omega)
  omega
theorem atL_idxL : ∀ {s : List Int} {i : Int}, (∀ x ∈ s, 1 ≤ x ∧ x ≤ 30) → 0 ≤ i → atL s (idxL s i) = i % vol s
  | [], i, _, _ => by simp [atL, vol]
  | x :: l, i, h, h0 => by
    have hl := vol_pow (s := l) (fun y hy => h y (by simp [hy]))
    have hx := h x (by simp)
    simp only [idxL, atL, vol]
    rw [atL_idxL (fun y hy => h y (by simp [hy])) h0, ← mod_div h0 (by omega) (by omega)]
    have e : i % ((x + 1) * vol l) % vol l = i % vol l := Int.emod_emod_of_dvd _ (Int.dvd_mul_left _ _)
    have := Int.ediv_mul_add_emod (i % ((x + 1) * vol l)) (vol l)
    omega
theorem atL_set : ∀ {s ix : List Int} {d : Nat} {y : Int}, ix.length = s.length → ∀ (hd : d < s.length) (hd2 : d < ix.length), atL s (ix.set d y) = atL s ix + (y - ix[d]) * vol (s.drop (d + 1))
  | x :: l, a :: as, 0, y, _, _, _ => by
    simp only [List.set_cons_zero, atL, List.getElem_cons_zero, Int.sub_mul, List.drop_succ_cons, List.drop_zero]; omega
  | x :: l, a :: as, d + 1, y, h, hd, hd2 => by
    simp only [List.set_cons_succ, atL, List.getElem_cons_succ, List.drop_succ_cons]
    rw [atL_set (by simpa using h) (by simpa using hd) (by simpa using hd2), Int.add_assoc]
theorem atL_bd : ∀ {s ix : List Int}, (∀ x ∈ s, 1 ≤ x ∧ x ≤ 30) → fits s ix → 0 ≤ atL s ix ∧ atL s ix < vol s
  | [], ix, _, _ => by simp [atL, vol]
  | x :: l, [], _, hf => by have := hf.1; simp at this
  | x :: l, a :: as, h, hf => by
    have hl := vol_pow (s := l) (fun y hy => h y (by simp [hy]))
    have h1 := atL_bd (s := l) (ix := as) (fun y hy => h y (by simp [hy])) ⟨by have := hf.1; simpa using this, fun k x y hx hy => hf.2 (k + 1) x y (by simpa using hx) (by simpa using hy)⟩
    have h2 := hf.2 0 x a rfl rfl
    simp only [atL, vol]
    have h3 : 0 ≤ a * vol l := Int.mul_nonneg h2.1 (by omega)
    have h4 : a * vol l ≤ x * vol l := Int.mul_le_mul_of_nonneg_right h2.2 (by omega)
    have h5 : (x + 1) * vol l = x * vol l + vol l := by rw [Int.add_mul]; omega
    omega
theorem fits.set {s ix : List Int} (h : fits s ix) {d : Nat} {x y : Int} (hx : s[d]? = some x) (h0 : 0 ≤ y) (h1 : y ≤ x) : fits s (ix.set d y) := by
  refine ⟨by rw [List.length_set]; exact h.1, fun k x' y' hx' hy' => ?_⟩
  by_cases e : d = k
  · subst e
    rw [hx] at hx'; cases hx'
    have hk : d < ix.length := by rw [h.1]; exact (List.getElem?_eq_some_iff.1 hx).1
    rw [List.getElem?_set_self hk] at hy'; cases hy'
    exact ⟨h0, h1⟩
  · rw [List.getElem?_set_ne e] at hy'
    exact h.2 k x' y' hx' hy'
end AS

