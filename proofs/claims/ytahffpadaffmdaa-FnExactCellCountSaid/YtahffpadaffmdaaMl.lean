/- Plain lemmas. No condition. -/
import Derived.Test.YtahffpadaffmdaaKc
import Derived.Test.YtahffpadaffmdaaMa
set_option linter.unusedVariables false
set_option linter.unusedSimpArgs false
namespace AS
section
variable {R σ α β : Type}
/-- Some elements of a list, each with what is made of it. -/
def selF (c : Nat → α → Bool) (f : Nat → α → β) : List α → Nat → List β
  | [], _ => []
  | x :: l, k => if c k x = true then f k x :: selF c f l (k + 1) else selF c f l (k + 1)
theorem selF_len (c : Nat → α → Bool) (f : Nat → α → β) : ∀ (l : List α) (k : Nat), (selF c f l k).length ≤ l.length
  | [], _ => Nat.le_refl _
  | x :: l, k => by
    simp only [selF]
    have := selF_len c f l (k + 1)
    split <;> simp <;> omega
theorem selF_mem {c : Nat → α → Bool} {f : Nat → α → β} : ∀ {l : List α} {k : Nat} {y : β}, y ∈ selF c f l k → ∃ j x, l[j]? = some x ∧ c (k + j) x = true ∧ y = f (k + j) x
  | [], _, _, h => by simp [selF] at h
  | x :: l, k, y, h => by
    simp only [selF] at h
    have rec' : y ∈ selF c f l (k + 1) → ∃ j x', (x :: l)[j]? = some x' ∧ c (k + j) x' = true ∧ y = f (k + j) x' := fun h => by
      obtain ⟨j, x', h1, h2, h3⟩ := selF_mem h
      rw [show k + 1 + j = k + (j + 1) by omega] at h2 h3
      exact ⟨j + 1, x', by simpa using h1, h2, h3⟩
    split at h
    · rename_i hc
      rcases List.mem_cons.1 h with rfl | h
      · exact ⟨0, x, rfl, hc, rfl⟩
      · exact rec' h
    · exact rec' h
theorem mem_selF {c : Nat → α → Bool} {f : Nat → α → β} : ∀ {l : List α} {k j : Nat} {x : α}, l[j]? = some x → c (k + j) x = true → f (k + j) x ∈ selF c f l k
  | [], _, _, _, h, _ => by simp at h
  | y :: l, k, 0, x, h, hc => by
    simp only [List.getElem?_cons_zero, Option.some.injEq] at h
    subst h
    simp only [selF, Nat.add_zero] at hc ⊢
    rw [if_pos hc]; exact List.mem_cons_self
  | y :: l, k, j + 1, x, h, hc => by
    have := mem_selF (c := c) (f := f) (l := l) (k := k + 1) (j := j) (x := x) (by simpa using h) (by rw [show k + 1 + j = k + (j + 1) by omega]; exact hc)
    rw [show k + 1 + j = k + (j + 1) by omega] at this
    simp only [selF]
    split
    · exact List.mem_cons_of_mem _ this
    · exact this
theorem selF_congr {c c' : Nat → α → Bool} {f f' : Nat → α → β} : ∀ {l : List α} {k : Nat}, (∀ j x, l[j]? = some x → c (k + j) x = c' (k + j) x ∧ f (k + j) x = f' (k + j) x) → selF c f l k = selF c' f' l k
  | [], _, _ => rfl
  | x :: l, k, h => by
    have h0 := h 0 x rfl
    simp only [Nat.add_zero] at h0
    have := selF_congr (c := c) (c' := c') (f := f) (f' := f') (l := l) (k := k + 1) fun j x' hx => by
      rw [show k + 1 + j = k + (j + 1) by omega]; exact h (j + 1) x' (by simpa using hx)
    simp only [selF, h0.1, h0.2, this]
theorem range_sel {body : Nat → α → List β → (List β → Option R) → Option R} {fin : List β → Option R} {l : List α} {init : List β} (c : Nat → α → Bool) (f : Nat → α → β)
    (hs : ∀ x k s next, l[k]? = some x → s.length ≤ init.length + k → body k x s next = next (if c k x = true then s ++ [f k x] else s)) : rangeF body fin l 0 init = fin (init ++ selF c f l 0) := by
  refine (range_mem (I := fun k s => s.length ≤ init.length + k) (G := fun l' k s => fin (s ++ selF c f l' k)) ?_ ?_ init (by omega))
  · intro k s _ _; simp [selF]
  · intro x l' k s next hx _ hI hn
    rw [hs x k s next hx hI]
    by_cases h : c k x = true
    · simp only [h, if_true, selF]
      rw [hn _ (by simp; omega)]; simp
    · simp only [h, Bool.false_eq_true, if_false, selF]
      exact hn _ (by omega)
/-- Is there an element? -/
def anyF (c : Nat → α → Bool) : List α → Nat → Bool
  | [], _ => false
  | x :: l, k => c k x || anyF c l (k + 1)
theorem anyF_iff {c : Nat → α → Bool} : ∀ {l : List α} {k : Nat}, anyF c l k = true ↔ ∃ j x, l[j]? = some x ∧ c (k + j) x = true
  | [], k => by simp [anyF]
  | x :: l, k => by
    simp only [anyF, Bool.or_eq_true, anyF_iff (l := l)]
    constructor
    · rintro (h | ⟨j, y, h1, h2⟩)
      · exact ⟨0, x, rfl, h⟩
      · exact ⟨j + 1, y, by simpa using h1, by rw [show k + (j + 1) = k + 1 + j by omega]; exact h2⟩
    · rintro ⟨j, y, h1, h2⟩
      cases j with
      | zero => simp only [List.getElem?_cons_zero, Option.some.injEq] at h1; subst h1; exact .inl h2
      | succ j => exact .inr ⟨j, y, by simpa using h1, by rw [show k + 1 + j = k + (j + 1) by omega]; exact h2⟩
theorem anyF_congr {c c' : Nat → α → Bool} : ∀ {l : List α} {k : Nat}, (∀ j x, l[j]? = some x → c (k + j) x = c' (k + j) x) → anyF c l k = anyF c' l k
  | [], _, _ => rfl
  | x :: l, k, h => by
    have h0 := h 0 x rfl
    simp only [Nat.add_zero] at h0
    have := anyF_congr (c := c) (c' := c') (l := l) (k := k + 1) fun j x' hx => by
      rw [show k + 1 + j = k + (j + 1) by omega]; exact h (j + 1) x' (by simpa using hx)
    simp only [anyF, h0, this]
theorem range_any {body : Nat → α → Unit → (Unit → Option R) → Option R} {fin : Unit → Option R} {l : List α} (c : Nat → α → Bool) (r : Option R)
    (hs : ∀ x k next, l[k]? = some x → body k x () next = (if c k x = true then r else next ())) : rangeF body fin l 0 () = (if anyF c l 0 = true then r else fin ()) := by
  refine (range_mem (I := fun _ _ => True) (G := fun l' k _ => if anyF c l' k = true then r else fin ()) ?_ ?_ () trivial)
  · intro k s _ _; simp [anyF]
  · intro x l' k s next hx _ _ hn
    rw [hs x k next hx]
    by_cases h : c k x = true
    · simp [h, anyF]
    · have h' : c k x = false := by simpa using h
      simp only [h', anyF, Bool.false_or, Bool.false_eq_true, if_false]; exact hn _ trivial
/-- A loop with all answers known: it adds up. -/
def foldF (f : Nat → α → σ → σ) : List α → Nat → σ → σ
  | [], _, s => s
  | x :: l, k, s => foldF f l (k + 1) (f k x s)
theorem range_fold {body : Nat → α → σ → (σ → Option R) → Option R} {fin : σ → Option R} {l : List α} {init : σ} (I : Nat → σ → Prop) (f : Nat → α → σ → σ) (h0 : I 0 init)
    (hI : ∀ x k s, l[k]? = some x → I k s → I (k + 1) (f k x s)) (hs : ∀ x k s next, l[k]? = some x → I k s → body k x s next = next (f k x s)) : rangeF body fin l 0 init = fin (foldF f l 0 init) := by
  refine (range_mem (I := I) (G := fun l' k s => fin (foldF f l' k s)) ?_ ?_ init h0)
  · intro k s _ _; rfl
  · intro x l' k s next hx _ hi hn
    rw [hs x k s next hx hi]
    exact hn _ (hI x k s hx hi)
theorem foldF_inv {f : Nat → α → σ → σ} (I : Nat → σ → Prop) : ∀ {l : List α} {k : Nat} {s : σ}, I k s → (∀ j x s, l[j]? = some x → I (k + j) s → I (k + j + 1) (f (k + j) x s)) → I (k + l.length) (foldF f l k s)
  | [], k, s, h, _ => h
  | x :: l, k, s, h, hs => by
    have := foldF_inv I (f := f) (l := l) (k := k + 1) (s := f k x s) (hs 0 x s rfl h) fun j y t hy ht => by
      have := hs (j + 1) y t (by simpa using hy) (by rw [show k + (j + 1) = k + 1 + j by omega]; exact ht)
      rw [show k + (j + 1) = k + 1 + j by omega] at this
      exact this
    simp only [foldF, List.length_cons]
    rw [show k + (l.length + 1) = k + 1 + l.length by omega]
    exact this
end
end AS

