/- Plain lemmas, and the law. No condition. -/
import Derived.Test.YtiohllblkcjafaaGreatQCubeOfTableS
set_option linter.unusedVariables false
set_option linter.unusedSimpArgs false
namespace AS
section
variable {R σ α β : Type}
theorem FUEL_big {n : Nat} (h : n ≤ 4611686018427387904) : n < FUEL := Nat.lt_of_le_of_lt h (by decide +kernel)
/-- A loop that counts. -/
theorem loop_up {body : (σ → Option R) → σ → Option R} (n : Nat) (S : Nat → σ) (G : Nat → Option R) (hn : n ≤ 4611686018427387904)
    (hs : ∀ next k, k < n → next (S (k + 1)) = G (k + 1) → body next (S k) = G k) (he : ∀ next, body next (S n) = G n) : loopF body FUEL (S 0) = G 0 := by
  have key : ∀ d k, k + d = n → ∀ m, d < m → loopF body m (S k) = G k := by
    intro d
    induction d with
    | zero => intro k hk m hm; obtain ⟨m, rfl⟩ := Nat.exists_eq_succ_of_ne_zero (by omega : m ≠ 0); simp only [loopF]; rw [show k = n by omega]; exact he _
    | succ d ih =>
      intro k hk m hm
      obtain ⟨m, rfl⟩ := Nat.exists_eq_succ_of_ne_zero (by omega : m ≠ 0)
      simp only [loopF]
      exact hs _ k (by omega) (ih (k + 1) (by omega) m (by omega))
  exact key n 0 (by omega) FUEL (FUEL_big hn)
/-- A range that only goes on. -/
theorem range_all {body : Nat → α → σ → (σ → Option R) → Option R} {fin : σ → Option R} {l : List α} {G : List α → Nat → σ → Option R}
    (h0 : ∀ k s, G [] k s = fin s) (hs : ∀ x l k s next, (∀ s', next s' = G l (k + 1) s') → body k x s next = G (x :: l) k s) : ∀ k s, rangeF body fin l k s = G l k s := by
  induction l with
  | nil => intro k s; simp only [rangeF, h0]
  | cons x l ih => intro k s; simp only [rangeF]; exact hs x l k s _ fun s' => ih (k + 1) s'
/-- A range with what is known of the elements. -/
theorem range_mem {body : Nat → α → σ → (σ → Option R) → Option R} {fin : σ → Option R} {l : List α} (I : Nat → σ → Prop) {G : List α → Nat → σ → Option R}
    (h0 : ∀ k s, I k s → k = l.length → fin s = G [] k s) (hs : ∀ x l' k s next, l[k]? = some x → l.drop k = x :: l' → I k s → (∀ s', I (k + 1) s' → next s' = G l' (k + 1) s') → body k x s next = G (x :: l') k s) :
    ∀ s, I 0 s → rangeF body fin l 0 s = G l 0 s := by
  have key : ∀ d k s, k + d = l.length → I k s → rangeF body fin (l.drop k) k s = G (l.drop k) k s := by
    intro d
    induction d with
    | zero =>
      intro k s hk hi
      rw [List.drop_of_length_le (by omega)]
      exact h0 k s hi (by omega)
    | succ d ih =>
      intro k s hk hi
      have hlt : k < l.length := by omega
      rw [List.drop_eq_getElem_cons hlt]
      simp only [rangeF]
      refine hs _ _ k s _ (List.getElem?_eq_getElem hlt) (List.drop_eq_getElem_cons hlt) hi fun s' hs' => ih (k + 1) s' (by omega) hs'
  intro s hi
  have := key l.length 0 s (by omega) hi
  simpa using this
theorem getO_some {l : List α} {k : Nat} {x : α} {f : α → Option R} (h : l[k]? = some x) : getO l (k : Int) f = f x := by simp [getO, h]
theorem ckI_succ {n : Nat} {f : Option R} (h : n ≤ 4611686018427387904) : ckI ((n : Int) + 1) f = f := ckI_pos (by omega) (by omega)
theorem lt_dec {k n : Nat} (h : k < n) : decide ((k : Int) < (n : Int)) = true := by simp [h]
theorem lt_self (n : Nat) : decide ((n : Int) < (n : Int)) = false := by simp
theorem cast_succ (k : Nat) : ((k + 1 : Nat) : Int) = (k : Int) + 1 := rfl
/-! ### One list into another, cell by cell -/
def mixL (a b : List α) (k : Nat) : List α := a.take k ++ b.drop k
theorem mixL_zero (a b : List α) : mixL a b 0 = b := by simp [mixL]
theorem mixL_end {a b : List α} (h : a.length = b.length) : mixL a b a.length = a := by simp [mixL, ← h]
theorem mixL_len {a b : List α} (h : a.length = b.length) (k : Nat) : (mixL a b k).length = b.length := by simp [mixL]; omega
theorem mixL_get {a b : List α} (h : a.length = b.length) {k : Nat} (hk : k < b.length) : (mixL a b k)[k]? = some b[k] := by
  simp only [mixL]
  rw [List.getElem?_append_right (by simp; omega)]
  simp [show min k a.length = k by omega, hk]
theorem mixL_set {a b : List α} (h : a.length = b.length) {k : Nat} (hk : k < a.length) : (mixL a b k).set k a[k] = mixL a b (k + 1) := by
  apply List.ext_getElem?
  intro i
  simp only [mixL]
  by_cases hi : i = k
  · subst hi
    rw [List.getElem?_set_self (by simp; omega), List.getElem?_append_left (by simp; omega), List.getElem?_take_of_lt (by omega)]
    rw [List.getElem?_eq_getElem (by omega)]
  · rw [List.getElem?_set_ne (Ne.symm hi)]
    simp only [List.getElem?_append, List.length_take, List.getElem?_take, List.getElem?_drop]
    by_cases h1 : i < k
    · simp [show i < min k a.length by omega, show i < min (k+1) a.length by omega, h1, show i < k + 1 by omega]
    · simp only [show ¬ i < min k a.length by omega, show ¬ i < min (k+1) a.length by omega, if_false]
      congr 1; omega
/-! ### The marks -/
def mks (n : Int) (m : Nat) : List Int := (List.range m).map fun (i : Nat) => n + (i : Int)
theorem mks_len (n : Int) (m : Nat) : (mks n m).length = m := by simp [mks]
theorem mks_get (n : Int) {m k : Nat} (h : k < m) : (mks n m)[k]'(by rw [mks_len]; exact h) = n + k := by simp [mks]
end
end AS
namespace AS
theorem toIntS_eq {l : List Int} (h : l.length ≤ 1048576) : sh_laws_toIntS l = some l := by
  unfold sh_laws_toIntS
  rw [mkO_pos (by omega) (by omega)]
  refine (loop_up l.length (fun k => (mixL l (List.replicate l.length 0) k, (k : Int))) (fun _ => some l) (by omega) ?_ ?_)
  · intro next k hk hn
    simp only [lt_dec hk, if_true]
    rw [getO_nat hk, getO_some (mixL_get (by simp) (by simpa using hk)), ckI_succ (by omega)]
    simp only [Int.toNat_natCast, mixL_set (b := List.replicate l.length 0) (by simp) hk]
    exact hn
  · intro next
    simp only [lt_self]
    simp [mixL_end (a := l) (b := List.replicate l.length 0) (by simp)]
theorem eqIntS_eq {a b : List Int} (h : a.length ≤ 1099511627776) : sh_laws_eqIntS a b = some (decide (a = b)) := by
  unfold sh_laws_eqIntS
  by_cases hl : a.length = b.length
  · simp only [hl, ne_eq, not_true_eq_false, decide_false, Bool.false_eq_true, if_false]
    refine (loop_up b.length (fun k => (k : Int)) (fun k => some (decide (a.drop k = b.drop k))) (by omega) ?_ ?_).trans (by simp)
    · intro next k hk hn
      have hk' : k < a.length := by omega
      simp only [lt_dec hk, if_true]
      rw [getO_nat hk', getO_nat hk, ckI_succ (by omega)]
      rw [List.drop_eq_getElem_cons hk', List.drop_eq_getElem_cons hk]
      by_cases e : a[k] = b[k]
      · simp only [e, not_true_eq_false, decide_false, Bool.false_eq_true, if_false, List.cons.injEq, true_and]
        exact hn
      · simp only [ne_eq, e, not_false_eq_true, decide_true, if_true, List.cons.injEq, false_and, decide_false]
    · intro next
      simp only [lt_self]
      simp [List.drop_of_length_le (Nat.le_refl _), List.drop_of_length_le (show a.length ≤ b.length by omega)]
  · have : ¬ (a = b) := fun e => hl (by rw [e])
    have h2 : ¬ ((a.length : Int) = (b.length : Int)) := by omega
    simp [this, h2]
theorem markIntS_eq {l : List Int} {n : Int} (h0 : 0 ≤ n) (h : n + l.length ≤ 4611686018427387904) : sh_laws_markIntS l n = some (mks n l.length, n + l.length) := by
  unfold sh_laws_markIntS
  have e0 : ((l, n, (0 : Int)) : List Int × Int × Int) = (fun k : Nat => (mixL (mks n l.length) l k, n + (k : Int), (k : Int))) 0 := by simp [mixL_zero]
  rw [e0]
  refine (loop_up l.length (fun k : Nat => (mixL (mks n l.length) l k, n + (k : Int), (k : Int))) (fun _ => some (mks n l.length, n + l.length)) (by omega) ?_ ?_)
  · intro next k hk hn
    have hm : k < (mks n l.length).length := by rw [mks_len]; exact hk
    simp only [mixL_len (mks_len n l.length), lt_dec hk, if_true]
    rw [getO_some (mixL_get (mks_len n l.length) hk), ckI_pos (by omega) (by omega), ckI_succ (by omega)]
    simp only [Int.toNat_natCast]
    rw [← mks_get n hk, mixL_set (mks_len n l.length) hm, ← hn, mks_get n hk]
    simp only [cast_succ, Int.add_assoc]
  · intro next
    simp only [mixL_len (mks_len n l.length), lt_self]
    have := mixL_end (mks_len n l.length)
    rw [mks_len] at this
    simp [this]
theorem heldIntS_eq {m : Nat} {n : Int} (h0 : 0 ≤ n) (h : n + m ≤ 4611686018427387904) : sh_laws_heldIntS (mks n m) n = some (n + m) := by
  unfold sh_laws_heldIntS
  have e0 : ((n, (0 : Int)) : Int × Int) = (fun k : Nat => (n + (k : Int), (k : Int))) 0 := by simp
  rw [e0]
  refine (loop_up m (fun k : Nat => (n + (k : Int), (k : Int))) (fun _ => some (n + m)) (by omega) ?_ ?_)
  · intro next k hk hn
    have hm : k < (mks n m).length := by rw [mks_len]; exact hk
    simp only [mks_len, lt_dec hk, if_true]
    rw [getO_nat hm, mks_get n hk, ckI_pos (by omega) (by omega), ckI_succ (by omega)]
    simp only [ne_eq, not_true_eq_false, decide_false, Bool.false_eq_true, if_false]
    rw [← hn]; simp only [cast_succ, Int.add_assoc]
  · intro next
    simp only [mks_len, lt_self]
    simp
theorem l1In_eq (x lo hi : Int) : sh_spec_l1In x lo hi = some (decide (lo ≤ x) && decide (x ≤ hi)) := by
  unfold sh_spec_l1In
  by_cases h : lo ≤ x <;> simp [h]
theorem l1All_eq (l : List Int) (lo hi : Int) : sh_spec_l1All l lo hi = some (l.all fun x => decide (lo ≤ x) && decide (x ≤ hi)) := by
  unfold sh_spec_l1All
  refine range_all (G := fun l _ _ => some (l.all fun x => decide (lo ≤ x) && decide (x ≤ hi))) (fun _ _ => rfl) ?_ 0 ()
  intro x l k s next ih
  simp only [l1In_eq, Option.bind_some, ih, List.all_cons]
  cases (decide (lo ≤ x) && decide (x ≤ hi)) <;> simp
theorem l1Own_eq {l : List Int} (h : l.length ≤ 1099511627776) : sh_spec_l1Own l = some l := by
  unfold sh_spec_l1Own
  rw [lnO_pos (by simpa using h)]; rfl
theorem Clone_eq {l : List Int} (h : l.length ≤ 1099511627776) : sh_slices_Clone_int l = some l := by
  unfold sh_slices_Clone_int
  cases l with
  | nil => rfl
  | cons x l => simp [nilO]; exact lnO_pos h
/-! ### AddCells -/
def smallL (l : List Int) : Bool := l.all fun x => decide (-1000000 ≤ x) && decide (x ≤ 1000000)
theorem smallL_get {l : List Int} (h : smallL l = true) {k : Nat} {x : Int} (hk : l[k]? = some x) : -1000000 ≤ x ∧ x ≤ 1000000 := by
  have := List.all_eq_true.1 h x (List.mem_of_getElem? hk)
  simpa using this
end AS
namespace AS
theorem loop_down {R σ : Type} {body : (σ → Option R) → σ → Option R} (n : Nat) (S : Nat → σ) (G : Nat → Option R) (hn : n ≤ 4611686018427387904)
    (hs : ∀ next k, k < n → next (S k) = G k → body next (S (k + 1)) = G (k + 1)) (he : ∀ next, body next (S 0) = G 0) : loopF body FUEL (S n) = G n := by
  have := loop_up (body := body) n (fun j => S (n - j)) (fun j => G (n - j)) hn (fun next k hk hx => by
    have e : n - k = (n - (k + 1)) + 1 := by omega
    rw [e]; exact hs next (n - (k + 1)) (by omega) hx) (fun next => by
    simp only [Nat.sub_self]; exact he next)
  simpa using this
theorem mixL_setD {α : Type} {a b : List α} (h : a.length = b.length) {k : Nat} (hk : k < b.length) : (mixL a b (k + 1)).set k b[k] = mixL a b k := by
  apply List.ext_getElem?
  intro i
  simp only [mixL]
  by_cases hi : i = k
  · subst hi
    rw [List.getElem?_set_self (by simp; omega), List.getElem?_append_right (by simp; omega)]
    simp [show min i a.length = i by omega, hk]
  · rw [List.getElem?_set_ne (Ne.symm hi)]
    simp only [List.getElem?_append, List.length_take, List.getElem?_take, List.getElem?_drop]
    by_cases h1 : i < k
    · simp [show i < min k a.length by omega, show i < min (k+1) a.length by omega, h1, show i < k + 1 by omega]
    · simp only [show ¬ i < min k a.length by omega, show ¬ i < min (k+1) a.length by omega, if_false]
      congr 1; omega
theorem mixL_getD {α : Type} {a b : List α} (h : a.length = b.length) {k : Nat} (hk : k < a.length) : (mixL a b (k + 1))[k]? = some a[k] := by
  simp only [mixL]
  rw [List.getElem?_append_left (by simp; omega), List.getElem?_take_of_lt (by omega), List.getElem?_eq_getElem hk]
theorem getO_int {R α : Type} {l : List α} {i : Int} {k : Nat} {x : α} {f : α → Option R} (hi : i = (k : Int)) (h : l[k]? = some x) : getO l i f = f x := by subst hi; exact getO_some h
def okS (x : Int) : Bool := decide (1 ≤ x) && decide (x ≤ 30)
def valid (s : List Int) : Prop := s.length ≤ 4 ∧ ∀ x ∈ s, 1 ≤ x ∧ x ≤ 30
def vol : List Int → Int
  | [] => 1
  | x :: l => (x + 1) * vol l
theorem valid.tail {x : Int} {s : List Int} (h : valid (x :: s)) : valid s := ⟨by have := h.1; simp at this; omega, fun y hy => h.2 y (by simp [hy])⟩
theorem valid.drop {s : List Int} (h : valid s) (k : Nat) : valid (s.drop k) := ⟨by have := h.1; simp; omega, fun y hy => h.2 y (List.mem_of_mem_drop hy)⟩
theorem valid.get {s : List Int} (h : valid s) {k : Nat} {x : Int} (hx : s[k]? = some x) : 1 ≤ x ∧ x ≤ 30 := h.2 x (List.mem_of_getElem? hx)
theorem vol_pow : ∀ {s : List Int}, (∀ x ∈ s, 1 ≤ x ∧ x ≤ 30) → 1 ≤ vol s ∧ vol s ≤ 31 ^ s.length
  | [], _ => by simp [vol]
  | x :: l, h => by
    obtain ⟨h1, h2⟩ := vol_pow (s := l) (fun y hy => h y (by simp [hy]))
    obtain ⟨h3, h4⟩ := h x (by simp)
    simp only [vol, List.length_cons, Int.pow_succ]
    have a1 : 1 * 1 ≤ (x + 1) * vol l := Int.mul_le_mul (by omega) h1 (by omega) (by omega)
    have a2 : (x + 1) * vol l ≤ 31 * 31 ^ l.length := Int.mul_le_mul (by omega) h2 (by omega) (by omega)
    exact ⟨by omega, by rw [Int.mul_comm (31 ^ l.length)]; exact a2⟩
theorem pow31 {k : Nat} (h : k ≤ 4) : (1 : Int) ≤ 31 ^ k ∧ (31 : Int) ^ k ≤ 923521 := by
  have : k = 0 ∨ k = 1 ∨ k = 2 ∨ k = 3 ∨ k = 4 := by omega
  rcases this with rfl | rfl | rfl | rfl | rfl <;> decide
theorem vol_bd {s : List Int} (h : valid s) : 1 ≤ vol s ∧ vol s ≤ 923521 := by
  have h1 := vol_pow h.2
  have h2 := pow31 h.1
  omega
theorem vol_drop {s : List Int} {k : Nat} (hk : k < s.length) : vol (s.drop k) = (s[k] + 1) * vol (s.drop (k + 1)) := by
  rw [List.drop_eq_getElem_cons hk]; rfl
/-! ### How many cells -/
def cntB (s : List Int) : Int := if s.length ≤ 4 ∧ (s.all okS) = true then (if 2000 < vol s then 0 else vol s) else 0
theorem okS_iff {s : List Int} : s.all okS = true ↔ ∀ x ∈ s, 1 ≤ x ∧ x ≤ 30 := by
  simp [okS, List.all_eq_true]
theorem mul_bd {a x : Int} {k : Nat} (hk : k ≤ 3) (h1 : 1 ≤ a) (h2 : a ≤ 31 ^ k) (h3 : 1 ≤ x) (h4 : x ≤ 30) : 1 ≤ a * (x + 1) ∧ a * (x + 1) ≤ 31 ^ (k + 1) := by
  have a1 : 1 * 1 ≤ a * (x + 1) := Int.mul_le_mul h1 (by omega) (by omega) (by omega)
  have a2 : a * (x + 1) ≤ 31 ^ k * 31 := Int.mul_le_mul h2 (by omega) (by omega) (by omega)
  exact ⟨by omega, by rw [Int.pow_succ]; exact a2⟩
theorem cbCount_eq (s : List Int) : sh_spec_cbCount s = some (cntB s) := by
  unfold sh_spec_cbCount
  by_cases h1 : s.length ≤ 4
  · simp only [l1All_eq, Option.bind_some]
    have e : (s.all fun x => decide (1 ≤ x) && decide (x ≤ 30)) = s.all okS := rfl
    rw [e]
    cases h2 : s.all okS with
    | false => simp [cntB, h2, show ¬ ((4 : Int) < (s.length : Int)) by omega]
    | true =>
      simp only [show ¬ ((4 : Int) < (s.length : Int)) by omega, decide_false, Bool.false_eq_true, if_false, Bool.not_true]
      have hv := okS_iff.1 h2
      refine (range_mem (I := fun k a => 1 ≤ a ∧ a ≤ 31 ^ k ∧ k ≤ s.length) (G := fun l _ a => some (if 2000 < a * vol l then 0 else a * vol l)) ?_ ?_ 1 ⟨by omega, by simp, by omega⟩).trans ?_
      · intro k a _ hk
        simp only [vol, Int.mul_one]
        by_cases h : 2000 < a <;> simp [h]
      · intro x l' k a next hx hd hi hn
        have hxx := hv x (List.mem_of_getElem? hx)
        have hk := (List.getElem?_eq_some_iff.1 hx).1
        have hb := mul_bd (show k ≤ 3 by omega) hi.1 hi.2.1 hxx.1 hxx.2
        have hp := pow31 (show k + 1 ≤ 4 by omega)
        rw [ckI_pos (by omega) (by omega), ckI_pos (by omega) (by omega), hn _ ⟨hb.1, hb.2, by omega⟩]
        rw [show a * vol (x :: l') = a * (x + 1) * vol l' by simp only [vol, Int.mul_assoc]]
      · simp [cntB, h1, h2]
  · simp [cntB, show ((4 : Int) < (s.length : Int)) by omega, h1]
theorem cubeCells_eq (s : List Int) : sh_impl_cubeCells s = some (cntB s) := by
  unfold sh_impl_cubeCells
  by_cases h1 : s.length ≤ 4
  · simp only [show ¬ ((4 : Int) < (s.length : Int)) by omega, decide_false, Bool.false_eq_true, if_false]
    refine (range_mem (I := fun k a => 1 ≤ a ∧ a ≤ 31 ^ k ∧ k ≤ s.length) (G := fun l _ a => some (if l.all okS = true then (if 2000 < a * vol l then 0 else a * vol l) else 0)) ?_ ?_ 1 ⟨by omega, by simp, by omega⟩).trans ?_
    · intro k a _ hk
      simp only [vol, Int.mul_one, List.all_nil, if_true]
      by_cases h : 2000 < a <;> simp [h]
    · intro x l' k a next hx hd hi hn
      have hk := (List.getElem?_eq_some_iff.1 hx).1
      by_cases h2 : x < 1
      · simp [h2, okS, show ¬ (1 ≤ x) by omega]
      · by_cases h3 : 30 < x
        · simp [h2, h3, okS, show ¬ (x ≤ 30) by omega]
        · have hb := mul_bd (show k ≤ 3 by omega) hi.1 hi.2.1 (show 1 ≤ x by omega) (show x ≤ 30 by omega)
          have hp := pow31 (show k + 1 ≤ 4 by omega)
          have ho : okS x = true := by simp [okS]; omega
          simp only [h2, h3, decide_false, Bool.false_eq_true, if_false]
          rw [ckI_pos (by omega) (by omega), ckI_pos (by omega) (by omega), hn _ ⟨hb.1, hb.2, by omega⟩]
          rw [show a * vol (x :: l') = a * (x + 1) * vol l' by simp only [vol, Int.mul_assoc], List.all_cons, ho, Bool.true_and]
    · simp [cntB, h1]
  · simp [cntB, show ((4 : Int) < (s.length : Int)) by omega, h1]
theorem cntB_pos {s : List Int} (h : 0 < cntB s) : valid s ∧ cntB s = vol s ∧ vol s ≤ 2000 := by
  unfold cntB at h ⊢
  split at h
  · rename_i hv
    split at h
    · omega
    · rename_i h2
      refine ⟨⟨hv.1, okS_iff.1 hv.2⟩, ?_, by omega⟩
      rw [if_pos hv, if_neg h2]
  · omega
theorem cntB_nonneg (s : List Int) : 0 ≤ cntB s ∧ cntB s ≤ 2000 := by
  unfold cntB
  split
  · rename_i hv
    have := vol_bd (s := s) ⟨hv.1, okS_iff.1 hv.2⟩
    split <;> omega
  · omega
/-! ### Strides -/
def strL : List Int → List Int
  | [] => []
  | _ :: l => vol l :: strL l
theorem strL_len : ∀ s : List Int, (strL s).length = s.length
  | [] => rfl
  | _ :: l => by simp [strL, strL_len l]
theorem strL_get : ∀ (s : List Int) (k : Nat) (h : k < s.length), (strL s)[k]'(by rw [strL_len]; exact h) = vol (s.drop (k + 1))
  | x :: l, 0, _ => rfl
  | x :: l, k + 1, h => by
    simp only [strL, List.getElem_cons_succ, List.drop_succ_cons]
    exact strL_get l k (by simpa using h)
theorem strides_eq {s : List Int} (h : valid s) : sh_impl_strides s = some (strL s) := by
  unfold sh_impl_strides
  have hl := h.1
  rw [mkO_pos (by omega) (by omega), ckI_pos (by omega) (by omega)]
  have hz : (List.replicate s.length (0 : Int)).length = (strL s).length := by simp [strL_len]
  have e0 : ((List.replicate ((s.length : Int)).toNat (0 : Int), (1 : Int), ((s.length : Int) - (1 : Int))) : List Int × Int × Int) = (fun k : Nat => (mixL (List.replicate s.length (0 : Int)) (strL s) k, vol (s.drop k), (k : Int) - 1)) s.length := by
    have := mixL_end hz
    simp only [List.length_replicate] at this
    simp [this, vol]
  rw [e0]
  refine (loop_down s.length (fun k : Nat => (mixL (List.replicate s.length (0 : Int)) (strL s) k, vol (s.drop k), (k : Int) - 1)) (fun _ => some (strL s)) (by omega) ?_ ?_)
  · intro next k hk hn
    have hk2 : k < (strL s).length := by rw [strL_len]; exact hk
    have hb := vol_bd (h.drop (k + 1))
    have hb2 := vol_bd (h.drop k)
    have hx := h.get (List.getElem?_eq_getElem hk)
    have hvd := vol_drop hk
    simp only [show ((k + 1 : Nat) : Int) - 1 = (k : Int) by omega, show (0 : Int) ≤ (k : Int) by omega, decide_true, if_true]
    rw [getO_some (mixL_getD hz (by simpa using hk)), getO_nat hk, ckI_pos (by omega) (by omega)]
    rw [Int.mul_comm, ← hvd, ckI_pos (by omega) (by omega), ckI_pos (by omega) (by omega), Int.toNat_natCast, ← strL_get s k hk, mixL_setD hz hk2]
    exact hn
  · intro next
    simp [mixL_zero]
/-! ### Indices -/
def idxL : List Int → Int → List Int
  | [], _ => []
  | x :: l, i => (i / vol l) % (x + 1) :: idxL l i
theorem idxL_len : ∀ (s : List Int) (i : Int), (idxL s i).length = s.length
  | [], _ => rfl
  | _ :: l, i => by simp [idxL, idxL_len l]
theorem idxL_get : ∀ (s : List Int) (i : Int) (k : Nat) (h : k < s.length), (idxL s i)[k]'(by rw [idxL_len]; exact h) = (i / vol (s.drop (k + 1))) % (s[k] + 1)
  | x :: l, _, 0, _ => rfl
  | x :: l, i, k + 1, h => by
    simp only [idxL, List.getElem_cons_succ, List.drop_succ_cons]
    exact idxL_get l i k (by simpa using h)
theorem div_le_self {i a : Int} (h : 0 ≤ i) (ha : 1 ≤ a) : 0 ≤ i / a ∧ i / a ≤ i := ⟨Int.ediv_nonneg h (by omega), Int.ediv_le_self a h⟩
theorem cbIndices_eq {s : List Int} {i : Int} (h : valid s) (h0 : 0 ≤ i) (h1 : i ≤ 4611686018427387904) : sh_spec_cbIndices s i = some (idxL s i) := by
  unfold sh_spec_cbIndices
  have hl := h.1
  rw [mkO_pos (by omega) (by omega), ckI_pos (by omega) (by omega)]
  have hz : (List.replicate s.length (0 : Int)).length = (idxL s i).length := by simp [idxL_len]
  have e0 : ((i, List.replicate ((s.length : Int)).toNat (0 : Int), ((s.length : Int) - (1 : Int))) : Int × List Int × Int) = (fun k : Nat => (i / vol (s.drop k), mixL (List.replicate s.length (0 : Int)) (idxL s i) k, (k : Int) - 1)) s.length := by
    have := mixL_end hz
    simp only [List.length_replicate] at this
    simp [this, vol]
  rw [e0]
  refine (loop_down s.length (fun k : Nat => (i / vol (s.drop k), mixL (List.replicate s.length (0 : Int)) (idxL s i) k, (k : Int) - 1)) (fun _ => some (idxL s i)) (by omega) ?_ ?_)
  · intro next k hk hn
    have hk2 : k < (idxL s i).length := by rw [idxL_len]; exact hk
    have hb := vol_bd (h.drop (k + 1))
    have hx := h.get (List.getElem?_eq_getElem hk)
    have hvd := vol_drop hk
    have hd := div_le_self h0 hb.1
    have hd2 := div_le_self (a := s[k] + 1) hd.1 (by omega)
    have hdd : i / vol (s.drop (k + 1)) / (s[k] + 1) = i / vol (s.drop k) := by rw [hvd, Int.mul_comm, Int.ediv_ediv, if_neg (fun h => by omega), Int.sub_zero]
    simp only [show ((k + 1 : Nat) : Int) - 1 = (k : Int) by omega, show (0 : Int) ≤ (k : Int) by omega, decide_true, if_true]
    rw [getO_nat hk, ckI_pos (by omega) (by omega), ck_pos (by omega), getO_some (mixL_getD hz (by simpa using hk)), ckI_pos (by omega) (by omega), ck_pos (by omega)]
    rw [Int.tdiv_eq_ediv_of_nonneg hd.1, Int.tmod_eq_emod_of_nonneg hd.1, ckI_pos (by omega) (by omega), ckI_pos (by omega) (by omega), Int.toNat_natCast, hdd, ← idxL_get s i k hk, mixL_setD hz hk2]
    exact hn
  · intro next
    simp [mixL_zero]
theorem mod_div {i a b : Int} (hi : 0 ≤ i) (ha : 0 < a) (hb : 0 < b) : i % (a * b) / b = i / b % a := by
  obtain ⟨i, rfl⟩ := Int.eq_ofNat_of_zero_le hi
  obtain ⟨a, rfl⟩ := Int.eq_ofNat_of_zero_le (by omega : 0 ≤ a)
  obtain ⟨b, rfl⟩ := Int.eq_ofNat_of_zero_le (by omega : 0 ≤ b)
  have := Nat.mod_mul_left_div_self i b a
  exact_mod_cast this
theorem indexOf_eq {s : List Int} {i : Int} (h : valid s) (h0 : 0 ≤ i) (h1 : i < vol s) : sh_impl_indexOf s i = some (idxL s i) := by
  unfold sh_impl_indexOf
  have hl := h.1
  have hvs := vol_bd h
  rw [mkO_pos (by omega) (by omega), strides_eq h, Option.bind_some]
  have hz : (idxL s i).length = (List.replicate s.length (0 : Int)).length := by simp [idxL_len]
  refine (range_mem (I := fun k st => st = (i % vol (s.drop k), mixL (idxL s i) (List.replicate s.length (0 : Int)) k)) (G := fun _ _ _ => some (idxL s i)) ?_ ?_ _ ?_)
  · intro k st hs hk
    subst hs
    have := mixL_end hz
    simp only [strL_len] at hk
    rw [idxL_len] at this
    simp [hk, this]
  · intro x l' k st next hx _ hs hn
    subst hs
    have hk : k < s.length := by have := (List.getElem?_eq_some_iff.1 hx).1; rwa [strL_len] at this
    have hxe : x = vol (s.drop (k + 1)) := by
      have := (List.getElem?_eq_some_iff.1 hx).2
      rw [← this]; exact strL_get s k hk
    subst hxe
    have hb := vol_bd (h.drop (k + 1))
    have hb2 := vol_bd (h.drop k)
    have hxx := h.get (List.getElem?_eq_getElem hk)
    have hvd := vol_drop hk
    have hm0 : 0 ≤ i % vol (s.drop k) := Int.emod_nonneg _ (by omega)
    have hm1 : i % vol (s.drop k) < vol (s.drop k) := Int.emod_lt_of_pos _ (by omega)
    have hd := div_le_self hm0 hb.1
    rw [ck_pos (by omega), Int.tdiv_eq_ediv_of_nonneg hm0, ckI_pos (by omega) (by omega), getO_some (mixL_get hz (by simpa using hk)), ck_pos (by omega), Int.tmod_eq_emod_of_nonneg hm0]
    refine hn _ ?_
    have e1 : i % vol (s.drop k) / vol (s.drop (k + 1)) = (idxL s i)[k]'(by rw [idxL_len]; exact hk) := by
      rw [hvd, mod_div h0 (by omega) (by omega), idxL_get s i k hk]
    have e2 : i % vol (s.drop k) % vol (s.drop (k + 1)) = i % vol (s.drop (k + 1)) := by
      rw [hvd]; exact Int.emod_emod_of_dvd _ (Int.dvd_mul_left _ _)
    rw [e1, e2, Int.toNat_natCast, mixL_set hz (by rw [idxL_len]; exact hk)]
  · simp only [List.drop_zero, mixL_zero, Int.toNat_natCast]
    rw [Int.emod_eq_of_lt h0 h1]
/-! ### Cells -/
def atL : List Int → List Int → Int
  | _ :: l, a :: as => a * vol l + atL l as
  | _, _ => 0
/-- Indices that fit sizes. -/
def fits (s ix : List Int) : Prop := ix.length = s.length ∧ ∀ (k : Nat) (x y : Int), s[k]? = some x → ix[k]? = some y → 0 ≤ y ∧ y ≤ x
theorem cbAt_eq {s ix : List Int} (h : valid s) (hf : fits s ix) : sh_spec_cbAt s ix = some (atL s ix) := by
  unfold sh_spec_cbAt
  have hl := h.1
  refine (range_mem (I := fun k a => 0 ≤ a ∧ a < 31 ^ k) (G := fun l k a => some (a * vol l + atL l (ix.drop k))) ?_ ?_ 0 ⟨by omega, by simp⟩).trans (by simp)
  · intro k a _ _
    simp [vol, atL]
  · intro x l' k a next hx hd hi hn
    have hk := (List.getElem?_eq_some_iff.1 hx).1
    have hki : k < ix.length := by rw [hf.1]; exact hk
    have hxx := h.get hx
    have hy := hf.2 k x ix[k] hx (List.getElem?_eq_getElem hki)
    have hp := pow31 (show k + 1 ≤ 4 by omega)
    have hm0 : 0 ≤ a * (x + 1) := Int.mul_nonneg hi.1 (by omega)
    have hm1 : a * (x + 1) ≤ (31 ^ k - 1) * 31 := Int.mul_le_mul (by omega) (by omega) (by omega) (by have := pow31 (show k ≤ 4 by omega); omega)
    have hm2 : (31 : Int) ^ (k + 1) = 31 ^ k * 31 := Int.pow_succ ..
    rw [ckI_pos (by omega) (by omega), ckI_pos (by omega) (by omega), getO_nat hki, ckI_pos (by omega) (by omega), hn _ ⟨by omega, by omega⟩]
    rw [List.drop_eq_getElem_cons hki]
    simp only [vol, atL, Option.some.injEq]
    rw [Int.add_mul, Int.mul_assoc, Int.add_assoc]
theorem idxL_fits {s : List Int} {i : Int} (h : valid s) (h0 : 0 ≤ i) : fits s (idxL s i) := by
  refine ⟨idxL_len s i, fun k x y hx hy => ?_⟩
  obtain ⟨hk, rfl⟩ := List.getElem?_eq_some_iff.1 hx
  obtain ⟨hk2, rfl⟩ := List.getElem?_eq_some_iff.1 hy
  rw [idxL_get s i k hk]
  have hxx := h.get hx
  have h1 := Int.emod_nonneg (i / vol (s.drop (k + 1))) (show s[k] + 1 ≠ 0 by omega)
  have h2 := Int.emod_lt_of_pos (i / vol (s.drop (k + 1))) (show 0 < s[k] + 1 by omega)
  omega
theorem atL_idxL : ∀ {s : List Int} {i : Int}, (∀ x ∈ s, 1 ≤ x ∧ x ≤ 30) → 0 ≤ i → atL s (idxL s i) = i % vol s
  | [], i, _, _ => by simp [atL, vol]
  | x :: l, i, h, h0 => by
    have hl := vol_pow (s := l) (fun y hy => h y (by simp [hy]))
    have hx := h x (by simp)
    simp only [idxL, atL, vol]
    rw [atL_idxL (fun y hy => h y (by simp [hy])) h0, ← mod_div h0 (by omega) (by omega)]
    have e : i % ((x + 1) * vol l) % vol l = i % vol l := Int.emod_emod_of_dvd _ (Int.dvd_mul_left _ _)
    have := Int.ediv_mul_add_emod (i % ((x + 1) * vol l)) (vol l)
    omega
theorem atL_set : ∀ {s ix : List Int} {d : Nat} {y : Int}, ix.length = s.length → ∀ (hd : d < s.length) (hd2 : d < ix.length), atL s (ix.set d y) = atL s ix + (y - ix[d]) * vol (s.drop (d + 1))
  | x :: l, a :: as, 0, y, _, _, _ => by
    simp only [List.set_cons_zero, atL, List.getElem_cons_zero, Int.sub_mul, List.drop_succ_cons, List.drop_zero]; omega
  | x :: l, a :: as, d + 1, y, h, hd, hd2 => by
    simp only [List.set_cons_succ, atL, List.getElem_cons_succ, List.drop_succ_cons]
    rw [atL_set (by simpa using h) (by simpa using hd) (by simpa using hd2), Int.add_assoc]
theorem atL_bd : ∀ {s ix : List Int}, (∀ x ∈ s, 1 ≤ x ∧ x ≤ 30) → fits s ix → 0 ≤ atL s ix ∧ atL s ix < vol s
  | [], ix, _, _ => by simp [atL, vol]
  | x :: l, [], _, hf => by have := hf.1; simp at this
  | x :: l, a :: as, h, hf => by
    have hl := vol_pow (s := l) (fun y hy => h y (by simp [hy]))
    have h1 := atL_bd (s := l) (ix := as) (fun y hy => h y (by simp [hy])) ⟨by have := hf.1; simpa using this, fun k x y hx hy => hf.2 (k + 1) x y (by simpa using hx) (by simpa using hy)⟩
    have h2 := hf.2 0 x a rfl rfl
    simp only [atL, vol]
    have h3 : 0 ≤ a * vol l := Int.mul_nonneg h2.1 (by omega)
    have h4 : a * vol l ≤ x * vol l := Int.mul_le_mul_of_nonneg_right h2.2 (by omega)
    have h5 : (x + 1) * vol l = x * vol l + vol l := by rw [Int.add_mul]; omega
    omega
theorem fits.set {s ix : List Int} (h : fits s ix) {d : Nat} {x y : Int} (hx : s[d]? = some x) (h0 : 0 ≤ y) (h1 : y ≤ x) : fits s (ix.set d y) := by
  refine ⟨by rw [List.length_set]; exact h.1, fun k x' y' hx' hy' => ?_⟩
  by_cases e : d = k
  · subst e
    rw [hx] at hx'; cases hx'
    have hk : d < ix.length := by rw [h.1]; exact (List.getElem?_eq_some_iff.1 hx).1
    rw [List.getElem?_set_self hk] at hy'; cases hy'
    exact ⟨h0, h1⟩
  · rw [List.getElem?_set_ne e] at hy'
    exact h.2 k x' y' hx' hy'
end AS
namespace AS
section
variable {α : Type}
theorem to_loop {f : α → Option α} {z : α} {l : List α} (hl : l.length ≤ 1099511627776) (hf : ∀ x ∈ l, f x = some x) :
    mkO (l.length : Int) (loopF (fun (nx : (List α × Int) → Option (List α)) (s : List α × Int) =>
      (if (decide (s.2 < (l.length : Int))) = true then
        getO l s.2 fun x => (f x).bind fun y => getO s.1 s.2 fun _ => ckI (s.2 + (1 : Int)) <| nx ((s.1.set (s.2).toNat y), (s.2 + (1 : Int)))
      else some s.1)) FUEL ((List.replicate ((l.length : Int)).toNat z), (0 : Int))) = some l := by
  rw [mkO_pos (by omega) (by omega)]
  refine (loop_up l.length (fun k => (mixL l (List.replicate l.length z) k, (k : Int))) (fun _ => some l) (by omega) ?_ ?_)
  · intro next k hk hn
    simp only [lt_dec hk, if_true]
    rw [getO_nat hk, hf _ (List.getElem_mem hk), Option.bind_some, getO_some (mixL_get (by simp) (by simpa using hk)), ckI_succ (by omega)]
    simp only [Int.toNat_natCast, mixL_set (b := List.replicate l.length z) (by simp) hk]
    exact hn
  · intro next
    simp only [lt_self]
    simp [mixL_end (a := l) (b := List.replicate l.length z) (by simp)]
theorem eq_loop [DecidableEq α] {f : α → α → Option Bool} {a b : List α} (h : a.length ≤ 1099511627776) (hf : ∀ x ∈ a, ∀ y, f x y = some (decide (x = y))) :
    (if (decide ((a.length : Int) ≠ (b.length : Int))) = true then some false else
      loopF (fun (nx : Int → Option Bool) (s : Int) =>
        (if (decide (s < (a.length : Int))) = true then
          getO a s fun x => getO b s fun y => (f x y).bind fun r => (if (!r) = true then some false else ckI (s + (1 : Int)) <| nx (s + (1 : Int)))
        else some true)) FUEL (0 : Int)) = some (decide (a = b)) := by
  by_cases hl : a.length = b.length
  · simp only [hl, ne_eq, not_true_eq_false, decide_false, Bool.false_eq_true, if_false]
    refine (loop_up b.length (fun k => (k : Int)) (fun k => some (decide (a.drop k = b.drop k))) (by omega) ?_ ?_).trans (by simp)
    · intro next k hk hn
      have hk' : k < a.length := by omega
      simp only [lt_dec hk, if_true]
      rw [getO_nat hk', getO_nat hk, ckI_succ (by omega), hf _ (List.getElem_mem hk'), Option.bind_some]
      rw [List.drop_eq_getElem_cons hk', List.drop_eq_getElem_cons hk]
      by_cases e : a[k] = b[k]
      · simp only [e, decide_true, Bool.not_true, Bool.false_eq_true, if_false, List.cons.injEq, true_and]
        exact hn
      · simp only [e, decide_false, Bool.not_false, if_true, List.cons.injEq, false_and]
    · intro next
      simp only [lt_self]
      simp [List.drop_of_length_le (Nat.le_refl _), List.drop_of_length_le (show a.length ≤ b.length by omega)]
  · have : ¬ (a = b) := fun e => hl (by rw [e])
    have h2 : ¬ ((a.length : Int) = (b.length : Int)) := by omega
    simp [this, h2]
/-- The sum of a measure. -/
def sumL (sz : α → Nat) (l : List α) : Nat := (l.map sz).sum
theorem sumL_cons (sz : α → Nat) (x : α) (l : List α) : sumL sz (x :: l) = sz x + sumL sz l := by simp [sumL]
theorem sumL_take (sz : α → Nat) {l : List α} {k : Nat} (h : k < l.length) : sumL sz (l.take (k + 1)) = sumL sz (l.take k) + sz l[k] := by
  simp only [sumL, List.take_add_one, List.map_append, List.sum_append, List.getElem?_eq_getElem h, Option.toList, List.map_cons, List.map_nil, List.sum_cons, List.sum_nil, Nat.add_zero]
theorem sumL_take_le (sz : α → Nat) (l : List α) (k : Nat) : sumL sz (l.take k) ≤ sumL sz l := by
  have h := congrArg (fun l => (l.map sz).sum) (List.take_append_drop k l)
  simp only [List.map_append, List.sum_append] at h
  simp only [sumL]; omega
theorem sumL_mem (sz : α → Nat) {l : List α} {x : α} (h : x ∈ l) : sz x ≤ sumL sz l := by
  induction l with
  | nil => cases h
  | cons y l ih =>
    rw [sumL_cons]
    rcases List.mem_cons.1 h with rfl | h
    · omega
    · have := ih h; omega
/-- The marks on a list, element by element. -/
def mkL (mk : α → Int → α) (sz : α → Nat) : List α → Int → List α
  | [], _ => []
  | x :: l, n => mk x n :: mkL mk sz l (n + sz x)
theorem mkL_len (mk : α → Int → α) (sz : α → Nat) : ∀ (l : List α) (n : Int), (mkL mk sz l n).length = l.length
  | [], _ => rfl
  | x :: l, n => by simp [mkL, mkL_len mk sz l]
theorem mkL_get (mk : α → Int → α) (sz : α → Nat) : ∀ (l : List α) (n : Int) (k : Nat) (h : k < l.length), (mkL mk sz l n)[k]'(by rw [mkL_len]; exact h) = mk l[k] (n + (sumL sz (l.take k) : Nat))
  | x :: l, n, 0, _ => by simp [mkL, sumL]
  | x :: l, n, k + 1, h => by
    simp only [mkL, List.getElem_cons_succ, List.take_succ_cons, sumL_cons]
    rw [mkL_get mk sz l (n + sz x) k (by simpa using h)]
    congr 1
    omega
/-- What is left of an allowance. -/
def left (a : Int) (n : Nat) : Int := if (n : Int) ≤ a then a - n else -1
theorem left_pos {a : Int} {n : Nat} (h : (n : Int) ≤ a) : left a n = a - n := if_pos h
theorem sz_loop {sz : α → Nat} {f : α → Int → Option Int} {l : List α} {a : Int} (h0 : 0 ≤ a) (h1 : a ≤ 1048576) (hl : l.length ≤ 9223372036854775807)
    (hf : ∀ x ∈ l, ∀ m : Int, 0 ≤ m → m ≤ 1048576 → f x m = some (left m (sz x))) :
    (ckI (a - (l.length : Int)) <| (if (decide ((a - (l.length : Int)) < (0 : Int))) = true then some (-1 : Int) else
      loopF (fun (nx : (Int × Int) → Option Int) (s : Int × Int) =>
        (if (decide (s.2 < (l.length : Int))) = true then
          getO l s.2 fun x => (f x s.1).bind fun r => (if (decide (r < (0 : Int))) = true then some (-1 : Int) else ckI (s.2 + (1 : Int)) <| nx (r, (s.2 + (1 : Int))))
        else some s.1)) FUEL ((a - (l.length : Int)), (0 : Int)))) = some (left a (l.length + sumL sz l)) := by
  · rw [ckI_pos (by omega) (by omega)]
    by_cases hn : a - (l.length : Int) < 0
    · simp only [hn, decide_true, if_true, left, show ¬ (((l.length + sumL sz l : Nat) : Int) ≤ a) by omega, if_false]
    · have hbig : l.length ≤ 4611686018427387904 := by omega
      simp only [hn, decide_false, Bool.false_eq_true, if_false]
      -- the first element too large decides
      have key : ∀ d k, k + d = l.length → ∀ m, d < m → ((l.length + sumL sz (l.take k) : Nat) : Int) ≤ a →
          loopF (fun (nx : (Int × Int) → Option Int) (s : Int × Int) =>
            (if (decide (s.2 < (l.length : Int))) = true then
              getO l s.2 fun x => (f x s.1).bind fun r => (if (decide (r < (0 : Int))) = true then some (-1 : Int) else ckI (s.2 + (1 : Int)) <| nx (r, (s.2 + (1 : Int))))
            else some s.1)) m ((a - (l.length : Int) - (sumL sz (l.take k) : Nat)), (k : Int)) = some (AS.left a (l.length + sumL sz l)) := by
        intro d
        induction d with
        | zero =>
          intro k hk m hm hle
          obtain ⟨m, rfl⟩ := Nat.exists_eq_succ_of_ne_zero (by omega : m ≠ 0)
          have e : k = l.length := by omega
          subst e
          simp only [loopF, lt_self, Bool.false_eq_true, if_false, List.take_length] at hle ⊢
          rw [left_pos hle]
          congr 1; omega
        | succ d ih =>
          intro k hk m hm hle
          obtain ⟨m, rfl⟩ := Nat.exists_eq_succ_of_ne_zero (by omega : m ≠ 0)
          have hlt : k < l.length := by omega
          simp only [loopF, lt_dec hlt, if_true]
          rw [getO_nat hlt, hf _ (List.getElem_mem hlt) _ (by omega) (by omega), Option.bind_some]
          by_cases hs : ((sz l[k] : Nat) : Int) ≤ a - (l.length : Int) - (sumL sz (l.take k) : Nat)
          · rw [left_pos hs, ckI_succ (by omega)]
            simp only [show ¬ (a - (l.length : Int) - (sumL sz (l.take k) : Nat) - (sz l[k] : Nat) < 0) by omega, decide_false, Bool.false_eq_true, if_false]
            have := ih (k + 1) (by omega) m (by omega) (by rw [sumL_take sz hlt]; omega)
            rw [sumL_take sz hlt] at this
            rw [← this]
            congr 2
            omega
          · have h2 : AS.left (a - (l.length : Int) - (sumL sz (l.take k) : Nat)) (sz l[k]) = -1 := if_neg hs
            rw [h2]
            have h3 := sumL_take_le sz l (k + 1)
            rw [sumL_take sz hlt] at h3
            simp only [show ((-1 : Int) < 0) = True by simp, decide_true, if_true, AS.left, show ¬ (((l.length + sumL sz l : Nat) : Int) ≤ a) by omega, if_false]
      have := key l.length 0 (by omega) FUEL (FUEL_big hbig) (by simp [sumL]; omega)
      simpa [sumL] using this
end
end AS
namespace AS
/-- The cells that a total is the sum of. -/
def partF (s : List Int) (i : Int) (d : Nat) (x : Int) (k : Nat) : Int := i - (x - k) * vol (s.drop (d + 1))
def partL (s : List Int) (i : Int) (d : Nat) (x : Int) : List Int := (List.range x.toNat).map (partF s i d x)
theorem partL_len (s : List Int) (i : Int) (d : Nat) (x : Int) : (partL s i d x).length = x.toNat := by simp [partL]
theorem range_map_succ {α : Type} (f : Nat → α) (k : Nat) : (List.range (k + 1)).map f = (List.range k).map f ++ [f k] := by
  rw [List.range_succ, List.map_append]; rfl
def idxAt (ix : List Int) (d : Nat) : Nat → List Int
  | 0 => ix
  | k + 1 => ix.set d (k : Int)
theorem cbParts_eq {s : List Int} {i : Int} {d : Nat} {x : Int} (h : valid s) (h0 : 0 ≤ i) (h1 : i < vol s) (hd : s[d]? = some x) (hx : (idxL s i)[d]? = some x) : sh_spec_cbParts s i (d : Int) = some (partL s i d x) := by
  unfold sh_spec_cbParts
  have hv := vol_bd h
  have hb := h.get hd
  have hdl := (List.getElem?_eq_some_iff.1 hd).1
  have hil : (idxL s i).length = s.length := idxL_len s i
  rw [cbIndices_eq h h0 (by omega), Option.bind_some]
  have hfit := idxL_fits h h0
  have e0 : ((idxL s i, ([] : List Int), (0 : Int)) : List Int × List Int × Int) = (fun k : Nat => (idxAt (idxL s i) d k, (List.range k).map (partF s i d x), (k : Int))) 0 := by simp [idxAt]
  rw [e0]
  refine (loop_up x.toNat (fun k : Nat => (idxAt (idxL s i) d k, (List.range k).map (partF s i d x), (k : Int))) (fun _ => some (partL s i d x)) (by omega) ?_ ?_)
  · intro next k hk hn
    have hkx : (k : Int) < x := by omega
    have hg : getO s (d : Int) = fun f : Int → Option (List Int) => f x := by funext f; exact getO_some hd
    simp only [hg, hkx, decide_true, if_true]
    have hset : ∀ j : List Int, (j = idxL s i ∨ ∃ y, j = (idxL s i).set d y) → (∃ y, j[d]? = some y) ∧ j.set (d : Int).toNat (k : Int) = (idxL s i).set d (k : Int) := by
      rintro j (rfl | ⟨y, rfl⟩)
      · exact ⟨⟨x, hx⟩, by simp⟩
      · exact ⟨⟨y, by rw [List.getElem?_set_self (by omega)]⟩, by simp⟩
    obtain ⟨⟨y, hy⟩, hs⟩ := hset (idxAt (idxL s i) d k) (by cases k with | zero => exact .inl rfl | succ k => exact .inr ⟨_, rfl⟩)
    rw [getO_some hy, hs, cbAt_eq h (hfit.set hd (by omega) (by omega)), Option.bind_some, lnO_pos (by simp; omega), ckI_succ (by omega)]
    have hat : atL s ((idxL s i).set d (k : Int)) = partF s i d x k := by
      rw [atL_set hil hdl (by omega), atL_idxL h.2 h0, Int.emod_eq_of_lt h0 h1]
      have : (idxL s i)[d]'(by omega) = x := by
        have := List.getElem?_eq_getElem (show d < (idxL s i).length by omega)
        rw [hx] at this; exact (Option.some.inj this).symm
      rw [this, partF, show (k : Int) - x = -(x - k) by omega, Int.neg_mul]; omega
    rw [hat, ← range_map_succ]
    exact hn
  · intro next
    have hg : getO s (d : Int) = fun f : Int → Option (List Int) => f x := by funext f; exact getO_some hd
    simp only [hg, show ¬ (((x.toNat : Nat) : Int) < x) by omega, decide_false, Bool.false_eq_true, if_false]
    rfl
theorem partF_bd {s : List Int} {i : Int} {d : Nat} {x : Int} (h : valid s) (h0 : 0 ≤ i) (h1 : i < vol s) (hd : s[d]? = some x) (hx : (idxL s i)[d]? = some x) {k : Nat} (hk : (k : Int) ≤ x) : 0 ≤ partF s i d x k ∧ partF s i d x k ≤ i := by
  have hdl := (List.getElem?_eq_some_iff.1 hd).1
  have hil : (idxL s i).length = s.length := idxL_len s i
  have hfit := (idxL_fits h h0).set hd (show (0 : Int) ≤ k by omega) hk
  have := atL_bd h.2 hfit
  have hat : atL s ((idxL s i).set d (k : Int)) = partF s i d x k := by
    rw [atL_set hil hdl (by omega), atL_idxL h.2 h0, Int.emod_eq_of_lt h0 h1]
    have : (idxL s i)[d]'(by omega) = x := by
      have := List.getElem?_eq_getElem (show d < (idxL s i).length by omega)
      rw [hx] at this; exact (Option.some.inj this).symm
    rw [this, partF, show (k : Int) - x = -(x - k) by omega, Int.neg_mul]; omega
  have hb := vol_bd (h.drop (d + 1))
  have : 0 ≤ (x - k) * vol (s.drop (d + 1)) := Int.mul_nonneg (by omega) (by omega)
  constructor
  · omega
  · rw [partF]; omega
end AS
namespace AS
theorem szIntS_eq {l : List Int} {a : Int} (h0 : 0 ≤ a) (h1 : a ≤ 1048576) (hl : l.length ≤ 9223372036854775807) : sh_laws_szIntS l a = some (left a l.length) := by
  unfold sh_laws_szIntS
  rw [ckI_pos (by omega) (by omega)]
  unfold left
  by_cases h : a - (l.length : Int) < 0
  · simp [h, show ¬ ((l.length : Int) ≤ a) by omega]
  · simp [h, show ((l.length : Int) ≤ a) by omega]
def bulkC (c : XCube) : Nat := c.Sizes.length + c.Cells.length
theorem left_left {a : Int} {m n : Nat} (h : (m : Int) ≤ a) : left (a - m) n = left a (m + n) := by
  unfold left; split <;> split <;> omega
theorem left_out {a : Int} {m n : Nat} (h : ¬ (m : Int) ≤ a) : left a (m + n) = -1 := if_neg (by omega)
theorem left_no {a : Int} {m : Nat} (h : ¬ (m : Int) ≤ a) : left a m = -1 := if_neg h
theorem XCube.ext' {a b : XCube} (h1 : a.Sizes = b.Sizes) (h2 : a.Cells = b.Cells) : a = b := by cases a; cases b; simp_all
theorem eqCube_eq {a b : XCube} (h : bulkC a ≤ 1048576) : sh_laws_eqCube a b = some (decide (a = b)) := by
  unfold sh_laws_eqCube
  unfold bulkC at h
  rw [eqIntS_eq (by omega), Option.bind_some, eqIntS_eq (by omega), Option.bind_some]
  by_cases h1 : a.Sizes = b.Sizes
  · by_cases h2 : a.Cells = b.Cells
    · simp [h1, h2, XCube.ext' h1 h2]
    · simp [h1, h2, show ¬ a = b from fun e => h2 (by rw [e])]
  · simp [h1, show ¬ a = b from fun e => h1 (by rw [e])]
def mkCube (c : XCube) (n : Int) : XCube := ⟨mks n c.Sizes.length, mks (n + c.Sizes.length) c.Cells.length⟩
theorem markCube_eq {c : XCube} {n : Int} (h0 : 0 ≤ n) (h : n + bulkC c ≤ 4611686018427387904) : sh_laws_markCube c n = some (mkCube c n, n + bulkC c) := by
  unfold sh_laws_markCube
  unfold bulkC at h ⊢
  rw [markIntS_eq h0 (by omega), Option.bind_some, markIntS_eq (by omega) (by omega), Option.bind_some]
  simp only [mkCube, Option.some.injEq, Prod.mk.injEq, true_and]; omega
theorem heldCube_eq {c : XCube} {n : Int} (h0 : 0 ≤ n) (h : n + bulkC c ≤ 4611686018427387904) : sh_laws_heldCube (mkCube c n) n = some (n + bulkC c) := by
  unfold sh_laws_heldCube
  unfold bulkC at h ⊢
  simp only [mkCube]
  rw [heldIntS_eq h0 (by omega), Option.bind_some, heldIntS_eq (by omega) (by omega), Option.bind_some]
  simp [show ¬ (n + (c.Sizes.length : Int) < 0) by omega, show ¬ (n + (c.Sizes.length : Int) + (c.Cells.length : Int) < 0) by omega]; omega
/-! ### Right form -/
theorem areCubeValues_eq (l : List Int) : sh_impl_areCubeValues l = some (smallL l) := by
  unfold sh_impl_areCubeValues
  refine range_all (G := fun l _ _ => some (smallL l)) (fun _ _ => rfl) ?_ 0 ()
  intro x l k s next ih
  simp only [ih, smallL, List.all_cons]
  by_cases h1 : x < -1000000
  · simp [h1, show ¬ (-1000000 ≤ x) by omega]
  · by_cases h2 : 1000000 < x
    · simp [h1, h2, show ¬ (x ≤ 1000000) by omega]
    · simp [h1, h2, show (-1000000 ≤ x) by omega, show x ≤ 1000000 by omega]
def formB (c : XCube) : Bool := decide (0 < cntB c.Sizes) && decide ((c.Cells.length : Int) = cntB c.Sizes) && smallL c.Cells
theorem cbForm_eq (c : XCube) : sh_spec_cbForm c = some (formB c) := by
  unfold sh_spec_cbForm
  rw [cbCount_eq, Option.bind_some]
  unfold formB
  by_cases h1 : 0 < cntB c.Sizes
  · by_cases h2 : (c.Cells.length : Int) = cntB c.Sizes
    · simp only [h1, h2, decide_true, if_true, l1All_eq, Option.bind_some, Bool.true_and]; rfl
    · simp [h1, h2]
  · simp [h1]
structure Form (c : XCube) : Prop where
  v : valid c.Sizes
  n : (c.Cells.length : Int) = vol c.Sizes
  le : c.Cells.length ≤ 2000
  cnt : cntB c.Sizes = vol c.Sizes
  sm : smallL c.Cells = true
theorem formB_form {c : XCube} (h : formB c = true) : Form c := by
  simp only [formB, Bool.and_eq_true, decide_eq_true_eq] at h
  obtain ⟨⟨h1, h2⟩, h3⟩ := h
  obtain ⟨hv, hc, hle⟩ := cntB_pos h1
  exact ⟨hv, by omega, by omega, hc, h3⟩
/-! ### The first break -/
def cellAt (c : XCube) (i : Int) : Int := c.Cells.getD i.toNat 0
theorem cell_get {c : XCube} {i : Int} (h0 : 0 ≤ i) (h1 : i < c.Cells.length) : c.Cells[i.toNat]? = some (cellAt c i) := by
  have : i.toNat < c.Cells.length := by omega
  simp [cellAt, this]
theorem getO_cell {R : Type} {c : XCube} {i : Int} {f : Int → Option R} (h0 : 0 ≤ i) (h1 : i < c.Cells.length) : getO c.Cells i f = f (cellAt c i) :=
  getO_int (k := i.toNat) (by omega) (cell_get h0 h1)
theorem cell_bd {c : XCube} (h : Form c) {i : Int} (h0 : 0 ≤ i) (h1 : i < c.Cells.length) : -1000000 ≤ cellAt c i ∧ cellAt c i ≤ 1000000 := smallL_get h.sm (cell_get h0 h1)
def sumI : List Int → Int
  | [] => 0
  | x :: l => x + sumI l
theorem sumI_append : ∀ (a b : List Int), sumI (a ++ b) = sumI a + sumI b
  | [], b => by simp [sumI]
  | x :: a, b => by simp only [List.cons_append, sumI, sumI_append a b]; omega
theorem sumI_reverse : ∀ (a : List Int), sumI a.reverse = sumI a
  | [] => rfl
  | x :: a => by rw [List.reverse_cons, sumI_append, sumI_reverse a]; simp only [sumI]; omega
theorem sumI_bd {b : Int} (hb : 0 ≤ b) : ∀ {l : List Int}, (∀ x ∈ l, -b ≤ x ∧ x ≤ b) → -(b * l.length) ≤ sumI l ∧ sumI l ≤ b * l.length
  | [], _ => by simp [sumI]
  | x :: l, h => by
    have h1 := h x (by simp)
    have h2 := sumI_bd hb (l := l) (fun y hy => h y (by simp [hy]))
    simp only [sumI, List.length_cons, Int.natCast_add, Int.mul_add]
    omega
/-- The sum of the parts of a total. -/
def psum (c : XCube) (i : Int) (d : Nat) (x : Int) : Int := sumI ((partL c.Sizes i d x).map (cellAt c))
def brk (c : XCube) (i : Int) : List Int → Nat → Bool
  | [], _ => false
  | x :: l, k => if c.Sizes[k]? = some x then (if psum c i k x ≠ cellAt c i then true else brk c i l (k + 1)) else brk c i l (k + 1)
theorem cbBroken_eq {c : XCube} (h : Form c) {i : Int} (h0 : 0 ≤ i) (h1 : i < c.Cells.length) : sh_spec_cbBroken c i = some (brk c i (idxL c.Sizes i) 0) := by
  unfold sh_spec_cbBroken
  have hv := h.v
  have hn := h.n
  have hle := h.le
  rw [cbIndices_eq hv h0 (by omega), Option.bind_some]
  refine range_mem (I := fun _ _ => True) (G := fun l k _ => some (brk c i l k)) ?_ ?_ () trivial
  · intro k s _ _; rfl
  · intro x l' k s next hx _ _ hnx
    have hk := (List.getElem?_eq_some_iff.1 hx).1
    rw [idxL_len] at hk
    rw [getO_nat hk]
    have hnx' := hnx () trivial
    by_cases e : x = c.Sizes[k]
    · have hs : c.Sizes[k]? = some x := by rw [List.getElem?_eq_getElem hk, e]
      have hxb := hv.get hs
      simp only [show decide (x ≠ c.Sizes[k]) = false by simp [e], Bool.false_eq_true, if_false]
      rw [cbParts_eq hv h0 (by omega) hs hx, Option.bind_some]
      have hall : ∀ y ∈ partL c.Sizes i k x, 0 ≤ y ∧ y < c.Cells.length := by
        intro y hy
        simp only [partL, List.mem_map, List.mem_range] at hy
        obtain ⟨j, hj, rfl⟩ := hy
        have := partF_bd hv h0 (by omega) hs hx (show (j : Int) ≤ x by omega)
        omega
      have hlen := partL_len c.Sizes i k x
      have hsum : ∀ (m : Nat), -(1000000 * (m : Int)) ≤ sumI (((partL c.Sizes i k x).take m).map (cellAt c)) ∧ sumI (((partL c.Sizes i k x).take m).map (cellAt c)) ≤ 1000000 * (m : Int) := by
        intro m
        have := sumI_bd (b := 1000000) (by omega) (l := ((partL c.Sizes i k x).take m).map (cellAt c)) (fun y hy => by
          obtain ⟨z, hz, rfl⟩ := List.mem_map.1 hy
          have := hall z (List.mem_of_mem_take hz)
          exact cell_bd h this.1 this.2)
        simp only [List.length_map, List.length_take] at this
        omega
      refine range_mem (I := fun (m : Nat) (a : Int) => a = sumI (((partL c.Sizes i k x).take m).map (cellAt c)) ∧ m ≤ 30) (G := fun _ _ _ => some (brk c i (x :: l') k)) ?_ ?_ 0 ⟨by simp [sumI], by omega⟩
      · intro m a hI hm
        obtain ⟨rfl, _⟩ := hI
        rw [getO_cell h0 h1, hm, List.take_length]
        simp only [brk, if_pos hs]
        by_cases e2 : psum c i k x = cellAt c i
        · have : sumI ((partL c.Sizes i k x).map (cellAt c)) = cellAt c i := e2
          simp only [this, e2, ne_eq, not_true_eq_false, decide_false, Bool.false_eq_true, if_false]
          exact hnx'
        · have : ¬ sumI ((partL c.Sizes i k x).map (cellAt c)) = cellAt c i := e2
          simp [this, e2]
      · intro y l2 m a next2 hy _ hI hn2
        obtain ⟨rfl, hm30⟩ := hI
        obtain ⟨hm, hye⟩ := List.getElem?_eq_some_iff.1 hy
        have hb := hall y (List.mem_of_getElem? hy)
        have hcb := cell_bd h hb.1 hb.2
        have hs1 := hsum m
        rw [getO_cell hb.1 hb.2, ckI_pos (by omega) (by omega)]
        refine hn2 _ ⟨?_, by omega⟩
        rw [List.take_add_one, hy, List.map_append, sumI_append]
        simp [sumI]
    · have hs : ¬ c.Sizes[k]? = some x := by rw [List.getElem?_eq_getElem hk]; simp; exact fun h => e h.symm
      simp only [show decide (x ≠ c.Sizes[k]) = true by simp [e], if_true, brk, if_neg hs]
      exact hnx'
def fstB (c : XCube) : List Int → Nat → Int
  | [], _ => c.Cells.length
  | _ :: l, k => if brk c k (idxL c.Sizes k) 0 = true then k else fstB c l (k + 1)
theorem cbFirst_eq {c : XCube} (h : Form c) : sh_spec_cbFirst c = some (fstB c c.Cells 0) := by
  unfold sh_spec_cbFirst
  refine range_mem (I := fun _ _ => True) (G := fun l k _ => some (fstB c l k)) (fun _ _ _ _ => rfl) ?_ () trivial
  intro x l' k s next hx _ _ hn
  have hk := (List.getElem?_eq_some_iff.1 hx).1
  rw [cbBroken_eq h (by omega) (by omega), Option.bind_some]
  simp only [fstB, hn () trivial]
  split <;> rfl
def goodB (c : XCube) : Bool := formB c && decide (fstB c c.Cells 0 = c.Cells.length)
theorem cbGood_eq (c : XCube) : sh_spec_cbGood c = some (goodB c) := by
  unfold sh_spec_cbGood
  rw [cbForm_eq, Option.bind_some]
  cases h : formB c with
  | false => simp [goodB, h]
  | true =>
    have hf := formB_form h
    have := hf.le
    simp only [if_true]
    rw [cbFirst_eq hf, Option.bind_some, lmO_pos (by omega)]
    simp [goodB, h]
end AS
namespace AS
/-! ### The law's own functions on variables -/
def bulkV (v : XVariable) : Nat := v.Name.length
theorem szVariable_eq {v : XVariable} {a : Int} (h0 : 0 ≤ a) (h1 : a ≤ 1048576) (hb : Bd.bd v) : sh_laws_szVariable v a = some (left a (bulkV v)) := by
  unfold sh_laws_szVariable
  have hl : v.Name.length ≤ 9223372036854775807 := hb.1.1
  rw [ckI_pos (by omega) (by omega)]
  unfold left bulkV
  by_cases h : a - (v.Name.length : Int) < 0
  · simp [h, show ¬ ((v.Name.length : Int) ≤ a) by omega]
  · simp [h, show ((v.Name.length : Int) ≤ a) by omega]
def bulkVS (s : List XVariable) : Nat := s.length + sumL bulkV s
theorem szVariableS_eq {s : List XVariable} {a : Int} (h0 : 0 ≤ a) (h1 : a ≤ 1048576) (hb : Bd.bd s) : sh_laws_szVariableS s a = some (left a (bulkVS s)) := by
  unfold sh_laws_szVariableS
  exact sz_loop h0 h1 hb.1 fun x hx m hm hm2 => szVariable_eq hm hm2 (hb.2 x hx)
theorem toVariable_eq (v : XVariable) : sh_laws_toVariable v = some v := rfl
theorem toVariableS_eq {s : List XVariable} (h : bulkVS s ≤ 1048576) : sh_laws_toVariableS s = some s := by
  unfold sh_laws_toVariableS
  exact to_loop (by unfold bulkVS at h; omega) fun x _ => toVariable_eq x
theorem XVariable.ext' {a b : XVariable} (h1 : a.Name = b.Name) (h2 : a.Levels = b.Levels) : a = b := by cases a; cases b; simp_all
theorem eqVariable_eq (a b : XVariable) : sh_laws_eqVariable a b = some (decide (a = b)) := by
  unfold sh_laws_eqVariable
  by_cases h1 : a.Name = b.Name
  · by_cases h2 : a.Levels = b.Levels
    · simp [h1, h2, XVariable.ext' h1 h2]
    · simp [h1, h2, show ¬ a = b from fun e => h2 (by rw [e])]
  · simp [h1, show ¬ a = b from fun e => h1 (by rw [e])]
theorem eqVariableS_eq {a b : List XVariable} (h : bulkVS a ≤ 1048576) : sh_laws_eqVariableS a b = some (decide (a = b)) := by
  unfold sh_laws_eqVariableS
  exact eq_loop (by unfold bulkVS at h; omega) fun x _ y => eqVariable_eq x y
/-! ### Schemas -/
def lowB (n : List UInt8) : Bool := n.all fun c => decide ((97 : Int) ≤ (c.toNat : Int)) && decide ((c.toNat : Int) ≤ 122)
def wordB (n : List UInt8) : Bool := lowB n && (decide (1 ≤ n.length) && decide (n.length ≤ 8))
theorem sName_eq {n : List UInt8} (h : n.length ≤ 1099511627776) : sh_spec_sName n = some (wordB n) := by
  unfold sh_spec_sName
  refine (loop_up n.length (fun k => (k : Int)) (fun k => some (lowB (n.drop k) && (decide (1 ≤ n.length) && decide (n.length ≤ 8)))) (by omega) ?_ ?_).trans (by simp [wordB])
  · intro next k hk hn
    simp only [lt_dec hk, if_true]
    rw [getO_nat hk, List.drop_eq_getElem_cons hk]
    by_cases h1 : (n[k].toNat : Int) < 97
    · simp only [h1, decide_true, if_true, lowB, List.all_cons, show decide ((97 : Int) ≤ (n[k].toNat : Int)) = false by (simp only [decide_eq_false_iff_not]; omega), Bool.false_and]
    · by_cases h2 : (122 : Int) < (n[k].toNat : Int)
      · simp only [h1, h2, decide_true, decide_false, Bool.false_eq_true, if_false, if_true, lowB, List.all_cons, show decide ((n[k].toNat : Int) ≤ 122) = false by (simp only [decide_eq_false_iff_not]; omega), Bool.and_false, Bool.false_and]
      · simp only [h1, h2, decide_false, Bool.false_eq_true, if_false]
        rw [ckI_succ (by omega)]
        refine hn.trans ?_
        have : (decide ((97 : Int) ≤ (n[k].toNat : Int)) && decide ((n[k].toNat : Int) ≤ 122)) = true := by simp only [Bool.and_eq_true, decide_eq_true_eq]; omega
        simp only [lowB, List.all_cons, this, Bool.true_and]
  · intro next
    simp only [lt_self, Bool.false_eq_true, if_false, l1In_eq, Option.bind_some, List.drop_length, lowB, List.all_nil, Bool.true_and, Option.some.injEq]
    congr 1 <;> (congr 1; apply propext; omega)
theorem isWord_eq (n : List UInt8) : sh_impl_isWord n = some (wordB n) := by
  unfold sh_impl_isWord
  by_cases h1 : (n.length : Int) < 1
  · simp [h1, wordB, show ¬ (1 ≤ n.length) by omega]
  · by_cases h2 : (8 : Int) < (n.length : Int)
    · simp [h1, h2, wordB, show ¬ (n.length ≤ 8) by omega]
    · simp only [h1, h2, decide_false, Bool.false_eq_true, if_false]
      refine (range_all (G := fun l _ _ => some (lowB l)) (fun _ _ => rfl) ?_ 0 ()).trans (by simp only [wordB, show decide (1 ≤ n.length) = true by (simp; omega), show decide (n.length ≤ 8) = true by (simp; omega), Bool.and_true])
      intro x l k s next ih
      simp only [ih, lowB, List.all_cons]
      by_cases h3 : (x.toNat : Int) < 97
      · simp [h3, show ¬ (97 ≤ (x.toNat : Int)) by omega]
      · by_cases h4 : (122 : Int) < (x.toNat : Int)
        · simp [h3, h4, show ¬ ((x.toNat : Int) ≤ 122) by omega]
        · have : (decide ((97 : Int) ≤ (x.toNat : Int)) && decide ((x.toNat : Int) ≤ 122)) = true := by simp only [Bool.and_eq_true, decide_eq_true_eq]; omega
          simp only [h3, h4, decide_false, Bool.false_eq_true, if_false, this, Bool.true_and]
def hasName (l : List XVariable) (n : List UInt8) : Bool := l.any fun v => decide (v.Name = n)
def findI : List XVariable → List UInt8 → Nat → Int
  | [], _, _ => -1
  | v :: l, n, k => if v.Name = n then k else findI l n (k + 1)
theorem findI_nonneg : ∀ (l : List XVariable) (n : List UInt8) (k : Nat), decide (0 ≤ findI l n k) = hasName l n
  | [], _, _ => rfl
  | v :: l, n, k => by
    simp only [findI, hasName, List.any_cons]
    by_cases h : v.Name = n
    · simp [h]
    · simp only [h, if_false, decide_false, Bool.false_or]; exact findI_nonneg l n (k + 1)
theorem sFind_eq (l : List XVariable) (n : List UInt8) : sh_spec_sFind l n = some (findI l n 0) := by
  unfold sh_spec_sFind
  refine range_all (G := fun l k _ => some (findI l n k)) (fun _ _ => rfl) ?_ 0 ()
  intro x l k s next ih
  simp only [ih, findI]
  by_cases h : x.Name = n <;> simp [h]
def levB (v : XVariable) : Bool := decide (2 ≤ v.Levels) && decide (v.Levels ≤ 8)
def schFrom (s : List XVariable) : List XVariable → Nat → Bool
  | [], _ => true
  | v :: l, k => wordB v.Name && (levB v && (!(hasName (s.take k) v.Name) && schFrom s l (k + 1)))
def schB (s : List XVariable) : Bool := decide (1 ≤ s.length) && decide (s.length ≤ 6) && schFrom s s 0
theorem sGood_eq {s : List XVariable} (h : ∀ v ∈ s, v.Name.length ≤ 1099511627776) : sh_spec_sGood s = some (schB s) := by
  unfold sh_spec_sGood
  rw [l1In_eq, Option.bind_some]
  have e : (decide ((1 : Int) ≤ (s.length : Int)) && decide ((s.length : Int) ≤ 6)) = (decide (1 ≤ s.length) && decide (s.length ≤ 6)) := by
    congr 1 <;> (congr 1; apply propext; omega)
  rw [e]
  cases h1 : (decide (1 ≤ s.length) && decide (s.length ≤ 6)) with
  | false => simp [schB, h1]
  | true =>
    simp only [Bool.not_true, Bool.false_eq_true, if_false]
    refine (range_mem (I := fun _ _ => True) (G := fun l k _ => some (schFrom s l k)) (fun _ _ _ _ => rfl) ?_ () trivial).trans (by simp [schB, h1])
    intro x l' k u next hx _ _ hn
    have hk := (List.getElem?_eq_some_iff.1 hx).1
    rw [sName_eq (h x (List.mem_of_getElem? hx)), Option.bind_some, l1In_eq, Option.bind_some]
    have e2 : (decide ((2 : Int) ≤ x.Levels) && decide (x.Levels ≤ 8)) = levB x := rfl
    simp only [e2, schFrom]
    cases wordB x.Name with
    | false => rfl
    | true =>
      cases levB x with
      | false => rfl
      | true =>
        simp only [Bool.not_true, Bool.false_eq_true, if_false, Bool.true_and]
        rw [ck_pos (by simp; omega), sFind_eq, Option.bind_some, findI_nonneg]
        simp only [Int.toNat_natCast, List.drop_zero]
        cases hasName (s.take k) x.Name with
        | true => rfl
        | false => simp only [Bool.false_eq_true, if_false, Bool.not_false, Bool.true_and]; exact hn () trivial
theorem isSchema_eq (s : List XVariable) : sh_impl_IsSchema s = some (schB s) := by
  unfold sh_impl_IsSchema
  by_cases h1 : (s.length : Int) < 1
  · simp [h1, schB, show ¬ (1 ≤ s.length) by omega]
  · by_cases h2 : (6 : Int) < (s.length : Int)
    · simp [h1, h2, schB, show ¬ (s.length ≤ 6) by omega]
    · have e : (decide (1 ≤ s.length) && decide (s.length ≤ 6)) = true := by simp; omega
      simp only [h1, h2, decide_false, Bool.false_eq_true, if_false]
      refine (range_mem (I := fun _ _ => True) (G := fun l k _ => some (schFrom s l k)) (fun _ _ _ _ => rfl) ?_ () trivial).trans (by simp only [schB, e, Bool.true_and])
      intro x l' k u next hx _ _ hn
      have hk := (List.getElem?_eq_some_iff.1 hx).1
      rw [isWord_eq, Option.bind_some]
      simp only [schFrom]
      cases wordB x.Name with
      | false => rfl
      | true =>
        simp only [Bool.not_true, Bool.false_eq_true, if_false, Bool.true_and]
        by_cases h3 : x.Levels < 2
        · simp [h3, levB, show ¬ (2 ≤ x.Levels) by omega]
        · by_cases h4 : 8 < x.Levels
          · simp [h3, h4, levB, show ¬ (x.Levels ≤ 8) by omega]
          · have : levB x = true := by simp [levB]; omega
            simp only [h3, h4, decide_false, Bool.false_eq_true, if_false, this, Bool.true_and]
            rw [ck_pos (by simp; omega)]
            simp only [Int.toNat_natCast, List.drop_zero]
            have hn' := hn () trivial
            refine range_all (G := fun l _ _ => some (!(hasName l x.Name) && schFrom s l' (k + 1))) (fun _ _ => by simp only [hasName, List.any_nil, Bool.not_false, Bool.true_and]; exact hn'.symm) ?_ 0 ()
            intro y l2 j u2 next2 ih
            simp only [ih, hasName, List.any_cons]
            by_cases h5 : y.Name = x.Name <;> simp [h5]
theorem schFrom_lev {s : List XVariable} : ∀ {l : List XVariable} {k : Nat}, schFrom s l k = true → ∀ v ∈ l, 2 ≤ v.Levels ∧ v.Levels ≤ 8
  | [], _, _, v, hv => by simp at hv
  | x :: l, k, h, v, hv => by
    simp only [schFrom, Bool.and_eq_true] at h
    rcases List.mem_cons.1 hv with rfl | hv
    · have := h.2.1; simpa [levB] using this
    · exact schFrom_lev h.2.2.2 v hv
theorem schB_lev {s : List XVariable} (h : schB s = true) {v : XVariable} (hv : v ∈ s) : 2 ≤ v.Levels ∧ v.Levels ≤ 8 := by
  simp only [schB, Bool.and_eq_true] at h
  exact schFrom_lev h.2 v hv
theorem schB_len {s : List XVariable} (h : schB s = true) : 1 ≤ s.length ∧ s.length ≤ 6 := by
  simp only [schB, Bool.and_eq_true, decide_eq_true_eq] at h
  exact h.1
/-! ### Weights, values, costs -/
def valF : List XVariable → List Int → Bool
  | v :: s, x :: a => decide (0 ≤ x) && decide (x < v.Levels) && valF s a
  | _, _ => true
def valB (s : List XVariable) (a : List Int) : Bool := decide (a.length = s.length) && valF s a
theorem sFits_eq {s : List XVariable} {a : List Int} (hs : schB s = true) : sh_spec_sFits s a = some (valB s a) := by
  unfold sh_spec_sFits
  by_cases h : a.length = s.length
  · simp only [show decide ((a.length : Int) ≠ (s.length : Int)) = false by simp [h], Bool.false_eq_true, if_false]
    refine (range_mem (I := fun _ _ => True) (G := fun l k _ => some (valF l (a.drop k))) ?_ ?_ () trivial).trans (by simp [valB, h])
    · intro k u _ _; simp [valF]
    · intro x l' k u next hx _ _ hn
      have hk := (List.getElem?_eq_some_iff.1 hx).1
      have hka : k < a.length := by omega
      have hl := schB_lev hs (List.mem_of_getElem? hx)
      rw [getO_nat hka, ckI_pos (by omega) (by omega), l1In_eq, Option.bind_some, List.drop_eq_getElem_cons hka]
      simp only [valF]
      have e : (decide (0 ≤ a[k]) && decide (a[k] ≤ x.Levels - 1)) = (decide (0 ≤ a[k]) && decide (a[k] < x.Levels)) := by
        congr 2; apply propext; omega
      rw [e]
      cases (decide (0 ≤ a[k]) && decide (a[k] < x.Levels)) with
      | false => simp
      | true => simp only [Bool.not_true, Bool.false_eq_true, if_false, Bool.true_and]; exact hn () trivial
  · simp [h, valB, show ¬ ((a.length : Int) = (s.length : Int)) by omega]
theorem areValues_eq (s : List XVariable) (a : List Int) : sh_impl_areValues s a = some (valB s a) := by
  unfold sh_impl_areValues
  by_cases h : a.length = s.length
  · simp only [show decide ((a.length : Int) ≠ (s.length : Int)) = false by simp [h], Bool.false_eq_true, if_false]
    refine (range_mem (I := fun _ _ => True) (G := fun l k _ => some (valF (s.drop k) l)) ?_ ?_ () trivial).trans (by simp [valB, h])
    · intro k u _ _; cases s.drop k <;> simp [valF]
    · intro x l' k u next hx _ _ hn
      have hk := (List.getElem?_eq_some_iff.1 hx).1
      have hks : k < s.length := by omega
      rw [getO_nat hks, List.drop_eq_getElem_cons hks]
      simp only [valF]
      by_cases h1 : x < 0
      · simp [h1, show ¬ (0 ≤ x) by omega]
      · by_cases h2 : s[k].Levels ≤ x
        · simp [h1, h2, show ¬ (x < s[k].Levels) by omega]
        · simp only [h1, h2, decide_false, Bool.false_eq_true, if_false, show decide (0 ≤ x) = true by (simp; omega), show decide (x < s[k].Levels) = true by (simp; omega), Bool.true_and]
          exact hn () trivial
  · simp [h, valB, show ¬ ((a.length : Int) = (s.length : Int)) by omega]
theorem names_of_bulk {s : List XVariable} (h : bulkVS s ≤ 1048576) : ∀ v ∈ s, v.Name.length ≤ 1099511627776 := by
  intro v hv
  have : v.Name.length ≤ sumL bulkV s := sumL_mem bulkV hv
  unfold bulkVS at h
  omega
end AS
namespace AS
theorem sz_end {a : Int} {n : Nat} : (if (decide (left a n < (0 : Int))) = true then some (-1 : Int) else some (left a n)) = some (left a n) := by
  by_cases h : (n : Int) ≤ a
  · rw [left_pos h]; simp [show ¬ (a - (n : Int) < 0) by omega]
  · rw [left_no h]; rfl
theorem sz_next {a : Int} {m n : Nat} {K : Int → Option Int} (h0 : 0 ≤ a) (hK : (m : Int) ≤ a → K (a - m) = some (left (a - m) n)) : (if (decide (left a m < (0 : Int))) = true then some (-1 : Int) else K (left a m)) = some (left a (m + n)) := by
  by_cases h : (m : Int) ≤ a
  · rw [left_pos h, hK h, left_left h]
    simp only [show ¬ (a - (m : Int) < 0) by omega, decide_false, Bool.false_eq_true, if_false]
  · rw [left_no h, left_out h]; simp
theorem getO_set {R α : Type} {l : List α} {k : Nat} {x : α} {f : α → Option R} (h : k < l.length) : getO (l.set k x) (k : Int) f = f x := getO_some (by rw [List.getElem?_set_self h])
theorem mark_loop2 {α : Type} {mk : α → Int → α} {sz : α → Nat} {body : ((List α × Int × Int) → Option (List α × Int)) → (List α × Int × Int) → Option (List α × Int)} {l : List α} {n : Int} (B : Int) (hB : B ≤ 4611686018427387904) (hl : l.length ≤ 1099511627776) (h0 : 0 ≤ n) (h : n + (sumL sz l : Nat) ≤ B)
    (hb : ∀ nx (s : List α) (m : Int) (k : Nat) (x : α), k < s.length → s.length = l.length → s[k]? = some x → 0 ≤ m → m + sz x ≤ B → body nx (s, m, (k : Int)) = nx (s.set k (mk x m), m + sz x, (k : Int) + 1))
    (he : ∀ nx (s : List α) (m : Int), body nx (s, m, (s.length : Int)) = some (s, m)) :
    loopF body FUEL (l, n, (0 : Int)) = some (mkL mk sz l n, n + (sumL sz l : Nat)) := by
  have e0 : ((l, n, (0 : Int)) : List α × Int × Int) = (fun k : Nat => (mixL (mkL mk sz l n) l k, n + (sumL sz (l.take k) : Nat), (k : Int))) 0 := by simp [mixL_zero, sumL]
  rw [e0]
  refine (loop_up l.length (fun k : Nat => (mixL (mkL mk sz l n) l k, n + (sumL sz (l.take k) : Nat), (k : Int))) (fun _ => some (mkL mk sz l n, n + (sumL sz l : Nat))) (by omega) ?_ ?_)
  · intro next k hk hn
    have hlen := mkL_len mk sz l n
    have hm : k < (mkL mk sz l n).length := by rw [hlen]; exact hk
    have h1 := sumL_take_le sz l (k + 1)
    rw [sumL_take sz hk] at h1 hn
    have hmix := mixL_len hlen k
    rw [hb next _ _ k l[k] (by rw [hmix]; exact hk) hmix (mixL_get hlen hk) (by omega) (by omega)]
    rw [← mkL_get mk sz l n k hk, mixL_set hlen hm, ← hn]
    simp only [cast_succ, Int.add_assoc, Int.natCast_add]
  · intro next
    have hlen := mkL_len mk sz l n
    have := mixL_end hlen
    rw [hlen] at this
    rw [this]
    have h2 := he next (mkL mk sz l n) (n + (sumL sz (l.take l.length) : Nat))
    rw [hlen] at h2
    rw [h2]; simp
/-! ### Geographies -/
def bulkG (g : XGeo) : Nat := g.Parents.length
theorem szGeo_eq {g : XGeo} {a : Int} (h0 : 0 ≤ a) (h1 : a ≤ 1048576) (hb : Bd.bd g) : sh_laws_szGeo g a = some (left a (bulkG g)) := by
  unfold sh_laws_szGeo
  have hl : Bd.bd g.Parents := hb
  rw [szIntS_eq h0 h1 hl.1, Option.bind_some]
  exact sz_end
theorem toGeo_eq {g : XGeo} (h : bulkG g ≤ 1048576) : sh_laws_toGeo g = some g := by
  unfold sh_laws_toGeo; unfold bulkG at h
  rw [toIntS_eq h, Option.bind_some]
theorem eqGeo_eq {a b : XGeo} (h : bulkG a ≤ 1048576) : sh_laws_eqGeo a b = some (decide (a = b)) := by
  unfold sh_laws_eqGeo; unfold bulkG at h
  rw [eqIntS_eq (by omega), Option.bind_some]
  cases a; cases b; simp only [XGeo.mk.injEq]
  split <;> simp_all
def mkGeo (g : XGeo) (n : Int) : XGeo := ⟨mks n g.Parents.length⟩
theorem markGeo_eq {g : XGeo} {n : Int} (h0 : 0 ≤ n) (h : n + bulkG g ≤ 4611686018427387904) : sh_laws_markGeo g n = some (mkGeo g n, n + bulkG g) := by
  unfold sh_laws_markGeo; unfold bulkG at h ⊢
  rw [markIntS_eq h0 (by omega), Option.bind_some]; rfl
/-! ### Tables -/
def bulkT (t : XTable) : Nat := t.Vars.length + t.Where.length
theorem szTable_eq {t : XTable} {a : Int} (h0 : 0 ≤ a) (h1 : a ≤ 1048576) (hb : Bd.bd t) : sh_laws_szTable t a = some (left a (bulkT t)) := by
  unfold sh_laws_szTable
  obtain ⟨_, hv, hw, _⟩ := hb
  rw [szIntS_eq h0 h1 hv.1, Option.bind_some]
  refine sz_next (K := fun x => (sh_laws_szIntS t.Where x).bind fun x9 => if (decide (x9 < (0 : Int))) = true then some (-1 : Int) else some x9) h0 fun h => ?_
  rw [szIntS_eq (by omega) (by omega) hw.1, Option.bind_some]
  exact sz_end
theorem toTable_eq {t : XTable} (h : bulkT t ≤ 1048576) : sh_laws_toTable t = some t := by
  unfold sh_laws_toTable; unfold bulkT at h
  rw [toIntS_eq (by omega), Option.bind_some, toIntS_eq (by omega), Option.bind_some]
theorem eqTable_eq {a b : XTable} (h : bulkT a ≤ 1048576) : sh_laws_eqTable a b = some (decide (a = b)) := by
  unfold sh_laws_eqTable; unfold bulkT at h
  simp only [eqIntS_eq (a := a.Vars) (b := b.Vars) (by omega), eqIntS_eq (a := a.Where) (b := b.Where) (by omega), Option.bind_some]
  cases a; cases b; simp only [XTable.mk.injEq]
  rename_i l1 v1 w1 s1 l2 v2 w2 s2
  by_cases h1 : l1 = l2 <;> by_cases h2 : v1 = v2 <;> by_cases h3 : w1 = w2 <;> by_cases h4 : s1 = s2 <;> simp [h1, h2, h3, h4]
def mkTable (t : XTable) (n : Int) : XTable := ⟨t.Level, mks n t.Vars.length, mks (n + t.Vars.length) t.Where.length, t.Sum⟩
theorem markTable_eq {t : XTable} {n : Int} (h0 : 0 ≤ n) (h : n + bulkT t ≤ 4611686018427387904) : sh_laws_markTable t n = some (mkTable t n, n + bulkT t) := by
  unfold sh_laws_markTable; unfold bulkT at h ⊢
  rw [markIntS_eq h0 (by omega), Option.bind_some, markIntS_eq (by omega) (by omega), Option.bind_some]
  simp only [mkTable, Option.some.injEq, Prod.mk.injEq, true_and]; omega
/-! ### Records -/
def bulkR (r : XRecord) : Nat := r.Values.length
theorem szRecord_eq {r : XRecord} {a : Int} (h0 : 0 ≤ a) (h1 : a ≤ 1048576) (hb : Bd.bd r) : sh_laws_szRecord r a = some (left a (bulkR r)) := by
  unfold sh_laws_szRecord
  obtain ⟨_, _, hv⟩ := hb
  rw [szIntS_eq h0 h1 hv.1, Option.bind_some]
  exact sz_end
theorem toRecord_eq {r : XRecord} (h : bulkR r ≤ 1048576) : sh_laws_toRecord r = some r := by
  unfold sh_laws_toRecord; unfold bulkR at h
  rw [toIntS_eq h, Option.bind_some]
theorem eqRecord_eq {a b : XRecord} (h : bulkR a ≤ 1048576) : sh_laws_eqRecord a b = some (decide (a = b)) := by
  unfold sh_laws_eqRecord; unfold bulkR at h
  simp only [eqIntS_eq (a := a.Values) (b := b.Values) (by omega), Option.bind_some]
  cases a; cases b; simp only [XRecord.mk.injEq]
  rename_i l1 v1 w1 l2 v2 w2
  by_cases h1 : l1 = l2 <;> by_cases h2 : v1 = v2 <;> by_cases h3 : w1 = w2 <;> simp [h1, h2, h3]
def bulkRS (l : List XRecord) : Nat := l.length + sumL bulkR l
theorem szRecordS_eq {l : List XRecord} {a : Int} (h0 : 0 ≤ a) (h1 : a ≤ 1048576) (hb : Bd.bd l) : sh_laws_szRecordS l a = some (left a (bulkRS l)) := by
  unfold sh_laws_szRecordS
  exact sz_loop h0 h1 hb.1 fun x hx m hm hm2 => szRecord_eq hm hm2 (hb.2 x hx)
theorem bulkR_mem {l : List XRecord} {t : XRecord} (h : t ∈ l) : bulkR t ≤ bulkRS l := by
  have := sumL_mem bulkR h; unfold bulkRS; omega
theorem toRecordS_eq {l : List XRecord} (h : bulkRS l ≤ 1048576) : sh_laws_toRecordS l = some l := by
  unfold sh_laws_toRecordS
  exact to_loop (by unfold bulkRS at h; omega) fun x hx => toRecord_eq (by have := bulkR_mem hx; omega)
theorem eqRecordS_eq {a b : List XRecord} (h : bulkRS a ≤ 1048576) : sh_laws_eqRecordS a b = some (decide (a = b)) := by
  unfold sh_laws_eqRecordS
  exact eq_loop (by unfold bulkRS at h; omega) fun x hx y => eqRecord_eq (by have := bulkR_mem hx; omega)
def mkER (r : XRecord) (n : Int) : XRecord := ⟨n, n + 1, mks (n + 1 + 1) r.Values.length⟩
def szER (r : XRecord) : Nat := bulkR r + 2
def marksRS (l : List XRecord) : Nat := sumL szER l
theorem marksRS_le : ∀ (l : List XRecord), marksRS l ≤ 2 * bulkRS l
  | [] => by simp [marksRS, sumL, bulkRS]
  | t :: l => by
    have := marksRS_le l
    simp only [marksRS, bulkRS, sumL_cons, List.length_cons, szER] at this ⊢
    omega
theorem markRecordS_eq {l : List XRecord} {n : Int} (hl : l.length ≤ 1099511627776) (h0 : 0 ≤ n) (h : n + marksRS l ≤ 4611686018427387904) : sh_laws_markRecordS l n = some (mkL mkER szER l n, n + marksRS l) := by
  unfold sh_laws_markRecordS
  refine mark_loop2 (mk := mkER) (sz := szER) 4611686018427387904 (by omega) hl h0 h ?_ ?_
  · intro nx s m k x hk hs hx hm hB
    unfold szER bulkR at hB
    simp only [lt_dec hk, if_true, Int.toNat_natCast]
    rw [getO_some hx, ckI_pos (by omega) (by omega), getO_set hk]
    simp only [List.set_set]
    rw [ckI_pos (by omega) (by omega), getO_set hk]
    simp only
    rw [markIntS_eq (by omega) (by omega), Option.bind_some]
    simp only
    rw [ckI_succ (by omega)]
    congr 1
    simp only [mkER, szER, bulkR, Prod.mk.injEq, and_true, true_and]
    omega
  · intro nx s m
    simp only [lt_self, Bool.false_eq_true, if_false]
/-! ### Variables: marks -/
theorem markText_some {n : Int} (h0 : 0 ≤ n) (h1 : n ≤ 1000000000) : ∃ r, sh_laws_markText n = some r := by
  unfold sh_laws_markText
  by_cases hn : n ≤ 0
  · exact ⟨[109, 48], by simp [hn]⟩
  · simp only [hn, decide_false, Bool.false_eq_true, if_false]
    suffices H : ∀ (k : Nat) (m : Int) (t : List UInt8), 0 ≤ m → m < k → m + t.length ≤ 1000000000 → ∃ r, loopF (fun (nx : (Int × (List UInt8)) → Option (List UInt8)) (s : (Int × (List UInt8))) =>
        (if (decide ((0 : Int) < s.1)) = true then
          ck ((10 : Int) ≠ 0) <| ckI ((48 : Int) + (s.1.tmod (10 : Int))) <| ckU ((48 : Int) + (s.1.tmod (10 : Int))) <|
          ck ([((48 : Int) + (s.1.tmod (10 : Int)))] = (bytesOf [((48 : Int) + (s.1.tmod (10 : Int)))]).map fun b => ((b.toNat : Nat) : Int)) <|
          lnO ((bytesOf [((48 : Int) + (s.1.tmod (10 : Int)))]).length + s.2.length) <| ck ((10 : Int) ≠ 0) <| ckI (s.1.tdiv (10 : Int)) <|
          nx ((s.1.tdiv (10 : Int)), ((bytesOf [((48 : Int) + (s.1.tmod (10 : Int)))]) ++ s.2))
        else lnO (([109] : List UInt8).length + s.2.length) <| some (([109] : List UInt8) ++ s.2))) k (m, t) = some r by
      have hF : (1000000001 : Nat) ≤ FUEL := by decide +kernel
      obtain ⟨d, hd⟩ := Nat.exists_eq_add_of_le hF
      have := H FUEL n [] h0 (by omega) (by simpa using h1)
      exact this
    intro k
    induction k with
    | zero => intro m t h0 h1; omega
    | succ k ih =>
      intro m t h0 h1 h2
      simp only [loopF]
      by_cases hm : 0 < m
      · simp only [hm, decide_true, if_true]
        have e1 : m.tmod 10 = m % 10 := Int.tmod_eq_emod_of_nonneg h0
        have e2 : m.tdiv 10 = m / 10 := Int.tdiv_eq_ediv_of_nonneg h0
        rw [e1, e2, ck_pos (by decide), ckI_pos (by omega) (by omega), ckU_pos (by omega) (by omega), ck_pos, lnO_pos (by simp [bytesOf]; omega), ck_pos (by decide), ckI_pos (by omega) (by omega)]
        · exact ih _ _ (by omega) (by omega) (by simp [bytesOf]; omega)
        · simp only [bytesOf, List.map_cons, List.map_nil, UInt8.toNat_ofNat', List.cons.injEq, and_true]
          omega
      · simp only [hm, decide_false, Bool.false_eq_true, if_false]
        rw [lnO_pos (by simp; omega)]
        exact ⟨_, rfl⟩
def mt (n : Int) : List UInt8 := (sh_laws_markText n).getD []
theorem markText_eq {n : Int} (h0 : 0 ≤ n) (h1 : n ≤ 1000000000) : sh_laws_markText n = some (mt n) := by
  obtain ⟨r, hr⟩ := markText_some h0 h1
  unfold mt; rw [hr]; rfl
def mkEV (v : XVariable) (n : Int) : XVariable := ⟨mt n, n + 1⟩
def marksVS (l : List XVariable) : Nat := sumL (fun _ => 2) l
theorem marksVS_le : ∀ (l : List XVariable), marksVS l ≤ 2 * l.length
  | [] => by simp [marksVS, sumL]
  | t :: l => by
    have := marksVS_le l
    simp only [marksVS, sumL_cons, List.length_cons] at this ⊢
    omega
theorem markVariableS_eq {l : List XVariable} {n : Int} (hl : l.length ≤ 1099511627776) (h0 : 0 ≤ n) (h : n + marksVS l ≤ 1000000000) : sh_laws_markVariableS l n = some (mkL mkEV (fun _ => 2) l n, n + marksVS l) := by
  unfold sh_laws_markVariableS
  refine mark_loop2 (mk := mkEV) (sz := fun _ => 2) 1000000000 (by omega) hl h0 h ?_ ?_
  · intro nx s m k x hk hs hx hm hB
    simp only [lt_dec hk, if_true, Int.toNat_natCast]
    rw [markText_eq hm (by omega), Option.bind_some, getO_some hx, ckI_pos (by omega) (by omega), getO_set hk]
    simp only [List.set_set]
    rw [ckI_pos (by omega) (by omega), ckI_succ (by omega)]
    congr 1
    simp only [mkEV, Prod.mk.injEq, and_true, true_and]
    omega
  · intro nx s m
    simp only [lt_self, Bool.false_eq_true, if_false]
end AS
namespace AS
/-- Has a cell no totals? -/
def baseB : List Int → List Int → Bool
  | [], _ => true
  | x :: l, s :: t => decide (x ≠ s) && baseB l t
  | _ :: _, [] => false
theorem isBase_eq {s ix : List Int} (hl : ix.length ≤ s.length) : sh_impl_isBase s ix = some (baseB ix s) := by
  unfold sh_impl_isBase
  refine (range_mem (I := fun _ _ => True) (G := fun l k _ => some (baseB l (s.drop k))) ?_ ?_ () trivial).trans (by simp)
  · intro k u _ _; simp [baseB]
  · intro x l' k u next hx hd _ hn
    have hk := (List.getElem?_eq_some_iff.1 hx).1
    have hk2 : k < s.length := by omega
    rw [getO_nat hk2, List.drop_eq_getElem_cons hk2, hn () trivial]
    by_cases e : x = s[k] <;> simp [e, baseB]
def basesL (s : List Int) (n : Nat) : List Nat := (List.range n).filter fun i => baseB (idxL s i) s
theorem basesL_succ (s : List Int) (n : Nat) : basesL s (n + 1) = basesL s n ++ (if baseB (idxL s n) s = true then [n] else []) := by
  simp only [basesL, List.range_succ, List.filter_append]
  congr 1
  by_cases h : baseB (idxL s n) s = true <;> simp [h]
theorem basesL_len (s : List Int) (n : Nat) : (basesL s n).length ≤ n := by
  have := List.length_filter_le (fun i : Nat => baseB (idxL s (i : Int)) s) (List.range n)
  simpa [basesL] using this
theorem basesL_mem {s : List Int} {n i : Nat} (h : i ∈ basesL s n) : i < n := by
  simp only [basesL, List.mem_filter, List.mem_range] at h; exact h.1
theorem cbBase_eq {s : List Int} (hv : valid s) (hc : cntB s = vol s) : sh_spec_cbBase s = some ((basesL s (vol s).toNat).map fun (i : Nat) => (i : Int)) := by
  unfold sh_spec_cbBase
  have hb := vol_bd hv
  have e0 : ((([] : List Int), (0 : Int)) : List Int × Int) = (fun n : Nat => ((basesL s n).map (fun (i : Nat) => (i : Int)), (n : Int))) 0 := by simp [basesL]
  rw [e0]
  refine (loop_up (vol s).toNat (fun n : Nat => ((basesL s n).map (fun (i : Nat) => (i : Int)), (n : Int))) (fun _ => some ((basesL s (vol s).toNat).map fun (i : Nat) => (i : Int))) (by omega) ?_ ?_)
  · intro next n hn hx
    have hn2 : (n : Int) < vol s := by omega
    have hlen := basesL_len s n
    rw [cbCount_eq, Option.bind_some, hc]
    simp only [hn2, decide_true, if_true]
    rw [cbIndices_eq hv (by omega) (by omega), Option.bind_some]
    have hfit := idxL_fits hv (show (0 : Int) ≤ n by omega)
    refine (range_mem (I := fun k a => baseB (idxL s n) s = (a && baseB ((idxL s n).drop k) (s.drop k))) (G := fun _ _ _ => some ((basesL s (vol s).toNat).map fun (i : Nat) => (i : Int))) ?_ ?_ true (by simp))
    · intro k a hI hk
      rw [hk, List.drop_length] at hI
      simp only [baseB, Bool.and_true] at hI
      rw [← hx]
      cases a with
      | true =>
        simp only [if_true]
        rw [ckI_succ (by omega), lnO_pos (by simp; omega)]
        simp [basesL_succ, hI]
      | false =>
        simp only [Bool.false_eq_true, if_false]
        rw [ckI_succ (by omega)]
        simp [basesL_succ, hI]
    · intro x l' k a nx2 hx2 hd hI hn3
      have hk := (List.getElem?_eq_some_iff.1 hx2).1
      rw [idxL_len] at hk
      have h2 : List.drop (k + 1) (idxL s n) = l' := by
        have := congrArg List.tail hd
        simpa using this
      rw [hd, List.drop_eq_getElem_cons hk] at hI
      simp only [baseB] at hI
      have hf := hfit.2 k s[k] x (List.getElem?_eq_getElem hk) hx2
      rw [h2] at hn3
      cases a with
      | false =>
        simp only [Bool.false_eq_true, if_false]
        exact hn3 _ (by rw [hI]; simp)
      | true =>
        simp only [if_true]
        rw [getO_nat hk]
        refine hn3 _ ?_
        rw [hI]
        have : decide (x < s[k]) = decide (x ≠ s[k]) := by
          congr 1; apply propext; omega
        rw [this]; simp
  · intro next
    rw [cbCount_eq, Option.bind_some, hc]
    simp only [show ¬ (((vol s).toNat : Int) < vol s) by omega, decide_false, Bool.false_eq_true, if_false]
end AS
namespace AS
/-! ### Indices and cells, to and fro -/
theorem idxL_add : ∀ {s : List Int} {i k : Int}, (∀ x ∈ s, 1 ≤ x ∧ x ≤ 30) → idxL s (i + k * vol s) = idxL s i
  | [], _, _, _ => rfl
  | x :: l, i, k, h => by
    have hl := vol_pow (s := l) (fun y hy => h y (by simp [hy]))
    have hx := h x (by simp)
    have e : i + k * vol (x :: l) = i + (k * (x + 1)) * vol l := by simp only [vol, Int.mul_assoc]
    simp only [idxL]
    rw [e, idxL_add (fun y hy => h y (by simp [hy])), Int.add_mul_ediv_right _ _ (by omega), Int.add_mul_emod_self_right]
theorem idxL_atL : ∀ {s ix : List Int}, (∀ x ∈ s, 1 ≤ x ∧ x ≤ 30) → fits s ix → idxL s (atL s ix) = ix
  | [], ix, _, hf => by have := hf.1; simp at this; subst this; rfl
  | x :: l, [], _, hf => by have := hf.1; simp at this
  | x :: l, a :: as, h, hf => by
    have hl := vol_pow (s := l) (fun y hy => h y (by simp [hy]))
    have hf2 : fits l as := ⟨by have := hf.1; simpa using this, fun k x y hx hy => hf.2 (k + 1) x y (by simpa using hx) (by simpa using hy)⟩
    have hb := atL_bd (fun y hy => h y (by simp [hy])) hf2
    have ha := hf.2 0 x a rfl rfl
    simp only [atL, idxL]
    rw [Int.add_comm, idxL_add (fun y hy => h y (by simp [hy])), idxL_atL (fun y hy => h y (by simp [hy])) hf2, Int.add_mul_ediv_right _ _ (by omega), Int.ediv_eq_zero_of_lt hb.1 hb.2, Int.zero_add, Int.emod_eq_of_lt ha.1 (by omega)]
/-! ### Totals -/
def compat : List Int → List Int → List Int → Bool
  | x :: s, b :: bs, a :: as => (decide (a = x) || decide (a = b)) && compat s bs as
  | _, _, _ => true
theorem compat_set : ∀ {s b ix : List Int} {d : Nat} {x y : Int} {k : Int}, ix.length = s.length → b.length = s.length → s[d]? = some x → ix[d]? = some x → b[d]? = some y → k ≠ x → compat s b (ix.set d k) = (decide (k = y) && compat s b ix)
  | x :: s, b :: bs, a :: as, 0, x', y, k, _, _, hx, ha, hb, hk => by
    simp at hx ha hb; subst hx; subst ha; subst hb
    simp [compat, hk]
  | x :: s, b :: bs, a :: as, d + 1, x', y, k, h1, h2, hx, ha, hb, hk => by
    simp only [List.set_cons_succ, compat]
    rw [compat_set (d := d) (by simpa using h1) (by simpa using h2) (by simpa using hx) (by simpa using ha) (by simpa using hb) hk]
    cases (decide (a = x) || decide (a = b)) <;> simp
  | [], _, _, _, _, _, _, _, _, hx, _, _, _ => by simp at hx
  | _ :: _, [], _, _, _, _, _, _, h2, _, _, _, _ => by simp at h2
  | _ :: _, _ :: _, [], _, _, _, _, h1, _, _, _, _, _ => by simp at h1
/-- The value of a cell: the sum of the base cells that it covers. -/
def tot (s : List Int) (bs : List (List Int × Int)) (ix : List Int) : Int := sumI (bs.map fun p => if compat s p.1 ix then p.2 else 0)
theorem sumI_map_add {α : Type} (f g : α → Int) : ∀ (l : List α), sumI (l.map fun x => f x + g x) = sumI (l.map f) + sumI (l.map g)
  | [] => rfl
  | x :: l => by simp only [List.map_cons, sumI, sumI_map_add f g l]; omega
theorem sumI_zero {α : Type} {f : α → Int} : ∀ {l : List α}, (∀ x ∈ l, f x = 0) → sumI (l.map f) = 0
  | [], _ => rfl
  | x :: l, h => by simp only [List.map_cons, sumI, h x (by simp), sumI_zero (l := l) (fun y hy => h y (by simp [hy]))]; omega
theorem sumI_one (n : Nat) (j : Nat) (hj : j < n) (v : Int) : sumI ((List.range n).map fun k => if k = j then v else 0) = v := by
  induction n with
  | zero => omega
  | succ n ih =>
    rw [range_map_succ, sumI_append]
    by_cases h : j = n
    · subst h
      rw [sumI_zero (fun k hk => by simp at hk; simp; omega)]
      simp [sumI]
    · rw [ih (by omega)]; simp [sumI]; omega
theorem tot_part {s : List Int} (hv : ∀ x ∈ s, 1 ≤ x ∧ x ≤ 30) : ∀ {bs : List (List Int × Int)} {ix : List Int} {d : Nat} {x : Int}, (∀ p ∈ bs, p.1.length = s.length ∧ ∀ (k : Nat) (x y : Int), s[k]? = some x → p.1[k]? = some y → 0 ≤ y ∧ y < x) → ix.length = s.length → s[d]? = some x → ix[d]? = some x →
    sumI ((List.range x.toNat).map fun (k : Nat) => tot s bs (ix.set d (k : Int))) = tot s bs ix
  | [], ix, d, x, _, _, _, _ => by
    simp only [tot, List.map_nil, sumI]
    exact sumI_zero (fun _ _ => rfl)
  | p :: bs, ix, d, x, hb, hl, hs, hi => by
    have ih := tot_part hv (bs := bs) (ix := ix) (d := d) (x := x) (fun q hq => hb q (by simp [hq])) hl hs hi
    have hp := hb p (by simp)
    have hd : d < s.length := (List.getElem?_eq_some_iff.1 hs).1
    have hpd : d < p.1.length := by omega
    have hy := hp.2 d x p.1[d] hs (List.getElem?_eq_getElem hpd)
    have e : ∀ jx, tot s (p :: bs) jx = (if compat s p.1 jx then p.2 else 0) + tot s bs jx := fun jx => rfl
    have e2 : ((List.range x.toNat).map fun (k : Nat) => tot s (p :: bs) (ix.set d (k : Int))) = (List.range x.toNat).map fun (k : Nat) => (if compat s p.1 (ix.set d (k : Int)) then p.2 else 0) + tot s bs (ix.set d (k : Int)) := by
      apply List.map_congr_left; intro k _; exact e _
    rw [e2, sumI_map_add, ih, e]
    congr 1
    have e3 : ((List.range x.toNat).map fun (k : Nat) => if compat s p.1 (ix.set d (k : Int)) then p.2 else 0) = (List.range x.toNat).map fun (k : Nat) => if k = p.1[d].toNat then (if compat s p.1 ix then p.2 else 0) else 0 := by
      apply List.map_congr_left
      intro k hk
      simp only [List.mem_range] at hk
      rw [compat_set hl hp.1 hs hi (List.getElem?_eq_getElem hpd) (by omega)]
      by_cases h : (k : Int) = p.1[d]
      · have hk2 : k = p.1[d].toNat := by omega
        simp only [h, decide_true, Bool.true_and]
        exact (if_pos hk2).symm
      · simp only [h, decide_false, Bool.false_and, Bool.false_eq_true, if_false, show ¬ k = p.1[d].toNat by omega]
    rw [e3, sumI_one _ _ (by omega)]
theorem tot_bd {s : List Int} {bs : List (List Int × Int)} (hb : ∀ p ∈ bs, -1000000 ≤ p.2 ∧ p.2 ≤ 1000000) (hl : bs.length ≤ 2000) (ix : List Int) : -2000000000 ≤ tot s bs ix ∧ tot s bs ix ≤ 2000000000 := by
  have := sumI_bd (b := 1000000) (by omega) (l := bs.map fun p => if compat s p.1 ix then p.2 else 0) (fun y hy => by
    obtain ⟨p, hp, rfl⟩ := List.mem_map.1 hy
    have := hb p hp
    split <;> omega)
  simp only [List.length_map] at this
  show -2000000000 ≤ sumI _ ∧ sumI _ ≤ 2000000000
  omega
/-- At a cell without totals only that very cell counts. -/
theorem compat_base : ∀ {s b ix : List Int}, ix.length = s.length → b.length = s.length → baseB ix s = true → compat s b ix = decide (ix = b)
  | [], b, ix, h1, h2, _ => by
    have e1 : ix = [] := by simpa using h1
    have e2 : b = [] := by simpa using h2
    subst e1; subst e2; rfl
  | x :: s, b :: bs, a :: as, h1, h2, hb => by
    simp only [baseB, Bool.and_eq_true, decide_eq_true_eq] at hb
    simp only [compat, compat_base (by simpa using h1) (by simpa using h2) hb.2, hb.1, decide_false, Bool.false_or]
    by_cases h : a = b <;> simp [h]
  | x :: s, [], ix, _, h2, _ => by simp at h2
  | x :: s, b :: bs, [], h1, _, _ => by simp at h1
/-! ### Base cells and their values -/
def pairs (s : List Int) (n : Nat) (base : List Int) : List (List Int × Int) := List.zip ((basesL s n).map fun (i : Nat) => idxL s (i : Int)) base
theorem basesL_get_inj {s : List Int} (hv : valid s) {n : Nat} (hn : (n : Int) ≤ vol s) {i : Nat} (hi : i ∈ basesL s n) {j : Nat} (hj : j ∈ basesL s n) (h : idxL s (i : Int) = idxL s (j : Int)) : i = j := by
  have h1 := basesL_mem hi
  have h2 := basesL_mem hj
  have e1 := atL_idxL hv.2 (show (0 : Int) ≤ i by omega)
  have e2 := atL_idxL hv.2 (show (0 : Int) ≤ j by omega)
  rw [h, e2, Int.emod_eq_of_lt (by omega) (by omega), Int.emod_eq_of_lt (by omega) (by omega)] at e1
  omega
theorem basesL_sorted (s : List Int) : ∀ n, (basesL s n).Pairwise (· < ·) := by
  intro n
  exact (List.pairwise_lt_range (n := n)).filter _
theorem basesL_take {s : List Int} : ∀ {n i : Nat}, i ≤ n → basesL s i <+: basesL s n := by
  intro n i h
  induction n with
  | zero => rw [show i = 0 by omega]; exact List.prefix_refl _
  | succ n ih =>
    by_cases e : i = n + 1
    · subst e; exact List.prefix_refl _
    · exact (ih (by omega)).trans (by rw [basesL_succ]; exact List.prefix_append _ _)
theorem basesL_rank {s : List Int} {n i : Nat} (hi : i < n) (hb : baseB (idxL s (i : Int)) s = true) : (basesL s n)[(basesL s i).length]? = some i := by
  have h1 : basesL s (i + 1) <+: basesL s n := basesL_take (by omega)
  obtain ⟨t, ht⟩ := h1
  rw [← ht, basesL_succ, if_pos hb, List.append_assoc, List.getElem?_append_right (Nat.le_refl _)]
  simp
/-- The value of a base cell, found again in the sum. -/
theorem tot_base {s : List Int} (hv : valid s) {n : Nat} (hn : (n : Int) ≤ vol s) {base : List Int} (hlen : base.length = (basesL s n).length) {i : Nat} (hi : i < n) (hb : baseB (idxL s (i : Int)) s = true) {v : Int} (hx : base[(basesL s i).length]? = some v) : tot s (pairs s n base) (idxL s (i : Int)) = v := by
  have hr := basesL_rank hi hb
  have hk := (List.getElem?_eq_some_iff.1 hr).1
  have hidx : (idxL s (i : Int)).length = s.length := idxL_len _ _
  -- the sum over the list as a sum over its places
  have e : tot s (pairs s n base) (idxL s (i : Int)) = sumI ((List.range (basesL s n).length).map fun k => if k = (basesL s i).length then v else 0) := by
    unfold tot
    congr 1
    apply List.ext_getElem
    · simp [pairs, hlen]
    · intro m h1 h2
      simp only [List.length_map, List.length_range] at h2
      simp only [List.getElem_map, List.getElem_range, pairs, List.getElem_zip]
      rw [compat_base hidx (by rw [idxL_len]) hb]
      by_cases hm : m = (basesL s i).length
      · subst hm
        have : (basesL s n)[(basesL s i).length] = i := (List.getElem?_eq_some_iff.1 hr).2
        have hv2 : base[(basesL s i).length] = v := (List.getElem?_eq_some_iff.1 hx).2
        simp [this, hv2]
      · have hne : ¬ (idxL s (i : Int) = idxL s ((basesL s n)[m] : Int)) := by
          intro he
          have hmem : i ∈ basesL s n := List.mem_of_getElem? hr
          have := basesL_get_inj hv hn hmem (List.getElem_mem h2) he
          have hp := basesL_sorted s n
          rw [List.pairwise_iff_getElem] at hp
          have hrv : (basesL s n)[(basesL s i).length] = i := (List.getElem?_eq_some_iff.1 hr).2
          rcases Nat.lt_or_gt_of_ne hm with hlt | hlt
          · have := hp m _ h2 hk hlt; omega
          · have := hp _ m hk h2 hlt; omega
        simp [hne, hm]
  rw [e, sumI_one _ _ hk]
theorem pairs_ok {s : List Int} (hv : valid s) {n : Nat} {base : List Int} : ∀ p ∈ pairs s n base, p.1.length = s.length ∧ ∀ (k : Nat) (x y : Int), s[k]? = some x → p.1[k]? = some y → 0 ≤ y ∧ y < x := by
  intro p hp
  have h1 := (List.of_mem_zip hp).1
  obtain ⟨i, hi, he⟩ := List.mem_map.1 h1
  rw [← he]
  refine ⟨idxL_len _ _, fun k x y hx hy => ?_⟩
  have hf := (idxL_fits hv (show (0 : Int) ≤ i by omega)).2 k x y hx hy
  have hbase : baseB (idxL s (i : Int)) s = true := by simp only [basesL, List.mem_filter] at hi; exact hi.2
  have hne : ∀ {ix s : List Int}, baseB ix s = true → ∀ (k : Nat) (x y : Int), s[k]? = some x → ix[k]? = some y → y ≠ x := by
    intro ix
    induction ix with
    | nil => intro s _ k x y _ hy; simp at hy
    | cons a as ih =>
      intro s hb k x y hx hy
      cases s with
      | nil => simp at hx
      | cons z zs =>
        simp only [baseB, Bool.and_eq_true, decide_eq_true_eq] at hb
        cases k with
        | zero => simp at hx hy; subst hx; subst hy; exact hb.1
        | succ k => exact ih hb.2 k x y (by simpa using hx) (by simpa using hy)
  have := hne hbase k x y hx hy
  omega
theorem pairs_small {s : List Int} {n : Nat} {base : List Int} (h : smallL base = true) : ∀ p ∈ pairs s n base, -1000000 ≤ p.2 ∧ p.2 ≤ 1000000 := by
  intro p hp
  have h1 := (List.of_mem_zip hp).2
  obtain ⟨k, hk⟩ := List.getElem?_of_mem h1
  exact smallL_get h hk
theorem pairs_len {s : List Int} {n : Nat} {base : List Int} : (pairs s n base).length ≤ n := by
  have := basesL_len s n
  simp only [pairs, List.length_zip, List.length_map]; omega
/-- All cells. -/
def totL (s : List Int) (n : Nat) (base : List Int) : List Int := (List.range n).map fun (i : Nat) => tot s (pairs s n base) (idxL s (i : Int))
end AS
namespace AS
theorem mixL_skip {α : Type} {a b : List α} (h : a.length = b.length) {k : Nat} (hk : k < a.length) (e : a[k] = b[k]'(by omega)) : mixL a b (k + 1) = mixL a b k := by
  rw [← mixL_set h hk]
  apply List.ext_getElem?
  intro i
  by_cases hi : i = k
  · subst hi
    rw [List.getElem?_set_self (by rw [mixL_len h]; omega), mixL_get h (by omega), e]
  · rw [List.getElem?_set_ne (Ne.symm hi)]
def noTot (d : Nat) (s ix : List Int) : Bool := baseB (ix.drop d) (s.drop d)
theorem noTot_step {d : Nat} {s ix : List Int} {x y : Int} (hx : s[d]? = some x) (hy : ix[d]? = some y) : noTot d s ix = (decide (y ≠ x) && noTot (d + 1) s ix) := by
  obtain ⟨h1, rfl⟩ := List.getElem?_eq_some_iff.1 hx
  obtain ⟨h2, rfl⟩ := List.getElem?_eq_some_iff.1 hy
  unfold noTot
  rw [List.drop_eq_getElem_cons h1, List.drop_eq_getElem_cons h2]
  rfl
theorem noTot_set {d : Nat} {s ix : List Int} {y : Int} : noTot (d + 1) s (ix.set d y) = noTot (d + 1) s ix := by
  unfold noTot
  rw [List.drop_set_of_lt (by omega)]
/-- The cells behind d steps. -/
def stA (s : List Int) (n : Nat) (base : List Int) (d : Nat) (i : Nat) : Int := if noTot d s (idxL s (i : Int)) then tot s (pairs s n base) (idxL s (i : Int)) else 0
def stL (s : List Int) (n : Nat) (base : List Int) (d : Nat) : List Int := (List.range n).map (stA s n base d)
theorem stL_len (s : List Int) (n : Nat) (base : List Int) (d : Nat) : (stL s n base d).length = n := by simp [stL]
theorem stL_get {s : List Int} {n : Nat} {base : List Int} {d i : Nat} (h : i < n) : (stL s n base d)[i]'(by rw [stL_len]; exact h) = stA s n base d i := by simp [stL]
theorem stL_end (s : List Int) (n : Nat) (base : List Int) : stL s n base s.length = totL s n base := by
  unfold stL totL
  apply List.map_congr_left
  intro i _
  have : noTot s.length s (idxL s (i : Int)) = true := by
    unfold noTot
    rw [List.drop_of_length_le (by rw [idxL_len]; exact Nat.le_refl _)]; rfl
  simp [stA, this]
def cubeR (s base : List Int) : XCube × Bool :=
  if decide (base.length = (basesL s (vol s).toNat).length) && smallL base && smallL (totL s (vol s).toNat base) then (⟨s, totL s (vol s).toNat base⟩, true) else (⟨[], []⟩, false)
theorem implCubeOf_eq {s base : List Int} (hv : valid s) (hc : cntB s = vol s) (hN : vol s ≤ 2000) : sh_impl_cubeOf s base = some (cubeR s base) := by
  unfold sh_impl_cubeOf
  have hvb := vol_bd hv
  have hsl := hv.1
  obtain ⟨n, hn⟩ : ∃ n : Nat, vol s = (n : Int) := ⟨(vol s).toNat, by omega⟩
  have hnt : (vol s).toNat = n := by omega
  rw [Clone_eq (by omega), Option.bind_some, cubeCells_eq, Option.bind_some, hc, mkO_pos (by omega) (by omega), hnt]
  have hidx : ∀ i : Nat, i < n → sh_impl_indexOf s (i : Int) = some (idxL s (i : Int)) := fun i hi => indexOf_eq hv (by omega) (by omega)
  have hbase : ∀ i : Nat, sh_impl_isBase s (idxL s (i : Int)) = some (baseB (idxL s (i : Int)) s) := fun i => isBase_eq (by rw [idxL_len]; exact Nat.le_refl _)
  have hz : (List.replicate n (0 : Int)).length = n := by simp
  -- first: how many
  refine (range_mem (I := fun (k : Nat) (a : Int) => a = ((basesL s k).length : Int) ∧ k ≤ n) (G := fun _ _ _ => some (cubeR s base)) ?_ ?_ 0 ⟨by simp [basesL], by omega⟩)
  rotate_left
  · intro x l' k a next hx _ hI hnx
    obtain ⟨rfl, _⟩ := hI
    have hk : k < n := by have := (List.getElem?_eq_some_iff.1 hx).1; simpa using this
    have hlen := basesL_len s k
    rw [hidx k hk, Option.bind_some, hbase, Option.bind_some]
    by_cases hb : baseB (idxL s (k : Int)) s = true
    · simp only [hb, if_true]
      rw [ckI_pos (by omega) (by omega)]
      exact hnx _ ⟨by rw [basesL_succ, if_pos hb]; simp, by omega⟩
    · simp only [hb, if_false]
      exact hnx _ ⟨by rw [basesL_succ, if_neg hb]; simp, by omega⟩
  intro k a hI hk
  obtain ⟨rfl, _⟩ := hI
  rw [hz] at hk
  subst hk
  by_cases hlen : base.length = (basesL s k).length
  rotate_left
  · have : ¬ (((basesL s k).length : Int) = (base.length : Int)) := by omega
    simp [this, cubeR, hnt, hlen]
  simp only [hlen, ne_eq, not_true_eq_false, decide_false, Bool.false_eq_true, if_false]
  rw [areCubeValues_eq, Option.bind_some]
  cases hsm : smallL base with
  | false => simp [cubeR, hsm]
  | true =>
  simp only [Bool.not_true, Bool.false_eq_true, if_false]
  have hbl := basesL_len s k
  have hp1 := pairs_ok hv (n := k) (base := base)
  have hp2 := pairs_small (s := s) (n := k) hsm
  have hp3 := pairs_len (s := s) (n := k) (base := base)
  have htb : ∀ ix, -2000000000 ≤ tot s (pairs s k base) ix ∧ tot s (pairs s k base) ix ≤ 2000000000 := fun ix => tot_bd hp2 (by omega) ix
  have h0l : (stL s k base 0).length = (List.replicate k (0 : Int)).length := by rw [stL_len, hz]
  -- second: the base cells are laid
  refine (range_mem (I := fun (i : Nat) (st : XCube × Int) => st = (⟨s, mixL (stL s k base 0) (List.replicate k (0 : Int)) i⟩, ((basesL s i).length : Int)) ∧ i ≤ k) (G := fun _ _ _ => some (cubeR s base)) ?_ ?_ _ ⟨by simp [mixL_zero, basesL], by omega⟩)
  rotate_left
  · intro x l' i st next hx _ hI hnx
    obtain ⟨rfl, _⟩ := hI
    have hi : i < k := by have := (List.getElem?_eq_some_iff.1 hx).1; simpa using this
    have hil := basesL_len s i
    have hi2 : i < (stL s k base 0).length := by rw [stL_len]; exact hi
    rw [hidx i hi, Option.bind_some, hbase, Option.bind_some]
    have hst : (stL s k base 0)[i] = stA s k base 0 i := stL_get hi
    by_cases hb : baseB (idxL s (i : Int)) s = true
    · simp only [hb, if_true]
      have hr := basesL_rank hi hb
      have hrl := (List.getElem?_eq_some_iff.1 hr).1
      have hbv : base[(basesL s i).length]? = some (base[(basesL s i).length]'(by omega)) := List.getElem?_eq_getElem (by omega)
      rw [getO_some hbv, getO_some (mixL_get h0l (by rw [hz]; exact hi)), ckI_pos (by omega) (by omega)]
      refine hnx _ ⟨?_, by omega⟩
      have hval : stA s k base 0 i = base[(basesL s i).length]'(by omega) := by
        have : noTot 0 s (idxL s (i : Int)) = true := by simpa [noTot] using hb
        simp only [stA, this, if_true]
        exact tot_base hv (by omega) hlen hi hb hbv
      rw [Int.toNat_natCast, ← hval, ← hst, mixL_set h0l hi2, basesL_succ, if_pos hb]
      simp
    · simp only [hb, if_false]
      refine hnx _ ⟨?_, by omega⟩
      have hval : stA s k base 0 i = 0 := by
        have : noTot 0 s (idxL s (i : Int)) = false := by simpa [noTot] using hb
        simp [stA, this]
      rw [mixL_skip h0l hi2 (by rw [hst, hval]; simp), basesL_succ, if_neg hb]
      simp
  intro i st hI hi
  obtain ⟨rfl, _⟩ := hI
  rw [hz] at hi
  subst hi
  have hend := mixL_end h0l
  rw [stL_len] at hend
  simp only [hend]
  rw [strides_eq hv, Option.bind_some]
  -- third: one dimension after the other
  refine (range_mem (I := fun (d : Nat) (c : XCube) => c = ⟨s, stL s i base d⟩ ∧ d ≤ s.length) (G := fun _ _ _ => some (cubeR s base)) ?_ ?_ _ ⟨rfl, by omega⟩)
  · intro d c hI hd
    obtain ⟨rfl, _⟩ := hI
    rw [strL_len] at hd
    subst hd
    simp only [stL_end]
    rw [areCubeValues_eq, Option.bind_some]
    cases h2 : smallL (totL s i base) with
    | false => simp [cubeR, hnt, hsm, h2]
    | true => simp [cubeR, hnt, hsm, h2, hlen]
  · intro st l' d c next hx _ hI hnx
    obtain ⟨rfl, _⟩ := hI
    have hd : d < s.length := by have := (List.getElem?_eq_some_iff.1 hx).1; rwa [strL_len] at this
    have hste : st = vol (s.drop (d + 1)) := by
      have := (List.getElem?_eq_some_iff.1 hx).2
      rw [← this]; exact strL_get s d hd
    subst hste
    have hsd : s[d]? = some s[d] := List.getElem?_eq_getElem hd
    have hxb := hv.get hsd
    have hvd := vol_bd (hv.drop (d + 1))
    have hnext := hnx _ ⟨rfl, by omega⟩
    rw [← hnext]
    have hll : (stL s i base (d + 1)).length = (stL s i base d).length := by rw [stL_len, stL_len]
    refine (range_mem (I := fun (j : Nat) (c : XCube) => c = ⟨s, mixL (stL s i base (d + 1)) (stL s i base d) j⟩ ∧ j ≤ i) (G := fun _ _ _ => next ⟨s, stL s i base (d + 1)⟩) ?_ ?_ _ ⟨by simp [mixL_zero], by omega⟩)
    · intro j c hI hj
      obtain ⟨rfl, _⟩ := hI
      have := mixL_end hll
      rw [stL_len] at this hj
      rw [hj, this]
    · intro y l2 j c nx2 hy _ hI hn2
      obtain ⟨rfl, _⟩ := hI
      have hj : j < i := by have := (List.getElem?_eq_some_iff.1 hy).1; rwa [stL_len] at this
      have hj2 : j < (stL s i base (d + 1)).length := by rw [stL_len]; exact hj
      have hjl : (idxL s (j : Int)).length = s.length := idxL_len _ _
      have hjd : (idxL s (j : Int))[d]? = some ((idxL s (j : Int))[d]'(by omega)) := List.getElem?_eq_getElem (by omega)
      have hnt2 := noTot_step hsd hjd
      rw [hidx j hj, Option.bind_some, getO_some hjd, getO_nat hd]
      have hg1 : (stL s i base (d + 1))[j] = stA s i base (d + 1) j := stL_get hj
      have hg0 : (stL s i base d)[j]'(by rw [stL_len]; exact hj) = stA s i base d j := stL_get hj
      by_cases hne : (idxL s (j : Int))[d]'(by omega) = s[d]
      rotate_left
      · simp only [ne_eq, hne, not_false_eq_true, decide_true, if_true]
        refine hn2 _ ⟨?_, by omega⟩
        rw [mixL_skip hll hj2]
        rw [hg1, hg0]
        simp only [stA, hnt2, ne_eq, hne, not_false_eq_true, decide_true, Bool.true_and]
      have h0 : stA s i base d j = 0 := by simp [stA, hnt2, hne]
      simp only [ne_eq, hne, not_true_eq_false, decide_false, Bool.false_eq_true, if_false]
      rw [ckI_pos (by omega) (by omega), ck_pos (by omega), ckI_pos (by omega) (by omega), ck_pos (by omega)]
      simp only [List.take_length, show ((d : Int) + 1).toNat = d + 1 by omega]
      rw [isBase_eq (by simp; omega), Option.bind_some]
      have hnoT : baseB (List.drop (d + 1) (idxL s (j : Int))) (List.drop (d + 1) s) = noTot (d + 1) s (idxL s (j : Int)) := rfl
      rw [hnoT]
      cases hb : noTot (d + 1) s (idxL s (j : Int)) with
      | false =>
        simp only [Bool.not_false, if_true]
        refine hn2 _ ⟨?_, by omega⟩
        rw [mixL_skip hll hj2]
        rw [hg1, hg0, h0]
        simp [stA, hb]
      | true =>
        simp only [Bool.not_true, Bool.false_eq_true, if_false]
        have hfit := idxL_fits hv (show (0 : Int) ≤ j by omega)
        have hjx : (idxL s (j : Int))[d]? = some s[d] := by rw [hjd, hne]
        -- the cells below
        let g : Nat → Int := fun q => tot s (pairs s i base) ((idxL s (j : Int)).set d (s[d] - ((q : Int) + 1)))
        have hgc : ∀ q : Nat, (q : Int) < s[d] → 0 ≤ (j : Int) - ((q : Int) + 1) * vol (s.drop (d + 1)) ∧ (j : Int) - ((q : Int) + 1) * vol (s.drop (d + 1)) < j ∧
            (mixL (stL s i base (d + 1)) (stL s i base d) j)[((j : Int) - ((q : Int) + 1) * vol (s.drop (d + 1))).toNat]? = some (g q) := fun q hq => by
          have hf2 := hfit.set hsd (show 0 ≤ s[d] - ((q : Int) + 1) by omega) (show s[d] - ((q : Int) + 1) ≤ s[d] by omega)
          have hat := atL_set (y := s[d] - ((q : Int) + 1)) hjl hd (show d < (idxL s (j : Int)).length by omega)
          rw [atL_idxL hv.2 (by omega), Int.emod_eq_of_lt (by omega) (by omega), hne] at hat
          have e1 : (s[d] - ((q : Int) + 1) - s[d]) * vol (s.drop (d + 1)) = -(((q : Int) + 1) * vol (s.drop (d + 1))) := by
            rw [show s[d] - ((q : Int) + 1) - s[d] = -((q : Int) + 1) by omega, Int.neg_mul]
          have hab := atL_bd hv.2 hf2
          have hpos : 1 * 1 ≤ ((q : Int) + 1) * vol (s.drop (d + 1)) := Int.mul_le_mul (by omega) hvd.1 (by omega) (by omega)
          rw [e1] at hat
          have hj' : (j : Int) - ((q : Int) + 1) * vol (s.drop (d + 1)) = atL s ((idxL s (j : Int)).set d (s[d] - ((q : Int) + 1))) := by rw [hat]; omega
          refine ⟨by omega, by omega, ?_⟩
          have hlt : ((j : Int) - ((q : Int) + 1) * vol (s.drop (d + 1))).toNat < j := by omega
          simp only [mixL]
          rw [List.getElem?_append_left (by simp [stL_len]; omega), List.getElem?_take_of_lt hlt, List.getElem?_eq_getElem (by rw [stL_len]; omega), stL_get (by omega)]
          have e2 : idxL s ((((j : Int) - ((q : Int) + 1) * vol (s.drop (d + 1))).toNat : Nat) : Int) = (idxL s (j : Int)).set d (s[d] - ((q : Int) + 1)) := by
            rw [Int.toNat_of_nonneg (by omega), hj', idxL_atL hv.2 hf2]
          simp only [stA, e2, noTot_set, hb, if_true]
          rfl
        have htot : sumI ((List.range s[d].toNat).map g) = tot s (pairs s i base) (idxL s (j : Int)) := by
          rw [← tot_part hv.2 hp1 hjl hsd hjx, ← sumI_reverse ((List.range s[d].toNat).map fun (k : Nat) => tot s (pairs s i base) ((idxL s (j : Int)).set d (k : Int)))]
          congr 1
          apply List.ext_getElem
          · simp
          · intro m h1 h2
            simp only [List.length_map, List.length_range] at h1
            simp only [List.getElem_map, List.getElem_range, List.getElem_reverse, List.length_map, List.length_range]
            show tot s (pairs s i base) ((idxL s (j : Int)).set d (s[d] - ((m : Int) + 1))) = _
            congr 2
            omega
        have hsum : ∀ (m : Nat), (m : Int) ≤ s[d] → -(2000000000 * (m : Int)) ≤ sumI ((List.range m).map g) ∧ sumI ((List.range m).map g) ≤ 2000000000 * (m : Int) := by
          intro m hm
          have := sumI_bd (b := 2000000000) (by omega) (l := (List.range m).map g) (fun y hy => by
            simp only [List.mem_map, List.mem_range] at hy
            obtain ⟨z, hz, rfl⟩ := hy
            exact htb _)
          simpa using this
        have hmg : (mixL (stL s i base (d + 1)) (stL s i base d) j)[j]? = some 0 := by rw [mixL_get hll (by rw [stL_len]; exact hj), hg0, h0]
        have hml : (mixL (stL s i base (d + 1)) (stL s i base d) j).length = i := by rw [mixL_len hll, stL_len]
        have e0 : (((⟨s, mixL (stL s i base (d + 1)) (stL s i base d) j⟩ : XCube), (1 : Int)) : XCube × Int) = (fun m : Nat => ((⟨s, (mixL (stL s i base (d + 1)) (stL s i base d) j).set j (sumI ((List.range m).map g))⟩ : XCube), (m : Int) + 1)) 0 := by
          have : (mixL (stL s i base (d + 1)) (stL s i base d) j).set j 0 = mixL (stL s i base (d + 1)) (stL s i base d) j := by
            apply List.ext_getElem?
            intro q
            by_cases hq : q = j
            · subst hq; rw [List.getElem?_set_self (by rw [hml]; exact hj), hmg]
            · rw [List.getElem?_set_ne (Ne.symm hq)]
          simp [sumI, this]
        rw [e0]
        have hgoal := hn2 ⟨s, mixL (stL s i base (d + 1)) (stL s i base d) (j + 1)⟩ ⟨rfl, by omega⟩
        rw [← hgoal]
        refine (loop_up s[d].toNat (fun m : Nat => ((⟨s, (mixL (stL s i base (d + 1)) (stL s i base d) j).set j (sumI ((List.range m).map g))⟩ : XCube), (m : Int) + 1)) (fun _ => nx2 ⟨s, mixL (stL s i base (d + 1)) (stL s i base d) (j + 1)⟩) (by omega) ?_ ?_)
        · intro nx m hm hnx3
          have hmx : (m : Int) + 1 ≤ s[d] := by omega
          obtain ⟨q1, q2, q3⟩ := hgc m (by omega)
          have hs1 := hsum m (by omega)
          have hgb := htb ((idxL s (j : Int)).set d (s[d] - ((m : Int) + 1)))
          have hgb2 : -2000000000 ≤ g m ∧ g m ≤ 2000000000 := hgb
          have hm1 : ((m : Int) + 1) * vol (s.drop (d + 1)) ≤ 30 * 923521 := Int.mul_le_mul (by omega) hvd.2 (by omega) (by omega)
          have hm0 : 0 ≤ ((m : Int) + 1) * vol (s.drop (d + 1)) := Int.mul_nonneg (by omega) (by omega)
          simp only [hmx, decide_true, if_true]
          rw [getO_some (List.getElem?_set_self (by rw [hml]; exact hj)), ckI_pos (by omega) (by omega), ckI_pos (by omega) (by omega)]
          rw [getO_int (k := ((j : Int) - ((m : Int) + 1) * vol (s.drop (d + 1))).toNat) (x := g m) (by omega) (by rw [List.getElem?_set_ne (by omega)]; exact q3)]
          rw [ckI_pos (by omega) (by omega), ckI_pos (by omega) (by omega), ← hnx3, range_map_succ, sumI_append]
          simp only [sumI, Int.add_zero, cast_succ, Int.toNat_natCast, List.set_set]
        · intro nx
          simp only [show ¬ (((s[d].toNat : Nat) : Int) + 1 ≤ s[d]) by omega, decide_false, Bool.false_eq_true, if_false, htot]
          congr 2
          have : stA s i base (d + 1) j = tot s (pairs s i base) (idxL s (j : Int)) := by simp [stA, hb]
          rw [← this, ← hg1, mixL_set hll hj2]
end AS
