/- Plain lemmas, and the law. No condition. -/
import Derived.Test.YtnjjldjgknkijaaQDifferenceOfS
set_option linter.unusedVariables false
set_option linter.unusedSimpArgs false
namespace AS
section
variable {R σ α β : Type}
theorem FUEL_big {n : Nat} (h : n ≤ 4611686018427387904) : n < FUEL := Nat.lt_of_le_of_lt h (by decide +kernel)
/-- A loop that counts. -/
theorem loop_up {body : (σ → Option R) → σ → Option R} (n : Nat) (S : Nat → σ) (G : Nat → Option R) (hn : n ≤ 4611686018427387904)
    (hs : ∀ next k, k < n → next (S (k + 1)) = G (k + 1) → body next (S k) = G k) (he : ∀ next, body next (S n) = G n) : loopF body FUEL (S 0) = G 0 := by
  have key : ∀ d k, k + d = n → ∀ m, d < m → loopF body m (S k) = G k := by
    intro d
    induction d with
    | zero => intro k hk m hm; obtain ⟨m, rfl⟩ := Nat.exists_eq_succ_of_ne_zero (by omega : m ≠ 0); simp only [loopF]; rw [show k = n by omega]; exact he _
    | succ d ih =>
      intro k hk m hm
      obtain ⟨m, rfl⟩ := Nat.exists_eq_succ_of_ne_zero (by omega : m ≠ 0)
      simp only [loopF]
      exact hs _ k (by omega) (ih (k + 1) (by omega) m (by omega))
  exact key n 0 (by omega) FUEL (FUEL_big hn)
/-- A range that only goes on. -/
theorem range_all {body : Nat → α → σ → (σ → Option R) → Option R} {fin : σ → Option R} {l : List α} {G : List α → Nat → σ → Option R}
    (h0 : ∀ k s, G [] k s = fin s) (hs : ∀ x l k s next, (∀ s', next s' = G l (k + 1) s') → body k x s next = G (x :: l) k s) : ∀ k s, rangeF body fin l k s = G l k s := by
  induction l with
  | nil => intro k s; simp only [rangeF, h0]
  | cons x l ih => intro k s; simp only [rangeF]; exact hs x l k s _ fun s' => ih (k + 1) s'
/-- A range with what is known of the elements. -/
theorem range_mem {body : Nat → α → σ → (σ → Option R) → Option R} {fin : σ → Option R} {l : List α} (I : Nat → σ → Prop) {G : List α → Nat → σ → Option R}
    (h0 : ∀ k s, I k s → k = l.length → fin s = G [] k s) (hs : ∀ x l' k s next, l[k]? = some x → l.drop k = x :: l' → I k s → (∀ s', I (k + 1) s' → next s' = G l' (k + 1) s') → body k x s next = G (x :: l') k s) :
    ∀ s, I 0 s → rangeF body fin l 0 s = G l 0 s := by
  have key : ∀ d k s, k + d = l.length → I k s → rangeF body fin (l.drop k) k s = G (l.drop k) k s := by
    intro d
    induction d with
    | zero =>
      intro k s hk hi
      rw [List.drop_of_length_le (by omega)]
      exact h0 k s hi (by omega)
    | succ d ih =>
      intro k s hk hi
      have hlt : k < l.length := by omega
      rw [List.drop_eq_getElem_cons hlt]
      simp only [rangeF]
      refine hs _ _ k s _ (List.getElem?_eq_getElem hlt) (List.drop_eq_getElem_cons hlt) hi fun s' hs' => ih (k + 1) s' (by omega) hs'
  intro s hi
  have := key l.length 0 s (by omega) hi
  simpa using this
theorem getO_some {l : List α} {k : Nat} {x : α} {f : α → Option R} (h : l[k]? = some x) : getO l (k : Int) f = f x := by simp [getO, h]
theorem ckI_succ {n : Nat} {f : Option R} (h : n ≤ 4611686018427387904) : ckI ((n : Int) + 1) f = f := ckI_pos (by omega) (by omega)
theorem lt_dec {k n : Nat} (h : k < n) : decide ((k : Int) < (n : Int)) = true := by simp [h]
theorem lt_self (n : Nat) : decide ((n : Int) < (n : Int)) = false := by simp
theorem cast_succ (k : Nat) : ((k + 1 : Nat) : Int) = (k : Int) + 1 := rfl
/-! ### One list into another, cell by cell -/
def mixL (a b : List α) (k : Nat) : List α := a.take k ++ b.drop k
theorem mixL_zero (a b : List α) : mixL a b 0 = b := by simp [mixL]
theorem mixL_end {a b : List α} (h : a.length = b.length) : mixL a b a.length = a := by simp [mixL, ← h]
theorem mixL_len {a b : List α} (h : a.length = b.length) (k : Nat) : (mixL a b k).length = b.length := by simp [mixL]; omega
theorem mixL_get {a b : List α} (h : a.length = b.length) {k : Nat} (hk : k < b.length) : (mixL a b k)[k]? = some b[k] := by
  simp only [mixL]
  rw [List.getElem?_append_right (by simp; omega)]
  simp [show min k a.length = k by omega, hk]
theorem mixL_set {a b : List α} (h : a.length = b.length) {k : Nat} (hk : k < a.length) : (mixL a b k).set k a[k] = mixL a b (k + 1) := by
  apply List.ext_getElem?
  intro i
  simp only [mixL]
  by_cases hi : i = k
  · subst hi
    rw [List.getElem?_set_self (by simp; omega), List.getElem?_append_left (by simp; omega), List.getElem?_take_of_lt (by omega)]
    rw [List.getElem?_eq_getElem (by omega)]
  · rw [List.getElem?_set_ne (Ne.symm hi)]
    simp only [List.getElem?_append, List.length_take, List.getElem?_take, List.getElem?_drop]
    by_cases h1 : i < k
    · simp [show i < min k a.length by omega, show i < min (k+1) a.length by omega, h1, show i < k + 1 by omega]
    · simp only [show ¬ i < min k a.length by omega, show ¬ i < min (k+1) a.length by omega, if_false]
      congr 1; omega
/-! ### The marks -/
def mks (n : Int) (m : Nat) : List Int := (List.range m).map fun (i : Nat) => n + (i : Int)
theorem mks_len (n : Int) (m : Nat) : (mks n m).length = m := by simp [mks]
theorem mks_get (n : Int) {m k : Nat} (h : k < m) : (mks n m)[k]'(by rw [mks_len]; exact h) = n + k := by simp [mks]
end
end AS
namespace AS
theorem toIntS_eq {l : List Int} (h : l.length ≤ 1048576) : sh_laws_toIntS l = some l := by
  unfold sh_laws_toIntS
  rw [mkO_pos (by omega) (by omega)]
  refine (loop_up l.length (fun k => (mixL l (List.replicate l.length 0) k, (k : Int))) (fun _ => some l) (by omega) ?_ ?_)
  · intro next k hk hn
    simp only [lt_dec hk, if_true]
    rw [getO_nat hk, getO_some (mixL_get (by simp) (by simpa using hk)), ckI_succ (by omega)]
    simp only [Int.toNat_natCast, mixL_set (b := List.replicate l.length 0) (by simp) hk]
    exact hn
  · intro next
    simp only [lt_self]
    simp [mixL_end (a := l) (b := List.replicate l.length 0) (by simp)]
theorem eqIntS_eq {a b : List Int} (h : a.length ≤ 1099511627776) : sh_laws_eqIntS a b = some (decide (a = b)) := by
  unfold sh_laws_eqIntS
  by_cases hl : a.length = b.length
  · simp only [hl, ne_eq, not_true_eq_false, decide_false, Bool.false_eq_true, if_false]
    refine (loop_up b.length (fun k => (k : Int)) (fun k => some (decide (a.drop k = b.drop k))) (by omega) ?_ ?_).trans (by simp)
    · intro next k hk hn
      have hk' : k < a.length := by omega
      simp only [lt_dec hk, if_true]
      rw [getO_nat hk', getO_nat hk, ckI_succ (by omega)]
      rw [List.drop_eq_getElem_cons hk', List.drop_eq_getElem_cons hk]
      by_cases e : a[k] = b[k]
      · simp only [e, not_true_eq_false, decide_false, Bool.false_eq_true, if_false, List.cons.injEq, true_and]
        exact hn
      · simp only [ne_eq, e, not_false_eq_true, decide_true, if_true, List.cons.injEq, false_and, decide_false]
    · intro next
      simp only [lt_self]
      simp [List.drop_of_length_le (Nat.le_refl _), List.drop_of_length_le (show a.length ≤ b.length by omega)]
  · have : ¬ (a = b) := fun e => hl (by rw [e])
    have h2 : ¬ ((a.length : Int) = (b.length : Int)) := by omega
    simp [this, h2]
theorem markIntS_eq {l : List Int} {n : Int} (h0 : 0 ≤ n) (h : n + l.length ≤ 4611686018427387904) : sh_laws_markIntS l n = some (mks n l.length, n + l.length) := by
  unfold sh_laws_markIntS
  have e0 : ((l, n, (0 : Int)) : List Int × Int × Int) = (fun k : Nat => (mixL (mks n l.length) l k, n + (k : Int), (k : Int))) 0 := by simp [mixL_zero]
  rw [e0]
  refine (loop_up l.length (fun k : Nat => (mixL (mks n l.length) l k, n + (k : Int), (k : Int))) (fun _ => some (mks n l.length, n + l.length)) (by omega) ?_ ?_)
  · intro next k hk hn
    have hm : k < (mks n l.length).length := by rw [mks_len]; exact hk
    simp only [mixL_len (mks_len n l.length), lt_dec hk, if_true]
    rw [getO_some (mixL_get (mks_len n l.length) hk), ckI_pos (by omega) (by omega), ckI_succ (by omega)]
    simp only [Int.toNat_natCast]
    rw [← mks_get n hk, mixL_set (mks_len n l.length) hm, ← hn, mks_get n hk]
    simp only [cast_succ, Int.add_assoc]
  · intro next
    simp only [mixL_len (mks_len n l.length), lt_self]
    have := mixL_end (mks_len n l.length)
    rw [mks_len] at this
    simp [this]
theorem heldIntS_eq {m : Nat} {n : Int} (h0 : 0 ≤ n) (h : n + m ≤ 4611686018427387904) : sh_laws_heldIntS (mks n m) n = some (n + m) := by
  unfold sh_laws_heldIntS
  have e0 : ((n, (0 : Int)) : Int × Int) = (fun k : Nat => (n + (k : Int), (k : Int))) 0 := by simp
  rw [e0]
  refine (loop_up m (fun k : Nat => (n + (k : Int), (k : Int))) (fun _ => some (n + m)) (by omega) ?_ ?_)
  · intro next k hk hn
    have hm : k < (mks n m).length := by rw [mks_len]; exact hk
    simp only [mks_len, lt_dec hk, if_true]
    rw [getO_nat hm, mks_get n hk, ckI_pos (by omega) (by omega), ckI_succ (by omega)]
    simp only [ne_eq, not_true_eq_false, decide_false, Bool.false_eq_true, if_false]
    rw [← hn]; simp only [cast_succ, Int.add_assoc]
  · intro next
    simp only [mks_len, lt_self]
    simp
theorem l1In_eq (x lo hi : Int) : sh_spec_l1In x lo hi = some (decide (lo ≤ x) && decide (x ≤ hi)) := by
  unfold sh_spec_l1In
  by_cases h : lo ≤ x <;> simp [h]
theorem l1All_eq (l : List Int) (lo hi : Int) : sh_spec_l1All l lo hi = some (l.all fun x => decide (lo ≤ x) && decide (x ≤ hi)) := by
  unfold sh_spec_l1All
  refine range_all (G := fun l _ _ => some (l.all fun x => decide (lo ≤ x) && decide (x ≤ hi))) (fun _ _ => rfl) ?_ 0 ()
  intro x l k s next ih
  simp only [l1In_eq, Option.bind_some, ih, List.all_cons]
  cases (decide (lo ≤ x) && decide (x ≤ hi)) <;> simp
theorem l1Own_eq {l : List Int} (h : l.length ≤ 1099511627776) : sh_spec_l1Own l = some l := by
  unfold sh_spec_l1Own
  rw [lnO_pos (by simpa using h)]; rfl
theorem Clone_eq {l : List Int} (h : l.length ≤ 1099511627776) : sh_slices_Clone_int l = some l := by
  unfold sh_slices_Clone_int
  cases l with
  | nil => rfl
  | cons x l => simp [nilO]; exact lnO_pos h
/-! ### AddCells -/
def smallL (l : List Int) : Bool := l.all fun x => decide (-1000000 ≤ x) && decide (x ≤ 1000000)
theorem smallL_get {l : List Int} (h : smallL l = true) {k : Nat} {x : Int} (hk : l[k]? = some x) : -1000000 ≤ x ∧ x ≤ 1000000 := by
  have := List.all_eq_true.1 h x (List.mem_of_getElem? hk)
  simpa using this
end AS
namespace AS
theorem loop_down {R σ : Type} {body : (σ → Option R) → σ → Option R} (n : Nat) (S : Nat → σ) (G : Nat → Option R) (hn : n ≤ 4611686018427387904)
    (hs : ∀ next k, k < n → next (S k) = G k → body next (S (k + 1)) = G (k + 1)) (he : ∀ next, body next (S 0) = G 0) : loopF body FUEL (S n) = G n := by
  have := loop_up (body := body) n (fun j => S (n - j)) (fun j => G (n - j)) hn (fun next k hk hx => by
    have e : n - k = (n - (k + 1)) + 1 := by omega
    rw [e]; exact hs next (n - (k + 1)) (by omega) hx) (fun next => by
    simp only [Nat.sub_self]; exact he next)
  simpa using this
theorem mixL_setD {α : Type} {a b : List α} (h : a.length = b.length) {k : Nat} (hk : k < b.length) : (mixL a b (k + 1)).set k b[k] = mixL a b k := by
  apply List.ext_getElem?
  intro i
  simp only [mixL]
  by_cases hi : i = k
  · subst hi
    rw [List.getElem?_set_self (by simp; omega), List.getElem?_append_right (by simp; omega)]
    simp [show min i a.length = i by omega, hk]
  · rw [List.getElem?_set_ne (Ne.symm hi)]
    simp only [List.getElem?_append, List.length_take, List.getElem?_take, List.getElem?_drop]
    by_cases h1 : i < k
    · simp [show i < min k a.length by omega, show i < min (k+1) a.length by omega, h1, show i < k + 1 by omega]
    · simp only [show ¬ i < min k a.length by omega, show ¬ i < min (k+1) a.length by omega, if_false]
      congr 1; omega
theorem mixL_getD {α : Type} {a b : List α} (h : a.length = b.length) {k : Nat} (hk : k < a.length) : (mixL a b (k + 1))[k]? = some a[k] := by
  simp only [mixL]
  rw [List.getElem?_append_left (by simp; omega), List.getElem?_take_of_lt (by omega), List.getElem?_eq_getElem hk]
theorem getO_int {R α : Type} {l : List α} {i : Int} {k : Nat} {x : α} {f : α → Option R} (hi : i = (k : Int)) (h : l[k]? = some x) : getO l i f = f x := by subst hi; exact getO_some h
def okS (x : Int) : Bool := decide (1 ≤ x) && decide (x ≤ 30)
def valid (s : List Int) : Prop := s.length ≤ 4 ∧ ∀ x ∈ s, 1 ≤ x ∧ x ≤ 30
def vol : List Int → Int
  | [] => 1
  | x :: l => (x + 1) * vol l
theorem valid.drop {s : List Int} (h : valid s) (k : Nat) : valid (s.drop k) := ⟨by have := h.1; simp; omega, fun y hy => h.2 y (List.mem_of_mem_drop hy)⟩
theorem valid.get {s : List Int} (h : valid s) {k : Nat} {x : Int} (hx : s[k]? = some x) : 1 ≤ x ∧ x ≤ 30 := h.2 x (List.mem_of_getElem? hx)
theorem vol_pow : ∀ {s : List Int}, (∀ x ∈ s, 1 ≤ x ∧ x ≤ 30) → 1 ≤ vol s ∧ vol s ≤ 31 ^ s.length
  | [], _ => by simp [vol]
  | x :: l, h => by
    obtain ⟨h1, h2⟩ := vol_pow (s := l) (fun y hy => h y (by simp [hy]))
    obtain ⟨h3, h4⟩ := h x (by simp)
    simp only [vol, List.length_cons, Int.pow_succ]
    have a1 : 1 * 1 ≤ (x + 1) * vol l := Int.mul_le_mul (by omega) h1 (by omega) (by omega)
    have a2 : (x + 1) * vol l ≤ 31 * 31 ^ l.length := Int.mul_le_mul (by omega) h2 (by omega) (by omega)
    exact ⟨by omega, by rw [Int.mul_comm (31 ^ l.length)]; exact a2⟩
theorem pow31 {k : Nat} (h : k ≤ 4) : (1 : Int) ≤ 31 ^ k ∧ (31 : Int) ^ k ≤ 923521 := by
  have : k = 0 ∨ k = 1 ∨ k = 2 ∨ k = 3 ∨ k = 4 := by omega
  rcases this with rfl | rfl | rfl | rfl | rfl <;> decide
theorem vol_bd {s : List Int} (h : valid s) : 1 ≤ vol s ∧ vol s ≤ 923521 := by
  have h1 := vol_pow h.2
  have h2 := pow31 h.1
  omega
theorem vol_drop {s : List Int} {k : Nat} (hk : k < s.length) : vol (s.drop k) = (s[k] + 1) * vol (s.drop (k + 1)) := by
  rw [List.drop_eq_getElem_cons hk]; rfl
/-! ### How many cells -/
def cntB (s : List Int) : Int := if s.length ≤ 4 ∧ (s.all okS) = true then (if 2000 < vol s then 0 else vol s) else 0
theorem okS_iff {s : List Int} : s.all okS = true ↔ ∀ x ∈ s, 1 ≤ x ∧ x ≤ 30 := by
  simp [okS, List.all_eq_true]
theorem mul_bd {a x : Int} {k : Nat} (hk : k ≤ 3) (h1 : 1 ≤ a) (h2 : a ≤ 31 ^ k) (h3 : 1 ≤ x) (h4 : x ≤ 30) : 1 ≤ a * (x + 1) ∧ a * (x + 1) ≤ 31 ^ (k + 1) := by
  have a1 : 1 * 1 ≤ a * (x + 1) := Int.mul_le_mul h1 (by omega) (by omega) (by omega)
  have a2 : a * (x + 1) ≤ 31 ^ k * 31 := Int.mul_le_mul h2 (by omega) (by omega) (by omega)
  exact ⟨by omega, by rw [Int.pow_succ]; exact a2⟩
theorem cbCount_eq (s : List Int) : sh_spec_cbCount s = some (cntB s) := by
  unfold sh_spec_cbCount
  by_cases h1 : s.length ≤ 4
  · simp only [l1All_eq, Option.bind_some]
    have e : (s.all fun x => decide (1 ≤ x) && decide (x ≤ 30)) = s.all okS := rfl
    rw [e]
    cases h2 : s.all okS with
    | false => simp [cntB, h2, show ¬ ((4 : Int) < (s.length : Int)) by omega]
    | true =>
      simp only [show ¬ ((4 : Int) < (s.length : Int)) by omega, decide_false, Bool.false_eq_true, if_false, Bool.not_true]
      have hv := okS_iff.1 h2
      refine (range_mem (I := fun k a => 1 ≤ a ∧ a ≤ 31 ^ k ∧ k ≤ s.length) (G := fun l _ a => some (if 2000 < a * vol l then 0 else a * vol l)) ?_ ?_ 1 ⟨by omega, by simp, by omega⟩).trans ?_
      · intro k a _ hk
        simp only [vol, Int.mul_one]
        by_cases h : 2000 < a <;> simp [h]
      · intro x l' k a next hx hd hi hn
        have hxx := hv x (List.mem_of_getElem? hx)
        have hk := (List.getElem?_eq_some_iff.1 hx).1
        have hb := mul_bd (show k ≤ 3 by omega) hi.1 hi.2.1 hxx.1 hxx.2
        have hp := pow31 (show k + 1 ≤ 4 by omega)
        rw [ckI_pos (by omega) (by omega), ckI_pos (by omega) (by omega), hn _ ⟨hb.1, hb.2, by omega⟩]
        rw [show a * vol (x :: l') = a * (x + 1) * vol l' by simp only [vol, Int.mul_assoc]]
      · simp [cntB, h1, h2]
  · simp [cntB, show ((4 : Int) < (s.length : Int)) by omega, h1]
theorem cubeCells_eq (s : List Int) : sh_impl_cubeCells s = some (cntB s) := by
  unfold sh_impl_cubeCells
  by_cases h1 : s.length ≤ 4
  · simp only [show ¬ ((4 : Int) < (s.length : Int)) by omega, decide_false, Bool.false_eq_true, if_false]
    refine (range_mem (I := fun k a => 1 ≤ a ∧ a ≤ 31 ^ k ∧ k ≤ s.length) (G := fun l _ a => some (if l.all okS = true then (if 2000 < a * vol l then 0 else a * vol l) else 0)) ?_ ?_ 1 ⟨by omega, by simp, by omega⟩).trans ?_
    · intro k a _ hk
      simp only [vol, Int.mul_one, List.all_nil, if_true]
      by_cases h : 2000 < a <;> simp [h]
    · intro x l' k a next hx hd hi hn
      have hk := (List.getElem?_eq_some_iff.1 hx).1
      by_cases h2 : x < 1
      · simp [h2, okS, show ¬ (1 ≤ x) by omega]
      · by_cases h3 : 30 < x
        · simp [h2, h3, okS, show ¬ (x ≤ 30) by omega]
        · have hb := mul_bd (show k ≤ 3 by omega) hi.1 hi.2.1 (show 1 ≤ x by omega) (show x ≤ 30 by omega)
          have hp := pow31 (show k + 1 ≤ 4 by omega)
          have ho : okS x = true := by simp [okS]; omega
          simp only [h2, h3, decide_false, Bool.false_eq_true, if_false]
          rw [ckI_pos (by omega) (by omega), ckI_pos (by omega) (by omega), hn _ ⟨hb.1, hb.2, by omega⟩]
          rw [show a * vol (x :: l') = a * (x + 1) * vol l' by simp only [vol, Int.mul_assoc], List.all_cons, ho, Bool.true_and]
    · simp [cntB, h1]
  · simp [cntB, show ((4 : Int) < (s.length : Int)) by omega, h1]
theorem cntB_pos {s : List Int} (h : 0 < cntB s) : valid s ∧ cntB s = vol s ∧ vol s ≤ 2000 := by
  unfold cntB at h ⊢
  split at h
  · rename_i hv
    split at h
    · omega
    · rename_i h2
      refine ⟨⟨hv.1, okS_iff.1 hv.2⟩, ?_, by omega⟩
      rw [if_pos hv, if_neg h2]
  · omega
/-! ### Strides -/
def strL : List Int → List Int
  | [] => []
  | _ :: l => vol l :: strL l
theorem strL_len : ∀ s : List Int, (strL s).length = s.length
  | [] => rfl
  | _ :: l => by simp [strL, strL_len l]
theorem strL_get : ∀ (s : List Int) (k : Nat) (h : k < s.length), (strL s)[k]'(by rw [strL_len]; exact h) = vol (s.drop (k + 1))
  | x :: l, 0, _ => rfl
  | x :: l, k + 1, h => by
    simp only [strL, List.getElem_cons_succ, List.drop_succ_cons]
    exact strL_get l k (by simpa using h)
theorem strides_eq {s : List Int} (h : valid s) : sh_impl_strides s = some (strL s) := by
  unfold sh_impl_strides
  have hl := h.1
  rw [mkO_pos (by omega) (by omega), ckI_pos (by omega) (by omega)]
  have hz : (List.replicate s.length (0 : Int)).length = (strL s).length := by simp [strL_len]
  have e0 : ((List.replicate ((s.length : Int)).toNat (0 : Int), (1 : Int), ((s.length : Int) - (1 : Int))) : List Int × Int × Int) = (fun k : Nat => (mixL (List.replicate s.length (0 : Int)) (strL s) k, vol (s.drop k), (k : Int) - 1)) s.length := by
    have := mixL_end hz
    simp only [List.length_replicate] at this
    simp [this, vol]
  rw [e0]
  refine (loop_down s.length (fun k : Nat => (mixL (List.replicate s.length (0 : Int)) (strL s) k, vol (s.drop k), (k : Int) - 1)) (fun _ => some (strL s)) (by omega) ?_ ?_)
  · intro next k hk hn
    have hk2 : k < (strL s).length := by rw [strL_len]; exact hk
    have hb := vol_bd (h.drop (k + 1))
    have hb2 := vol_bd (h.drop k)
    have hx := h.get (List.getElem?_eq_getElem hk)
    have hvd := vol_drop hk
    simp only [show ((k + 1 : Nat) : Int) - 1 = (k : Int) by omega, show (0 : Int) ≤ (k : Int) by omega, decide_true, if_true]
    rw [getO_some (mixL_getD hz (by simpa using hk)), getO_nat hk, ckI_pos (by omega) (by omega)]
    rw [Int.mul_comm, ← hvd, ckI_pos (by omega) (by omega), ckI_pos (by omega) (by omega), Int.toNat_natCast, ← strL_get s k hk, mixL_setD hz hk2]
    exact hn
  · intro next
    simp [mixL_zero]
/-! ### Indices -/
def idxL : List Int → Int → List Int
  | [], _ => []
  | x :: l, i => (i / vol l) % (x + 1) :: idxL l i
theorem idxL_len : ∀ (s : List Int) (i : Int), (idxL s i).length = s.length
  | [], _ => rfl
  | _ :: l, i => by simp [idxL, idxL_len l]
theorem idxL_get : ∀ (s : List Int) (i : Int) (k : Nat) (h : k < s.length), (idxL s i)[k]'(by rw [idxL_len]; exact h) = (i / vol (s.drop (k + 1))) % (s[k] + 1)
  | x :: l, _, 0, _ => rfl
  | x :: l, i, k + 1, h => by
    simp only [idxL, List.getElem_cons_succ, List.drop_succ_cons]
    exact idxL_get l i k (by simpa using h)
theorem div_le_self {i a : Int} (h : 0 ≤ i) (ha : 1 ≤ a) : 0 ≤ i / a ∧ i / a ≤ i := ⟨Int.ediv_nonneg h (by omega), Int.ediv_le_self a h⟩
theorem cbIndices_eq {s : List Int} {i : Int} (h : valid s) (h0 : 0 ≤ i) (h1 : i ≤ 4611686018427387904) : sh_spec_cbIndices s i = some (idxL s i) := by
  unfold sh_spec_cbIndices
  have hl := h.1
  rw [mkO_pos (by omega) (by omega), ckI_pos (by omega) (by omega)]
  have hz : (List.replicate s.length (0 : Int)).length = (idxL s i).length := by simp [idxL_len]
  have e0 : ((i, List.replicate ((s.length : Int)).toNat (0 : Int), ((s.length : Int) - (1 : Int))) : Int × List Int × Int) = (fun k : Nat => (i / vol (s.drop k), mixL (List.replicate s.length (0 : Int)) (idxL s i) k, (k : Int) - 1)) s.length := by
    have := mixL_end hz
    simp only [List.length_replicate] at this
    simp [this, vol]
  rw [e0]
  refine (loop_down s.length (fun k : Nat => (i / vol (s.drop k), mixL (List.replicate s.length (0 : Int)) (idxL s i) k, (k : Int) - 1)) (fun _ => some (idxL s i)) (by omega) ?_ ?_)
  · intro next k hk hn
    have hk2 : k < (idxL s i).length := by rw [idxL_len]; exact hk
    have hb := vol_bd (h.drop (k + 1))
    have hx := h.get (List.getElem?_eq_getElem hk)
    have hvd := vol_drop hk
    have hd := div_le_self h0 hb.1
    have hd2 := div_le_self (a := s[k] + 1) hd.1 (by omega)
    have hdd : i / vol (s.drop (k + 1)) / (s[k] + 1) = i / vol (s.drop k) := by rw [hvd, Int.mul_comm, Int.ediv_ediv, if_neg (fun h => by omega), Int.sub_zero]
    simp only [show ((k + 1 : Nat) : Int) - 1 = (k : Int) by omega, show (0 : Int) ≤ (k : Int) by omega, decide_true, if_true]
    rw [getO_nat hk, ckI_pos (by omega) (by omega), ck_pos (by omega), getO_some (mixL_getD hz (by simpa using hk)), ckI_pos (by omega) (by omega), ck_pos (by omega)]
    rw [Int.tdiv_eq_ediv_of_nonneg hd.1, Int.tmod_eq_emod_of_nonneg hd.1, ckI_pos (by omega) (by omega), ckI_pos (by omega) (by omega), Int.toNat_natCast, hdd, ← idxL_get s i k hk, mixL_setD hz hk2]
    exact hn
  · intro next
    simp [mixL_zero]
theorem mod_div {i a b : Int} (hi : 0 ≤ i) (ha : 0 < a) (hb : 0 < b) : i % (a * b) / b = i / b % a := by
  obtain ⟨i, rfl⟩ := Int.eq_ofNat_of_zero_le hi
  obtain ⟨a, rfl⟩ := Int.eq_ofNat_of_zero_le (by omega : 0 ≤ a)
  obtain ⟨b, rfl⟩ := Int.eq_ofNat_of_zero_le (by omega : 0 ≤ b)
  have := Nat.mod_mul_left_div_self i b a
  exact_mod_cast this
theorem indexOf_eq {s : List Int} {i : Int} (h : valid s) (h0 : 0 ≤ i) (h1 : i < vol s) : sh_impl_indexOf s i = some (idxL s i) := by
  unfold sh_impl_indexOf
  have hl := h.1
  have hvs := vol_bd h
  rw [mkO_pos (by omega) (by omega), strides_eq h, Option.bind_some]
  have hz : (idxL s i).length = (List.replicate s.length (0 : Int)).length := by simp [idxL_len]
  refine (range_mem (I := fun k st => st = (i % vol (s.drop k), mixL (idxL s i) (List.replicate s.length (0 : Int)) k)) (G := fun _ _ _ => some (idxL s i)) ?_ ?_ _ ?_)
  · intro k st hs hk
    subst hs
    have := mixL_end hz
    simp only [strL_len] at hk
    rw [idxL_len] at this
    simp [hk, this]
  · intro x l' k st next hx _ hs hn
    subst hs
    have hk : k < s.length := by have := (List.getElem?_eq_some_iff.1 hx).1; rwa [strL_len] at this
    have hxe : x = vol (s.drop (k + 1)) := by
      have := (List.getElem?_eq_some_iff.1 hx).2
      rw [← this]; exact strL_get s k hk
    subst hxe
    have hb := vol_bd (h.drop (k + 1))
    have hb2 := vol_bd (h.drop k)
    have hxx := h.get (List.getElem?_eq_getElem hk)
    have hvd := vol_drop hk
    have hm0 : 0 ≤ i % vol (s.drop k) := Int.emod_nonneg _ (by omega)
    have hm1 : i % vol (s.drop k) < vol (s.drop k) := Int.emod_lt_of_pos _ (by omega)
    have hd := div_le_self hm0 hb.1
    rw [ck_pos (by omega), Int.tdiv_eq_ediv_of_nonneg hm0, ckI_pos (by omega) (by omega), getO_some (mixL_get hz (by simpa using hk)), ck_pos (by omega), Int.tmod_eq_emod_of_nonneg hm0]
    refine hn _ ?_
    have e1 : i % vol (s.drop k) / vol (s.drop (k + 1)) = (idxL s i)[k]'(by rw [idxL_len]; exact hk) := by
      rw [hvd, mod_div h0 (by omega) (by omega), idxL_get s i k hk]
    have e2 : i % vol (s.drop k) % vol (s.drop (k + 1)) = i % vol (s.drop (k + 1)) := by
      rw [hvd]; exact Int.emod_emod_of_dvd _ (Int.dvd_mul_left _ _)
    rw [e1, e2, Int.toNat_natCast, mixL_set hz (by rw [idxL_len]; exact hk)]
  · simp only [List.drop_zero, mixL_zero, Int.toNat_natCast]
    rw [Int.emod_eq_of_lt h0 h1]
/-! ### Cells -/
def atL : List Int → List Int → Int
  | _ :: l, a :: as => a * vol l + atL l as
  | _, _ => 0
/-- Indices that fit sizes. -/
def fits (s ix : List Int) : Prop := ix.length = s.length ∧ ∀ (k : Nat) (x y : Int), s[k]? = some x → ix[k]? = some y → 0 ≤ y ∧ y ≤ x
theorem cbAt_eq {s ix : List Int} (h : valid s) (hf : fits s ix) : sh_spec_cbAt s ix = some (atL s ix) := by
  unfold sh_spec_cbAt
  have hl := h.1
  refine (range_mem (I := fun k a => 0 ≤ a ∧ a < 31 ^ k) (G := fun l k a => some (a * vol l + atL l (ix.drop k))) ?_ ?_ 0 ⟨by omega, by simp⟩).trans (by simp)
  · intro k a _ _
    simp [vol, atL]
  · intro x l' k a next hx hd hi hn
    have hk := (List.getElem?_eq_some_iff.1 hx).1
    have hki : k < ix.length := by rw [hf.1]; exact hk
    have hxx := h.get hx
    have hy := hf.2 k x ix[k] hx (List.getElem?_eq_getElem hki)
    have hp := pow31 (show k + 1 ≤ 4 by omega)
    have hm0 : 0 ≤ a * (x + 1) := Int.mul_nonneg hi.1 (by omega)
    have hm1 : a * (x + 1) ≤ (31 ^ k - 1) * 31 := Int.mul_le_mul (by omega) (by omega) (by omega) (by have := pow31 (show k ≤ 4 by omega); omega)
    have hm2 : (31 : Int) ^ (k + 1) = 31 ^ k * 31 := Int.pow_succ ..
    rw [ckI_pos (by omega) (by omega), ckI_pos (by omega) (by omega), getO_nat hki, ckI_pos (by omega) (by omega), hn _ ⟨by omega, by omega⟩]
    rw [List.drop_eq_getElem_cons hki]
    simp only [vol, atL, Option.some.injEq]
    rw [Int.add_mul, Int.mul_assoc, Int.add_assoc]
theorem idxL_fits {s : List Int} {i : Int} (h : valid s) (h0 : 0 ≤ i) : fits s (idxL s i) := by
  refine ⟨idxL_len s i, fun k x y hx hy => ?_⟩
  obtain ⟨hk, rfl⟩ := List.getElem?_eq_some_iff.1 hx
  obtain ⟨hk2, rfl⟩ := List.getElem?_eq_some_iff.1 hy
  rw [idxL_get s i k hk]
  have hxx := h.get hx
  have h1 := Int.emod_nonneg (i / vol (s.drop (k + 1))) (show s[k] + 1 ≠ 0 by omega)
  have h2 := Int.emod_lt_of_pos (i / vol (s.drop (k + 1))) (show 0 < s[k] + 1 by omega)
  omega
theorem atL_idxL : ∀ {s : List Int} {i : Int}, (∀ x ∈ s, 1 ≤ x ∧ x ≤ 30) → 0 ≤ i → atL s (idxL s i) = i % vol s
  | [], i, _, _ => by simp [atL, vol]
  | x :: l, i, h, h0 => by
    have hl := vol_pow (s := l) (fun y hy => h y (by simp [hy]))
    have hx := h x (by simp)
    simp only [idxL, atL, vol]
    rw [atL_idxL (fun y hy => h y (by simp [hy])) h0, ← mod_div h0 (by omega) (by omega)]
    have e : i % ((x + 1) * vol l) % vol l = i % vol l := Int.emod_emod_of_dvd _ (Int.dvd_mul_left _ _)
    have := Int.ediv_mul_add_emod (i % ((x + 1) * vol l)) (vol l)
    omega
theorem atL_set : ∀ {s ix : List Int} {d : Nat} {y : Int}, ix.length = s.length → ∀ (hd : d < s.length) (hd2 : d < ix.length), atL s (ix.set d y) = atL s ix + (y - ix[d]) * vol (s.drop (d + 1))
  | x :: l, a :: as, 0, y, _, _, _ => by
    simp only [List.set_cons_zero, atL, List.getElem_cons_zero, Int.sub_mul, List.drop_succ_cons, List.drop_zero]; omega
  | x :: l, a :: as, d + 1, y, h, hd, hd2 => by
    simp only [List.set_cons_succ, atL, List.getElem_cons_succ, List.drop_succ_cons]
    rw [atL_set (by simpa using h) (by simpa using hd) (by simpa using hd2), Int.add_assoc]
theorem atL_bd : ∀ {s ix : List Int}, (∀ x ∈ s, 1 ≤ x ∧ x ≤ 30) → fits s ix → 0 ≤ atL s ix ∧ atL s ix < vol s
  | [], ix, _, _ => by simp [atL, vol]
  | x :: l, [], _, hf => by have := hf.1; simp at this
  | x :: l, a :: as, h, hf => by
    have hl := vol_pow (s := l) (fun y hy => h y (by simp [hy]))
    have h1 := atL_bd (s := l) (ix := as) (fun y hy => h y (by simp [hy])) ⟨by have := hf.1; simpa using this, fun k x y hx hy => hf.2 (k + 1) x y (by simpa using hx) (by simpa using hy)⟩
    have h2 := hf.2 0 x a rfl rfl
    simp only [atL, vol]
    have h3 : 0 ≤ a * vol l := Int.mul_nonneg h2.1 (by omega)
    have h4 : a * vol l ≤ x * vol l := Int.mul_le_mul_of_nonneg_right h2.2 (by omega)
    have h5 : (x + 1) * vol l = x * vol l + vol l := by rw [Int.add_mul]; omega
    omega
theorem fits.set {s ix : List Int} (h : fits s ix) {d : Nat} {x y : Int} (hx : s[d]? = some x) (h0 : 0 ≤ y) (h1 : y ≤ x) : fits s (ix.set d y) := by
  refine ⟨by rw [List.length_set]; exact h.1, fun k x' y' hx' hy' => ?_⟩
  by_cases e : d = k
  · subst e
    rw [hx] at hx'; cases hx'
    have hk : d < ix.length := by rw [h.1]; exact (List.getElem?_eq_some_iff.1 hx).1
    rw [List.getElem?_set_self hk] at hy'; cases hy'
    exact ⟨h0, h1⟩
  · rw [List.getElem?_set_ne e] at hy'
    exact h.2 k x' y' hx' hy'
end AS
namespace AS
section
variable {α : Type}
/-- What is left of an allowance. -/
def left (a : Int) (n : Nat) : Int := if (n : Int) ≤ a then a - n else -1
theorem left_neg {a : Int} {n : Nat} (h : 0 ≤ a) : left a n < 0 ↔ ¬ (n : Int) ≤ a := by
  unfold left; split <;> omega
theorem left_pos {a : Int} {n : Nat} (h : (n : Int) ≤ a) : left a n = a - n := if_pos h
end
end AS
namespace AS
/-- The cells that a total is the sum of. -/
def partF (s : List Int) (i : Int) (d : Nat) (x : Int) (k : Nat) : Int := i - (x - k) * vol (s.drop (d + 1))
def partL (s : List Int) (i : Int) (d : Nat) (x : Int) : List Int := (List.range x.toNat).map (partF s i d x)
theorem partL_len (s : List Int) (i : Int) (d : Nat) (x : Int) : (partL s i d x).length = x.toNat := by simp [partL]
theorem range_map_succ {α : Type} (f : Nat → α) (k : Nat) : (List.range (k + 1)).map f = (List.range k).map f ++ [f k] := by
  rw [List.range_succ, List.map_append]; rfl
def idxAt (ix : List Int) (d : Nat) : Nat → List Int
  | 0 => ix
  | k + 1 => ix.set d (k : Int)
theorem cbParts_eq {s : List Int} {i : Int} {d : Nat} {x : Int} (h : valid s) (h0 : 0 ≤ i) (h1 : i < vol s) (hd : s[d]? = some x) (hx : (idxL s i)[d]? = some x) : sh_spec_cbParts s i (d : Int) = some (partL s i d x) := by
  unfold sh_spec_cbParts
  have hv := vol_bd h
  have hb := h.get hd
  have hdl := (List.getElem?_eq_some_iff.1 hd).1
  have hil : (idxL s i).length = s.length := idxL_len s i
  rw [cbIndices_eq h h0 (by omega), Option.bind_some]
  have hfit := idxL_fits h h0
  have e0 : ((idxL s i, ([] : List Int), (0 : Int)) : List Int × List Int × Int) = (fun k : Nat => (idxAt (idxL s i) d k, (List.range k).map (partF s i d x), (k : Int))) 0 := by simp [idxAt]
  rw [e0]
  refine (loop_up x.toNat (fun k : Nat => (idxAt (idxL s i) d k, (List.range k).map (partF s i d x), (k : Int))) (fun _ => some (partL s i d x)) (by omega) ?_ ?_)
  · intro next k hk hn
    have hkx : (k : Int) < x := by omega
    have hg : getO s (d : Int) = fun f : Int → Option (List Int) => f x := by funext f; exact getO_some hd
    simp only [hg, hkx, decide_true, if_true]
    have hset : ∀ j : List Int, (j = idxL s i ∨ ∃ y, j = (idxL s i).set d y) → (∃ y, j[d]? = some y) ∧ j.set (d : Int).toNat (k : Int) = (idxL s i).set d (k : Int) := by
      rintro j (rfl | ⟨y, rfl⟩)
      · exact ⟨⟨x, hx⟩, by simp⟩
      · exact ⟨⟨y, by rw [List.getElem?_set_self (by omega)]⟩, by simp⟩
    obtain ⟨⟨y, hy⟩, hs⟩ := hset (idxAt (idxL s i) d k) (by cases k with | zero => exact .inl rfl | succ k => exact .inr ⟨_, rfl⟩)
    rw [getO_some hy, hs, cbAt_eq h (hfit.set hd (by omega) (by omega)), Option.bind_some, lnO_pos (by simp; omega), ckI_succ (by omega)]
    have hat : atL s ((idxL s i).set d (k : Int)) = partF s i d x k := by
      rw [atL_set hil hdl (by omega), atL_idxL h.2 h0, Int.emod_eq_of_lt h0 h1]
      have : (idxL s i)[d]'(by omega) = x := by
        have := List.getElem?_eq_getElem (show d < (idxL s i).length by omega)
        rw [hx] at this; exact (Option.some.inj this).symm
      rw [this, partF, show (k : Int) - x = -(x - k) by omega, Int.neg_mul]; omega
    rw [hat, ← range_map_succ]
    exact hn
  · intro next
    have hg : getO s (d : Int) = fun f : Int → Option (List Int) => f x := by funext f; exact getO_some hd
    simp only [hg, show ¬ (((x.toNat : Nat) : Int) < x) by omega, decide_false, Bool.false_eq_true, if_false]
    rfl
theorem partF_bd {s : List Int} {i : Int} {d : Nat} {x : Int} (h : valid s) (h0 : 0 ≤ i) (h1 : i < vol s) (hd : s[d]? = some x) (hx : (idxL s i)[d]? = some x) {k : Nat} (hk : (k : Int) ≤ x) : 0 ≤ partF s i d x k ∧ partF s i d x k ≤ i := by
  have hdl := (List.getElem?_eq_some_iff.1 hd).1
  have hil : (idxL s i).length = s.length := idxL_len s i
  have hfit := (idxL_fits h h0).set hd (show (0 : Int) ≤ k by omega) hk
  have := atL_bd h.2 hfit
  have hat : atL s ((idxL s i).set d (k : Int)) = partF s i d x k := by
    rw [atL_set hil hdl (by omega), atL_idxL h.2 h0, Int.emod_eq_of_lt h0 h1]
    have : (idxL s i)[d]'(by omega) = x := by
      have := List.getElem?_eq_getElem (show d < (idxL s i).length by omega)
      rw [hx] at this; exact (Option.some.inj this).symm
    rw [this, partF, show (k : Int) - x = -(x - k) by omega, Int.neg_mul]; omega
  have hb := vol_bd (h.drop (d + 1))
  have : 0 ≤ (x - k) * vol (s.drop (d + 1)) := Int.mul_nonneg (by omega) (by omega)
  constructor
  · omega
  · rw [partF]; omega
end AS
namespace AS
theorem szIntS_eq {l : List Int} {a : Int} (h0 : 0 ≤ a) (h1 : a ≤ 1048576) (hl : l.length ≤ 9223372036854775807) : sh_laws_szIntS l a = some (left a l.length) := by
  unfold sh_laws_szIntS
  rw [ckI_pos (by omega) (by omega)]
  unfold left
  by_cases h : a - (l.length : Int) < 0
  · simp [h, show ¬ ((l.length : Int) ≤ a) by omega]
  · simp [h, show ((l.length : Int) ≤ a) by omega]
def bulkC (c : XCube) : Nat := c.Sizes.length + c.Cells.length
theorem left_left {a : Int} {m n : Nat} (h : (m : Int) ≤ a) : left (a - m) n = left a (m + n) := by
  unfold left; split <;> split <;> omega
theorem left_out {a : Int} {m n : Nat} (h : ¬ (m : Int) ≤ a) : left a (m + n) = -1 := if_neg (by omega)
theorem left_no {a : Int} {m : Nat} (h : ¬ (m : Int) ≤ a) : left a m = -1 := if_neg h
theorem szCube_eq {c : XCube} {a : Int} (h0 : 0 ≤ a) (h1 : a ≤ 1048576) (hb : Bd.bd c) : sh_laws_szCube c a = some (left a (bulkC c)) := by
  unfold sh_laws_szCube
  obtain ⟨hs, hc⟩ := hb
  rw [szIntS_eq h0 h1 hs.1, Option.bind_some]
  by_cases h : (c.Sizes.length : Int) ≤ a
  · rw [left_pos h, szIntS_eq (by omega) (by omega) hc.1, Option.bind_some, left_left h]
    simp only [show ¬ (a - (c.Sizes.length : Int) < 0) by omega, decide_false, Bool.false_eq_true, if_false]
    by_cases h2 : left a (c.Sizes.length + c.Cells.length) < 0
    · have := (left_neg h0).1 h2
      simp [h2, bulkC, left_no this]
    · simp [h2, bulkC]
  · rw [left_no h]; simp [bulkC, left_out h]
theorem toCube_eq {c : XCube} (h : bulkC c ≤ 1048576) : sh_laws_toCube c = some c := by
  unfold sh_laws_toCube
  unfold bulkC at h
  rw [toIntS_eq (by omega), Option.bind_some, toIntS_eq (by omega), Option.bind_some]
theorem XCube.ext' {a b : XCube} (h1 : a.Sizes = b.Sizes) (h2 : a.Cells = b.Cells) : a = b := by cases a; cases b; simp_all
theorem eqCube_eq {a b : XCube} (h : bulkC a ≤ 1048576) : sh_laws_eqCube a b = some (decide (a = b)) := by
  unfold sh_laws_eqCube
  unfold bulkC at h
  rw [eqIntS_eq (by omega), Option.bind_some, eqIntS_eq (by omega), Option.bind_some]
  by_cases h1 : a.Sizes = b.Sizes
  · by_cases h2 : a.Cells = b.Cells
    · simp [h1, h2, XCube.ext' h1 h2]
    · simp [h1, h2, show ¬ a = b from fun e => h2 (by rw [e])]
  · simp [h1, show ¬ a = b from fun e => h1 (by rw [e])]
def mkCube (c : XCube) (n : Int) : XCube := ⟨mks n c.Sizes.length, mks (n + c.Sizes.length) c.Cells.length⟩
theorem markCube_eq {c : XCube} {n : Int} (h0 : 0 ≤ n) (h : n + bulkC c ≤ 4611686018427387904) : sh_laws_markCube c n = some (mkCube c n, n + bulkC c) := by
  unfold sh_laws_markCube
  unfold bulkC at h ⊢
  rw [markIntS_eq h0 (by omega), Option.bind_some, markIntS_eq (by omega) (by omega), Option.bind_some]
  simp only [mkCube, Option.some.injEq, Prod.mk.injEq, true_and]; omega
theorem heldCube_eq {c : XCube} {n : Int} (h0 : 0 ≤ n) (h : n + bulkC c ≤ 4611686018427387904) : sh_laws_heldCube (mkCube c n) n = some (n + bulkC c) := by
  unfold sh_laws_heldCube
  unfold bulkC at h ⊢
  simp only [mkCube]
  rw [heldIntS_eq h0 (by omega), Option.bind_some, heldIntS_eq (by omega) (by omega), Option.bind_some]
  simp [show ¬ (n + (c.Sizes.length : Int) < 0) by omega, show ¬ (n + (c.Sizes.length : Int) + (c.Cells.length : Int) < 0) by omega]; omega
/-! ### Right form -/
theorem areCubeValues_eq (l : List Int) : sh_impl_areCubeValues l = some (smallL l) := by
  unfold sh_impl_areCubeValues
  refine range_all (G := fun l _ _ => some (smallL l)) (fun _ _ => rfl) ?_ 0 ()
  intro x l k s next ih
  simp only [ih, smallL, List.all_cons]
  by_cases h1 : x < -1000000
  · simp [h1, show ¬ (-1000000 ≤ x) by omega]
  · by_cases h2 : 1000000 < x
    · simp [h1, h2, show ¬ (x ≤ 1000000) by omega]
    · simp [h1, h2, show (-1000000 ≤ x) by omega, show x ≤ 1000000 by omega]
def formB (c : XCube) : Bool := decide (0 < cntB c.Sizes) && decide ((c.Cells.length : Int) = cntB c.Sizes) && smallL c.Cells
theorem cbForm_eq (c : XCube) : sh_spec_cbForm c = some (formB c) := by
  unfold sh_spec_cbForm
  rw [cbCount_eq, Option.bind_some]
  unfold formB
  by_cases h1 : 0 < cntB c.Sizes
  · by_cases h2 : (c.Cells.length : Int) = cntB c.Sizes
    · simp only [h1, h2, decide_true, if_true, l1All_eq, Option.bind_some, Bool.true_and]; rfl
    · simp [h1, h2]
  · simp [h1]
theorem rightForm_eq (c : XCube) : sh_impl_hasRightForm c = some (formB c) := by
  unfold sh_impl_hasRightForm
  rw [cubeCells_eq, Option.bind_some]
  unfold formB
  by_cases h1 : 0 < cntB c.Sizes
  · by_cases h2 : (c.Cells.length : Int) = cntB c.Sizes
    · simp only [h1, h2, decide_true, if_true, areCubeValues_eq, Option.bind_some, Bool.true_and]
    · simp [h1, h2]
  · simp [h1]
structure Form (c : XCube) : Prop where
  v : valid c.Sizes
  n : (c.Cells.length : Int) = vol c.Sizes
  le : c.Cells.length ≤ 2000
  cnt : cntB c.Sizes = vol c.Sizes
  sm : smallL c.Cells = true
theorem formB_form {c : XCube} (h : formB c = true) : Form c := by
  simp only [formB, Bool.and_eq_true, decide_eq_true_eq] at h
  obtain ⟨⟨h1, h2⟩, h3⟩ := h
  obtain ⟨hv, hc, hle⟩ := cntB_pos h1
  exact ⟨hv, by omega, by omega, hc, h3⟩
/-! ### The first break -/
def cellAt (c : XCube) (i : Int) : Int := c.Cells.getD i.toNat 0
theorem cell_get {c : XCube} {i : Int} (h0 : 0 ≤ i) (h1 : i < c.Cells.length) : c.Cells[i.toNat]? = some (cellAt c i) := by
  have : i.toNat < c.Cells.length := by omega
  simp [cellAt, this]
theorem getO_cell {R : Type} {c : XCube} {i : Int} {f : Int → Option R} (h0 : 0 ≤ i) (h1 : i < c.Cells.length) : getO c.Cells i f = f (cellAt c i) :=
  getO_int (k := i.toNat) (by omega) (cell_get h0 h1)
theorem cell_bd {c : XCube} (h : Form c) {i : Int} (h0 : 0 ≤ i) (h1 : i < c.Cells.length) : -1000000 ≤ cellAt c i ∧ cellAt c i ≤ 1000000 := smallL_get h.sm (cell_get h0 h1)
def sumI : List Int → Int
  | [] => 0
  | x :: l => x + sumI l
theorem sumI_append : ∀ (a b : List Int), sumI (a ++ b) = sumI a + sumI b
  | [], b => by simp [sumI]
  | x :: a, b => by simp only [List.cons_append, sumI, sumI_append a b]; omega
theorem sumI_reverse : ∀ (a : List Int), sumI a.reverse = sumI a
  | [] => rfl
  | x :: a => by rw [List.reverse_cons, sumI_append, sumI_reverse a]; simp only [sumI]; omega
theorem sumI_bd {b : Int} (hb : 0 ≤ b) : ∀ {l : List Int}, (∀ x ∈ l, -b ≤ x ∧ x ≤ b) → -(b * l.length) ≤ sumI l ∧ sumI l ≤ b * l.length
  | [], _ => by simp [sumI]
  | x :: l, h => by
    have h1 := h x (by simp)
    have h2 := sumI_bd hb (l := l) (fun y hy => h y (by simp [hy]))
    simp only [sumI, List.length_cons, Int.natCast_add, Int.mul_add]
    omega
/-- The sum of the parts of a total. -/
def psum (c : XCube) (i : Int) (d : Nat) (x : Int) : Int := sumI ((partL c.Sizes i d x).map (cellAt c))
def brk (c : XCube) (i : Int) : List Int → Nat → Bool
  | [], _ => false
  | x :: l, k => if c.Sizes[k]? = some x then (if psum c i k x ≠ cellAt c i then true else brk c i l (k + 1)) else brk c i l (k + 1)
theorem cbBroken_eq {c : XCube} (h : Form c) {i : Int} (h0 : 0 ≤ i) (h1 : i < c.Cells.length) : sh_spec_cbBroken c i = some (brk c i (idxL c.Sizes i) 0) := by
  unfold sh_spec_cbBroken
  have hv := h.v
  have hn := h.n
  have hle := h.le
  rw [cbIndices_eq hv h0 (by omega), Option.bind_some]
  refine range_mem (I := fun _ _ => True) (G := fun l k _ => some (brk c i l k)) ?_ ?_ () trivial
  · intro k s _ _; rfl
  · intro x l' k s next hx _ _ hnx
    have hk := (List.getElem?_eq_some_iff.1 hx).1
    rw [idxL_len] at hk
    rw [getO_nat hk]
    have hnx' := hnx () trivial
    by_cases e : x = c.Sizes[k]
    · have hs : c.Sizes[k]? = some x := by rw [List.getElem?_eq_getElem hk, e]
      have hxb := hv.get hs
      simp only [show decide (x ≠ c.Sizes[k]) = false by simp [e], Bool.false_eq_true, if_false]
      rw [cbParts_eq hv h0 (by omega) hs hx, Option.bind_some]
      have hall : ∀ y ∈ partL c.Sizes i k x, 0 ≤ y ∧ y < c.Cells.length := by
        intro y hy
        simp only [partL, List.mem_map, List.mem_range] at hy
        obtain ⟨j, hj, rfl⟩ := hy
        have := partF_bd hv h0 (by omega) hs hx (show (j : Int) ≤ x by omega)
        omega
      have hlen := partL_len c.Sizes i k x
      have hsum : ∀ (m : Nat), -(1000000 * (m : Int)) ≤ sumI (((partL c.Sizes i k x).take m).map (cellAt c)) ∧ sumI (((partL c.Sizes i k x).take m).map (cellAt c)) ≤ 1000000 * (m : Int) := by
        intro m
        have := sumI_bd (b := 1000000) (by omega) (l := ((partL c.Sizes i k x).take m).map (cellAt c)) (fun y hy => by
          obtain ⟨z, hz, rfl⟩ := List.mem_map.1 hy
          have := hall z (List.mem_of_mem_take hz)
          exact cell_bd h this.1 this.2)
        simp only [List.length_map, List.length_take] at this
        omega
      refine range_mem (I := fun (m : Nat) (a : Int) => a = sumI (((partL c.Sizes i k x).take m).map (cellAt c)) ∧ m ≤ 30) (G := fun _ _ _ => some (brk c i (x :: l') k)) ?_ ?_ 0 ⟨by simp [sumI], by omega⟩
      · intro m a hI hm
        obtain ⟨rfl, _⟩ := hI
        rw [getO_cell h0 h1, hm, List.take_length]
        simp only [brk, if_pos hs]
        by_cases e2 : psum c i k x = cellAt c i
        · have : sumI ((partL c.Sizes i k x).map (cellAt c)) = cellAt c i := e2
          simp only [this, e2, ne_eq, not_true_eq_false, decide_false, Bool.false_eq_true, if_false]
          exact hnx'
        · have : ¬ sumI ((partL c.Sizes i k x).map (cellAt c)) = cellAt c i := e2
          simp [this, e2]
      · intro y l2 m a next2 hy _ hI hn2
        obtain ⟨rfl, hm30⟩ := hI
        obtain ⟨hm, hye⟩ := List.getElem?_eq_some_iff.1 hy
        have hb := hall y (List.mem_of_getElem? hy)
        have hcb := cell_bd h hb.1 hb.2
        have hs1 := hsum m
        rw [getO_cell hb.1 hb.2, ckI_pos (by omega) (by omega)]
        refine hn2 _ ⟨?_, by omega⟩
        rw [List.take_add_one, hy, List.map_append, sumI_append]
        simp [sumI]
    · have hs : ¬ c.Sizes[k]? = some x := by rw [List.getElem?_eq_getElem hk]; simp; exact fun h => e h.symm
      simp only [show decide (x ≠ c.Sizes[k]) = true by simp [e], if_true, brk, if_neg hs]
      exact hnx'
def fstB (c : XCube) : List Int → Nat → Int
  | [], _ => c.Cells.length
  | _ :: l, k => if brk c k (idxL c.Sizes k) 0 = true then k else fstB c l (k + 1)
theorem cbFirst_eq {c : XCube} (h : Form c) : sh_spec_cbFirst c = some (fstB c c.Cells 0) := by
  unfold sh_spec_cbFirst
  refine range_mem (I := fun _ _ => True) (G := fun l k _ => some (fstB c l k)) (fun _ _ _ _ => rfl) ?_ () trivial
  intro x l' k s next hx _ _ hn
  have hk := (List.getElem?_eq_some_iff.1 hx).1
  rw [cbBroken_eq h (by omega) (by omega), Option.bind_some]
  simp only [fstB, hn () trivial]
  split <;> rfl
theorem firstBreak_eq {c : XCube} (h : Form c) : sh_impl_firstBreak c = some (fstB c c.Cells 0) := by
  unfold sh_impl_firstBreak
  have hv := h.v
  have hnn := h.n
  have hle := h.le
  rw [strides_eq hv, Option.bind_some]
  refine range_mem (I := fun _ _ => True) (G := fun l k _ => some (fstB c l k)) (fun _ _ _ _ => rfl) ?_ () trivial
  intro v l' i s next hx _ _ hn
  have hi := (List.getElem?_eq_some_iff.1 hx).1
  have hvi : v = cellAt c i := by
    have := cell_get (c := c) (i := (i : Int)) (by omega) (by omega)
    rw [Int.toNat_natCast, hx] at this; exact Option.some.inj this
  rw [indexOf_eq hv (by omega) (by omega), Option.bind_some]
  have hnx := hn () trivial
  have goal : some (fstB c (v :: l') i) = (if brk c i (idxL c.Sizes i) 0 = true then some (i : Int) else next ()) := by
    rw [hnx]; simp only [fstB]; split <;> rfl
  rw [goal]
  refine range_mem (I := fun _ _ => True) (G := fun l k _ => if brk c i l k = true then some (i : Int) else next ()) (fun _ _ _ _ => by simp [brk]) ?_ () trivial
  intro x l2 k s2 next2 hx2 _ _ hn2
  have hk := (List.getElem?_eq_some_iff.1 hx2).1
  rw [idxL_len] at hk
  rw [getO_nat hk]
  have hn2' := hn2 () trivial
  by_cases e : x = c.Sizes[k]
  · have hs : c.Sizes[k]? = some x := by rw [List.getElem?_eq_getElem hk, e]
    have hxb := hv.get hs
    have hvd := vol_bd (hv.drop (k + 1))
    have hst : (strL c.Sizes)[k]? = some (vol (c.Sizes.drop (k + 1))) := by
      rw [List.getElem?_eq_getElem (by rw [strL_len]; exact hk), strL_get c.Sizes k hk]
    simp only [show decide (x ≠ c.Sizes[k]) = false by simp [e], Bool.false_eq_true, if_false]
    -- the sum, from the last part on
    have hpl : ∀ j : Nat, (j : Int) ≤ x → 0 ≤ partF c.Sizes i k x j ∧ partF c.Sizes i k x j < c.Cells.length := fun j hj => by
      have := partF_bd hv (show (0 : Int) ≤ i by omega) (by omega) hs hx2 hj; omega
    let g : Nat → Int := fun m => cellAt c ((i : Int) - ((m : Int) + 1) * vol (c.Sizes.drop (k + 1)))
    have hg : ∀ m : Nat, (m : Int) < x → g m = cellAt c (partF c.Sizes i k x (x.toNat - 1 - m)) ∧ 0 ≤ (i : Int) - ((m : Int) + 1) * vol (c.Sizes.drop (k + 1)) ∧ (i : Int) - ((m : Int) + 1) * vol (c.Sizes.drop (k + 1)) < c.Cells.length := fun m hm => by
      have e3 : partF c.Sizes i k x (x.toNat - 1 - m) = (i : Int) - ((m : Int) + 1) * vol (c.Sizes.drop (k + 1)) := by
        simp only [partF]; congr 2; omega
      have := hpl (x.toNat - 1 - m) (by omega)
      rw [e3] at this
      exact ⟨by rw [e3], this⟩
    have htot : sumI ((List.range x.toNat).map g) = psum c i k x := by
      rw [psum, partL, List.map_map, ← sumI_reverse ((List.range x.toNat).map (cellAt c ∘ partF c.Sizes i k x))]
      congr 1
      apply List.ext_getElem
      · simp
      · intro n h1 h2
        simp only [List.length_map, List.length_range] at h1
        have := (hg n (by omega)).1
        simp only [List.getElem_map, List.getElem_range, List.getElem_reverse, List.length_map, List.length_range, Function.comp]
        exact this
    have hsum : ∀ (m : Nat), (m : Int) ≤ x → -(1000000 * (m : Int)) ≤ sumI ((List.range m).map g) ∧ sumI ((List.range m).map g) ≤ 1000000 * (m : Int) := by
      intro m hm
      have := sumI_bd (b := 1000000) (by omega) (l := (List.range m).map g) (fun y hy => by
        simp only [List.mem_map, List.mem_range] at hy
        obtain ⟨z, hz, rfl⟩ := hy
        obtain ⟨_, q1, q2⟩ := hg z (by omega)
        exact cell_bd h q1 q2)
      simpa using this
    have e0 : (((0 : Int), (1 : Int)) : Int × Int) = (fun m : Nat => (sumI ((List.range m).map g), (m : Int) + 1)) 0 := by simp [sumI]
    rw [e0]
    refine (loop_up x.toNat (fun m : Nat => (sumI ((List.range m).map g), (m : Int) + 1)) (fun _ => if brk c i (x :: l2) k = true then some (i : Int) else next ()) (by omega) ?_ ?_)
    · intro nx m hm hnx3
      have hmx : (m : Int) + 1 ≤ x := by omega
      obtain ⟨_, q1, q2⟩ := hg m (by omega)
      have hcb := cell_bd h q1 q2
      have hs1 := hsum m (by omega)
      have hm0 : 0 ≤ ((m : Int) + 1) * vol (c.Sizes.drop (k + 1)) := Int.mul_nonneg (by omega) (by omega)
      simp only [hmx, decide_true, if_true]
      rw [getO_some hst, ckI_pos (by omega) (by omega), ckI_pos (by omega) (by omega), getO_cell q1 q2, ckI_pos (by omega) (by omega), ckI_pos (by omega) (by omega)]
      rw [← hnx3, range_map_succ, sumI_append]
      simp only [sumI, Int.add_zero, cast_succ]
      rfl
    · intro nx
      simp only [show ¬ (((x.toNat : Nat) : Int) + 1 ≤ x) by omega, decide_false, Bool.false_eq_true, if_false, htot, hvi, brk, if_pos hs]
      by_cases e2 : psum c i k x = cellAt c i
      · simp only [e2, ne_eq, not_true_eq_false, decide_false, Bool.false_eq_true, if_false]
        exact hn2'
      · simp [e2]
  · have hs : ¬ c.Sizes[k]? = some x := by rw [List.getElem?_eq_getElem hk]; simp; exact fun h => e h.symm
    simp only [show decide (x ≠ c.Sizes[k]) = true by simp [e], if_true, brk, if_neg hs]
    exact hn2'
def goodB (c : XCube) : Bool := formB c && decide (fstB c c.Cells 0 = c.Cells.length)
theorem cbGood_eq (c : XCube) : sh_spec_cbGood c = some (goodB c) := by
  unfold sh_spec_cbGood
  rw [cbForm_eq, Option.bind_some]
  cases h : formB c with
  | false => simp [goodB, h]
  | true =>
    have hf := formB_form h
    have := hf.le
    simp only [if_true]
    rw [cbFirst_eq hf, Option.bind_some, lmO_pos (by omega)]
    simp [goodB, h]
end AS
namespace AS
theorem implIsCube_eq (c : XCube) : sh_impl_IsCube c = some (goodB c) := by
  unfold sh_impl_IsCube
  rw [rightForm_eq, Option.bind_some]
  cases h : formB c with
  | false => simp [goodB, h]
  | true =>
    have hf := formB_form h
    have := hf.le
    simp only [if_true]
    rw [firstBreak_eq hf, Option.bind_some, lmO_pos (by omega)]
    simp [goodB, h]
end AS
namespace AS
theorem brk_iff {c : XCube} {i : Int} : ∀ {l : List Int} {k : Nat}, brk c i l k = true ↔ ∃ j x, l[j]? = some x ∧ c.Sizes[k + j]? = some x ∧ psum c i (k + j) x ≠ cellAt c i
  | [], k => by simp [brk]
  | y :: l, k => by
    have ih := brk_iff (c := c) (i := i) (l := l) (k := k + 1)
    simp only [brk]
    constructor
    · intro h
      split at h
      · rename_i h1
        split at h
        · rename_i h2; exact ⟨0, y, rfl, h1, h2⟩
        · obtain ⟨j, x, q1, q2, q3⟩ := ih.1 h
          exact ⟨j + 1, x, by simpa using q1, by rw [show k + (j + 1) = k + 1 + j by omega]; exact q2, by rw [show k + (j + 1) = k + 1 + j by omega]; exact q3⟩
      · obtain ⟨j, x, q1, q2, q3⟩ := ih.1 h
        exact ⟨j + 1, x, by simpa using q1, by rw [show k + (j + 1) = k + 1 + j by omega]; exact q2, by rw [show k + (j + 1) = k + 1 + j by omega]; exact q3⟩
    · rintro ⟨j, x, q1, q2, q3⟩
      cases j with
      | zero =>
        simp only [List.getElem?_cons_zero, Option.some.injEq] at q1
        subst q1
        rw [Nat.add_zero] at q2 q3
        rw [if_pos q2, if_pos q3]
      | succ j =>
        have : brk c i l (k + 1) = true := ih.2 ⟨j, x, by simpa using q1, by rw [show k + 1 + j = k + (j + 1) by omega]; exact q2, by rw [show k + 1 + j = k + (j + 1) by omega]; exact q3⟩
        split
        · split
          · rfl
          · exact this
        · exact this
theorem fst_iff {c : XCube} : ∀ {l : List Int} {k : Nat}, k + l.length = c.Cells.length → (fstB c l k = (c.Cells.length : Int) ↔ ∀ j, k ≤ j → j < c.Cells.length → brk c (j : Int) (idxL c.Sizes (j : Int)) 0 = false)
  | [], k, h => by
    simp only [List.length_nil, Nat.add_zero] at h
    exact ⟨fun _ j h1 h2 => by omega, fun _ => rfl⟩
  | y :: l, k, h => by
    simp only [List.length_cons] at h
    have ih := fst_iff (c := c) (l := l) (k := k + 1) (by omega)
    simp only [fstB]
    split
    · rename_i hb
      constructor
      · intro e; omega
      · intro q
        have := q k (Nat.le_refl _) (by omega)
        rw [hb] at this; cases this
    · rename_i hb
      rw [ih]
      constructor
      · intro q j h1 h2
        by_cases hj : j = k
        · subst hj; simpa using hb
        · exact q j (by omega) h2
      · exact fun q j h1 h2 => q j (by omega) h2
/-- Each total is the sum of its parts. -/
def Whole (c : XCube) : Prop := ∀ (i : Nat), i < c.Cells.length → ∀ (d : Nat) (x : Int), c.Sizes[d]? = some x → (idxL c.Sizes (i : Int))[d]? = some x → psum c (i : Int) d x = cellAt c (i : Int)
theorem whole_iff {c : XCube} : fstB c c.Cells 0 = (c.Cells.length : Int) ↔ Whole c := by
  rw [fst_iff (by omega)]
  constructor
  · intro h i hi d x h1 h2
    have h3 := h i (Nat.zero_le _) hi
    by_cases e : psum c (i : Int) d x = cellAt c (i : Int)
    · exact e
    · have : brk c (i : Int) (idxL c.Sizes (i : Int)) 0 = true := brk_iff.2 ⟨d, x, h2, by rw [Nat.zero_add]; exact h1, by rw [Nat.zero_add]; exact e⟩
      rw [h3] at this; cases this
  · intro h j _ hj
    cases hb : brk c (j : Int) (idxL c.Sizes (j : Int)) 0 with
    | false => rfl
    | true =>
      obtain ⟨d, x, q1, q2, q3⟩ := brk_iff.1 hb
      rw [Nat.zero_add] at q2 q3
      exact absurd (h j hj d x q2 q1) q3
theorem goodB_iff {c : XCube} : goodB c = true ↔ formB c = true ∧ Whole c := by
  unfold goodB
  rw [Bool.and_eq_true, decide_eq_true_eq, whole_iff]
theorem sumI_map_sub {α : Type} (f g : α → Int) : ∀ (l : List α), sumI (l.map fun x => f x - g x) = sumI (l.map f) - sumI (l.map g)
  | [] => rfl
  | x :: l => by simp only [List.map_cons, sumI, sumI_map_sub f g l]; omega
/-! ### Differences -/
def diffC (a b : XCube) : XCube := ⟨a.Sizes, List.zipWith (· - ·) a.Cells b.Cells⟩
theorem diff_cell {a b : XCube} (h : b.Cells.length = a.Cells.length) {j : Int} (h0 : 0 ≤ j) (h1 : j < a.Cells.length) : cellAt (diffC a b) j = cellAt a j - cellAt b j := by
  have e1 := List.getElem?_eq_getElem (show j.toNat < a.Cells.length by omega)
  have e2 := List.getElem?_eq_getElem (show j.toNat < b.Cells.length by omega)
  simp only [cellAt, diffC, List.getD_eq_getElem?_getD, List.getElem?_zipWith, e1, e2]
  rfl
theorem diff_whole {a b : XCube} (ha : goodB a = true) (hb : goodB b = true) (hs : a.Sizes = b.Sizes) : Whole (diffC a b) := by
  obtain ⟨fa, wa⟩ := goodB_iff.1 ha
  obtain ⟨fb, wb⟩ := goodB_iff.1 hb
  have Fa := formB_form fa
  have Fb := formB_form fb
  have hlen : b.Cells.length = a.Cells.length := by have h1 := Fa.n; have h2 := Fb.n; rw [← hs] at h2; omega
  intro i hi d x h1 h2
  have hi' : i < a.Cells.length := by simp only [diffC, List.length_zipWith] at hi; omega
  have h1' : a.Sizes[d]? = some x := h1
  have h2' : (idxL a.Sizes (i : Int))[d]? = some x := h2
  have h3 := wa i hi' d x h1' h2'
  have h4 := wb i (by omega) d x (by rw [← hs]; exact h1') (by rw [← hs]; exact h2')
  have hn := Fa.n
  rw [diff_cell hlen (by omega) (by omega), ← h3, ← h4]
  simp only [psum]
  rw [← hs, ← sumI_map_sub]
  congr 1
  have e : (diffC a b).Sizes = a.Sizes := rfl
  rw [e]
  apply List.map_congr_left
  intro j hj
  simp only [partL, List.mem_map, List.mem_range] at hj
  obtain ⟨q, hq, rfl⟩ := hj
  have hbd := partF_bd Fa.v (show (0 : Int) ≤ i by omega) (by omega) h1' h2' (show (q : Int) ≤ x by omega)
  exact diff_cell hlen hbd.1 (by omega)
theorem diff_good {a b : XCube} (ha : goodB a = true) (hb : goodB b = true) (hs : a.Sizes = b.Sizes) : goodB (diffC a b) = smallL (diffC a b).Cells := by
  have hw := diff_whole ha hb hs
  have Fa := formB_form (goodB_iff.1 ha).1
  have Fb := formB_form (goodB_iff.1 hb).1
  have fa := (goodB_iff.1 ha).1
  have hlen : b.Cells.length = a.Cells.length := by have h1 := Fa.n; have h2 := Fb.n; rw [← hs] at h2; omega
  rw [Bool.eq_iff_iff, goodB_iff]
  simp only [formB, Bool.and_eq_true, decide_eq_true_eq] at fa ⊢
  constructor
  · exact fun h => h.1.2
  · intro h
    refine ⟨⟨⟨fa.1.1, ?_⟩, h⟩, hw⟩
    have : (diffC a b).Cells.length = a.Cells.length := by simp only [diffC, List.length_zipWith]; omega
    rw [this]; exact fa.1.2
end AS
namespace AS
/-! ### The law's own functions on variables -/
theorem XVariable.ext' {a b : XVariable} (h1 : a.Name = b.Name) (h2 : a.Levels = b.Levels) : a = b := by cases a; cases b; simp_all
/-! ### Schemas -/
def lowB (n : List UInt8) : Bool := n.all fun c => decide ((97 : Int) ≤ (c.toNat : Int)) && decide ((c.toNat : Int) ≤ 122)
def wordB (n : List UInt8) : Bool := lowB n && (decide (1 ≤ n.length) && decide (n.length ≤ 8))
def hasName (l : List XVariable) (n : List UInt8) : Bool := l.any fun v => decide (v.Name = n)
def levB (v : XVariable) : Bool := decide (2 ≤ v.Levels) && decide (v.Levels ≤ 8)
def schFrom (s : List XVariable) : List XVariable → Nat → Bool
  | [], _ => true
  | v :: l, k => wordB v.Name && (levB v && (!(hasName (s.take k) v.Name) && schFrom s l (k + 1)))
def schB (s : List XVariable) : Bool := decide (1 ≤ s.length) && decide (s.length ≤ 6) && schFrom s s 0
theorem schFrom_lev {s : List XVariable} : ∀ {l : List XVariable} {k : Nat}, schFrom s l k = true → ∀ v ∈ l, 2 ≤ v.Levels ∧ v.Levels ≤ 8
  | [], _, _, v, hv => by simp at hv
  | x :: l, k, h, v, hv => by
    simp only [schFrom, Bool.and_eq_true] at h
    rcases List.mem_cons.1 hv with rfl | hv
    · have := h.2.1; simpa [levB] using this
    · exact schFrom_lev h.2.2.2 v hv
theorem schB_lev {s : List XVariable} (h : schB s = true) {v : XVariable} (hv : v ∈ s) : 2 ≤ v.Levels ∧ v.Levels ≤ 8 := by
  simp only [schB, Bool.and_eq_true] at h
  exact schFrom_lev h.2 v hv
theorem schB_len {s : List XVariable} (h : schB s = true) : 1 ≤ s.length ∧ s.length ≤ 6 := by
  simp only [schB, Bool.and_eq_true, decide_eq_true_eq] at h
  exact h.1
/-! ### Weights, values, costs -/
end AS
namespace AS
/-! ### MarginOf -/
def risB (n : Int) : Int → List Int → Bool
  | _, [] => true
  | a, x :: l => decide (a < x) && (decide (x < n) && risB n x l)
end AS
namespace AS
theorem getD_get {α : Type} {l : List α} {k : Nat} {d : α} (h : k < l.length) : l.getD k d = l[k] := by simp [List.getD_eq_getElem?_getD, h]
/-! ### Sets of levels -/
/-! ### Records and conditions -/
/-! ### Variables of a table -/
theorem risB_rng {n : Int} : ∀ {l : List Int} {a : Int}, risB n a l = true → ∀ d ∈ l, a < d ∧ d < n
  | [], _, _, d, hd => by simp at hd
  | x :: l, a, h, d, hd => by
    simp only [risB, Bool.and_eq_true, decide_eq_true_eq] at h
    rcases List.mem_cons.1 hd with rfl | hd
    · exact ⟨h.1, h.2.1⟩
    · have := risB_rng h.2.2 d hd; omega
theorem risB_len {n : Int} : ∀ {l : List Int} {a : Int}, a < n → risB n a l = true → (l.length : Int) ≤ n - 1 - a
  | [], _, ha, _ => by simp; omega
  | x :: l, a, _, h => by
    simp only [risB, Bool.and_eq_true, decide_eq_true_eq] at h
    have := risB_len (a := x) h.2.1 h.2.2
    simp only [List.length_cons]; omega
def partV (s : List XVariable) (l : List Int) : List XVariable := l.map fun v => s.getD v.toNat default
theorem partV_len (s : List XVariable) (l : List Int) : (partV s l).length = l.length := by simp [partV]
/-! ### How many cells -/
def prodV : List XVariable → Int
  | [] => 1
  | v :: l => v.Levels * prodV l
theorem mul_pow_bd {a x : Int} {k : Nat} (hk : k ≤ 5) (h1 : 1 ≤ a) (h2 : a ≤ 8 ^ k) (h3 : 2 ≤ x) (h4 : x ≤ 8) : 1 ≤ a * x ∧ a * x ≤ 8 ^ (k + 1) ∧ (8 : Int) ^ (k + 1) ≤ 262144 := by
  have a1 : 1 * 1 ≤ a * x := Int.mul_le_mul h1 (by omega) (by omega) (by omega)
  have a2 : a * x ≤ 8 ^ k * 8 := Int.mul_le_mul h2 (by omega) (by omega) (by omega)
  refine ⟨by omega, by rw [Int.pow_succ]; exact a2, ?_⟩
  have : k = 0 ∨ k = 1 ∨ k = 2 ∨ k = 3 ∨ k = 4 ∨ k = 5 := by omega
  rcases this with rfl | rfl | rfl | rfl | rfl | rfl <;> decide
theorem prodV_bd : ∀ {l : List XVariable}, l.length ≤ 6 → (∀ v ∈ l, 2 ≤ v.Levels ∧ v.Levels ≤ 8) → 1 ≤ prodV l ∧ prodV l ≤ 8 ^ l.length ∧ (8 : Int) ^ l.length ≤ 262144
  | [], _, _ => by simp [prodV]
  | v :: l, hl, h => by
    simp only [List.length_cons] at hl
    have := prodV_bd (l := l) (by omega) (fun u hu => h u (List.mem_cons_of_mem _ hu))
    have hv := h v List.mem_cons_self
    have := mul_pow_bd (show l.length ≤ 5 by omega) this.1 this.2.1 hv.1 hv.2
    simp only [prodV, List.length_cons]
    rw [Int.mul_comm]; exact this
/-- A list of variables of a schema. -/
structure Part (s : List XVariable) (l : List Int) : Prop where
  sch : schB s = true
  ris : risB s.length (-1) l = true
theorem Part.rng {s : List XVariable} {l : List Int} (h : Part s l) : ∀ d ∈ l, 0 ≤ d ∧ d < (s.length : Int) := fun d hd => by
  have := risB_rng h.ris d hd; omega
theorem Part.len {s : List XVariable} {l : List Int} (h : Part s l) : l.length ≤ 6 := by
  have := risB_len (by omega) h.ris
  have := schB_len h.sch
  omega
theorem Part.lev {s : List XVariable} {l : List Int} (h : Part s l) : ∀ v ∈ partV s l, 2 ≤ v.Levels ∧ v.Levels ≤ 8 := by
  intro v hv
  simp only [partV, List.mem_map] at hv
  obtain ⟨d, hd, rfl⟩ := hv
  have := h.rng d hd
  rw [getD_get (show d.toNat < s.length by omega)]
  exact schB_lev h.sch (List.getElem_mem _)
theorem Part.bd {s : List XVariable} {l : List Int} (h : Part s l) : 1 ≤ prodV (partV s l) ∧ prodV (partV s l) ≤ 262144 := by
  have := prodV_bd (l := partV s l) (by rw [partV_len]; exact h.len) h.lev
  omega
/-! ### Tables -/
end AS
namespace AS
/-! ### Surveys -/
/-! ### Normal tables -/
theorem l1Same_eq (a b : List Int) : sh_spec_l1Same a b = some (decide (a = b)) := by
  unfold sh_spec_l1Same
  by_cases hl : a.length = b.length
  · simp only [hl, ne_eq, not_true_eq_false, decide_false, Bool.false_eq_true, if_false]
    refine (range_mem (I := fun _ _ => True) (G := fun l k _ => some (decide (l = b.drop k))) ?_ ?_ () trivial).trans (by simp)
    · intro k _ _ hk; rw [hk, hl, List.drop_length]; simp
    · intro x l' k _ next hx _ _ hn
      have hk := (List.getElem?_eq_some_iff.1 hx).1
      have hkb : k < b.length := by omega
      rw [getO_nat hkb, List.drop_eq_getElem_cons hkb]
      by_cases e : x = b[k]
      · simp only [e, not_true_eq_false, decide_false, Bool.false_eq_true, if_false, List.cons.injEq, true_and]
        exact hn () trivial
      · have e2 : ¬ (x :: l' = b[k] :: List.drop (k + 1) b) := fun h => e (List.cons.inj h).1
        simp only [e, ne_eq, not_false_eq_true, decide_true, if_true, e2, decide_false]
  · have : ¬ (a = b) := fun e => hl (by rw [e])
    have h2 : ¬ ((a.length : Int) = (b.length : Int)) := by omega
    simp [this, h2]
theorem Equal_eq (a b : List Int) : sh_slices_Equal_int a b = some (decide (a = b)) := by
  unfold sh_slices_Equal_int
  by_cases hl : a.length = b.length
  · simp only [hl, ne_eq, not_true_eq_false, decide_false, Bool.false_eq_true, if_false]
    refine (range_mem (I := fun _ _ => True) (G := fun l k _ => some (decide (l = b.drop k))) ?_ ?_ () trivial).trans (by simp)
    · intro k _ _ hk; rw [hk, hl, List.drop_length]; simp
    · intro x l' k _ next hx _ _ hn
      have hk := (List.getElem?_eq_some_iff.1 hx).1
      have hkb : k < b.length := by omega
      rw [getO_nat hkb, List.drop_eq_getElem_cons hkb]
      by_cases e : x = b[k]
      · simp only [e, not_true_eq_false, decide_false, Bool.false_eq_true, if_false, List.cons.injEq, true_and]
        exact hn () trivial
      · have e2 : ¬ (x :: l' = b[k] :: List.drop (k + 1) b) := fun h => e (List.cons.inj h).1
        simp only [e, ne_eq, not_false_eq_true, decide_true, if_true, e2, decide_false]
  · have : ¬ (a = b) := fun e => hl (by rw [e])
    have h2 : ¬ ((a.length : Int) = (b.length : Int)) := by omega
    simp [this, h2]
end AS
namespace AS
def diffR (a b : XCube) : XCube × Bool := if goodB a && (goodB b && decide (a.Sizes = b.Sizes)) then (if smallL (diffC a b).Cells = true then (diffC a b, true) else (⟨[], []⟩, false)) else (⟨[], []⟩, false)
theorem diff_len {a b : XCube} (ha : goodB a = true) (hb : goodB b = true) (hs : a.Sizes = b.Sizes) : b.Cells.length = a.Cells.length ∧ (diffC a b).Cells.length = a.Cells.length := by
  have Fa := formB_form (goodB_iff.1 ha).1
  have Fb := formB_form (goodB_iff.1 hb).1
  have hlen : b.Cells.length = a.Cells.length := by have h1 := Fa.n; have h2 := Fb.n; rw [← hs] at h2; omega
  exact ⟨hlen, by simp only [diffC, List.length_zipWith]; omega⟩
theorem diff_at {a b : XCube} {k : Nat} (h1 : k < a.Cells.length) (h2 : k < b.Cells.length) (h : k < (diffC a b).Cells.length) : (diffC a b).Cells[k] = a.Cells[k] - b.Cells[k] := by
  simp only [diffC, List.getElem_zipWith]
theorem core_DifferenceOf (a b : XCube) (h0 : bulkC a ≤ 1048576) (h1 : bulkC b ≤ 1048576) : ∃ x, sh_spec_DifferenceOf a b = some x ∧ sh_impl_DifferenceOf a b = some x ∧ bulkC x.1 ≤ 1048576 := by
  refine ⟨diffR a b, ?_, ?_, ?_⟩
  · unfold sh_spec_DifferenceOf diffR
    rw [cbGood_eq, Option.bind_some]
    cases ha : goodB a with
    | false => rfl
    | true =>
      rw [cbGood_eq, Option.bind_some]
      cases hb : goodB b with
      | false => rfl
      | true =>
        simp only [Bool.not_true, Bool.false_eq_true, if_false, Bool.true_and]
        rw [l1Same_eq, Option.bind_some]
        by_cases hs : a.Sizes = b.Sizes
        · have Fa := formB_form (goodB_iff.1 ha).1
          have Fb := formB_form (goodB_iff.1 hb).1
          have hl := diff_len ha hb hs
          have hv := Fa.v.1
          have hle := Fa.le
          simp only [hs, decide_true, Bool.not_true, Bool.false_eq_true, if_false, if_true]
          rw [l1Own_eq (by rw [← hs]; omega), Option.bind_some]
          refine range_mem (I := fun k (T : XCube) => T = ⟨b.Sizes, (diffC a b).Cells.take k⟩) (G := fun _ _ _ => some (if smallL (diffC a b).Cells = true then (diffC a b, true) else (⟨[], []⟩, false))) ?_ ?_ _ (by simp)
          · intro k T hT hk
            subst hT
            have e : (⟨b.Sizes, (diffC a b).Cells.take k⟩ : XCube) = diffC a b := by
              rw [List.take_of_length_le (by omega), ← hs]; rfl
            rw [e]
            unfold sh_spec_cbIf
            rw [cbGood_eq, Option.bind_some, diff_good ha hb hs]
            cases smallL (diffC a b).Cells <;> rfl
          · intro x l' k T next hx _ hT hn
            subst hT
            have hk := (List.getElem?_eq_some_iff.1 hx).1
            have hxe := (List.getElem?_eq_some_iff.1 hx).2
            have hkb : k < b.Cells.length := by omega
            have hkd : k < (diffC a b).Cells.length := by omega
            have b1 := smallL_get Fa.sm hx
            have b2 := smallL_get Fb.sm (List.getElem?_eq_getElem hkb)
            have hd := diff_at hk hkb hkd
            rw [hxe] at hd
            rw [getO_nat hkb, ckI_pos (by omega) (by omega), lnO_pos (by simp; omega)]
            refine hn _ ?_
            simp only [List.take_add_one, List.getElem?_eq_getElem hkd, Option.toList, hd]
        · simp [hs]
  · unfold sh_impl_DifferenceOf diffR
    rw [implIsCube_eq, Option.bind_some]
    cases ha : goodB a with
    | false => rfl
    | true =>
      rw [implIsCube_eq, Option.bind_some]
      cases hb : goodB b with
      | false => rfl
      | true =>
        simp only [Bool.not_true, Bool.false_eq_true, if_false, Bool.true_and]
        rw [Equal_eq, Option.bind_some]
        by_cases hs : a.Sizes = b.Sizes
        · have Fa := formB_form (goodB_iff.1 ha).1
          have Fb := formB_form (goodB_iff.1 hb).1
          have hl := diff_len ha hb hs
          have hv := Fa.v.1
          have hle := Fa.le
          simp only [hs, decide_true, Bool.not_true, Bool.false_eq_true, if_false, if_true]
          rw [Clone_eq (by rw [← hs]; omega), Option.bind_some, Clone_eq (by omega), Option.bind_some]
          have hz : (diffC a b).Cells.length = a.Cells.length := hl.2
          refine range_mem (I := fun k (T : XCube) => T = ⟨b.Sizes, mixL (diffC a b).Cells a.Cells k⟩) (G := fun _ _ _ => some (if smallL (diffC a b).Cells = true then (diffC a b, true) else (⟨[], []⟩, false))) ?_ ?_ _ (by rw [mixL_zero])
          · intro k T hT hk
            subst hT
            have hm := mixL_end hz
            have e : (⟨b.Sizes, mixL (diffC a b).Cells a.Cells k⟩ : XCube) = diffC a b := by
              rw [show k = (diffC a b).Cells.length by omega, hm, ← hs]; rfl
            rw [e, areCubeValues_eq, Option.bind_some]
            cases smallL (diffC a b).Cells <;> rfl
          · intro x l' k T next hx _ hT hn
            subst hT
            have hkb := (List.getElem?_eq_some_iff.1 hx).1
            have hxe := (List.getElem?_eq_some_iff.1 hx).2
            have hk : k < a.Cells.length := by omega
            have hkd : k < (diffC a b).Cells.length := by omega
            have b1 := smallL_get Fa.sm (List.getElem?_eq_getElem hk)
            have b2 := smallL_get Fb.sm hx
            have hd := diff_at hk hkb hkd
            rw [hxe] at hd
            have hset := mixL_set hz hkd
            rw [getO_some (mixL_get hz hk), ckI_pos (by omega) (by omega), Int.toNat_natCast]
            refine hn _ ?_
            rw [← hd, hset]
        · simp [hs]
  · unfold diffR
    split
    · rename_i h
      simp only [Bool.and_eq_true, decide_eq_true_eq] at h
      have hl := diff_len h.1 h.2.1 h.2.2
      split
      · unfold bulkC at h0 ⊢
        rw [hl.2]; exact h0
      · simp [bulkC]
    · simp [bulkC]
end AS
namespace AS
theorem law_DifferenceOf (v0 : XCube) (v1 : XCube) (b0 : Bd.bd v0) (b1 : Bd.bd v1) : sh_laws_FnExactDifferenceOf v0 v1 = some true := by
  unfold sh_laws_FnExactDifferenceOf
  rw [szCube_eq (by omega) (by omega) b0, Option.bind_some]
  by_cases h0 : ((bulkC v0 : Nat) : Int) ≤ 1048576
  · rw [left_pos h0]
    simp only [show ¬ ((1048576 : Int) - ((bulkC v0 : Nat) : Int) < 0) by omega, decide_false, Bool.false_eq_true, if_false]
    rw [szCube_eq (by omega) (by omega) b1, Option.bind_some]
    by_cases h1 : ((bulkC v1 : Nat) : Int) ≤ 1048576 - ((bulkC v0 : Nat) : Int)
    · rw [left_pos h1]
      simp only [show ¬ (1048576 - ((bulkC v0 : Nat) : Int) - ((bulkC v1 : Nat) : Int) < 0) by omega, decide_false, Bool.false_eq_true, if_false]
      obtain ⟨r, e1, e2, q0⟩ := core_DifferenceOf v0 v1 (by omega) (by omega)
      have q0' := q0
      simp [e1, e2, toCube_eq (c := v0) (by omega),
      eqCube_eq (a := v0) (b := v0) (by omega),
      toCube_eq (c := v1) (by omega),
      eqCube_eq (a := v1) (b := v1) (by omega),
      markCube_eq (c := v0) (n := 1) (by omega) (by omega),
      markCube_eq (c := v1) (n := 1 + ((bulkC v0 : Nat) : Int)) (by omega) (by omega),
      show ¬ ((1 : Int) + ((bulkC v0 : Nat) : Int) + ((bulkC v1 : Nat) : Int) < 0) by omega,
      eqCube_eq (a := r.1) (b := r.1) (by omega),
      markCube_eq (c := r.1) (n := 1) (by omega) (by omega),
      heldCube_eq (c := r.1) (n := 1) (by omega) (by omega),
      show ¬ ((1 : Int) + ((bulkC (r.1) : Nat) : Int) < 0) by omega]
    · rw [left_no h1]; simp
  · rw [left_no h0]; simp
end AS
