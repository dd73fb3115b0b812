/- Plain lemmas, and the law. No condition. -/
import Derived.Test.YtjikhkfmddflhaaQGroupCubeS
set_option linter.unusedVariables false
set_option linter.unusedSimpArgs false
namespace AS
section
variable {R σ α β : Type}
theorem FUEL_big {n : Nat} (h : n ≤ 4611686018427387904) : n < FUEL := Nat.lt_of_le_of_lt h (by decide +kernel)
/-- A loop that counts. -/
theorem loop_up {body : (σ → Option R) → σ → Option R} (n : Nat) (S : Nat → σ) (G : Nat → Option R) (hn : n ≤ 4611686018427387904)
    (hs : ∀ next k, k < n → next (S (k + 1)) = G (k + 1) → body next (S k) = G k) (he : ∀ next, body next (S n) = G n) : loopF body FUEL (S 0) = G 0 := by
  have key : ∀ d k, k + d = n → ∀ m, d < m → loopF body m (S k) = G k := by
    intro d
    induction d with
    | zero => intro k hk m hm; obtain ⟨m, rfl⟩ := Nat.exists_eq_succ_of_ne_zero (by omega : m ≠ 0); simp only [loopF]; rw [show k = n by omega]; exact he _
    | succ d ih =>
      intro k hk m hm
      obtain ⟨m, rfl⟩ := Nat.exists_eq_succ_of_ne_zero (by omega : m ≠ 0)
      simp only [loopF]
      exact hs _ k (by omega) (ih (k + 1) (by omega) m (by omega))
  exact key n 0 (by omega) FUEL (FUEL_big hn)
/-- A range that only goes on. -/
theorem range_all {body : Nat → α → σ → (σ → Option R) → Option R} {fin : σ → Option R} {l : List α} {G : List α → Nat → σ → Option R}
    (h0 : ∀ k s, G [] k s = fin s) (hs : ∀ x l k s next, (∀ s', next s' = G l (k + 1) s') → body k x s next = G (x :: l) k s) : ∀ k s, rangeF body fin l k s = G l k s := by
  induction l with
  | nil => intro k s; simp only [rangeF, h0]
  | cons x l ih => intro k s; simp only [rangeF]; exact hs x l k s _ fun s' => ih (k + 1) s'
/-- A range with what is known of the elements. -/
theorem range_mem {body : Nat → α → σ → (σ → Option R) → Option R} {fin : σ → Option R} {l : List α} (I : Nat → σ → Prop) {G : List α → Nat → σ → Option R}
    (h0 : ∀ k s, I k s → k = l.length → fin s = G [] k s) (hs : ∀ x l' k s next, l[k]? = some x → l.drop k = x :: l' → I k s → (∀ s', I (k + 1) s' → next s' = G l' (k + 1) s') → body k x s next = G (x :: l') k s) :
    ∀ s, I 0 s → rangeF body fin l 0 s = G l 0 s := by
  have key : ∀ d k s, k + d = l.length → I k s → rangeF body fin (l.drop k) k s = G (l.drop k) k s := by
    intro d
    induction d with
    | zero =>
      intro k s hk hi
      rw [List.drop_of_length_le (by omega)]
      exact h0 k s hi (by omega)
    | succ d ih =>
      intro k s hk hi
      have hlt : k < l.length := by omega
      rw [List.drop_eq_getElem_cons hlt]
      simp only [rangeF]
      refine hs _ _ k s _ (List.getElem?_eq_getElem hlt) (List.drop_eq_getElem_cons hlt) hi fun s' hs' => ih (k + 1) s' (by omega) hs'
  intro s hi
  have := key l.length 0 s (by omega) hi
  simpa using this
theorem getO_some {l : List α} {k : Nat} {x : α} {f : α → Option R} (h : l[k]? = some x) : getO l (k : Int) f = f x := by simp [getO, h]
theorem ckI_succ {n : Nat} {f : Option R} (h : n ≤ 4611686018427387904) : ckI ((n : Int) + 1) f = f := ckI_pos (by omega) (by omega)
theorem lt_dec {k n : Nat} (h : k < n) : decide ((k : Int) < (n : Int)) = true := by simp [h]
theorem lt_self (n : Nat) : decide ((n : Int) < (n : Int)) = false := by simp
theorem cast_succ (k : Nat) : ((k + 1 : Nat) : Int) = (k : Int) + 1 := rfl
/-! ### One list into another, cell by cell -/
def mixL (a b : List α) (k : Nat) : List α := a.take k ++ b.drop k
theorem mixL_zero (a b : List α) : mixL a b 0 = b := by simp [mixL]
theorem mixL_end {a b : List α} (h : a.length = b.length) : mixL a b a.length = a := by simp [mixL, ← h]
theorem mixL_len {a b : List α} (h : a.length = b.length) (k : Nat) : (mixL a b k).length = b.length := by simp [mixL]; omega
theorem mixL_get {a b : List α} (h : a.length = b.length) {k : Nat} (hk : k < b.length) : (mixL a b k)[k]? = some b[k] := by
  simp only [mixL]
  rw [List.getElem?_append_right (by simp; omega)]
  simp [show min k a.length = k by omega, hk]
theorem mixL_set {a b : List α} (h : a.length = b.length) {k : Nat} (hk : k < a.length) : (mixL a b k).set k a[k] = mixL a b (k + 1) := by
  apply List.ext_getElem?
  intro i
  simp only [mixL]
  by_cases hi : i = k
  · subst hi
    rw [List.getElem?_set_self (by simp; omega), List.getElem?_append_left (by simp; omega), List.getElem?_take_of_lt (by omega)]
    rw [List.getElem?_eq_getElem (by omega)]
  · rw [List.getElem?_set_ne (Ne.symm hi)]
    simp only [List.getElem?_append, List.length_take, List.getElem?_take, List.getElem?_drop]
    by_cases h1 : i < k
    · simp [show i < min k a.length by omega, show i < min (k+1) a.length by omega, h1, show i < k + 1 by omega]
    · simp only [show ¬ i < min k a.length by omega, show ¬ i < min (k+1) a.length by omega, if_false]
      congr 1; omega
/-! ### The marks -/
def mks (n : Int) (m : Nat) : List Int := (List.range m).map fun (i : Nat) => n + (i : Int)
theorem mks_len (n : Int) (m : Nat) : (mks n m).length = m := by simp [mks]
theorem mks_get (n : Int) {m k : Nat} (h : k < m) : (mks n m)[k]'(by rw [mks_len]; exact h) = n + k := by simp [mks]
end
end AS
namespace AS
theorem toIntS_eq {l : List Int} (h : l.length ≤ 1048576) : sh_laws_toIntS l = some l := by
  unfold sh_laws_toIntS
  rw [mkO_pos (by omega) (by omega)]
  refine (loop_up l.length (fun k => (mixL l (List.replicate l.length 0) k, (k : Int))) (fun _ => some l) (by omega) ?_ ?_)
  · intro next k hk hn
    simp only [lt_dec hk, if_true]
    rw [getO_nat hk, getO_some (mixL_get (by simp) (by simpa using hk)), ckI_succ (by omega)]
    simp only [Int.toNat_natCast, mixL_set (b := List.replicate l.length 0) (by simp) hk]
    exact hn
  · intro next
    simp only [lt_self]
    simp [mixL_end (a := l) (b := List.replicate l.length 0) (by simp)]
theorem eqIntS_eq {a b : List Int} (h : a.length ≤ 1099511627776) : sh_laws_eqIntS a b = some (decide (a = b)) := by
  unfold sh_laws_eqIntS
  by_cases hl : a.length = b.length
  · simp only [hl, ne_eq, not_true_eq_false, decide_false, Bool.false_eq_true, if_false]
    refine (loop_up b.length (fun k => (k : Int)) (fun k => some (decide (a.drop k = b.drop k))) (by omega) ?_ ?_).trans (by simp)
    · intro next k hk hn
      have hk' : k < a.length := by omega
      simp only [lt_dec hk, if_true]
      rw [getO_nat hk', getO_nat hk, ckI_succ (by omega)]
      rw [List.drop_eq_getElem_cons hk', List.drop_eq_getElem_cons hk]
      by_cases e : a[k] = b[k]
      · simp only [e, not_true_eq_false, decide_false, Bool.false_eq_true, if_false, List.cons.injEq, true_and]
        exact hn
      · simp only [ne_eq, e, not_false_eq_true, decide_true, if_true, List.cons.injEq, false_and, decide_false]
    · intro next
      simp only [lt_self]
      simp [List.drop_of_length_le (Nat.le_refl _), List.drop_of_length_le (show a.length ≤ b.length by omega)]
  · have : ¬ (a = b) := fun e => hl (by rw [e])
    have h2 : ¬ ((a.length : Int) = (b.length : Int)) := by omega
    simp [this, h2]
theorem markIntS_eq {l : List Int} {n : Int} (h0 : 0 ≤ n) (h : n + l.length ≤ 4611686018427387904) : sh_laws_markIntS l n = some (mks n l.length, n + l.length) := by
  unfold sh_laws_markIntS
  have e0 : ((l, n, (0 : Int)) : List Int × Int × Int) = (fun k : Nat => (mixL (mks n l.length) l k, n + (k : Int), (k : Int))) 0 := by simp [mixL_zero]
  rw [e0]
  refine (loop_up l.length (fun k : Nat => (mixL (mks n l.length) l k, n + (k : Int), (k : Int))) (fun _ => some (mks n l.length, n + l.length)) (by omega) ?_ ?_)
  · intro next k hk hn
    have hm : k < (mks n l.length).length := by rw [mks_len]; exact hk
    simp only [mixL_len (mks_len n l.length), lt_dec hk, if_true]
    rw [getO_some (mixL_get (mks_len n l.length) hk), ckI_pos (by omega) (by omega), ckI_succ (by omega)]
    simp only [Int.toNat_natCast]
    rw [← mks_get n hk, mixL_set (mks_len n l.length) hm, ← hn, mks_get n hk]
    simp only [cast_succ, Int.add_assoc]
  · intro next
    simp only [mixL_len (mks_len n l.length), lt_self]
    have := mixL_end (mks_len n l.length)
    rw [mks_len] at this
    simp [this]
theorem heldIntS_eq {m : Nat} {n : Int} (h0 : 0 ≤ n) (h : n + m ≤ 4611686018427387904) : sh_laws_heldIntS (mks n m) n = some (n + m) := by
  unfold sh_laws_heldIntS
  have e0 : ((n, (0 : Int)) : Int × Int) = (fun k : Nat => (n + (k : Int), (k : Int))) 0 := by simp
  rw [e0]
  refine (loop_up m (fun k : Nat => (n + (k : Int), (k : Int))) (fun _ => some (n + m)) (by omega) ?_ ?_)
  · intro next k hk hn
    have hm : k < (mks n m).length := by rw [mks_len]; exact hk
    simp only [mks_len, lt_dec hk, if_true]
    rw [getO_nat hm, mks_get n hk, ckI_pos (by omega) (by omega), ckI_succ (by omega)]
    simp only [ne_eq, not_true_eq_false, decide_false, Bool.false_eq_true, if_false]
    rw [← hn]; simp only [cast_succ, Int.add_assoc]
  · intro next
    simp only [mks_len, lt_self]
    simp
theorem l1In_eq (x lo hi : Int) : sh_spec_l1In x lo hi = some (decide (lo ≤ x) && decide (x ≤ hi)) := by
  unfold sh_spec_l1In
  by_cases h : lo ≤ x <;> simp [h]
theorem l1All_eq (l : List Int) (lo hi : Int) : sh_spec_l1All l lo hi = some (l.all fun x => decide (lo ≤ x) && decide (x ≤ hi)) := by
  unfold sh_spec_l1All
  refine range_all (G := fun l _ _ => some (l.all fun x => decide (lo ≤ x) && decide (x ≤ hi))) (fun _ _ => rfl) ?_ 0 ()
  intro x l k s next ih
  simp only [l1In_eq, Option.bind_some, ih, List.all_cons]
  cases (decide (lo ≤ x) && decide (x ≤ hi)) <;> simp
theorem l1Own_eq {l : List Int} (h : l.length ≤ 1099511627776) : sh_spec_l1Own l = some l := by
  unfold sh_spec_l1Own
  rw [lnO_pos (by simpa using h)]; rfl
theorem Clone_eq {l : List Int} (h : l.length ≤ 1099511627776) : sh_slices_Clone_int l = some l := by
  unfold sh_slices_Clone_int
  cases l with
  | nil => rfl
  | cons x l => simp [nilO]; exact lnO_pos h
/-! ### AddCells -/
def smallL (l : List Int) : Bool := l.all fun x => decide (-1000000 ≤ x) && decide (x ≤ 1000000)
theorem smallL_get {l : List Int} (h : smallL l = true) {k : Nat} {x : Int} (hk : l[k]? = some x) : -1000000 ≤ x ∧ x ≤ 1000000 := by
  have := List.all_eq_true.1 h x (List.mem_of_getElem? hk)
  simpa using this
end AS
namespace AS
theorem loop_down {R σ : Type} {body : (σ → Option R) → σ → Option R} (n : Nat) (S : Nat → σ) (G : Nat → Option R) (hn : n ≤ 4611686018427387904)
    (hs : ∀ next k, k < n → next (S k) = G k → body next (S (k + 1)) = G (k + 1)) (he : ∀ next, body next (S 0) = G 0) : loopF body FUEL (S n) = G n := by
  have := loop_up (body := body) n (fun j => S (n - j)) (fun j => G (n - j)) hn (fun next k hk hx => by
    have e : n - k = (n - (k + 1)) + 1 := by omega
    rw [e]; exact hs next (n - (k + 1)) (by omega) hx) (fun next => by
    simp only [Nat.sub_self]; exact he next)
  simpa using this
theorem mixL_setD {α : Type} {a b : List α} (h : a.length = b.length) {k : Nat} (hk : k < b.length) : (mixL a b (k + 1)).set k b[k] = mixL a b k := by
  apply List.ext_getElem?
  intro i
  simp only [mixL]
  by_cases hi : i = k
  · subst hi
    rw [List.getElem?_set_self (by simp; omega), List.getElem?_append_right (by simp; omega)]
    simp [show min i a.length = i by omega, hk]
  · rw [List.getElem?_set_ne (Ne.symm hi)]
    simp only [List.getElem?_append, List.length_take, List.getElem?_take, List.getElem?_drop]
    by_cases h1 : i < k
    · simp [show i < min k a.length by omega, show i < min (k+1) a.length by omega, h1, show i < k + 1 by omega]
    · simp only [show ¬ i < min k a.length by omega, show ¬ i < min (k+1) a.length by omega, if_false]
      congr 1; omega
theorem mixL_getD {α : Type} {a b : List α} (h : a.length = b.length) {k : Nat} (hk : k < a.length) : (mixL a b (k + 1))[k]? = some a[k] := by
  simp only [mixL]
  rw [List.getElem?_append_left (by simp; omega), List.getElem?_take_of_lt (by omega), List.getElem?_eq_getElem hk]
theorem getO_int {R α : Type} {l : List α} {i : Int} {k : Nat} {x : α} {f : α → Option R} (hi : i = (k : Int)) (h : l[k]? = some x) : getO l i f = f x := by subst hi; exact getO_some h
def okS (x : Int) : Bool := decide (1 ≤ x) && decide (x ≤ 30)
def valid (s : List Int) : Prop := s.length ≤ 4 ∧ ∀ x ∈ s, 1 ≤ x ∧ x ≤ 30
def vol : List Int → Int
  | [] => 1
  | x :: l => (x + 1) * vol l
theorem valid.drop {s : List Int} (h : valid s) (k : Nat) : valid (s.drop k) := ⟨by have := h.1; simp; omega, fun y hy => h.2 y (List.mem_of_mem_drop hy)⟩
theorem valid.get {s : List Int} (h : valid s) {k : Nat} {x : Int} (hx : s[k]? = some x) : 1 ≤ x ∧ x ≤ 30 := h.2 x (List.mem_of_getElem? hx)
theorem vol_pow : ∀ {s : List Int}, (∀ x ∈ s, 1 ≤ x ∧ x ≤ 30) → 1 ≤ vol s ∧ vol s ≤ 31 ^ s.length
  | [], _ => by simp [vol]
  | x :: l, h => by
    obtain ⟨h1, h2⟩ := vol_pow (s := l) (fun y hy => h y (by simp [hy]))
    obtain ⟨h3, h4⟩ := h x (by simp)
    simp only [vol, List.length_cons, Int.pow_succ]
    have a1 : 1 * 1 ≤ (x + 1) * vol l := Int.mul_le_mul (by omega) h1 (by omega) (by omega)
    have a2 : (x + 1) * vol l ≤ 31 * 31 ^ l.length := Int.mul_le_mul (by omega) h2 (by omega) (by omega)
    exact ⟨by omega, by rw [Int.mul_comm (31 ^ l.length)]; exact a2⟩
theorem pow31 {k : Nat} (h : k ≤ 4) : (1 : Int) ≤ 31 ^ k ∧ (31 : Int) ^ k ≤ 923521 := by
  have : k = 0 ∨ k = 1 ∨ k = 2 ∨ k = 3 ∨ k = 4 := by omega
  rcases this with rfl | rfl | rfl | rfl | rfl <;> decide
theorem vol_bd {s : List Int} (h : valid s) : 1 ≤ vol s ∧ vol s ≤ 923521 := by
  have h1 := vol_pow h.2
  have h2 := pow31 h.1
  omega
theorem vol_drop {s : List Int} {k : Nat} (hk : k < s.length) : vol (s.drop k) = (s[k] + 1) * vol (s.drop (k + 1)) := by
  rw [List.drop_eq_getElem_cons hk]; rfl
/-! ### How many cells -/
def cntB (s : List Int) : Int := if s.length ≤ 4 ∧ (s.all okS) = true then (if 2000 < vol s then 0 else vol s) else 0
theorem okS_iff {s : List Int} : s.all okS = true ↔ ∀ x ∈ s, 1 ≤ x ∧ x ≤ 30 := by
  simp [okS, List.all_eq_true]
theorem mul_bd {a x : Int} {k : Nat} (hk : k ≤ 3) (h1 : 1 ≤ a) (h2 : a ≤ 31 ^ k) (h3 : 1 ≤ x) (h4 : x ≤ 30) : 1 ≤ a * (x + 1) ∧ a * (x + 1) ≤ 31 ^ (k + 1) := by
  have a1 : 1 * 1 ≤ a * (x + 1) := Int.mul_le_mul h1 (by omega) (by omega) (by omega)
  have a2 : a * (x + 1) ≤ 31 ^ k * 31 := Int.mul_le_mul h2 (by omega) (by omega) (by omega)
  exact ⟨by omega, by rw [Int.pow_succ]; exact a2⟩
theorem cbCount_eq (s : List Int) : sh_spec_cbCount s = some (cntB s) := by
  unfold sh_spec_cbCount
  by_cases h1 : s.length ≤ 4
  · simp only [l1All_eq, Option.bind_some]
    have e : (s.all fun x => decide (1 ≤ x) && decide (x ≤ 30)) = s.all okS := rfl
    rw [e]
    cases h2 : s.all okS with
    | false => simp [cntB, h2, show ¬ ((4 : Int) < (s.length : Int)) by omega]
    | true =>
      simp only [show ¬ ((4 : Int) < (s.length : Int)) by omega, decide_false, Bool.false_eq_true, if_false, Bool.not_true]
      have hv := okS_iff.1 h2
      refine (range_mem (I := fun k a => 1 ≤ a ∧ a ≤ 31 ^ k ∧ k ≤ s.length) (G := fun l _ a => some (if 2000 < a * vol l then 0 else a * vol l)) ?_ ?_ 1 ⟨by omega, by simp, by omega⟩).trans ?_
      · intro k a _ hk
        simp only [vol, Int.mul_one]
        by_cases h : 2000 < a <;> simp [h]
      · intro x l' k a next hx hd hi hn
        have hxx := hv x (List.mem_of_getElem? hx)
        have hk := (List.getElem?_eq_some_iff.1 hx).1
        have hb := mul_bd (show k ≤ 3 by omega) hi.1 hi.2.1 hxx.1 hxx.2
        have hp := pow31 (show k + 1 ≤ 4 by omega)
        rw [ckI_pos (by omega) (by omega), ckI_pos (by omega) (by omega), hn _ ⟨hb.1, hb.2, by omega⟩]
        rw [show a * vol (x :: l') = a * (x + 1) * vol l' by simp only [vol, Int.mul_assoc]]
      · simp [cntB, h1, h2]
  · simp [cntB, show ((4 : Int) < (s.length : Int)) by omega, h1]
theorem cubeCells_eq (s : List Int) : sh_impl_cubeCells s = some (cntB s) := by
  unfold sh_impl_cubeCells
  by_cases h1 : s.length ≤ 4
  · simp only [show ¬ ((4 : Int) < (s.length : Int)) by omega, decide_false, Bool.false_eq_true, if_false]
    refine (range_mem (I := fun k a => 1 ≤ a ∧ a ≤ 31 ^ k ∧ k ≤ s.length) (G := fun l _ a => some (if l.all okS = true then (if 2000 < a * vol l then 0 else a * vol l) else 0)) ?_ ?_ 1 ⟨by omega, by simp, by omega⟩).trans ?_
    · intro k a _ hk
      simp only [vol, Int.mul_one, List.all_nil, if_true]
      by_cases h : 2000 < a <;> simp [h]
    · intro x l' k a next hx hd hi hn
      have hk := (List.getElem?_eq_some_iff.1 hx).1
      by_cases h2 : x < 1
      · simp [h2, okS, show ¬ (1 ≤ x) by omega]
      · by_cases h3 : 30 < x
        · simp [h2, h3, okS, show ¬ (x ≤ 30) by omega]
        · have hb := mul_bd (show k ≤ 3 by omega) hi.1 hi.2.1 (show 1 ≤ x by omega) (show x ≤ 30 by omega)
          have hp := pow31 (show k + 1 ≤ 4 by omega)
          have ho : okS x = true := by simp [okS]; omega
          simp only [h2, h3, decide_false, Bool.false_eq_true, if_false]
          rw [ckI_pos (by omega) (by omega), ckI_pos (by omega) (by omega), hn _ ⟨hb.1, hb.2, by omega⟩]
          rw [show a * vol (x :: l') = a * (x + 1) * vol l' by simp only [vol, Int.mul_assoc], List.all_cons, ho, Bool.true_and]
    · simp [cntB, h1]
  · simp [cntB, show ((4 : Int) < (s.length : Int)) by omega, h1]
theorem cntB_pos {s : List Int} (h : 0 < cntB s) : valid s ∧ cntB s = vol s ∧ vol s ≤ 2000 := by
  unfold cntB at h ⊢
  split at h
  · rename_i hv
    split at h
    · omega
    · rename_i h2
      refine ⟨⟨hv.1, okS_iff.1 hv.2⟩, ?_, by omega⟩
      rw [if_pos hv, if_neg h2]
  · omega
/-! ### Strides -/
def strL : List Int → List Int
  | [] => []
  | _ :: l => vol l :: strL l
theorem strL_len : ∀ s : List Int, (strL s).length = s.length
  | [] => rfl
  | _ :: l => by simp [strL, strL_len l]
theorem strL_get : ∀ (s : List Int) (k : Nat) (h : k < s.length), (strL s)[k]'(by rw [strL_len]; exact h) = vol (s.drop (k + 1))
  | x :: l, 0, _ => rfl
  | x :: l, k + 1, h => by
    simp only [strL, List.getElem_cons_succ, List.drop_succ_cons]
    exact strL_get l k (by simpa using h)
theorem strides_eq {s : List Int} (h : valid s) : sh_impl_strides s = some (strL s) := by
  unfold sh_impl_strides
  have hl := h.1
  rw [mkO_pos (by omega) (by omega), ckI_pos (by omega) (by omega)]
  have hz : (List.replicate s.length (0 : Int)).length = (strL s).length := by simp [strL_len]
  have e0 : ((List.replicate ((s.length : Int)).toNat (0 : Int), (1 : Int), ((s.length : Int) - (1 : Int))) : List Int × Int × Int) = (fun k : Nat => (mixL (List.replicate s.length (0 : Int)) (strL s) k, vol (s.drop k), (k : Int) - 1)) s.length := by
    have := mixL_end hz
    simp only [List.length_replicate] at this
    simp [this, vol]
  rw [e0]
  refine (loop_down s.length (fun k : Nat => (mixL (List.replicate s.length (0 : Int)) (strL s) k, vol (s.drop k), (k : Int) - 1)) (fun _ => some (strL s)) (by omega) ?_ ?_)
  · intro next k hk hn
    have hk2 : k < (strL s).length := by rw [strL_len]; exact hk
    have hb := vol_bd (h.drop (k + 1))
    have hb2 := vol_bd (h.drop k)
    have hx := h.get (List.getElem?_eq_getElem hk)
    have hvd := vol_drop hk
    simp only [show ((k + 1 : Nat) : Int) - 1 = (k : Int) by omega, show (0 : Int) ≤ (k : Int) by omega, decide_true, if_true]
    rw [getO_some (mixL_getD hz (by simpa using hk)), getO_nat hk, ckI_pos (by omega) (by omega)]
    rw [Int.mul_comm, ← hvd, ckI_pos (by omega) (by omega), ckI_pos (by omega) (by omega), Int.toNat_natCast, ← strL_get s k hk, mixL_setD hz hk2]
    exact hn
  · intro next
    simp [mixL_zero]
/-! ### Indices -/
def idxL : List Int → Int → List Int
  | [], _ => []
  | x :: l, i => (i / vol l) % (x + 1) :: idxL l i
theorem idxL_len : ∀ (s : List Int) (i : Int), (idxL s i).length = s.length
  | [], _ => rfl
  | _ :: l, i => by simp [idxL, idxL_len l]
theorem idxL_get : ∀ (s : List Int) (i : Int) (k : Nat) (h : k < s.length), (idxL s i)[k]'(by rw [idxL_len]; exact h) = (i / vol (s.drop (k + 1))) % (s[k] + 1)
  | x :: l, _, 0, _ => rfl
  | x :: l, i, k + 1, h => by
    simp only [idxL, List.getElem_cons_succ, List.drop_succ_cons]
    exact idxL_get l i k (by simpa using h)
theorem div_le_self {i a : Int} (h : 0 ≤ i) (ha : 1 ≤ a) : 0 ≤ i / a ∧ i / a ≤ i := ⟨Int.ediv_nonneg h (by omega), Int.ediv_le_self a h⟩
theorem cbIndices_eq {s : List Int} {i : Int} (h : valid s) (h0 : 0 ≤ i) (h1 : i ≤ 4611686018427387904) : sh_spec_cbIndices s i = some (idxL s i) := by
  unfold sh_spec_cbIndices
  have hl := h.1
  rw [mkO_pos (by omega) (by omega), ckI_pos (by omega) (by omega)]
  have hz : (List.replicate s.length (0 : Int)).length = (idxL s i).length := by simp [idxL_len]
  have e0 : ((i, List.replicate ((s.length : Int)).toNat (0 : Int), ((s.length : Int) - (1 : Int))) : Int × List Int × Int) = (fun k : Nat => (i / vol (s.drop k), mixL (List.replicate s.length (0 : Int)) (idxL s i) k, (k : Int) - 1)) s.length := by
    have := mixL_end hz
    simp only [List.length_replicate] at this
    simp [this, vol]
  rw [e0]
  refine (loop_down s.length (fun k : Nat => (i / vol (s.drop k), mixL (List.replicate s.length (0 : Int)) (idxL s i) k, (k : Int) - 1)) (fun _ => some (idxL s i)) (by omega) ?_ ?_)
  · intro next k hk hn
    have hk2 : k < (idxL s i).length := by rw [idxL_len]; exact hk
    have hb := vol_bd (h.drop (k + 1))
    have hx := h.get (List.getElem?_eq_getElem hk)
    have hvd := vol_drop hk
    have hd := div_le_self h0 hb.1
    have hd2 := div_le_self (a := s[k] + 1) hd.1 (by omega)
    have hdd : i / vol (s.drop (k + 1)) / (s[k] + 1) = i / vol (s.drop k) := by rw [hvd, Int.mul_comm, Int.ediv_ediv, if_neg (fun h => by omega), Int.sub_zero]
    simp only [show ((k + 1 : Nat) : Int) - 1 = (k : Int) by omega, show (0 : Int) ≤ (k : Int) by omega, decide_true, if_true]
    rw [getO_nat hk, ckI_pos (by omega) (by omega), ck_pos (by omega), getO_some (mixL_getD hz (by simpa using hk)), ckI_pos (by omega) (by omega), ck_pos (by omega)]
    rw [Int.tdiv_eq_ediv_of_nonneg hd.1, Int.tmod_eq_emod_of_nonneg hd.1, ckI_pos (by omega) (by omega), ckI_pos (by omega) (by omega), Int.toNat_natCast, hdd, ← idxL_get s i k hk, mixL_setD hz hk2]
    exact hn
  · intro next
    simp [mixL_zero]
theorem mod_div {i a b : Int} (hi : 0 ≤ i) (ha : 0 < a) (hb : 0 < b) : i % (a * b) / b = i / b % a := by
  obtain ⟨i, rfl⟩ := Int.eq_ofNat_of_zero_le hi
  obtain ⟨a, rfl⟩ := Int.eq_ofNat_of_zero_le (by omega : 0 ≤ a)
  obtain ⟨b, rfl⟩ := Int.eq_ofNat_of_zero_le (by omega : 0 ≤ b)
  have := Nat.mod_mul_left_div_self i b a
  exact_mod_cast this
theorem indexOf_eq {s : List Int} {i : Int} (h : valid s) (h0 : 0 ≤ i) (h1 : i < vol s) : sh_impl_indexOf s i = some (idxL s i) := by
  unfold sh_impl_indexOf
  have hl := h.1
  have hvs := vol_bd h
  rw [mkO_pos (by omega) (by omega), strides_eq h, Option.bind_some]
  have hz : (idxL s i).length = (List.replicate s.length (0 : Int)).length := by simp [idxL_len]
  refine (range_mem (I := fun k st => st = (i % vol (s.drop k), mixL (idxL s i) (List.replicate s.length (0 : Int)) k)) (G := fun _ _ _ => some (idxL s i)) ?_ ?_ _ ?_)
  · intro k st hs hk
    subst hs
    have := mixL_end hz
    simp only [strL_len] at hk
    rw [idxL_len] at this
    simp [hk, this]
  · intro x l' k st next hx _ hs hn
    subst hs
    have hk : k < s.length := by have := (List.getElem?_eq_some_iff.1 hx).1; rwa [strL_len] at this
    have hxe : x = vol (s.drop (k + 1)) := by
      have := (List.getElem?_eq_some_iff.1 hx).2
      rw [← this]; exact strL_get s k hk
    subst hxe
    have hb := vol_bd (h.drop (k + 1))
    have hb2 := vol_bd (h.drop k)
    have hxx := h.get (List.getElem?_eq_getElem hk)
    have hvd := vol_drop hk
    have hm0 : 0 ≤ i % vol (s.drop k) := Int.emod_nonneg _ (by omega)
    have hm1 : i % vol (s.drop k) < vol (s.drop k) := Int.emod_lt_of_pos _ (by omega)
    have hd := div_le_self hm0 hb.1
    rw [ck_pos (by omega), Int.tdiv_eq_ediv_of_nonneg hm0, ckI_pos (by omega) (by omega), getO_some (mixL_get hz (by simpa using hk)), ck_pos (by omega), Int.tmod_eq_emod_of_nonneg hm0]
    refine hn _ ?_
    have e1 : i % vol (s.drop k) / vol (s.drop (k + 1)) = (idxL s i)[k]'(by rw [idxL_len]; exact hk) := by
      rw [hvd, mod_div h0 (by omega) (by omega), idxL_get s i k hk]
    have e2 : i % vol (s.drop k) % vol (s.drop (k + 1)) = i % vol (s.drop (k + 1)) := by
      rw [hvd]; exact Int.emod_emod_of_dvd _ (Int.dvd_mul_left _ _)
    rw [e1, e2, Int.toNat_natCast, mixL_set hz (by rw [idxL_len]; exact hk)]
  · simp only [List.drop_zero, mixL_zero, Int.toNat_natCast]
    rw [Int.emod_eq_of_lt h0 h1]
/-! ### Cells -/
def atL : List Int → List Int → Int
  | _ :: l, a :: as => a * vol l + atL l as
  | _, _ => 0
/-- Indices that fit sizes. -/
def fits (s ix : List Int) : Prop := ix.length = s.length ∧ ∀ (k : Nat) (x y : Int), s[k]? = some x → ix[k]? = some y → 0 ≤ y ∧ y ≤ x
theorem cbAt_eq {s ix : List Int} (h : valid s) (hf : fits s ix) : sh_spec_cbAt s ix = some (atL s ix) := by
  unfold sh_spec_cbAt
  have hl := h.1
  refine (range_mem (I := fun k a => 0 ≤ a ∧ a < 31 ^ k) (G := fun l k a => some (a * vol l + atL l (ix.drop k))) ?_ ?_ 0 ⟨by omega, by simp⟩).trans (by simp)
  · intro k a _ _
    simp [vol, atL]
  · intro x l' k a next hx hd hi hn
    have hk := (List.getElem?_eq_some_iff.1 hx).1
    have hki : k < ix.length := by rw [hf.1]; exact hk
    have hxx := h.get hx
    have hy := hf.2 k x ix[k] hx (List.getElem?_eq_getElem hki)
    have hp := pow31 (show k + 1 ≤ 4 by omega)
    have hm0 : 0 ≤ a * (x + 1) := Int.mul_nonneg hi.1 (by omega)
    have hm1 : a * (x + 1) ≤ (31 ^ k - 1) * 31 := Int.mul_le_mul (by omega) (by omega) (by omega) (by have := pow31 (show k ≤ 4 by omega); omega)
    have hm2 : (31 : Int) ^ (k + 1) = 31 ^ k * 31 := Int.pow_succ ..
    rw [ckI_pos (by omega) (by omega), ckI_pos (by omega) (by omega), getO_nat hki, ckI_pos (by omega) (by omega), hn _ ⟨by omega, by omega⟩]
    rw [List.drop_eq_getElem_cons hki]
    simp only [vol, atL, Option.some.injEq]
    rw [Int.add_mul, Int.mul_assoc, Int.add_assoc]
theorem cellOf_eq {s ix : List Int} (h : valid s) (hf : fits s ix) : sh_impl_cellOf s ix = some (atL s ix) := by
  unfold sh_impl_cellOf
  have hl := h.1
  rw [strides_eq h, Option.bind_some]
  refine (range_mem (I := fun (k : Nat) (a : Int) => 0 ≤ a ∧ a ≤ (k : Int) * 100000000 ∧ k ≤ 4) (G := fun _ k a => some (a + atL (s.drop k) (ix.drop k))) ?_ ?_ 0 ⟨by omega, by simp, by omega⟩).trans (show some (0 + atL (s.drop 0) (ix.drop 0)) = some (atL s ix) by simp)
  · intro k a _ hk
    rw [strL_len] at hk
    simp [hk, atL]
  · intro x l' k a next hx hd hi hn
    have hk : k < s.length := by have := (List.getElem?_eq_some_iff.1 hx).1; rwa [strL_len] at this
    have hki : k < ix.length := by rw [hf.1]; exact hk
    have hxe : x = vol (s.drop (k + 1)) := by
      have := (List.getElem?_eq_some_iff.1 hx).2
      rw [← this]; exact strL_get s k hk
    subst hxe
    have hxx := h.get (List.getElem?_eq_getElem hk)
    have hy := hf.2 k s[k] ix[k] (List.getElem?_eq_getElem hk) (List.getElem?_eq_getElem hki)
    have hb := vol_bd (h.drop (k + 1))
    have hm0 : 0 ≤ ix[k] * vol (s.drop (k + 1)) := Int.mul_nonneg hy.1 (by omega)
    have hm1 : ix[k] * vol (s.drop (k + 1)) ≤ 30 * 923521 := Int.mul_le_mul (by omega) hb.2 (by omega) (by omega)
    have hi2 := hi.2.1
    rw [getO_nat hki, ckI_pos (by omega) (by omega), ckI_pos (by omega) (by omega), hn _ ⟨by omega, by omega, by omega⟩]
    rw [List.drop_eq_getElem_cons hki, List.drop_eq_getElem_cons hk]
    simp only [atL, Int.add_assoc]
theorem idxL_fits {s : List Int} {i : Int} (h : valid s) (h0 : 0 ≤ i) : fits s (idxL s i) := by
  refine ⟨idxL_len s i, fun k x y hx hy => ?_⟩
  obtain ⟨hk, rfl⟩ := List.getElem?_eq_some_iff.1 hx
  obtain ⟨hk2, rfl⟩ := List.getElem?_eq_some_iff.1 hy
  rw [idxL_get s i k hk]
  have hxx := h.get hx
  have h1 := Int.emod_nonneg (i / vol (s.drop (k + 1))) (show s[k] + 1 ≠ 0 by omega)
  have h2 := Int.emod_lt_of_pos (i / vol (s.drop (k + 1))) (show 0 < s[k] + 1 by omega)
  omega
theorem atL_idxL : ∀ {s : List Int} {i : Int}, (∀ x ∈ s, 1 ≤ x ∧ x ≤ 30) → 0 ≤ i → atL s (idxL s i) = i % vol s
  | [], i, _, _ => by simp [atL, vol]
  | x :: l, i, h, h0 => by
    have hl := vol_pow (s := l) (fun y hy => h y (by simp [hy]))
    have hx := h x (by simp)
    simp only [idxL, atL, vol]
    rw [atL_idxL (fun y hy => h y (by simp [hy])) h0, ← mod_div h0 (by omega) (by omega)]
    have e : i % ((x + 1) * vol l) % vol l = i % vol l := Int.emod_emod_of_dvd _ (Int.dvd_mul_left _ _)
    have := Int.ediv_mul_add_emod (i % ((x + 1) * vol l)) (vol l)
    omega
theorem atL_set : ∀ {s ix : List Int} {d : Nat} {y : Int}, ix.length = s.length → ∀ (hd : d < s.length) (hd2 : d < ix.length), atL s (ix.set d y) = atL s ix + (y - ix[d]) * vol (s.drop (d + 1))
  | x :: l, a :: as, 0, y, _, _, _ => by
    simp only [List.set_cons_zero, atL, List.getElem_cons_zero, Int.sub_mul, List.drop_succ_cons, List.drop_zero]; omega
  | x :: l, a :: as, d + 1, y, h, hd, hd2 => by
    simp only [List.set_cons_succ, atL, List.getElem_cons_succ, List.drop_succ_cons]
    rw [atL_set (by simpa using h) (by simpa using hd) (by simpa using hd2), Int.add_assoc]
theorem atL_bd : ∀ {s ix : List Int}, (∀ x ∈ s, 1 ≤ x ∧ x ≤ 30) → fits s ix → 0 ≤ atL s ix ∧ atL s ix < vol s
  | [], ix, _, _ => by simp [atL, vol]
  | x :: l, [], _, hf => by have := hf.1; simp at this
  | x :: l, a :: as, h, hf => by
    have hl := vol_pow (s := l) (fun y hy => h y (by simp [hy]))
    have h1 := atL_bd (s := l) (ix := as) (fun y hy => h y (by simp [hy])) ⟨by have := hf.1; simpa using this, fun k x y hx hy => hf.2 (k + 1) x y (by simpa using hx) (by simpa using hy)⟩
    have h2 := hf.2 0 x a rfl rfl
    simp only [atL, vol]
    have h3 : 0 ≤ a * vol l := Int.mul_nonneg h2.1 (by omega)
    have h4 : a * vol l ≤ x * vol l := Int.mul_le_mul_of_nonneg_right h2.2 (by omega)
    have h5 : (x + 1) * vol l = x * vol l + vol l := by rw [Int.add_mul]; omega
    omega
theorem fits.set {s ix : List Int} (h : fits s ix) {d : Nat} {x y : Int} (hx : s[d]? = some x) (h0 : 0 ≤ y) (h1 : y ≤ x) : fits s (ix.set d y) := by
  refine ⟨by rw [List.length_set]; exact h.1, fun k x' y' hx' hy' => ?_⟩
  by_cases e : d = k
  · subst e
    rw [hx] at hx'; cases hx'
    have hk : d < ix.length := by rw [h.1]; exact (List.getElem?_eq_some_iff.1 hx).1
    rw [List.getElem?_set_self hk] at hy'; cases hy'
    exact ⟨h0, h1⟩
  · rw [List.getElem?_set_ne e] at hy'
    exact h.2 k x' y' hx' hy'
end AS
namespace AS
section
variable {α : Type}
/-- What is left of an allowance. -/
def left (a : Int) (n : Nat) : Int := if (n : Int) ≤ a then a - n else -1
theorem left_neg {a : Int} {n : Nat} (h : 0 ≤ a) : left a n < 0 ↔ ¬ (n : Int) ≤ a := by
  unfold left; split <;> omega
theorem left_pos {a : Int} {n : Nat} (h : (n : Int) ≤ a) : left a n = a - n := if_pos h
end
end AS
namespace AS
/-- The cells that a total is the sum of. -/
def partF (s : List Int) (i : Int) (d : Nat) (x : Int) (k : Nat) : Int := i - (x - k) * vol (s.drop (d + 1))
def partL (s : List Int) (i : Int) (d : Nat) (x : Int) : List Int := (List.range x.toNat).map (partF s i d x)
theorem partL_len (s : List Int) (i : Int) (d : Nat) (x : Int) : (partL s i d x).length = x.toNat := by simp [partL]
theorem range_map_succ {α : Type} (f : Nat → α) (k : Nat) : (List.range (k + 1)).map f = (List.range k).map f ++ [f k] := by
  rw [List.range_succ, List.map_append]; rfl
def idxAt (ix : List Int) (d : Nat) : Nat → List Int
  | 0 => ix
  | k + 1 => ix.set d (k : Int)
theorem cbParts_eq {s : List Int} {i : Int} {d : Nat} {x : Int} (h : valid s) (h0 : 0 ≤ i) (h1 : i < vol s) (hd : s[d]? = some x) (hx : (idxL s i)[d]? = some x) : sh_spec_cbParts s i (d : Int) = some (partL s i d x) := by
  unfold sh_spec_cbParts
  have hv := vol_bd h
  have hb := h.get hd
  have hdl := (List.getElem?_eq_some_iff.1 hd).1
  have hil : (idxL s i).length = s.length := idxL_len s i
  rw [cbIndices_eq h h0 (by omega), Option.bind_some]
  have hfit := idxL_fits h h0
  have e0 : ((idxL s i, ([] : List Int), (0 : Int)) : List Int × List Int × Int) = (fun k : Nat => (idxAt (idxL s i) d k, (List.range k).map (partF s i d x), (k : Int))) 0 := by simp [idxAt]
  rw [e0]
  refine (loop_up x.toNat (fun k : Nat => (idxAt (idxL s i) d k, (List.range k).map (partF s i d x), (k : Int))) (fun _ => some (partL s i d x)) (by omega) ?_ ?_)
  · intro next k hk hn
    have hkx : (k : Int) < x := by omega
    have hg : getO s (d : Int) = fun f : Int → Option (List Int) => f x := by funext f; exact getO_some hd
    simp only [hg, hkx, decide_true, if_true]
    have hset : ∀ j : List Int, (j = idxL s i ∨ ∃ y, j = (idxL s i).set d y) → (∃ y, j[d]? = some y) ∧ j.set (d : Int).toNat (k : Int) = (idxL s i).set d (k : Int) := by
      rintro j (rfl | ⟨y, rfl⟩)
      · exact ⟨⟨x, hx⟩, by simp⟩
      · exact ⟨⟨y, by rw [List.getElem?_set_self (by omega)]⟩, by simp⟩
    obtain ⟨⟨y, hy⟩, hs⟩ := hset (idxAt (idxL s i) d k) (by cases k with | zero => exact .inl rfl | succ k => exact .inr ⟨_, rfl⟩)
    rw [getO_some hy, hs, cbAt_eq h (hfit.set hd (by omega) (by omega)), Option.bind_some, lnO_pos (by simp; omega), ckI_succ (by omega)]
    have hat : atL s ((idxL s i).set d (k : Int)) = partF s i d x k := by
      rw [atL_set hil hdl (by omega), atL_idxL h.2 h0, Int.emod_eq_of_lt h0 h1]
      have : (idxL s i)[d]'(by omega) = x := by
        have := List.getElem?_eq_getElem (show d < (idxL s i).length by omega)
        rw [hx] at this; exact (Option.some.inj this).symm
      rw [this, partF, show (k : Int) - x = -(x - k) by omega, Int.neg_mul]; omega
    rw [hat, ← range_map_succ]
    exact hn
  · intro next
    have hg : getO s (d : Int) = fun f : Int → Option (List Int) => f x := by funext f; exact getO_some hd
    simp only [hg, show ¬ (((x.toNat : Nat) : Int) < x) by omega, decide_false, Bool.false_eq_true, if_false]
    rfl
theorem partF_bd {s : List Int} {i : Int} {d : Nat} {x : Int} (h : valid s) (h0 : 0 ≤ i) (h1 : i < vol s) (hd : s[d]? = some x) (hx : (idxL s i)[d]? = some x) {k : Nat} (hk : (k : Int) ≤ x) : 0 ≤ partF s i d x k ∧ partF s i d x k ≤ i := by
  have hdl := (List.getElem?_eq_some_iff.1 hd).1
  have hil : (idxL s i).length = s.length := idxL_len s i
  have hfit := (idxL_fits h h0).set hd (show (0 : Int) ≤ k by omega) hk
  have := atL_bd h.2 hfit
  have hat : atL s ((idxL s i).set d (k : Int)) = partF s i d x k := by
    rw [atL_set hil hdl (by omega), atL_idxL h.2 h0, Int.emod_eq_of_lt h0 h1]
    have : (idxL s i)[d]'(by omega) = x := by
      have := List.getElem?_eq_getElem (show d < (idxL s i).length by omega)
      rw [hx] at this; exact (Option.some.inj this).symm
    rw [this, partF, show (k : Int) - x = -(x - k) by omega, Int.neg_mul]; omega
  have hb := vol_bd (h.drop (d + 1))
  have : 0 ≤ (x - k) * vol (s.drop (d + 1)) := Int.mul_nonneg (by omega) (by omega)
  constructor
  · omega
  · rw [partF]; omega
end AS
namespace AS
theorem szIntS_eq {l : List Int} {a : Int} (h0 : 0 ≤ a) (h1 : a ≤ 1048576) (hl : l.length ≤ 9223372036854775807) : sh_laws_szIntS l a = some (left a l.length) := by
  unfold sh_laws_szIntS
  rw [ckI_pos (by omega) (by omega)]
  unfold left
  by_cases h : a - (l.length : Int) < 0
  · simp [h, show ¬ ((l.length : Int) ≤ a) by omega]
  · simp [h, show ((l.length : Int) ≤ a) by omega]
def bulkC (c : XCube) : Nat := c.Sizes.length + c.Cells.length
theorem left_left {a : Int} {m n : Nat} (h : (m : Int) ≤ a) : left (a - m) n = left a (m + n) := by
  unfold left; split <;> split <;> omega
theorem left_out {a : Int} {m n : Nat} (h : ¬ (m : Int) ≤ a) : left a (m + n) = -1 := if_neg (by omega)
theorem left_no {a : Int} {m : Nat} (h : ¬ (m : Int) ≤ a) : left a m = -1 := if_neg h
theorem szCube_eq {c : XCube} {a : Int} (h0 : 0 ≤ a) (h1 : a ≤ 1048576) (hb : Bd.bd c) : sh_laws_szCube c a = some (left a (bulkC c)) := by
  unfold sh_laws_szCube
  obtain ⟨hs, hc⟩ := hb
  rw [szIntS_eq h0 h1 hs.1, Option.bind_some]
  by_cases h : (c.Sizes.length : Int) ≤ a
  · rw [left_pos h, szIntS_eq (by omega) (by omega) hc.1, Option.bind_some, left_left h]
    simp only [show ¬ (a - (c.Sizes.length : Int) < 0) by omega, decide_false, Bool.false_eq_true, if_false]
    by_cases h2 : left a (c.Sizes.length + c.Cells.length) < 0
    · have := (left_neg h0).1 h2
      simp [h2, bulkC, left_no this]
    · simp [h2, bulkC]
  · rw [left_no h]; simp [bulkC, left_out h]
theorem toCube_eq {c : XCube} (h : bulkC c ≤ 1048576) : sh_laws_toCube c = some c := by
  unfold sh_laws_toCube
  unfold bulkC at h
  rw [toIntS_eq (by omega), Option.bind_some, toIntS_eq (by omega), Option.bind_some]
theorem XCube.ext' {a b : XCube} (h1 : a.Sizes = b.Sizes) (h2 : a.Cells = b.Cells) : a = b := by cases a; cases b; simp_all
theorem eqCube_eq {a b : XCube} (h : bulkC a ≤ 1048576) : sh_laws_eqCube a b = some (decide (a = b)) := by
  unfold sh_laws_eqCube
  unfold bulkC at h
  rw [eqIntS_eq (by omega), Option.bind_some, eqIntS_eq (by omega), Option.bind_some]
  by_cases h1 : a.Sizes = b.Sizes
  · by_cases h2 : a.Cells = b.Cells
    · simp [h1, h2, XCube.ext' h1 h2]
    · simp [h1, h2, show ¬ a = b from fun e => h2 (by rw [e])]
  · simp [h1, show ¬ a = b from fun e => h1 (by rw [e])]
def mkCube (c : XCube) (n : Int) : XCube := ⟨mks n c.Sizes.length, mks (n + c.Sizes.length) c.Cells.length⟩
theorem markCube_eq {c : XCube} {n : Int} (h0 : 0 ≤ n) (h : n + bulkC c ≤ 4611686018427387904) : sh_laws_markCube c n = some (mkCube c n, n + bulkC c) := by
  unfold sh_laws_markCube
  unfold bulkC at h ⊢
  rw [markIntS_eq h0 (by omega), Option.bind_some, markIntS_eq (by omega) (by omega), Option.bind_some]
  simp only [mkCube, Option.some.injEq, Prod.mk.injEq, true_and]; omega
theorem heldCube_eq {c : XCube} {n : Int} (h0 : 0 ≤ n) (h : n + bulkC c ≤ 4611686018427387904) : sh_laws_heldCube (mkCube c n) n = some (n + bulkC c) := by
  unfold sh_laws_heldCube
  unfold bulkC at h ⊢
  simp only [mkCube]
  rw [heldIntS_eq h0 (by omega), Option.bind_some, heldIntS_eq (by omega) (by omega), Option.bind_some]
  simp [show ¬ (n + (c.Sizes.length : Int) < 0) by omega, show ¬ (n + (c.Sizes.length : Int) + (c.Cells.length : Int) < 0) by omega]; omega
/-! ### Right form -/
theorem areCubeValues_eq (l : List Int) : sh_impl_areCubeValues l = some (smallL l) := by
  unfold sh_impl_areCubeValues
  refine range_all (G := fun l _ _ => some (smallL l)) (fun _ _ => rfl) ?_ 0 ()
  intro x l k s next ih
  simp only [ih, smallL, List.all_cons]
  by_cases h1 : x < -1000000
  · simp [h1, show ¬ (-1000000 ≤ x) by omega]
  · by_cases h2 : 1000000 < x
    · simp [h1, h2, show ¬ (x ≤ 1000000) by omega]
    · simp [h1, h2, show (-1000000 ≤ x) by omega, show x ≤ 1000000 by omega]
def formB (c : XCube) : Bool := decide (0 < cntB c.Sizes) && decide ((c.Cells.length : Int) = cntB c.Sizes) && smallL c.Cells
theorem cbForm_eq (c : XCube) : sh_spec_cbForm c = some (formB c) := by
  unfold sh_spec_cbForm
  rw [cbCount_eq, Option.bind_some]
  unfold formB
  by_cases h1 : 0 < cntB c.Sizes
  · by_cases h2 : (c.Cells.length : Int) = cntB c.Sizes
    · simp only [h1, h2, decide_true, if_true, l1All_eq, Option.bind_some, Bool.true_and]; rfl
    · simp [h1, h2]
  · simp [h1]
theorem rightForm_eq (c : XCube) : sh_impl_hasRightForm c = some (formB c) := by
  unfold sh_impl_hasRightForm
  rw [cubeCells_eq, Option.bind_some]
  unfold formB
  by_cases h1 : 0 < cntB c.Sizes
  · by_cases h2 : (c.Cells.length : Int) = cntB c.Sizes
    · simp only [h1, h2, decide_true, if_true, areCubeValues_eq, Option.bind_some, Bool.true_and]
    · simp [h1, h2]
  · simp [h1]
structure Form (c : XCube) : Prop where
  v : valid c.Sizes
  n : (c.Cells.length : Int) = vol c.Sizes
  le : c.Cells.length ≤ 2000
  cnt : cntB c.Sizes = vol c.Sizes
  sm : smallL c.Cells = true
theorem formB_form {c : XCube} (h : formB c = true) : Form c := by
  simp only [formB, Bool.and_eq_true, decide_eq_true_eq] at h
  obtain ⟨⟨h1, h2⟩, h3⟩ := h
  obtain ⟨hv, hc, hle⟩ := cntB_pos h1
  exact ⟨hv, by omega, by omega, hc, h3⟩
/-! ### The first break -/
def cellAt (c : XCube) (i : Int) : Int := c.Cells.getD i.toNat 0
theorem cell_get {c : XCube} {i : Int} (h0 : 0 ≤ i) (h1 : i < c.Cells.length) : c.Cells[i.toNat]? = some (cellAt c i) := by
  have : i.toNat < c.Cells.length := by omega
  simp [cellAt, this]
theorem getO_cell {R : Type} {c : XCube} {i : Int} {f : Int → Option R} (h0 : 0 ≤ i) (h1 : i < c.Cells.length) : getO c.Cells i f = f (cellAt c i) :=
  getO_int (k := i.toNat) (by omega) (cell_get h0 h1)
theorem cell_bd {c : XCube} (h : Form c) {i : Int} (h0 : 0 ≤ i) (h1 : i < c.Cells.length) : -1000000 ≤ cellAt c i ∧ cellAt c i ≤ 1000000 := smallL_get h.sm (cell_get h0 h1)
def sumI : List Int → Int
  | [] => 0
  | x :: l => x + sumI l
theorem sumI_append : ∀ (a b : List Int), sumI (a ++ b) = sumI a + sumI b
  | [], b => by simp [sumI]
  | x :: a, b => by simp only [List.cons_append, sumI, sumI_append a b]; omega
theorem sumI_reverse : ∀ (a : List Int), sumI a.reverse = sumI a
  | [] => rfl
  | x :: a => by rw [List.reverse_cons, sumI_append, sumI_reverse a]; simp only [sumI]; omega
theorem sumI_bd {b : Int} (hb : 0 ≤ b) : ∀ {l : List Int}, (∀ x ∈ l, -b ≤ x ∧ x ≤ b) → -(b * l.length) ≤ sumI l ∧ sumI l ≤ b * l.length
  | [], _ => by simp [sumI]
  | x :: l, h => by
    have h1 := h x (by simp)
    have h2 := sumI_bd hb (l := l) (fun y hy => h y (by simp [hy]))
    simp only [sumI, List.length_cons, Int.natCast_add, Int.mul_add]
    omega
/-- The sum of the parts of a total. -/
def psum (c : XCube) (i : Int) (d : Nat) (x : Int) : Int := sumI ((partL c.Sizes i d x).map (cellAt c))
def brk (c : XCube) (i : Int) : List Int → Nat → Bool
  | [], _ => false
  | x :: l, k => if c.Sizes[k]? = some x then (if psum c i k x ≠ cellAt c i then true else brk c i l (k + 1)) else brk c i l (k + 1)
theorem cbBroken_eq {c : XCube} (h : Form c) {i : Int} (h0 : 0 ≤ i) (h1 : i < c.Cells.length) : sh_spec_cbBroken c i = some (brk c i (idxL c.Sizes i) 0) := by
  unfold sh_spec_cbBroken
  have hv := h.v
  have hn := h.n
  have hle := h.le
  rw [cbIndices_eq hv h0 (by omega), Option.bind_some]
  refine range_mem (I := fun _ _ => True) (G := fun l k _ => some (brk c i l k)) ?_ ?_ () trivial
  · intro k s _ _; rfl
  · intro x l' k s next hx _ _ hnx
    have hk := (List.getElem?_eq_some_iff.1 hx).1
    rw [idxL_len] at hk
    rw [getO_nat hk]
    have hnx' := hnx () trivial
    by_cases e : x = c.Sizes[k]
    · have hs : c.Sizes[k]? = some x := by rw [List.getElem?_eq_getElem hk, e]
      have hxb := hv.get hs
      simp only [show decide (x ≠ c.Sizes[k]) = false by simp [e], Bool.false_eq_true, if_false]
      rw [cbParts_eq hv h0 (by omega) hs hx, Option.bind_some]
      have hall : ∀ y ∈ partL c.Sizes i k x, 0 ≤ y ∧ y < c.Cells.length := by
        intro y hy
        simp only [partL, List.mem_map, List.mem_range] at hy
        obtain ⟨j, hj, rfl⟩ := hy
        have := partF_bd hv h0 (by omega) hs hx (show (j : Int) ≤ x by omega)
        omega
      have hlen := partL_len c.Sizes i k x
      have hsum : ∀ (m : Nat), -(1000000 * (m : Int)) ≤ sumI (((partL c.Sizes i k x).take m).map (cellAt c)) ∧ sumI (((partL c.Sizes i k x).take m).map (cellAt c)) ≤ 1000000 * (m : Int) := by
        intro m
        have := sumI_bd (b := 1000000) (by omega) (l := ((partL c.Sizes i k x).take m).map (cellAt c)) (fun y hy => by
          obtain ⟨z, hz, rfl⟩ := List.mem_map.1 hy
          have := hall z (List.mem_of_mem_take hz)
          exact cell_bd h this.1 this.2)
        simp only [List.length_map, List.length_take] at this
        omega
      refine range_mem (I := fun (m : Nat) (a : Int) => a = sumI (((partL c.Sizes i k x).take m).map (cellAt c)) ∧ m ≤ 30) (G := fun _ _ _ => some (brk c i (x :: l') k)) ?_ ?_ 0 ⟨by simp [sumI], by omega⟩
      · intro m a hI hm
        obtain ⟨rfl, _⟩ := hI
        rw [getO_cell h0 h1, hm, List.take_length]
        simp only [brk, if_pos hs]
        by_cases e2 : psum c i k x = cellAt c i
        · have : sumI ((partL c.Sizes i k x).map (cellAt c)) = cellAt c i := e2
          simp only [this, e2, ne_eq, not_true_eq_false, decide_false, Bool.false_eq_true, if_false]
          exact hnx'
        · have : ¬ sumI ((partL c.Sizes i k x).map (cellAt c)) = cellAt c i := e2
          simp [this, e2]
      · intro y l2 m a next2 hy _ hI hn2
        obtain ⟨rfl, hm30⟩ := hI
        obtain ⟨hm, hye⟩ := List.getElem?_eq_some_iff.1 hy
        have hb := hall y (List.mem_of_getElem? hy)
        have hcb := cell_bd h hb.1 hb.2
        have hs1 := hsum m
        rw [getO_cell hb.1 hb.2, ckI_pos (by omega) (by omega)]
        refine hn2 _ ⟨?_, by omega⟩
        rw [List.take_add_one, hy, List.map_append, sumI_append]
        simp [sumI]
    · have hs : ¬ c.Sizes[k]? = some x := by rw [List.getElem?_eq_getElem hk]; simp; exact fun h => e h.symm
      simp only [show decide (x ≠ c.Sizes[k]) = true by simp [e], if_true, brk, if_neg hs]
      exact hnx'
def fstB (c : XCube) : List Int → Nat → Int
  | [], _ => c.Cells.length
  | _ :: l, k => if brk c k (idxL c.Sizes k) 0 = true then k else fstB c l (k + 1)
theorem cbFirst_eq {c : XCube} (h : Form c) : sh_spec_cbFirst c = some (fstB c c.Cells 0) := by
  unfold sh_spec_cbFirst
  refine range_mem (I := fun _ _ => True) (G := fun l k _ => some (fstB c l k)) (fun _ _ _ _ => rfl) ?_ () trivial
  intro x l' k s next hx _ _ hn
  have hk := (List.getElem?_eq_some_iff.1 hx).1
  rw [cbBroken_eq h (by omega) (by omega), Option.bind_some]
  simp only [fstB, hn () trivial]
  split <;> rfl
theorem firstBreak_eq {c : XCube} (h : Form c) : sh_impl_firstBreak c = some (fstB c c.Cells 0) := by
  unfold sh_impl_firstBreak
  have hv := h.v
  have hnn := h.n
  have hle := h.le
  rw [strides_eq hv, Option.bind_some]
  refine range_mem (I := fun _ _ => True) (G := fun l k _ => some (fstB c l k)) (fun _ _ _ _ => rfl) ?_ () trivial
  intro v l' i s next hx _ _ hn
  have hi := (List.getElem?_eq_some_iff.1 hx).1
  have hvi : v = cellAt c i := by
    have := cell_get (c := c) (i := (i : Int)) (by omega) (by omega)
    rw [Int.toNat_natCast, hx] at this; exact Option.some.inj this
  rw [indexOf_eq hv (by omega) (by omega), Option.bind_some]
  have hnx := hn () trivial
  have goal : some (fstB c (v :: l') i) = (if brk c i (idxL c.Sizes i) 0 = true then some (i : Int) else next ()) := by
    rw [hnx]; simp only [fstB]; split <;> rfl
  rw [goal]
  refine range_mem (I := fun _ _ => True) (G := fun l k _ => if brk c i l k = true then some (i : Int) else next ()) (fun _ _ _ _ => by simp [brk]) ?_ () trivial
  intro x l2 k s2 next2 hx2 _ _ hn2
  have hk := (List.getElem?_eq_some_iff.1 hx2).1
  rw [idxL_len] at hk
  rw [getO_nat hk]
  have hn2' := hn2 () trivial
  by_cases e : x = c.Sizes[k]
  · have hs : c.Sizes[k]? = some x := by rw [List.getElem?_eq_getElem hk, e]
    have hxb := hv.get hs
    have hvd := vol_bd (hv.drop (k + 1))
    have hst : (strL c.Sizes)[k]? = some (vol (c.Sizes.drop (k + 1))) := by
      rw [List.getElem?_eq_getElem (by rw [strL_len]; exact hk), strL_get c.Sizes k hk]
    simp only [show decide (x ≠ c.Sizes[k]) = false by simp [e], Bool.false_eq_true, if_false]
    -- the sum, from the last part on
    have hpl : ∀ j : Nat, (j : Int) ≤ x → 0 ≤ partF c.Sizes i k x j ∧ partF c.Sizes i k x j < c.Cells.length := fun j hj => by
      have := partF_bd hv (show (0 : Int) ≤ i by omega) (by omega) hs hx2 hj; omega
    let g : Nat → Int := fun m => cellAt c ((i : Int) - ((m : Int) + 1) * vol (c.Sizes.drop (k + 1)))
    have hg : ∀ m : Nat, (m : Int) < x → g m = cellAt c (partF c.Sizes i k x (x.toNat - 1 - m)) ∧ 0 ≤ (i : Int) - ((m : Int) + 1) * vol (c.Sizes.drop (k + 1)) ∧ (i : Int) - ((m : Int) + 1) * vol (c.Sizes.drop (k + 1)) < c.Cells.length := fun m hm => by
      have e3 : partF c.Sizes i k x (x.toNat - 1 - m) = (i : Int) - ((m : Int) + 1) * vol (c.Sizes.drop (k + 1)) := by
        simp only [partF]; congr 2; omega
      have := hpl (x.toNat - 1 - m) (by omega)
      rw [e3] at this
      exact ⟨by rw [e3], this⟩
    have htot : sumI ((List.range x.toNat).map g) = psum c i k x := by
      rw [psum, partL, List.map_map, ← sumI_reverse ((List.range x.toNat).map (cellAt c ∘ partF c.Sizes i k x))]
      congr 1
      apply List.ext_getElem
      · simp
      · intro n h1 h2
        simp only [List.length_map, List.length_range] at h1
        have := (hg n (by omega)).1
        simp only [List.getElem_map, List.getElem_range, List.getElem_reverse, List.length_map, List.length_range, Function.comp]
        exact this
    have hsum : ∀ (m : Nat), (m : Int) ≤ x → -(1000000 * (m : Int)) ≤ sumI ((List.range m).map g) ∧ sumI ((List.range m).map g) ≤ 1000000 * (m : Int) := by
      intro m hm
      have := sumI_bd (b := 1000000) (by omega) (l := (List.range m).map g) (fun y hy => by
        simp only [List.mem_map, List.mem_range] at hy
        obtain ⟨z, hz, rfl⟩ := hy
        obtain ⟨_, q1, q2⟩ := hg z (by omega)
        exact cell_bd h q1 q2)
      simpa using this
    have e0 : (((0 : Int), (1 : Int)) : Int × Int) = (fun m : Nat => (sumI ((List.range m).map g), (m : Int) + 1)) 0 := by simp [sumI]
    rw [e0]
    refine (loop_up x.toNat (fun m : Nat => (sumI ((List.range m).map g), (m : Int) + 1)) (fun _ => if brk c i (x :: l2) k = true then some (i : Int) else next ()) (by omega) ?_ ?_)
    · intro nx m hm hnx3
      have hmx : (m : Int) + 1 ≤ x := by omega
      obtain ⟨_, q1, q2⟩ := hg m (by omega)
      have hcb := cell_bd h q1 q2
      have hs1 := hsum m (by omega)
      have hm0 : 0 ≤ ((m : Int) + 1) * vol (c.Sizes.drop (k + 1)) := Int.mul_nonneg (by omega) (by omega)
      simp only [hmx, decide_true, if_true]
      rw [getO_some hst, ckI_pos (by omega) (by omega), ckI_pos (by omega) (by omega), getO_cell q1 q2, ckI_pos (by omega) (by omega), ckI_pos (by omega) (by omega)]
      rw [← hnx3, range_map_succ, sumI_append]
      simp only [sumI, Int.add_zero, cast_succ]
      rfl
    · intro nx
      simp only [show ¬ (((x.toNat : Nat) : Int) + 1 ≤ x) by omega, decide_false, Bool.false_eq_true, if_false, htot, hvi, brk, if_pos hs]
      by_cases e2 : psum c i k x = cellAt c i
      · simp only [e2, ne_eq, not_true_eq_false, decide_false, Bool.false_eq_true, if_false]
        exact hn2'
      · simp [e2]
  · have hs : ¬ c.Sizes[k]? = some x := by rw [List.getElem?_eq_getElem hk]; simp; exact fun h => e h.symm
    simp only [show decide (x ≠ c.Sizes[k]) = true by simp [e], if_true, brk, if_neg hs]
    exact hn2'
def goodB (c : XCube) : Bool := formB c && decide (fstB c c.Cells 0 = c.Cells.length)
theorem cbGood_eq (c : XCube) : sh_spec_cbGood c = some (goodB c) := by
  unfold sh_spec_cbGood
  rw [cbForm_eq, Option.bind_some]
  cases h : formB c with
  | false => simp [goodB, h]
  | true =>
    have hf := formB_form h
    have := hf.le
    simp only [if_true]
    rw [cbFirst_eq hf, Option.bind_some, lmO_pos (by omega)]
    simp [goodB, h]
end AS
namespace AS
theorem implIsCube_eq (c : XCube) : sh_impl_IsCube c = some (goodB c) := by
  unfold sh_impl_IsCube
  rw [rightForm_eq, Option.bind_some]
  cases h : formB c with
  | false => simp [goodB, h]
  | true =>
    have hf := formB_form h
    have := hf.le
    simp only [if_true]
    rw [firstBreak_eq hf, Option.bind_some, lmO_pos (by omega)]
    simp [goodB, h]
end AS
namespace AS
/-! ### Indices and cells, to and fro -/
theorem idxL_add : ∀ {s : List Int} {i k : Int}, (∀ x ∈ s, 1 ≤ x ∧ x ≤ 30) → idxL s (i + k * vol s) = idxL s i
  | [], _, _, _ => rfl
  | x :: l, i, k, h => by
    have hl := vol_pow (s := l) (fun y hy => h y (by simp [hy]))
    have hx := h x (by simp)
    have e : i + k * vol (x :: l) = i + (k * (x + 1)) * vol l := by simp only [vol, Int.mul_assoc]
    simp only [idxL]
    rw [e, idxL_add (fun y hy => h y (by simp [hy])), Int.add_mul_ediv_right _ _ (by omega), Int.add_mul_emod_self_right]
theorem idxL_atL : ∀ {s ix : List Int}, (∀ x ∈ s, 1 ≤ x ∧ x ≤ 30) → fits s ix → idxL s (atL s ix) = ix
  | [], ix, _, hf => by have := hf.1; simp at this; subst this; rfl
  | x :: l, [], _, hf => by have := hf.1; simp at this
  | x :: l, a :: as, h, hf => by
    have hl := vol_pow (s := l) (fun y hy => h y (by simp [hy]))
    have hf2 : fits l as := ⟨by have := hf.1; simpa using this, fun k x y hx hy => hf.2 (k + 1) x y (by simpa using hx) (by simpa using hy)⟩
    have hb := atL_bd (fun y hy => h y (by simp [hy])) hf2
    have ha := hf.2 0 x a rfl rfl
    simp only [atL, idxL]
    rw [Int.add_comm, idxL_add (fun y hy => h y (by simp [hy])), idxL_atL (fun y hy => h y (by simp [hy])) hf2, Int.add_mul_ediv_right _ _ (by omega), Int.ediv_eq_zero_of_lt hb.1 hb.2, Int.zero_add, Int.emod_eq_of_lt ha.1 (by omega)]
/-! ### Totals -/
/-! ### Base cells and their values -/
end AS
namespace AS
theorem map_set_add {n a : Nat} {f f' : Nat → Int} {w : Int} (ha : a < n) (h1 : f' a = f a + w) (h2 : ∀ i, i < n → i ≠ a → f' i = f i) : ((List.range n).map f).set a (f a + w) = (List.range n).map f' := by
  apply List.ext_getElem
  · simp
  · intro i h3 h4
    simp only [List.length_map, List.length_range] at h4
    by_cases e : i = a
    · subst e; simp [h1]
    · rw [List.getElem_set_ne (Ne.symm e)]
      simp [h2 i (by simpa using h3) e]
end AS
namespace AS
section
variable {R σ α β : Type}
/-- Is there an element? -/
def anyF (c : Nat → α → Bool) : List α → Nat → Bool
  | [], _ => false
  | x :: l, k => c k x || anyF c l (k + 1)
theorem anyF_iff {c : Nat → α → Bool} : ∀ {l : List α} {k : Nat}, anyF c l k = true ↔ ∃ j x, l[j]? = some x ∧ c (k + j) x = true
  | [], k => by simp [anyF]
  | x :: l, k => by
    simp only [anyF, Bool.or_eq_true, anyF_iff (l := l)]
    constructor
    · rintro (h | ⟨j, y, h1, h2⟩)
      · exact ⟨0, x, rfl, h⟩
      · exact ⟨j + 1, y, by simpa using h1, by rw [show k + (j + 1) = k + 1 + j by omega]; exact h2⟩
    · rintro ⟨j, y, h1, h2⟩
      cases j with
      | zero => simp only [List.getElem?_cons_zero, Option.some.injEq] at h1; subst h1; exact .inl h2
      | succ j => exact .inr ⟨j, y, by simpa using h1, by rw [show k + 1 + j = k + (j + 1) by omega]; exact h2⟩
/-- A loop with all answers known: it adds up. -/
def foldF (f : Nat → α → σ → σ) : List α → Nat → σ → σ
  | [], _, s => s
  | x :: l, k, s => foldF f l (k + 1) (f k x s)
theorem range_fold {body : Nat → α → σ → (σ → Option R) → Option R} {fin : σ → Option R} {l : List α} {init : σ} (I : Nat → σ → Prop) (f : Nat → α → σ → σ) (h0 : I 0 init)
    (hI : ∀ x k s, l[k]? = some x → I k s → I (k + 1) (f k x s)) (hs : ∀ x k s next, l[k]? = some x → I k s → body k x s next = next (f k x s)) : rangeF body fin l 0 init = fin (foldF f l 0 init) := by
  refine (range_mem (I := I) (G := fun l' k s => fin (foldF f l' k s)) ?_ ?_ init h0)
  · intro k s _ _; rfl
  · intro x l' k s next hx _ hi hn
    rw [hs x k s next hx hi]
    exact hn _ (hI x k s hx hi)
end
end AS
namespace AS
theorem brk_iff {c : XCube} {i : Int} : ∀ {l : List Int} {k : Nat}, brk c i l k = true ↔ ∃ j x, l[j]? = some x ∧ c.Sizes[k + j]? = some x ∧ psum c i (k + j) x ≠ cellAt c i
  | [], k => by simp [brk]
  | y :: l, k => by
    have ih := brk_iff (c := c) (i := i) (l := l) (k := k + 1)
    simp only [brk]
    constructor
    · intro h
      split at h
      · rename_i h1
        split at h
        · rename_i h2; exact ⟨0, y, rfl, h1, h2⟩
        · obtain ⟨j, x, q1, q2, q3⟩ := ih.1 h
          exact ⟨j + 1, x, by simpa using q1, by rw [show k + (j + 1) = k + 1 + j by omega]; exact q2, by rw [show k + (j + 1) = k + 1 + j by omega]; exact q3⟩
      · obtain ⟨j, x, q1, q2, q3⟩ := ih.1 h
        exact ⟨j + 1, x, by simpa using q1, by rw [show k + (j + 1) = k + 1 + j by omega]; exact q2, by rw [show k + (j + 1) = k + 1 + j by omega]; exact q3⟩
    · rintro ⟨j, x, q1, q2, q3⟩
      cases j with
      | zero =>
        simp only [List.getElem?_cons_zero, Option.some.injEq] at q1
        subst q1
        rw [Nat.add_zero] at q2 q3
        rw [if_pos q2, if_pos q3]
      | succ j =>
        have : brk c i l (k + 1) = true := ih.2 ⟨j, x, by simpa using q1, by rw [show k + 1 + j = k + (j + 1) by omega]; exact q2, by rw [show k + 1 + j = k + (j + 1) by omega]; exact q3⟩
        split
        · split
          · rfl
          · exact this
        · exact this
theorem fst_iff {c : XCube} : ∀ {l : List Int} {k : Nat}, k + l.length = c.Cells.length → (fstB c l k = (c.Cells.length : Int) ↔ ∀ j, k ≤ j → j < c.Cells.length → brk c (j : Int) (idxL c.Sizes (j : Int)) 0 = false)
  | [], k, h => by
    simp only [List.length_nil, Nat.add_zero] at h
    exact ⟨fun _ j h1 h2 => by omega, fun _ => rfl⟩
  | y :: l, k, h => by
    simp only [List.length_cons] at h
    have ih := fst_iff (c := c) (l := l) (k := k + 1) (by omega)
    simp only [fstB]
    split
    · rename_i hb
      constructor
      · intro e; omega
      · intro q
        have := q k (Nat.le_refl _) (by omega)
        rw [hb] at this; cases this
    · rename_i hb
      rw [ih]
      constructor
      · intro q j h1 h2
        by_cases hj : j = k
        · subst hj; simpa using hb
        · exact q j (by omega) h2
      · exact fun q j h1 h2 => q j (by omega) h2
/-- Each total is the sum of its parts. -/
def Whole (c : XCube) : Prop := ∀ (i : Nat), i < c.Cells.length → ∀ (d : Nat) (x : Int), c.Sizes[d]? = some x → (idxL c.Sizes (i : Int))[d]? = some x → psum c (i : Int) d x = cellAt c (i : Int)
theorem whole_iff {c : XCube} : fstB c c.Cells 0 = (c.Cells.length : Int) ↔ Whole c := by
  rw [fst_iff (by omega)]
  constructor
  · intro h i hi d x h1 h2
    have h3 := h i (Nat.zero_le _) hi
    by_cases e : psum c (i : Int) d x = cellAt c (i : Int)
    · exact e
    · have : brk c (i : Int) (idxL c.Sizes (i : Int)) 0 = true := brk_iff.2 ⟨d, x, h2, by rw [Nat.zero_add]; exact h1, by rw [Nat.zero_add]; exact e⟩
      rw [h3] at this; cases this
  · intro h j _ hj
    cases hb : brk c (j : Int) (idxL c.Sizes (j : Int)) 0 with
    | false => rfl
    | true =>
      obtain ⟨d, x, q1, q2, q3⟩ := brk_iff.1 hb
      rw [Nat.zero_add] at q2 q3
      exact absurd (h j hj d x q2 q1) q3
theorem goodB_iff {c : XCube} : goodB c = true ↔ formB c = true ∧ Whole c := by
  unfold goodB
  rw [Bool.and_eq_true, decide_eq_true_eq, whole_iff]
/-! ### Differences -/
end AS
namespace AS
/-! ### The law's own functions on variables -/
theorem XVariable.ext' {a b : XVariable} (h1 : a.Name = b.Name) (h2 : a.Levels = b.Levels) : a = b := by cases a; cases b; simp_all
/-! ### Schemas -/
def lowB (n : List UInt8) : Bool := n.all fun c => decide ((97 : Int) ≤ (c.toNat : Int)) && decide ((c.toNat : Int) ≤ 122)
def wordB (n : List UInt8) : Bool := lowB n && (decide (1 ≤ n.length) && decide (n.length ≤ 8))
def hasName (l : List XVariable) (n : List UInt8) : Bool := l.any fun v => decide (v.Name = n)
def levB (v : XVariable) : Bool := decide (2 ≤ v.Levels) && decide (v.Levels ≤ 8)
def schFrom (s : List XVariable) : List XVariable → Nat → Bool
  | [], _ => true
  | v :: l, k => wordB v.Name && (levB v && (!(hasName (s.take k) v.Name) && schFrom s l (k + 1)))
def schB (s : List XVariable) : Bool := decide (1 ≤ s.length) && decide (s.length ≤ 6) && schFrom s s 0
theorem schFrom_lev {s : List XVariable} : ∀ {l : List XVariable} {k : Nat}, schFrom s l k = true → ∀ v ∈ l, 2 ≤ v.Levels ∧ v.Levels ≤ 8
  | [], _, _, v, hv => by simp at hv
  | x :: l, k, h, v, hv => by
    simp only [schFrom, Bool.and_eq_true] at h
    rcases List.mem_cons.1 hv with rfl | hv
    · have := h.2.1; simpa [levB] using this
    · exact schFrom_lev h.2.2.2 v hv
theorem schB_lev {s : List XVariable} (h : schB s = true) {v : XVariable} (hv : v ∈ s) : 2 ≤ v.Levels ∧ v.Levels ≤ 8 := by
  simp only [schB, Bool.and_eq_true] at h
  exact schFrom_lev h.2 v hv
theorem schB_len {s : List XVariable} (h : schB s = true) : 1 ≤ s.length ∧ s.length ≤ 6 := by
  simp only [schB, Bool.and_eq_true, decide_eq_true_eq] at h
  exact h.1
/-! ### Weights, values, costs -/
end AS
namespace AS
/-! ### MarginOf -/
def risB (n : Int) : Int → List Int → Bool
  | _, [] => true
  | a, x :: l => decide (a < x) && (decide (x < n) && risB n x l)
end AS
namespace AS
theorem getD_get {α : Type} {l : List α} {k : Nat} {d : α} (h : k < l.length) : l.getD k d = l[k] := by simp [List.getD_eq_getElem?_getD, h]
theorem getD_some {α : Type} {l : List α} {k : Nat} {d x : α} (h : l[k]? = some x) : l.getD k d = x := by simp [List.getD_eq_getElem?_getD, h]
/-! ### Sets of levels -/
/-! ### Records and conditions -/
/-! ### Variables of a table -/
theorem risB_rng {n : Int} : ∀ {l : List Int} {a : Int}, risB n a l = true → ∀ d ∈ l, a < d ∧ d < n
  | [], _, _, d, hd => by simp at hd
  | x :: l, a, h, d, hd => by
    simp only [risB, Bool.and_eq_true, decide_eq_true_eq] at h
    rcases List.mem_cons.1 hd with rfl | hd
    · exact ⟨h.1, h.2.1⟩
    · have := risB_rng h.2.2 d hd; omega
theorem risB_len {n : Int} : ∀ {l : List Int} {a : Int}, a < n → risB n a l = true → (l.length : Int) ≤ n - 1 - a
  | [], _, ha, _ => by simp; omega
  | x :: l, a, _, h => by
    simp only [risB, Bool.and_eq_true, decide_eq_true_eq] at h
    have := risB_len (a := x) h.2.1 h.2.2
    simp only [List.length_cons]; omega
def partV (s : List XVariable) (l : List Int) : List XVariable := l.map fun v => s.getD v.toNat default
theorem partV_len (s : List XVariable) (l : List Int) : (partV s l).length = l.length := by simp [partV]
/-! ### How many cells -/
def prodV : List XVariable → Int
  | [] => 1
  | v :: l => v.Levels * prodV l
theorem mul_pow_bd {a x : Int} {k : Nat} (hk : k ≤ 5) (h1 : 1 ≤ a) (h2 : a ≤ 8 ^ k) (h3 : 2 ≤ x) (h4 : x ≤ 8) : 1 ≤ a * x ∧ a * x ≤ 8 ^ (k + 1) ∧ (8 : Int) ^ (k + 1) ≤ 262144 := by
  have a1 : 1 * 1 ≤ a * x := Int.mul_le_mul h1 (by omega) (by omega) (by omega)
  have a2 : a * x ≤ 8 ^ k * 8 := Int.mul_le_mul h2 (by omega) (by omega) (by omega)
  refine ⟨by omega, by rw [Int.pow_succ]; exact a2, ?_⟩
  have : k = 0 ∨ k = 1 ∨ k = 2 ∨ k = 3 ∨ k = 4 ∨ k = 5 := by omega
  rcases this with rfl | rfl | rfl | rfl | rfl | rfl <;> decide
theorem prodV_bd : ∀ {l : List XVariable}, l.length ≤ 6 → (∀ v ∈ l, 2 ≤ v.Levels ∧ v.Levels ≤ 8) → 1 ≤ prodV l ∧ prodV l ≤ 8 ^ l.length ∧ (8 : Int) ^ l.length ≤ 262144
  | [], _, _ => by simp [prodV]
  | v :: l, hl, h => by
    simp only [List.length_cons] at hl
    have := prodV_bd (l := l) (by omega) (fun u hu => h u (List.mem_cons_of_mem _ hu))
    have hv := h v List.mem_cons_self
    have := mul_pow_bd (show l.length ≤ 5 by omega) this.1 this.2.1 hv.1 hv.2
    simp only [prodV, List.length_cons]
    rw [Int.mul_comm]; exact this
/-- A list of variables of a schema. -/
structure Part (s : List XVariable) (l : List Int) : Prop where
  sch : schB s = true
  ris : risB s.length (-1) l = true
theorem Part.rng {s : List XVariable} {l : List Int} (h : Part s l) : ∀ d ∈ l, 0 ≤ d ∧ d < (s.length : Int) := fun d hd => by
  have := risB_rng h.ris d hd; omega
theorem Part.len {s : List XVariable} {l : List Int} (h : Part s l) : l.length ≤ 6 := by
  have := risB_len (by omega) h.ris
  have := schB_len h.sch
  omega
theorem Part.lev {s : List XVariable} {l : List Int} (h : Part s l) : ∀ v ∈ partV s l, 2 ≤ v.Levels ∧ v.Levels ≤ 8 := by
  intro v hv
  simp only [partV, List.mem_map] at hv
  obtain ⟨d, hd, rfl⟩ := hv
  have := h.rng d hd
  rw [getD_get (show d.toNat < s.length by omega)]
  exact schB_lev h.sch (List.getElem_mem _)
theorem Part.bd {s : List XVariable} {l : List Int} (h : Part s l) : 1 ≤ prodV (partV s l) ∧ prodV (partV s l) ≤ 262144 := by
  have := prodV_bd (l := partV s l) (by rw [partV_len]; exact h.len) h.lev
  omega
/-! ### Tables -/
end AS
namespace AS
/-! ### Depths -/
/-! ### Levels -/
/-! ### Leaves -/
def hasB (l : List Int) (n : Int) : Bool := anyF (fun _ x => decide (x = n)) l 0
theorem hasB_iff {l : List Int} {n : Int} : hasB l n = true ↔ n ∈ l := by
  unfold hasB
  rw [anyF_iff]
  constructor
  · rintro ⟨j, x, h1, h2⟩
    simp only [decide_eq_true_eq] at h2
    subst h2; exact List.mem_of_getElem? h1
  · intro h
    obtain ⟨j, hj⟩ := List.getElem?_of_mem h
    exact ⟨j, n, hj, by simp⟩
theorem index_has {l : List Int} {n : Int} : ∀ (k : Nat), ∃ r, rangeF (fun (k18 : Nat) (x19 : Int) (s17 : Unit) (nx24 : Unit → Option Int) => (if (decide (n = x19)) = true then some (k18 : Int) else nx24 ())) (fun (s17 : Unit) => some (-1 : Int)) l k () = some r ∧ decide (0 ≤ r) = hasB l n := by
  unfold hasB
  induction l with
  | nil => intro k; exact ⟨-1, rfl, rfl⟩
  | cons x l ih =>
    intro k
    simp only [rangeF]
    by_cases h : n = x
    · exact ⟨k, by simp [h], by simp [anyF, h]⟩
    · obtain ⟨r, h1, h2⟩ := ih (k + 1)
      refine ⟨r, by simpa [h] using h1, ?_⟩
      rw [h2]
      simp only [anyF, show ¬ (x = n) from fun e => h e.symm, decide_false, Bool.false_or]
      have : ∀ (l : List Int) (a b : Nat), anyF (fun _ x => decide (x = n)) l a = anyF (fun _ x => decide (x = n)) l b := by
        intro l
        induction l with
        | nil => intro a b; rfl
        | cons y l ih => intro a b; simp only [anyF]; rw [ih (a + 1) (b + 1)]
      exact this _ _ _
theorem Contains_eq (l : List Int) (n : Int) : sh_slices_Contains_int l n = some (hasB l n) := by
  unfold sh_slices_Contains_int sh_slices_Index_int
  obtain ⟨r, h1, h2⟩ := index_has (l := l) (n := n) 0
  rw [h1, Option.bind_some, h2]
/-! ### Ancestors -/
end AS
namespace AS
theorem jn_eq {R : Type} {f : Unit → Option R} {k : (Unit → Option R) → Option R} {r X : Option R} (hf : f () = r) (hk : ∀ af : Unit → Option R, af () = r → k af = X) : jn f k = X := hk f hf
/-! ### Levels -/
/-! ### Variables, conditions, sums -/
/-! ### The cheapest source -/
end AS
namespace AS
theorem set_same {α : Type} {l : List α} {k : Nat} {x : α} (h : l[k]? = some x) : l.set k x = l := by
  obtain ⟨h1, rfl⟩ := List.getElem?_eq_some_iff.1 h
  exact List.set_getElem_self _
/-! ### Ordered lists -/
def putL : List Int → Int → List Int
  | [], x => [x]
  | y :: l, x => if y < x then y :: putL l x else if y = x then y :: l else x :: y :: l
theorem putL_len : ∀ (l : List Int) (x : Int), (putL l x).length ≤ l.length + 1
  | [], _ => by simp [putL]
  | y :: l, x => by
    have := putL_len l x
    simp only [putL]
    split
    · simp; omega
    · split <;> simp
theorem putL_mem : ∀ {l : List Int} {x y : Int}, y ∈ putL l x ↔ y = x ∨ y ∈ l
  | [], x, y => by simp [putL]
  | z :: l, x, y => by
    simp only [putL]
    split
    · simp only [List.mem_cons, putL_mem (l := l)]
      constructor
      · rintro (h | h | h)
        · exact .inr (.inl h)
        · exact .inl h
        · exact .inr (.inr h)
      · rintro (h | h | h)
        · exact .inr (.inl h)
        · exact .inl h
        · exact .inr (.inr h)
    · split
      · rename_i h; subst h
        simp only [List.mem_cons]
        constructor
        · exact .inr
        · rintro (h | h)
          · exact .inl h
          · exact h
      · simp only [List.mem_cons]
theorem putL_rise : ∀ {l : List Int} {x : Int}, l.Pairwise (· < ·) → (putL l x).Pairwise (· < ·)
  | [], _, _ => by simp [putL]
  | y :: l, x, h => by
    have h1 := List.pairwise_cons.1 h
    simp only [putL]
    split
    · rename_i hlt
      refine List.pairwise_cons.2 ⟨fun z hz => ?_, putL_rise h1.2⟩
      rcases putL_mem.1 hz with rfl | hz
      · exact hlt
      · exact h1.1 z hz
    · split
      · exact h
      · refine List.pairwise_cons.2 ⟨fun z hz => ?_, h⟩
        rcases List.mem_cons.1 hz with rfl | hz
        · omega
        · have := h1.1 z hz; omega
theorem putL_split (l : List Int) (x : Int) : ∃ k, k ≤ l.length ∧ (∀ j (hj : j < k) (hl : j < l.length), l[j] < x) ∧ (∀ (hk : k < l.length), ¬ l[k] < x) ∧
    putL l x = (if ∃ h : k < l.length, l[k] = x then l else l.take k ++ [x] ++ l.drop k) := by
  induction l with
  | nil => exact ⟨0, Nat.le_refl _, fun j hj => absurd hj (Nat.not_lt_zero _), fun h => absurd h (Nat.not_lt_zero _), by simp [putL]⟩
  | cons y l ih =>
    by_cases h : y < x
    · obtain ⟨k, h1, h2, h3, h4⟩ := ih
      refine ⟨k + 1, by simpa using h1, fun j hj hl => ?_, fun hk => ?_, ?_⟩
      · cases j with
        | zero => exact h
        | succ j => exact h2 j (by omega) (by simpa using hl)
      · simpa using h3 (by simpa using hk)
      · simp only [putL, h, if_true, h4]
        by_cases hc : ∃ h : k < l.length, l[k] = x
        · have hc' : ∃ h : k + 1 < (y :: l).length, (y :: l)[k + 1] = x := ⟨by simpa using hc.1, by simpa using hc.2⟩
          rw [if_pos hc, if_pos hc']
        · have hc' : ¬ ∃ h : k + 1 < (y :: l).length, (y :: l)[k + 1] = x := fun ⟨a, b⟩ => hc ⟨by simpa using a, by simpa using b⟩
          rw [if_neg hc, if_neg hc']; simp
    · refine ⟨0, Nat.zero_le _, fun j hj => absurd hj (Nat.not_lt_zero _), fun _ => h, ?_⟩
      simp only [putL, h, if_false]
      by_cases he : y = x
      · simp [he]
      · simp [he]
theorem l1Put_eq {l : List Int} {x : Int} (hl : l.length ≤ 1048576) : sh_spec_l1Put l x = some (putL l x) := by
  unfold sh_spec_l1Put
  obtain ⟨k, h1, h2, h3, h4⟩ := putL_split l x
  rw [loopF_eq (I := fun s : Int => ∃ j : Nat, s = (j : Int) ∧ j ≤ k) (mu := fun s => (k - s.toNat)) (F := fun _ => some (k : Int)) (by
    rintro s next ⟨j, rfl, hj⟩ hn
    by_cases hjl : j < l.length
    · simp only [lt_dec hjl, if_true]
      rw [getO_nat hjl]
      by_cases hjk : j < k
      · have := h2 j hjk hjl
        simp only [this, decide_true, if_true]
        rw [ckI_succ (by omega)]
        exact hn _ ⟨j + 1, by simp, by omega⟩ (by simp; omega)
      · obtain rfl : j = k := by omega
        have := h3 hjl
        simp only [this, decide_false, Bool.false_eq_true, if_false]
    · obtain rfl : j = k := by omega
      have : j = l.length := by omega
      subst this
      simp only [lt_self, Bool.false_eq_true, if_false]) FUEL 0 ⟨0, rfl, Nat.zero_le _⟩ (FUEL_big (by simp; omega)), Option.bind_some]
  refine jn_eq (r := some (l.take k ++ [x] ++ l.drop k)) ?_ ?_
  · rw [ck_pos ⟨by omega, by omega, by omega⟩, lnO_pos (by simp; omega), lnO_pos (by simp; omega), ck_pos ⟨by omega, by omega, Nat.le_refl _⟩, lnO_pos (by simp; omega)]
    simp
  · intro af haf
    by_cases hk : k < l.length
    · simp only [lt_dec hk, if_true]
      rw [getO_nat hk]
      by_cases he : l[k] = x
      · have e4 : putL l x = l := by rw [h4, if_pos ⟨hk, he⟩]
        rw [e4]; simp [he]
      · have hc : ¬ ∃ h : k < l.length, l[k] = x := fun ⟨a, b⟩ => he b
        rw [h4, if_neg hc]
        simp only [he, decide_false, Bool.false_eq_true, if_false]; exact haf
    · have hc : ¬ ∃ h : k < l.length, l[k] = x := fun ⟨a, b⟩ => hk a
      rw [h4, if_neg hc]
      simp only [show decide ((k : Int) < (l.length : Int)) = false by simp; omega, Bool.false_eq_true, if_false]; exact haf
theorem rise_ext : ∀ {a b : List Int}, a.Pairwise (· < ·) → b.Pairwise (· < ·) → (∀ x, x ∈ a ↔ x ∈ b) → a = b
  | [], [], _, _, _ => rfl
  | [], y :: b, _, _, h => by have := (h y).2 List.mem_cons_self; cases this
  | x :: a, [], _, _, h => by have := (h x).1 List.mem_cons_self; cases this
  | x :: a, y :: b, ha, hb, h => by
    have a1 := List.pairwise_cons.1 ha
    have b1 := List.pairwise_cons.1 hb
    have hxy : x = y := by
      have h1 := (h x).1 List.mem_cons_self
      have h2 := (h y).2 List.mem_cons_self
      rcases List.mem_cons.1 h1 with e | h1
      · exact e
      · rcases List.mem_cons.1 h2 with e | h2
        · exact e.symm
        · have := a1.1 y h2; have := b1.1 x h1; omega
    subst hxy
    congr 1
    refine rise_ext a1.2 b1.2 fun z => ?_
    have hz := h z
    simp only [List.mem_cons] at hz
    constructor
    · intro hza
      have := a1.1 z hza
      rcases hz.1 (.inr hza) with e | e
      · omega
      · exact e
    · intro hzb
      have := b1.1 z hzb
      rcases hz.2 (.inr hzb) with e | e
      · omega
      · exact e
/-! ### The join by the reference -/
def putA (V : List Int) (xs : List Int) : List Int := xs.foldl putL V
theorem putA_mem : ∀ {xs V : List Int} {y : Int}, y ∈ putA V xs ↔ y ∈ V ∨ y ∈ xs
  | [], V, y => by simp [putA]
  | x :: xs, V, y => by
    show y ∈ putA (putL V x) xs ↔ _
    rw [putA_mem, putL_mem, List.mem_cons]
    constructor
    · rintro ((h | h) | h)
      · exact .inr (.inl h)
      · exact .inl h
      · exact .inr (.inr h)
    · rintro (h | h | h)
      · exact .inl (.inr h)
      · exact .inl (.inl h)
      · exact .inr h
theorem putA_rise : ∀ {xs V : List Int}, V.Pairwise (· < ·) → (putA V xs).Pairwise (· < ·)
  | [], V, h => h
  | x :: xs, V, h => putA_rise (V := putL V x) (putL_rise h)
theorem putA_len : ∀ (xs V : List Int), (putA V xs).length ≤ V.length + xs.length
  | [], V => Nat.le_refl _
  | x :: xs, V => by
    have h1 := putA_len xs (putL V x)
    have h2 := putL_len V x
    show (putA (putL V x) xs).length ≤ _
    simp only [List.length_cons]; omega
/-! ### The join by the program -/
end AS
namespace AS
/-! ### Sums over ranges -/
def sumR (n : Nat) (f : Nat → Int) : Int := sumI ((List.range n).map f)
theorem sumR_zero (f : Nat → Int) : sumR 0 f = 0 := rfl
theorem sumR_succ (n : Nat) (f : Nat → Int) : sumR (n + 1) f = sumR n f + f n := by
  simp only [sumR]
  rw [range_map_succ, sumI_append]; simp [sumI]
theorem sumR_congr {n : Nat} {f g : Nat → Int} (h : ∀ i, i < n → f i = g i) : sumR n f = sumR n g := by
  simp only [sumR]
  rw [List.map_congr_left fun i hi => h i (by simpa using hi)]
theorem sumR_nil {n : Nat} {f : Nat → Int} (h : ∀ i, i < n → f i = 0) : sumR n f = 0 := by
  induction n with
  | zero => rfl
  | succ n ih => rw [sumR_succ, ih fun i hi => h i (by omega), h n (by omega)]; rfl
theorem sumR_add (f g : Nat → Int) : ∀ n, sumR n (fun i => f i + g i) = sumR n f + sumR n g
  | 0 => rfl
  | n + 1 => by rw [sumR_succ, sumR_succ, sumR_succ, sumR_add f g n]; omega
theorem sumR_split (f : Nat → Int) (m : Nat) : ∀ n, sumR (m + n) f = sumR m f + sumR n (fun j => f (m + j))
  | 0 => by simp [sumR_zero]
  | n + 1 => by rw [← Nat.add_assoc, sumR_succ, sumR_split f m n, sumR_succ]; omega
theorem sumR_mul (f : Nat → Int) (n : Nat) : ∀ m, sumR (m * n) f = sumR m (fun k => sumR n (fun j => f (k * n + j)))
  | 0 => by simp [sumR_zero]
  | m + 1 => by rw [Nat.succ_mul, sumR_split, sumR_mul f n m, sumR_succ]
theorem sumR_swap (f : Nat → Nat → Int) (n : Nat) : ∀ m, sumR m (fun a => sumR n (f a)) = sumR n (fun b => sumR m (fun a => f a b))
  | 0 => by rw [sumR_zero, sumR_nil fun i _ => sumR_zero _]
  | m + 1 => by
    rw [sumR_succ, sumR_swap f n m, ← sumR_add]
    exact sumR_congr fun i _ => (sumR_succ m fun a => f a i).symm
theorem sumR_one (a : Nat) (v : Int) : ∀ n, sumR n (fun k => if k = a then v else 0) = if a < n then v else 0
  | 0 => rfl
  | n + 1 => by
    rw [sumR_succ, sumR_one a v n]
    by_cases h1 : a < n
    · simp [h1, show ¬ n = a by omega, show a < n + 1 by omega]
    · by_cases h2 : n = a
      · subst h2; simp
      · simp [h1, h2, show ¬ a < n + 1 by omega]
theorem coord {a x w y b : Nat} (hw : 0 < w) (hy : y < x + 1) (hb : b < w) : ((a * ((x + 1) * w) + (y * w + b)) / w) % (x + 1) = y := by
  have e : a * ((x + 1) * w) + (y * w + b) = b + w * (a * (x + 1) + y) := by
    rw [Nat.mul_add, ← Nat.mul_assoc a, Nat.mul_comm (a * (x + 1)) w, Nat.mul_comm y w]; omega
  rw [e, Nat.add_mul_div_left _ _ hw, Nat.div_eq_of_lt hb, Nat.zero_add, Nat.mul_comm a, Nat.mul_add_mod, Nat.mod_eq_of_lt hy]
theorem reindex {H x w : Nat} (hw : 0 < w) (f : Nat → Int) :
    sumR (H * ((x + 1) * w)) (fun i => if (i / w) % (x + 1) < x then f i else 0) = sumR (H * ((x + 1) * w)) (fun i => if (i / w) % (x + 1) = x then sumR x (fun k => f (i - (x - k) * w)) else 0) := by
  rw [sumR_mul, sumR_mul]
  refine sumR_congr fun a _ => ?_
  rw [sumR_mul, sumR_mul, sumR_succ, sumR_succ]
  have l1 : sumR x (fun k => sumR w fun j => if ((a * ((x + 1) * w) + (k * w + j)) / w) % (x + 1) < x then f (a * ((x + 1) * w) + (k * w + j)) else 0) = sumR x (fun k => sumR w fun j => f (a * ((x + 1) * w) + (k * w + j))) :=
    sumR_congr fun k hk => sumR_congr fun j hj => by rw [coord hw (by omega) hj, if_pos hk]
  have l2 : sumR w (fun j => if ((a * ((x + 1) * w) + (x * w + j)) / w) % (x + 1) < x then f (a * ((x + 1) * w) + (x * w + j)) else 0) = 0 :=
    sumR_nil fun j hj => by rw [coord hw (by omega) hj, if_neg (Nat.lt_irrefl _)]
  have r1 : sumR x (fun k => sumR w fun j => if ((a * ((x + 1) * w) + (k * w + j)) / w) % (x + 1) = x then sumR x (fun q => f (a * ((x + 1) * w) + (k * w + j) - (x - q) * w)) else 0) = 0 :=
    sumR_nil fun k hk => sumR_nil fun j hj => by rw [coord hw (by omega) hj, if_neg (by omega)]
  have r2 : sumR w (fun j => if ((a * ((x + 1) * w) + (x * w + j)) / w) % (x + 1) = x then sumR x (fun q => f (a * ((x + 1) * w) + (x * w + j) - (x - q) * w)) else 0) = sumR w (fun j => sumR x (fun q => f (a * ((x + 1) * w) + (q * w + j)))) :=
    sumR_congr fun j hj => by
      rw [coord hw (by omega) hj, if_pos rfl]
      refine sumR_congr fun q hq => ?_
      congr 1
      have h1 : (x - q) * w = x * w - q * w := Nat.sub_mul ..
      have h2 : q * w ≤ x * w := Nat.mul_le_mul_right _ (by omega)
      omega
  rw [l1, l2, r1, r2, sumR_swap]
  omega
/-! ### A cell and a coordinate -/
theorem partF_at {s : List Int} (hv : valid s) {i : Int} (h0 : 0 ≤ i) (hi : i < vol s) {d : Nat} {x : Int} (hs : s[d]? = some x) (hx : (idxL s i)[d]? = some x) {q : Nat} (hq : (q : Int) ≤ x) :
    atL s ((idxL s i).set d (q : Int)) = partF s i d x q ∧ idxL s (partF s i d x q) = (idxL s i).set d (q : Int) := by
  have hdl := (List.getElem?_eq_some_iff.1 hs).1
  have hil : (idxL s i).length = s.length := idxL_len _ _
  have hfit := (idxL_fits hv h0).set hs (show (0 : Int) ≤ q by omega) hq
  have hat : atL s ((idxL s i).set d (q : Int)) = partF s i d x q := by
    have : (idxL s i)[d]'(by omega) = x := (List.getElem?_eq_some_iff.1 hx).2
    rw [atL_set hil hdl (by omega), atL_idxL hv.2 h0, Int.emod_eq_of_lt h0 hi, this, partF, show (q : Int) - x = -(x - q) by omega, Int.neg_mul]; omega
  exact ⟨hat, by rw [← hat, idxL_atL hv.2 hfit]⟩
theorem vol_head : ∀ (s : List Int) (d : Nat), d ≤ s.length → ∃ H : Int, vol s = H * vol (s.drop d)
  | s, 0, _ => ⟨1, by simp⟩
  | [], d + 1, h => by simp at h
  | x :: l, d + 1, h => by
    obtain ⟨H, hH⟩ := vol_head l d (by simpa using h)
    exact ⟨(x + 1) * H, by simp only [vol, List.drop_succ_cons, hH, Int.mul_assoc]⟩
theorem at_inj {s u v : List Int} (hv : valid s) (hu : fits s u) (hw : fits s v) : atL s u = atL s v ↔ u = v := by
  constructor
  · intro h
    rw [← idxL_atL hv.2 hu, ← idxL_atL hv.2 hw, h]
  · rintro rfl; rfl
theorem set_iff {u v : List Int} {d : Nat} (hl : u.length = v.length) (hd : d < v.length) {k : Int} : u = v.set d k ↔ u.set d 0 = v.set d 0 ∧ u.getD d 0 = k := by
  constructor
  · rintro rfl
    refine ⟨by rw [List.set_set], ?_⟩
    rw [getD_some (List.getElem?_set_self hd)]
  · rintro ⟨h1, h2⟩
    apply List.ext_getElem?
    intro i
    by_cases hi : i = d
    · subst hi
      rw [List.getElem?_set_self hd, List.getElem?_eq_getElem (show i < u.length by omega)]
      rw [getD_get (show i < u.length by omega)] at h2
      rw [h2]
    · have := congrArg (fun l => l[i]?) h1
      simp only [List.getElem?_set_ne (Ne.symm hi)] at this
      rw [List.getElem?_set_ne (Ne.symm hi)]; exact this
/-! ### Groups -/
structure Grp (s g : List Int) (D : Nat) (m : Int) : Prop where
  v : valid s
  hD : D < s.length
  len : (g.length : Int) = s.getD D 0
  rng : ∀ x ∈ g, 0 ≤ x ∧ x < m
  m1 : 1 ≤ m
  m2 : m ≤ s.getD D 0
def gmI (s g : List Int) (D : Nat) (m : Int) (ix : List Int) : List Int := ix.set D (if ix.getD D 0 = s.getD D 0 then m else g.getD (ix.getD D 0).toNat 0)
section
variable {s g : List Int} {D : Nat} {m : Int}
theorem Grp.sD (h : Grp s g D m) : s[D]? = some (s.getD D 0) := by rw [getD_get h.hD]; exact List.getElem?_eq_getElem h.hD
theorem Grp.valid' (h : Grp s g D m) : valid (s.set D m) := by
  refine ⟨by rw [List.length_set]; exact h.v.1, fun x hx => ?_⟩
  rcases List.mem_or_eq_of_mem_set hx with hx | rfl
  · exact h.v.2 x hx
  · have h1 := h.v.get h.sD
    have h2 := h.m1
    have h3 := h.m2
    omega
theorem Grp.val (h : Grp s g D m) {ix : List Int} (hf : fits s ix) : 0 ≤ (if ix.getD D 0 = s.getD D 0 then m else g.getD (ix.getD D 0).toNat 0) ∧ (if ix.getD D 0 = s.getD D 0 then m else g.getD (ix.getD D 0).toNat 0) ≤ m ∧
    ((if ix.getD D 0 = s.getD D 0 then m else g.getD (ix.getD D 0).toNat 0) < m ↔ ix.getD D 0 < s.getD D 0) := by
  have hl : D < ix.length := by rw [hf.1]; exact h.hD
  have hb := hf.2 D _ ix[D] h.sD (List.getElem?_eq_getElem hl)
  have hm := h.m1
  rw [getD_get hl]
  split
  · rename_i e; refine ⟨by omega, by omega, by omega⟩
  · rename_i e
    have hg : (ix[D]).toNat < g.length := by have := h.len; omega
    have hr := h.rng _ (List.getElem_mem hg)
    rw [getD_get hg]
    refine ⟨hr.1, by omega, by omega⟩
theorem Grp.fits (h : Grp s g D m) {ix : List Int} (hf : fits s ix) : fits (s.set D m) (gmI s g D m ix) := by
  have hv := h.val hf
  refine ⟨by simp only [gmI, List.length_set]; exact hf.1, fun k x y hx hy => ?_⟩
  by_cases e : D = k
  · subst e
    rw [List.getElem?_set_self h.hD] at hx
    simp only [Option.some.injEq] at hx
    subst hx
    have hl : D < ix.length := by rw [hf.1]; exact h.hD
    simp only [gmI] at hy
    rw [List.getElem?_set_self hl] at hy
    simp only [Option.some.injEq] at hy
    subst hy
    exact ⟨hv.1, hv.2.1⟩
  · rw [List.getElem?_set_ne e] at hx
    simp only [gmI] at hy
    rw [List.getElem?_set_ne e] at hy
    exact hf.2 k x y hx hy
/-- A coordinate of the grouped index is a total as the ungrouped one is. -/
theorem Grp.coord (h : Grp s g D m) {ix : List Int} (hf : AS.fits s ix) {d : Nat} {x x' : Int} (hs : s[d]? = some x) (hs' : (s.set D m)[d]? = some x') :
    0 ≤ (gmI s g D m ix).getD d 0 ∧ ((gmI s g D m ix).getD d 0 < x' ↔ ix.getD d 0 < x) ∧ ((gmI s g D m ix).getD d 0 = x' ↔ ix.getD d 0 = x) := by
  have hdl := (List.getElem?_eq_some_iff.1 hs).1
  have hdi : d < ix.length := by rw [hf.1]; exact hdl
  have hb := hf.2 d x ix[d] hs (List.getElem?_eq_getElem hdi)
  have hv := h.val hf
  by_cases e : D = d
  · subst e
    rw [List.getElem?_set_self h.hD] at hs'
    simp only [Option.some.injEq] at hs'
    subst hs'
    have hx : x = s.getD D 0 := by rw [h.sD] at hs; simpa using hs.symm
    subst hx
    have e2 : (gmI s g D m ix).getD D 0 = (if ix.getD D 0 = s.getD D 0 then m else g.getD (ix.getD D 0).toNat 0) := getD_some (List.getElem?_set_self hdi)
    rw [e2]
    rw [getD_get hdi] at hv ⊢
    refine ⟨hv.1, hv.2.2, ?_⟩
    have := hv.2.2
    have := hv.2.1
    omega
  · rw [List.getElem?_set_ne e, hs] at hs'
    simp only [Option.some.injEq] at hs'
    subst hs'
    have e2 : (gmI s g D m ix).getD d 0 = ix.getD d 0 := by
      simp only [gmI, List.getD_eq_getElem?_getD, List.getElem?_set_ne e]
    rw [e2, getD_get hdi]
    exact ⟨hb.1, Iff.rfl, Iff.rfl⟩
theorem Grp.off (h : Grp s g D m) {ix : List Int} (hf : AS.fits s ix) {d : Nat} (hd : d < s.length) (k : Int) : (gmI s g D m (ix.set d k)).set d 0 = (gmI s g D m ix).set d 0 := by
  by_cases e : D = d
  · subst e
    simp only [gmI, List.set_set]
  · have e2 : (ix.set d k).getD D 0 = ix.getD D 0 := by
      simp only [List.getD_eq_getElem?_getD, List.getElem?_set_ne (Ne.symm e)]
    simp only [gmI, e2]
    rw [List.set_comm _ _ (Ne.symm e), List.set_set, List.set_comm _ _ e]
end
def outO (c : XCube) (g : List Int) (D : Nat) (m : Int) (n : Nat) (j : Nat) : Int := sumR n fun i => if atL (c.Sizes.set D m) (gmI c.Sizes g D m (idxL c.Sizes (i : Int))) = (j : Int) then cellAt c (i : Int) else 0
def grpC (c : XCube) (g : List Int) (D : Nat) (m : Int) : XCube := ⟨c.Sizes.set D m, (List.range (vol (c.Sizes.set D m)).toNat).map (outO c g D m c.Cells.length)⟩
theorem grp_cell {c : XCube} {g : List Int} {D : Nat} {m : Int} {p : Int} (h0 : 0 ≤ p) (h1 : p < vol (c.Sizes.set D m)) : cellAt (grpC c g D m) p = outO c g D m c.Cells.length p.toNat := by
  have hl : p.toNat < (vol (c.Sizes.set D m)).toNat := by omega
  simp only [cellAt, grpC]
  rw [List.getD_eq_getElem?_getD, List.getElem?_map, List.getElem?_range hl]; rfl
theorem grp_whole {c : XCube} {g : List Int} {D : Nat} {m : Int} (hc : goodB c = true) (hg : Grp c.Sizes g D m) : Whole (grpC c g D m) := by
  obtain ⟨fc, wc⟩ := goodB_iff.1 hc
  have F := formB_form fc
  have hv := hg.v
  have hv' := hg.valid'
  intro j hj d x' h1 h2
  have hs' : (c.Sizes.set D m)[d]? = some x' := h1
  have hx' : (idxL (c.Sizes.set D m) (j : Int))[d]? = some x' := h2
  have hjv : (j : Int) < vol (c.Sizes.set D m) := by
    have : j < (vol (c.Sizes.set D m)).toNat := by simpa [grpC] using hj
    omega
  have hdl : d < c.Sizes.length := by have := (List.getElem?_eq_some_iff.1 hs').1; simpa using this
  obtain ⟨x, hs⟩ : ∃ x, c.Sizes[d]? = some x := ⟨_, List.getElem?_eq_getElem hdl⟩
  have hxr := hv.get hs
  have hxr' := hv'.get hs'
  -- the index of the cell
  have hfx : fits (c.Sizes.set D m) (idxL (c.Sizes.set D m) (j : Int)) := idxL_fits hv' (by omega)
  have hlx : (idxL (c.Sizes.set D m) (j : Int)).length = c.Sizes.length := by rw [idxL_len]; simp
  have hfi : ∀ i : Nat, fits c.Sizes (idxL c.Sizes (i : Int)) := fun i => idxL_fits hv (by omega)
  have hfu : ∀ i : Nat, fits (c.Sizes.set D m) (gmI c.Sizes g D m (idxL c.Sizes (i : Int))) := fun i => hg.fits (hfi i)
  have hlu : ∀ i : Nat, (gmI c.Sizes g D m (idxL c.Sizes (i : Int))).length = (idxL (c.Sizes.set D m) (j : Int)).length := fun i => by rw [(hfu i).1, hlx]; simp
  obtain ⟨X', rfl⟩ := Int.eq_ofNat_of_zero_le (show 0 ≤ x' by omega)
  obtain ⟨X, rfl⟩ := Int.eq_ofNat_of_zero_le (show 0 ≤ x by omega)
  let P : Nat → Prop := fun i => (gmI c.Sizes g D m (idxL c.Sizes (i : Int))).set d 0 = (idxL (c.Sizes.set D m) (j : Int)).set d 0
  have hdx : (idxL (c.Sizes.set D m) (j : Int)).set d (X' : Int) = idxL (c.Sizes.set D m) (j : Int) := set_same hx'
  -- the right side
  have hR : cellAt (grpC c g D m) (j : Int) = sumR c.Cells.length fun i => if (idxL c.Sizes (i : Int)).getD d 0 = (X : Int) then (if P i then cellAt c (i : Int) else 0) else 0 := by
    rw [grp_cell (by omega) hjv]
    refine sumR_congr fun i _ => ?_
    have hco := hg.coord (hfi i) hs hs'
    have e1 : (atL (c.Sizes.set D m) (gmI c.Sizes g D m (idxL c.Sizes (i : Int))) = (((j : Int).toNat : Nat) : Int)) ↔ (P i ∧ (idxL c.Sizes (i : Int)).getD d 0 = (X : Int)) := by
      have e2 : (((j : Int).toNat : Nat) : Int) = atL (c.Sizes.set D m) (idxL (c.Sizes.set D m) (j : Int)) := by
        rw [atL_idxL hv'.2 (by omega), Int.emod_eq_of_lt (by omega) hjv]; simp
      rw [e2, at_inj hv' (hfu i) hfx]
      rw [← hco.2.2]
      have := set_iff (u := gmI c.Sizes g D m (idxL c.Sizes (i : Int))) (v := idxL (c.Sizes.set D m) (j : Int)) (d := d) (k := (X' : Int)) (hlu i) (by omega)
      rw [hdx] at this
      exact this
    by_cases q1 : P i <;> by_cases q2 : (idxL c.Sizes (i : Int)).getD d 0 = (X : Int)
    · rw [if_pos (e1.2 ⟨q1, q2⟩), if_pos q2, if_pos q1]
    · rw [if_neg (fun h => q2 (e1.1 h).2), if_neg q2]
    · rw [if_neg (fun h => q1 (e1.1 h).1), if_pos q2, if_neg q1]
    · rw [if_neg (fun h => q2 (e1.1 h).2), if_neg q2]
  -- the left side
  have hL : psum (grpC c g D m) (j : Int) d (X' : Int) = sumR c.Cells.length fun i => if (idxL c.Sizes (i : Int)).getD d 0 < (X : Int) then (if P i then cellAt c (i : Int) else 0) else 0 := by
    have e0 : psum (grpC c g D m) (j : Int) d (X' : Int) = sumR X' fun k => cellAt (grpC c g D m) (partF (c.Sizes.set D m) (j : Int) d (X' : Int) k) := by
      simp only [psum, partL, sumR, List.map_map]
      rfl
    rw [e0]
    have e1 : (sumR X' fun k => cellAt (grpC c g D m) (partF (c.Sizes.set D m) (j : Int) d (X' : Int) k)) = sumR X' fun k => sumR c.Cells.length fun i => if gmI c.Sizes g D m (idxL c.Sizes (i : Int)) = (idxL (c.Sizes.set D m) (j : Int)).set d (k : Int) then cellAt c (i : Int) else 0 := by
      refine sumR_congr fun k hk => ?_
      have hb := partF_bd hv' (show (0 : Int) ≤ j by omega) hjv hs' hx' (show (k : Int) ≤ (X' : Int) by omega)
      have ha := partF_at hv' (show (0 : Int) ≤ j by omega) hjv hs' hx' (show (k : Int) ≤ (X' : Int) by omega)
      rw [grp_cell hb.1 (by omega)]
      refine sumR_congr fun i _ => ?_
      have hfk : fits (c.Sizes.set D m) ((idxL (c.Sizes.set D m) (j : Int)).set d (k : Int)) := hfx.set hs' (by omega) (by omega)
      have e2 : (atL (c.Sizes.set D m) (gmI c.Sizes g D m (idxL c.Sizes (i : Int))) = (((partF (c.Sizes.set D m) (j : Int) d (X' : Int) k).toNat : Nat) : Int)) ↔ gmI c.Sizes g D m (idxL c.Sizes (i : Int)) = (idxL (c.Sizes.set D m) (j : Int)).set d (k : Int) := by
        rw [show (((partF (c.Sizes.set D m) (j : Int) d (X' : Int) k).toNat : Nat) : Int) = partF (c.Sizes.set D m) (j : Int) d (X' : Int) k by omega, ← ha.1, at_inj hv' (hfu i) hfk]
      by_cases q : gmI c.Sizes g D m (idxL c.Sizes (i : Int)) = (idxL (c.Sizes.set D m) (j : Int)).set d (k : Int)
      · rw [if_pos (e2.2 q), if_pos q]
      · rw [if_neg (fun h => q (e2.1 h)), if_neg q]
    rw [e1, sumR_swap]
    refine sumR_congr fun i _ => ?_
    have hco := hg.coord (hfi i) hs hs'
    obtain ⟨y, hy⟩ := Int.eq_ofNat_of_zero_le hco.1
    have e3 : ∀ k : Nat, (gmI c.Sizes g D m (idxL c.Sizes (i : Int)) = (idxL (c.Sizes.set D m) (j : Int)).set d (k : Int)) ↔ (P i ∧ k = y) := by
      intro k
      rw [set_iff (hlu i) (by omega), hy]
      constructor
      · rintro ⟨a, b⟩; exact ⟨a, by omega⟩
      · rintro ⟨a, b⟩; exact ⟨a, by omega⟩
    by_cases q : P i
    · have e4 : (sumR X' fun k => if gmI c.Sizes g D m (idxL c.Sizes (i : Int)) = (idxL (c.Sizes.set D m) (j : Int)).set d (k : Int) then cellAt c (i : Int) else 0) = sumR X' fun k => if k = y then cellAt c (i : Int) else 0 := by
        refine sumR_congr fun k _ => ?_
        by_cases hk : k = y
        · rw [if_pos ((e3 k).2 ⟨q, hk⟩), if_pos hk]
        · rw [if_neg (fun h => hk ((e3 k).1 h).2), if_neg hk]
      rw [e4, sumR_one]
      by_cases hlt : y < X'
      · rw [if_pos hlt, if_pos (hco.2.1.1 (by omega)), if_pos q]
      · rw [if_neg hlt, if_neg (fun h => hlt (by have := hco.2.1.2 h; omega))]
    · rw [sumR_nil fun k _ => if_neg fun h => q ((e3 k).1 h).1, if_neg q, ite_self]
  rw [hL, hR]
  -- one coordinate, summed up
  obtain ⟨H, hH⟩ := vol_head c.Sizes d (by omega)
  have hw := vol_bd (hv.drop (d + 1))
  have hvd := vol_drop hdl
  have hsd : c.Sizes[d] = (X : Int) := by have := (List.getElem?_eq_some_iff.1 hs).2; exact this
  have hvb := vol_bd hv
  have hvb2 := vol_bd (hv.drop d)
  obtain ⟨w, hwN⟩ := Int.eq_ofNat_of_zero_le (show 0 ≤ vol (c.Sizes.drop (d + 1)) by omega)
  have hH0 : 0 ≤ H := by
    rcases Int.lt_or_le H 0 with q | q
    · have : H * vol (c.Sizes.drop d) ≤ (-1) * vol (c.Sizes.drop d) := Int.mul_le_mul_of_nonneg_right (by omega) (by omega)
      omega
    · exact q
  obtain ⟨HN, rfl⟩ := Int.eq_ofNat_of_zero_le hH0
  have hn : c.Cells.length = HN * ((X + 1) * w) := by
    have h3 := F.n
    rw [hH, hvd, hsd, hwN] at h3
    have : ((HN * ((X + 1) * w) : Nat) : Int) = (HN : Int) * (((X : Int) + 1) * (w : Int)) := by push_cast; rfl
    omega
  have hco : ∀ i : Nat, (idxL c.Sizes (i : Int)).getD d 0 = (((i / w) % (X + 1) : Nat) : Int) := by
    intro i
    have hdi : d < (idxL c.Sizes (i : Int)).length := by rw [idxL_len]; exact hdl
    rw [getD_get hdi, idxL_get c.Sizes (i : Int) d hdl, hsd, hwN]
    push_cast; rfl
  have hL2 : (sumR c.Cells.length fun i => if (idxL c.Sizes (i : Int)).getD d 0 < (X : Int) then (if P i then cellAt c (i : Int) else 0) else 0) = sumR (HN * ((X + 1) * w)) fun i => if (i / w) % (X + 1) < X then (if P i then cellAt c (i : Int) else 0) else 0 := by
    rw [hn]
    refine sumR_congr fun i _ => ?_
    rw [hco i]
    by_cases q : (i / w) % (X + 1) < X
    · rw [if_pos q, if_pos (by omega)]
    · rw [if_neg q, if_neg (by omega)]
  rw [hL2, reindex (by omega), hn]
  refine sumR_congr fun i hi => ?_
  rw [hco i]
  by_cases q : (i / w) % (X + 1) = X
  · rw [if_pos q, if_pos (by omega)]
    have hiv : (i : Int) < vol c.Sizes := by have := F.n; omega
    have hdi : d < (idxL c.Sizes (i : Int)).length := by rw [idxL_len]; exact hdl
    have hxi : (idxL c.Sizes (i : Int))[d]? = some (X : Int) := by
      have := hco i
      rw [getD_get hdi, q] at this
      rw [List.getElem?_eq_getElem hdi, this]
    have hpart : ∀ k : Nat, k < X → (((i - (X - k) * w : Nat) : Int) = partF c.Sizes (i : Int) d (X : Int) k) := by
      intro k hk
      have hb := partF_bd hv (show (0 : Int) ≤ i by omega) hiv hs hxi (show (k : Int) ≤ (X : Int) by omega)
      unfold partF at hb ⊢
      rw [hwN] at hb ⊢
      have : (((X - k) * w : Nat) : Int) = ((X : Int) - (k : Int)) * (w : Int) := by
        rw [Int.natCast_mul, Int.natCast_sub (by omega)]
      omega
    have hPk : ∀ k : Nat, k < X → (P (i - (X - k) * w) ↔ P i) := by
      intro k hk
      have ha := partF_at hv (show (0 : Int) ≤ i by omega) hiv hs hxi (show (k : Int) ≤ (X : Int) by omega)
      show (gmI c.Sizes g D m (idxL c.Sizes ((i - (X - k) * w : Nat) : Int))).set d 0 = _ ↔ _
      rw [hpart k hk, ha.2, hg.off (hfi i) hdl]
    by_cases hp : P i
    · rw [if_pos hp]
      have hw2 := wc i (by omega) d (X : Int) hs hxi
      rw [← hw2]
      simp only [psum, partL, sumR, List.map_map]
      congr 1
      apply List.map_congr_left
      intro k hk
      have hk' : k < X := by simpa using hk
      rw [if_pos ((hPk k hk').2 hp), hpart k hk']
      rfl
    · rw [if_neg hp]
      exact sumR_nil fun k hk => if_neg fun h => hp ((hPk k hk).1 h)
  · rw [if_neg q, if_neg (by omega)]
end AS
