/- Plain lemmas, and the law. No condition. -/
import Derived.Test.YtjikhkfmddflhaaQMendDataS
set_option linter.unusedVariables false
set_option linter.unusedSimpArgs false
namespace AS
section
variable {R σ α β : Type}
theorem FUEL_big {n : Nat} (h : n ≤ 4611686018427387904) : n < FUEL := Nat.lt_of_le_of_lt h (by decide +kernel)
/-- A loop that counts. -/
theorem loop_up {body : (σ → Option R) → σ → Option R} (n : Nat) (S : Nat → σ) (G : Nat → Option R) (hn : n ≤ 4611686018427387904)
    (hs : ∀ next k, k < n → next (S (k + 1)) = G (k + 1) → body next (S k) = G k) (he : ∀ next, body next (S n) = G n) : loopF body FUEL (S 0) = G 0 := by
  have key : ∀ d k, k + d = n → ∀ m, d < m → loopF body m (S k) = G k := by
    intro d
    induction d with
    | zero => intro k hk m hm; obtain ⟨m, rfl⟩ := Nat.exists_eq_succ_of_ne_zero (by omega : m ≠ 0); simp only [loopF]; rw [show k = n by omega]; exact he _
    | succ d ih =>
      intro k hk m hm
      obtain ⟨m, rfl⟩ := Nat.exists_eq_succ_of_ne_zero (by omega : m ≠ 0)
      simp only [loopF]
      exact hs _ k (by omega) (ih (k + 1) (by omega) m (by omega))
  exact key n 0 (by omega) FUEL (FUEL_big hn)
/-- A range that only goes on. -/
theorem range_all {body : Nat → α → σ → (σ → Option R) → Option R} {fin : σ → Option R} {l : List α} {G : List α → Nat → σ → Option R}
    (h0 : ∀ k s, G [] k s = fin s) (hs : ∀ x l k s next, (∀ s', next s' = G l (k + 1) s') → body k x s next = G (x :: l) k s) : ∀ k s, rangeF body fin l k s = G l k s := by
  induction l with
  | nil => intro k s; simp only [rangeF, h0]
  | cons x l ih => intro k s; simp only [rangeF]; exact hs x l k s _ fun s' => ih (k + 1) s'
/-- A range with what is known of the elements. -/
theorem range_mem {body : Nat → α → σ → (σ → Option R) → Option R} {fin : σ → Option R} {l : List α} (I : Nat → σ → Prop) {G : List α → Nat → σ → Option R}
    (h0 : ∀ k s, I k s → k = l.length → fin s = G [] k s) (hs : ∀ x l' k s next, l[k]? = some x → l.drop k = x :: l' → I k s → (∀ s', I (k + 1) s' → next s' = G l' (k + 1) s') → body k x s next = G (x :: l') k s) :
    ∀ s, I 0 s → rangeF body fin l 0 s = G l 0 s := by
  have key : ∀ d k s, k + d = l.length → I k s → rangeF body fin (l.drop k) k s = G (l.drop k) k s := by
    intro d
    induction d with
    | zero =>
      intro k s hk hi
      rw [List.drop_of_length_le (by omega)]
      exact h0 k s hi (by omega)
    | succ d ih =>
      intro k s hk hi
      have hlt : k < l.length := by omega
      rw [List.drop_eq_getElem_cons hlt]
      simp only [rangeF]
      refine hs _ _ k s _ (List.getElem?_eq_getElem hlt) (List.drop_eq_getElem_cons hlt) hi fun s' hs' => ih (k + 1) s' (by omega) hs'
  intro s hi
  have := key l.length 0 s (by omega) hi
  simpa using this
theorem getO_some {l : List α} {k : Nat} {x : α} {f : α → Option R} (h : l[k]? = some x) : getO l (k : Int) f = f x := by simp [getO, h]
theorem ckI_succ {n : Nat} {f : Option R} (h : n ≤ 4611686018427387904) : ckI ((n : Int) + 1) f = f := ckI_pos (by omega) (by omega)
theorem lt_dec {k n : Nat} (h : k < n) : decide ((k : Int) < (n : Int)) = true := by simp [h]
theorem lt_self (n : Nat) : decide ((n : Int) < (n : Int)) = false := by simp
theorem cast_succ (k : Nat) : ((k + 1 : Nat) : Int) = (k : Int) + 1 := rfl
/-! ### One list into another, cell by cell -/
def mixL (a b : List α) (k : Nat) : List α := a.take k ++ b.drop k
theorem mixL_zero (a b : List α) : mixL a b 0 = b := by simp [mixL]
theorem mixL_end {a b : List α} (h : a.length = b.length) : mixL a b a.length = a := by simp [mixL, ← h]
theorem mixL_len {a b : List α} (h : a.length = b.length) (k : Nat) : (mixL a b k).length = b.length := by simp [mixL]; omega
theorem mixL_get {a b : List α} (h : a.length = b.length) {k : Nat} (hk : k < b.length) : (mixL a b k)[k]? = some b[k] := by
  simp only [mixL]
  rw [List.getElem?_append_right (by simp; omega)]
  simp [show min k a.length = k by omega, hk]
theorem mixL_set {a b : List α} (h : a.length = b.length) {k : Nat} (hk : k < a.length) : (mixL a b k).set k a[k] = mixL a b (k + 1) := by
  apply List.ext_getElem?
  intro i
  simp only [mixL]
  by_cases hi : i = k
  · subst hi
    rw [List.getElem?_set_self (by simp; omega), List.getElem?_append_left (by simp; omega), List.getElem?_take_of_lt (by omega)]
    rw [List.getElem?_eq_getElem (by omega)]
  · rw [List.getElem?_set_ne (Ne.symm hi)]
    simp only [List.getElem?_append, List.length_take, List.getElem?_take, List.getElem?_drop]
    by_cases h1 : i < k
    · simp [show i < min k a.length by omega, show i < min (k+1) a.length by omega, h1, show i < k + 1 by omega]
    · simp only [show ¬ i < min k a.length by omega, show ¬ i < min (k+1) a.length by omega, if_false]
      congr 1; omega
/-! ### The marks -/
def mks (n : Int) (m : Nat) : List Int := (List.range m).map fun (i : Nat) => n + (i : Int)
theorem mks_len (n : Int) (m : Nat) : (mks n m).length = m := by simp [mks]
theorem mks_get (n : Int) {m k : Nat} (h : k < m) : (mks n m)[k]'(by rw [mks_len]; exact h) = n + k := by simp [mks]
end
end AS
namespace AS
theorem toIntS_eq {l : List Int} (h : l.length ≤ 1048576) : sh_laws_toIntS l = some l := by
  unfold sh_laws_toIntS
  rw [mkO_pos (by omega) (by omega)]
  refine (loop_up l.length (fun k => (mixL l (List.replicate l.length 0) k, (k : Int))) (fun _ => some l) (by omega) ?_ ?_)
  · intro next k hk hn
    simp only [lt_dec hk, if_true]
    rw [getO_nat hk, getO_some (mixL_get (by simp) (by simpa using hk)), ckI_succ (by omega)]
    simp only [Int.toNat_natCast, mixL_set (b := List.replicate l.length 0) (by simp) hk]
    exact hn
  · intro next
    simp only [lt_self]
    simp [mixL_end (a := l) (b := List.replicate l.length 0) (by simp)]
theorem eqIntS_eq {a b : List Int} (h : a.length ≤ 1099511627776) : sh_laws_eqIntS a b = some (decide (a = b)) := by
  unfold sh_laws_eqIntS
  by_cases hl : a.length = b.length
  · simp only [hl, ne_eq, not_true_eq_false, decide_false, Bool.false_eq_true, if_false]
    refine (loop_up b.length (fun k => (k : Int)) (fun k => some (decide (a.drop k = b.drop k))) (by omega) ?_ ?_).trans (by simp)
    · intro next k hk hn
      have hk' : k < a.length := by omega
      simp only [lt_dec hk, if_true]
      rw [getO_nat hk', getO_nat hk, ckI_succ (by omega)]
      rw [List.drop_eq_getElem_cons hk', List.drop_eq_getElem_cons hk]
      by_cases e : a[k] = b[k]
      · simp only [e, not_true_eq_false, decide_false, Bool.false_eq_true, if_false, List.cons.injEq, true_and]
        exact hn
      · simp only [ne_eq, e, not_false_eq_true, decide_true, if_true, List.cons.injEq, false_and, decide_false]
    · intro next
      simp only [lt_self]
      simp [List.drop_of_length_le (Nat.le_refl _), List.drop_of_length_le (show a.length ≤ b.length by omega)]
  · have : ¬ (a = b) := fun e => hl (by rw [e])
    have h2 : ¬ ((a.length : Int) = (b.length : Int)) := by omega
    simp [this, h2]
theorem markIntS_eq {l : List Int} {n : Int} (h0 : 0 ≤ n) (h : n + l.length ≤ 4611686018427387904) : sh_laws_markIntS l n = some (mks n l.length, n + l.length) := by
  unfold sh_laws_markIntS
  have e0 : ((l, n, (0 : Int)) : List Int × Int × Int) = (fun k : Nat => (mixL (mks n l.length) l k, n + (k : Int), (k : Int))) 0 := by simp [mixL_zero]
  rw [e0]
  refine (loop_up l.length (fun k : Nat => (mixL (mks n l.length) l k, n + (k : Int), (k : Int))) (fun _ => some (mks n l.length, n + l.length)) (by omega) ?_ ?_)
  · intro next k hk hn
    have hm : k < (mks n l.length).length := by rw [mks_len]; exact hk
    simp only [mixL_len (mks_len n l.length), lt_dec hk, if_true]
    rw [getO_some (mixL_get (mks_len n l.length) hk), ckI_pos (by omega) (by omega), ckI_succ (by omega)]
    simp only [Int.toNat_natCast]
    rw [← mks_get n hk, mixL_set (mks_len n l.length) hm, ← hn, mks_get n hk]
    simp only [cast_succ, Int.add_assoc]
  · intro next
    simp only [mixL_len (mks_len n l.length), lt_self]
    have := mixL_end (mks_len n l.length)
    rw [mks_len] at this
    simp [this]
theorem heldIntS_eq {m : Nat} {n : Int} (h0 : 0 ≤ n) (h : n + m ≤ 4611686018427387904) : sh_laws_heldIntS (mks n m) n = some (n + m) := by
  unfold sh_laws_heldIntS
  have e0 : ((n, (0 : Int)) : Int × Int) = (fun k : Nat => (n + (k : Int), (k : Int))) 0 := by simp
  rw [e0]
  refine (loop_up m (fun k : Nat => (n + (k : Int), (k : Int))) (fun _ => some (n + m)) (by omega) ?_ ?_)
  · intro next k hk hn
    have hm : k < (mks n m).length := by rw [mks_len]; exact hk
    simp only [mks_len, lt_dec hk, if_true]
    rw [getO_nat hm, mks_get n hk, ckI_pos (by omega) (by omega), ckI_succ (by omega)]
    simp only [ne_eq, not_true_eq_false, decide_false, Bool.false_eq_true, if_false]
    rw [← hn]; simp only [cast_succ, Int.add_assoc]
  · intro next
    simp only [mks_len, lt_self]
    simp
theorem l1In_eq (x lo hi : Int) : sh_spec_l1In x lo hi = some (decide (lo ≤ x) && decide (x ≤ hi)) := by
  unfold sh_spec_l1In
  by_cases h : lo ≤ x <;> simp [h]
theorem l1All_eq (l : List Int) (lo hi : Int) : sh_spec_l1All l lo hi = some (l.all fun x => decide (lo ≤ x) && decide (x ≤ hi)) := by
  unfold sh_spec_l1All
  refine range_all (G := fun l _ _ => some (l.all fun x => decide (lo ≤ x) && decide (x ≤ hi))) (fun _ _ => rfl) ?_ 0 ()
  intro x l k s next ih
  simp only [l1In_eq, Option.bind_some, ih, List.all_cons]
  cases (decide (lo ≤ x) && decide (x ≤ hi)) <;> simp
theorem l1Own_eq {l : List Int} (h : l.length ≤ 1099511627776) : sh_spec_l1Own l = some l := by
  unfold sh_spec_l1Own
  rw [lnO_pos (by simpa using h)]; rfl
theorem Clone_eq {l : List Int} (h : l.length ≤ 1099511627776) : sh_slices_Clone_int l = some l := by
  unfold sh_slices_Clone_int
  cases l with
  | nil => rfl
  | cons x l => simp [nilO]; exact lnO_pos h
/-! ### AddCells -/
end AS
namespace AS
theorem loop_down {R σ : Type} {body : (σ → Option R) → σ → Option R} (n : Nat) (S : Nat → σ) (G : Nat → Option R) (hn : n ≤ 4611686018427387904)
    (hs : ∀ next k, k < n → next (S k) = G k → body next (S (k + 1)) = G (k + 1)) (he : ∀ next, body next (S 0) = G 0) : loopF body FUEL (S n) = G n := by
  have := loop_up (body := body) n (fun j => S (n - j)) (fun j => G (n - j)) hn (fun next k hk hx => by
    have e : n - k = (n - (k + 1)) + 1 := by omega
    rw [e]; exact hs next (n - (k + 1)) (by omega) hx) (fun next => by
    simp only [Nat.sub_self]; exact he next)
  simpa using this
theorem mixL_setD {α : Type} {a b : List α} (h : a.length = b.length) {k : Nat} (hk : k < b.length) : (mixL a b (k + 1)).set k b[k] = mixL a b k := by
  apply List.ext_getElem?
  intro i
  simp only [mixL]
  by_cases hi : i = k
  · subst hi
    rw [List.getElem?_set_self (by simp; omega), List.getElem?_append_right (by simp; omega)]
    simp [show min i a.length = i by omega, hk]
  · rw [List.getElem?_set_ne (Ne.symm hi)]
    simp only [List.getElem?_append, List.length_take, List.getElem?_take, List.getElem?_drop]
    by_cases h1 : i < k
    · simp [show i < min k a.length by omega, show i < min (k+1) a.length by omega, h1, show i < k + 1 by omega]
    · simp only [show ¬ i < min k a.length by omega, show ¬ i < min (k+1) a.length by omega, if_false]
      congr 1; omega
theorem mixL_getD {α : Type} {a b : List α} (h : a.length = b.length) {k : Nat} (hk : k < a.length) : (mixL a b (k + 1))[k]? = some a[k] := by
  simp only [mixL]
  rw [List.getElem?_append_left (by simp; omega), List.getElem?_take_of_lt (by omega), List.getElem?_eq_getElem hk]
def valid (s : List Int) : Prop := s.length ≤ 4 ∧ ∀ x ∈ s, 1 ≤ x ∧ x ≤ 30
theorem valid.drop {s : List Int} (h : valid s) (k : Nat) : valid (s.drop k) := ⟨by have := h.1; simp; omega, fun y hy => h.2 y (List.mem_of_mem_drop hy)⟩
theorem valid.get {s : List Int} (h : valid s) {k : Nat} {x : Int} (hx : s[k]? = some x) : 1 ≤ x ∧ x ≤ 30 := h.2 x (List.mem_of_getElem? hx)
/-! ### How many cells -/
/-! ### Strides -/
/-! ### Indices -/
/-! ### Cells -/
/-- Indices that fit sizes. -/
def fits (s ix : List Int) : Prop := ix.length = s.length ∧ ∀ (k : Nat) (x y : Int), s[k]? = some x → ix[k]? = some y → 0 ≤ y ∧ y ≤ x
theorem fits.set {s ix : List Int} (h : fits s ix) {d : Nat} {x y : Int} (hx : s[d]? = some x) (h0 : 0 ≤ y) (h1 : y ≤ x) : fits s (ix.set d y) := by
  refine ⟨by rw [List.length_set]; exact h.1, fun k x' y' hx' hy' => ?_⟩
  by_cases e : d = k
  · subst e
    rw [hx] at hx'; cases hx'
    have hk : d < ix.length := by rw [h.1]; exact (List.getElem?_eq_some_iff.1 hx).1
    rw [List.getElem?_set_self hk] at hy'; cases hy'
    exact ⟨h0, h1⟩
  · rw [List.getElem?_set_ne e] at hy'
    exact h.2 k x' y' hx' hy'
end AS
namespace AS
section
variable {α : Type}
theorem to_loop {f : α → Option α} {z : α} {l : List α} (hl : l.length ≤ 1099511627776) (hf : ∀ x ∈ l, f x = some x) :
    mkO (l.length : Int) (loopF (fun (nx : (List α × Int) → Option (List α)) (s : List α × Int) =>
      (if (decide (s.2 < (l.length : Int))) = true then
        getO l s.2 fun x => (f x).bind fun y => getO s.1 s.2 fun _ => ckI (s.2 + (1 : Int)) <| nx ((s.1.set (s.2).toNat y), (s.2 + (1 : Int)))
      else some s.1)) FUEL ((List.replicate ((l.length : Int)).toNat z), (0 : Int))) = some l := by
  rw [mkO_pos (by omega) (by omega)]
  refine (loop_up l.length (fun k => (mixL l (List.replicate l.length z) k, (k : Int))) (fun _ => some l) (by omega) ?_ ?_)
  · intro next k hk hn
    simp only [lt_dec hk, if_true]
    rw [getO_nat hk, hf _ (List.getElem_mem hk), Option.bind_some, getO_some (mixL_get (by simp) (by simpa using hk)), ckI_succ (by omega)]
    simp only [Int.toNat_natCast, mixL_set (b := List.replicate l.length z) (by simp) hk]
    exact hn
  · intro next
    simp only [lt_self]
    simp [mixL_end (a := l) (b := List.replicate l.length z) (by simp)]
theorem eq_loop [DecidableEq α] {f : α → α → Option Bool} {a b : List α} (h : a.length ≤ 1099511627776) (hf : ∀ x ∈ a, ∀ y, f x y = some (decide (x = y))) :
    (if (decide ((a.length : Int) ≠ (b.length : Int))) = true then some false else
      loopF (fun (nx : Int → Option Bool) (s : Int) =>
        (if (decide (s < (a.length : Int))) = true then
          getO a s fun x => getO b s fun y => (f x y).bind fun r => (if (!r) = true then some false else ckI (s + (1 : Int)) <| nx (s + (1 : Int)))
        else some true)) FUEL (0 : Int)) = some (decide (a = b)) := by
  by_cases hl : a.length = b.length
  · simp only [hl, ne_eq, not_true_eq_false, decide_false, Bool.false_eq_true, if_false]
    refine (loop_up b.length (fun k => (k : Int)) (fun k => some (decide (a.drop k = b.drop k))) (by omega) ?_ ?_).trans (by simp)
    · intro next k hk hn
      have hk' : k < a.length := by omega
      simp only [lt_dec hk, if_true]
      rw [getO_nat hk', getO_nat hk, ckI_succ (by omega), hf _ (List.getElem_mem hk'), Option.bind_some]
      rw [List.drop_eq_getElem_cons hk', List.drop_eq_getElem_cons hk]
      by_cases e : a[k] = b[k]
      · simp only [e, decide_true, Bool.not_true, Bool.false_eq_true, if_false, List.cons.injEq, true_and]
        exact hn
      · simp only [e, decide_false, Bool.not_false, if_true, List.cons.injEq, false_and]
    · intro next
      simp only [lt_self]
      simp [List.drop_of_length_le (Nat.le_refl _), List.drop_of_length_le (show a.length ≤ b.length by omega)]
  · have : ¬ (a = b) := fun e => hl (by rw [e])
    have h2 : ¬ ((a.length : Int) = (b.length : Int)) := by omega
    simp [this, h2]
/-- The sum of a measure. -/
def sumL (sz : α → Nat) (l : List α) : Nat := (l.map sz).sum
theorem sumL_cons (sz : α → Nat) (x : α) (l : List α) : sumL sz (x :: l) = sz x + sumL sz l := by simp [sumL]
theorem sumL_take (sz : α → Nat) {l : List α} {k : Nat} (h : k < l.length) : sumL sz (l.take (k + 1)) = sumL sz (l.take k) + sz l[k] := by
  simp only [sumL, List.take_add_one, List.map_append, List.sum_append, List.getElem?_eq_getElem h, Option.toList, List.map_cons, List.map_nil, List.sum_cons, List.sum_nil, Nat.add_zero]
theorem sumL_take_le (sz : α → Nat) (l : List α) (k : Nat) : sumL sz (l.take k) ≤ sumL sz l := by
  have h := congrArg (fun l => (l.map sz).sum) (List.take_append_drop k l)
  simp only [List.map_append, List.sum_append] at h
  simp only [sumL]; omega
theorem sumL_mem (sz : α → Nat) {l : List α} {x : α} (h : x ∈ l) : sz x ≤ sumL sz l := by
  induction l with
  | nil => cases h
  | cons y l ih =>
    rw [sumL_cons]
    rcases List.mem_cons.1 h with rfl | h
    · omega
    · have := ih h; omega
/-- The marks on a list, element by element. -/
def mkL (mk : α → Int → α) (sz : α → Nat) : List α → Int → List α
  | [], _ => []
  | x :: l, n => mk x n :: mkL mk sz l (n + sz x)
theorem mkL_len (mk : α → Int → α) (sz : α → Nat) : ∀ (l : List α) (n : Int), (mkL mk sz l n).length = l.length
  | [], _ => rfl
  | x :: l, n => by simp [mkL, mkL_len mk sz l]
theorem mkL_get (mk : α → Int → α) (sz : α → Nat) : ∀ (l : List α) (n : Int) (k : Nat) (h : k < l.length), (mkL mk sz l n)[k]'(by rw [mkL_len]; exact h) = mk l[k] (n + (sumL sz (l.take k) : Nat))
  | x :: l, n, 0, _ => by simp [mkL, sumL]
  | x :: l, n, k + 1, h => by
    simp only [mkL, List.getElem_cons_succ, List.take_succ_cons, sumL_cons]
    rw [mkL_get mk sz l (n + sz x) k (by simpa using h)]
    congr 1
    omega
/-- What is left of an allowance. -/
def left (a : Int) (n : Nat) : Int := if (n : Int) ≤ a then a - n else -1
theorem left_pos {a : Int} {n : Nat} (h : (n : Int) ≤ a) : left a n = a - n := if_pos h
theorem sz_loop {sz : α → Nat} {f : α → Int → Option Int} {l : List α} {a : Int} (h0 : 0 ≤ a) (h1 : a ≤ 1048576) (hl : l.length ≤ 9223372036854775807)
    (hf : ∀ x ∈ l, ∀ m : Int, 0 ≤ m → m ≤ 1048576 → f x m = some (left m (sz x))) :
    (ckI (a - (l.length : Int)) <| (if (decide ((a - (l.length : Int)) < (0 : Int))) = true then some (-1 : Int) else
      loopF (fun (nx : (Int × Int) → Option Int) (s : Int × Int) =>
        (if (decide (s.2 < (l.length : Int))) = true then
          getO l s.2 fun x => (f x s.1).bind fun r => (if (decide (r < (0 : Int))) = true then some (-1 : Int) else ckI (s.2 + (1 : Int)) <| nx (r, (s.2 + (1 : Int))))
        else some s.1)) FUEL ((a - (l.length : Int)), (0 : Int)))) = some (left a (l.length + sumL sz l)) := by
  · rw [ckI_pos (by omega) (by omega)]
    by_cases hn : a - (l.length : Int) < 0
    · simp only [hn, decide_true, if_true, left, show ¬ (((l.length + sumL sz l : Nat) : Int) ≤ a) by omega, if_false]
    · have hbig : l.length ≤ 4611686018427387904 := by omega
      simp only [hn, decide_false, Bool.false_eq_true, if_false]
      -- the first element too large decides
      have key : ∀ d k, k + d = l.length → ∀ m, d < m → ((l.length + sumL sz (l.take k) : Nat) : Int) ≤ a →
          loopF (fun (nx : (Int × Int) → Option Int) (s : Int × Int) =>
            (if (decide (s.2 < (l.length : Int))) = true then
              getO l s.2 fun x => (f x s.1).bind fun r => (if (decide (r < (0 : Int))) = true then some (-1 : Int) else ckI (s.2 + (1 : Int)) <| nx (r, (s.2 + (1 : Int))))
            else some s.1)) m ((a - (l.length : Int) - (sumL sz (l.take k) : Nat)), (k : Int)) = some (AS.left a (l.length + sumL sz l)) := by
        intro d
        induction d with
        | zero =>
          intro k hk m hm hle
          obtain ⟨m, rfl⟩ := Nat.exists_eq_succ_of_ne_zero (by omega : m ≠ 0)
          have e : k = l.length := by omega
          subst e
          simp only [loopF, lt_self, Bool.false_eq_true, if_false, List.take_length] at hle ⊢
          rw [left_pos hle]
          congr 1; omega
        | succ d ih =>
          intro k hk m hm hle
          obtain ⟨m, rfl⟩ := Nat.exists_eq_succ_of_ne_zero (by omega : m ≠ 0)
          have hlt : k < l.length := by omega
          simp only [loopF, lt_dec hlt, if_true]
          rw [getO_nat hlt, hf _ (List.getElem_mem hlt) _ (by omega) (by omega), Option.bind_some]
          by_cases hs : ((sz l[k] : Nat) : Int) ≤ a - (l.length : Int) - (sumL sz (l.take k) : Nat)
          · rw [left_pos hs, ckI_succ (by omega)]
            simp only [show ¬ (a - (l.length : Int) - (sumL sz (l.take k) : Nat) - (sz l[k] : Nat) < 0) by omega, decide_false, Bool.false_eq_true, if_false]
            have := ih (k + 1) (by omega) m (by omega) (by rw [sumL_take sz hlt]; omega)
            rw [sumL_take sz hlt] at this
            rw [← this]
            congr 2
            omega
          · have h2 : AS.left (a - (l.length : Int) - (sumL sz (l.take k) : Nat)) (sz l[k]) = -1 := if_neg hs
            rw [h2]
            have h3 := sumL_take_le sz l (k + 1)
            rw [sumL_take sz hlt] at h3
            simp only [show ((-1 : Int) < 0) = True by simp, decide_true, if_true, AS.left, show ¬ (((l.length + sumL sz l : Nat) : Int) ≤ a) by omega, if_false]
      have := key l.length 0 (by omega) FUEL (FUEL_big hbig) (by simp [sumL]; omega)
      simpa [sumL] using this
end
end AS
namespace AS
theorem range_map_succ {α : Type} (f : Nat → α) (k : Nat) : (List.range (k + 1)).map f = (List.range k).map f ++ [f k] := by
  rw [List.range_succ, List.map_append]; rfl
end AS
namespace AS
theorem szIntS_eq {l : List Int} {a : Int} (h0 : 0 ≤ a) (h1 : a ≤ 1048576) (hl : l.length ≤ 9223372036854775807) : sh_laws_szIntS l a = some (left a l.length) := by
  unfold sh_laws_szIntS
  rw [ckI_pos (by omega) (by omega)]
  unfold left
  by_cases h : a - (l.length : Int) < 0
  · simp [h, show ¬ ((l.length : Int) ≤ a) by omega]
  · simp [h, show ((l.length : Int) ≤ a) by omega]
theorem left_no {a : Int} {m : Nat} (h : ¬ (m : Int) ≤ a) : left a m = -1 := if_neg h
theorem XCube.ext' {a b : XCube} (h1 : a.Sizes = b.Sizes) (h2 : a.Cells = b.Cells) : a = b := by cases a; cases b; simp_all
/-! ### Right form -/
/-! ### The first break -/
def sumI : List Int → Int
  | [] => 0
  | x :: l => x + sumI l
theorem sumI_append : ∀ (a b : List Int), sumI (a ++ b) = sumI a + sumI b
  | [], b => by simp [sumI]
  | x :: a, b => by simp only [List.cons_append, sumI, sumI_append a b]; omega
end AS
namespace AS
/-! ### The law's own functions on variables -/
def bulkV (v : XVariable) : Nat := v.Name.length
theorem szVariable_eq {v : XVariable} {a : Int} (h0 : 0 ≤ a) (h1 : a ≤ 1048576) (hb : Bd.bd v) : sh_laws_szVariable v a = some (left a (bulkV v)) := by
  unfold sh_laws_szVariable
  have hl : v.Name.length ≤ 9223372036854775807 := hb.1.1
  rw [ckI_pos (by omega) (by omega)]
  unfold left bulkV
  by_cases h : a - (v.Name.length : Int) < 0
  · simp [h, show ¬ ((v.Name.length : Int) ≤ a) by omega]
  · simp [h, show ((v.Name.length : Int) ≤ a) by omega]
def bulkVS (s : List XVariable) : Nat := s.length + sumL bulkV s
theorem szVariableS_eq {s : List XVariable} {a : Int} (h0 : 0 ≤ a) (h1 : a ≤ 1048576) (hb : Bd.bd s) : sh_laws_szVariableS s a = some (left a (bulkVS s)) := by
  unfold sh_laws_szVariableS
  exact sz_loop h0 h1 hb.1 fun x hx m hm hm2 => szVariable_eq hm hm2 (hb.2 x hx)
theorem toVariable_eq (v : XVariable) : sh_laws_toVariable v = some v := rfl
theorem toVariableS_eq {s : List XVariable} (h : bulkVS s ≤ 1048576) : sh_laws_toVariableS s = some s := by
  unfold sh_laws_toVariableS
  exact to_loop (by unfold bulkVS at h; omega) fun x _ => toVariable_eq x
theorem XVariable.ext' {a b : XVariable} (h1 : a.Name = b.Name) (h2 : a.Levels = b.Levels) : a = b := by cases a; cases b; simp_all
theorem eqVariable_eq (a b : XVariable) : sh_laws_eqVariable a b = some (decide (a = b)) := by
  unfold sh_laws_eqVariable
  by_cases h1 : a.Name = b.Name
  · by_cases h2 : a.Levels = b.Levels
    · simp [h1, h2, XVariable.ext' h1 h2]
    · simp [h1, h2, show ¬ a = b from fun e => h2 (by rw [e])]
  · simp [h1, show ¬ a = b from fun e => h1 (by rw [e])]
theorem eqVariableS_eq {a b : List XVariable} (h : bulkVS a ≤ 1048576) : sh_laws_eqVariableS a b = some (decide (a = b)) := by
  unfold sh_laws_eqVariableS
  exact eq_loop (by unfold bulkVS at h; omega) fun x _ y => eqVariable_eq x y
/-! ### Schemas -/
def lowB (n : List UInt8) : Bool := n.all fun c => decide ((97 : Int) ≤ (c.toNat : Int)) && decide ((c.toNat : Int) ≤ 122)
def wordB (n : List UInt8) : Bool := lowB n && (decide (1 ≤ n.length) && decide (n.length ≤ 8))
theorem sName_eq {n : List UInt8} (h : n.length ≤ 1099511627776) : sh_spec_sName n = some (wordB n) := by
  unfold sh_spec_sName
  refine (loop_up n.length (fun k => (k : Int)) (fun k => some (lowB (n.drop k) && (decide (1 ≤ n.length) && decide (n.length ≤ 8)))) (by omega) ?_ ?_).trans (by simp [wordB])
  · intro next k hk hn
    simp only [lt_dec hk, if_true]
    rw [getO_nat hk, List.drop_eq_getElem_cons hk]
    by_cases h1 : (n[k].toNat : Int) < 97
    · simp only [h1, decide_true, if_true, lowB, List.all_cons, show decide ((97 : Int) ≤ (n[k].toNat : Int)) = false by (simp only [decide_eq_false_iff_not]; omega), Bool.false_and]
    · by_cases h2 : (122 : Int) < (n[k].toNat : Int)
      · simp only [h1, h2, decide_true, decide_false, Bool.false_eq_true, if_false, if_true, lowB, List.all_cons, show decide ((n[k].toNat : Int) ≤ 122) = false by (simp only [decide_eq_false_iff_not]; omega), Bool.and_false, Bool.false_and]
      · simp only [h1, h2, decide_false, Bool.false_eq_true, if_false]
        rw [ckI_succ (by omega)]
        refine hn.trans ?_
        have : (decide ((97 : Int) ≤ (n[k].toNat : Int)) && decide ((n[k].toNat : Int) ≤ 122)) = true := by simp only [Bool.and_eq_true, decide_eq_true_eq]; omega
        simp only [lowB, List.all_cons, this, Bool.true_and]
  · intro next
    simp only [lt_self, Bool.false_eq_true, if_false, l1In_eq, Option.bind_some, List.drop_length, lowB, List.all_nil, Bool.true_and, Option.some.injEq]
    congr 1 <;> (congr 1; apply propext; omega)
theorem isWord_eq (n : List UInt8) : sh_impl_isWord n = some (wordB n) := by
  unfold sh_impl_isWord
  by_cases h1 : (n.length : Int) < 1
  · simp [h1, wordB, show ¬ (1 ≤ n.length) by omega]
  · by_cases h2 : (8 : Int) < (n.length : Int)
    · simp [h1, h2, wordB, show ¬ (n.length ≤ 8) by omega]
    · simp only [h1, h2, decide_false, Bool.false_eq_true, if_false]
      refine (range_all (G := fun l _ _ => some (lowB l)) (fun _ _ => rfl) ?_ 0 ()).trans (by simp only [wordB, show decide (1 ≤ n.length) = true by (simp; omega), show decide (n.length ≤ 8) = true by (simp; omega), Bool.and_true])
      intro x l k s next ih
      simp only [ih, lowB, List.all_cons]
      by_cases h3 : (x.toNat : Int) < 97
      · simp [h3, show ¬ (97 ≤ (x.toNat : Int)) by omega]
      · by_cases h4 : (122 : Int) < (x.toNat : Int)
        · simp [h3, h4, show ¬ ((x.toNat : Int) ≤ 122) by omega]
        · have : (decide ((97 : Int) ≤ (x.toNat : Int)) && decide ((x.toNat : Int) ≤ 122)) = true := by simp only [Bool.and_eq_true, decide_eq_true_eq]; omega
          simp only [h3, h4, decide_false, Bool.false_eq_true, if_false, this, Bool.true_and]
def hasName (l : List XVariable) (n : List UInt8) : Bool := l.any fun v => decide (v.Name = n)
def findI : List XVariable → List UInt8 → Nat → Int
  | [], _, _ => -1
  | v :: l, n, k => if v.Name = n then k else findI l n (k + 1)
theorem findI_nonneg : ∀ (l : List XVariable) (n : List UInt8) (k : Nat), decide (0 ≤ findI l n k) = hasName l n
  | [], _, _ => rfl
  | v :: l, n, k => by
    simp only [findI, hasName, List.any_cons]
    by_cases h : v.Name = n
    · simp [h]
    · simp only [h, if_false, decide_false, Bool.false_or]; exact findI_nonneg l n (k + 1)
theorem sFind_eq (l : List XVariable) (n : List UInt8) : sh_spec_sFind l n = some (findI l n 0) := by
  unfold sh_spec_sFind
  refine range_all (G := fun l k _ => some (findI l n k)) (fun _ _ => rfl) ?_ 0 ()
  intro x l k s next ih
  simp only [ih, findI]
  by_cases h : x.Name = n <;> simp [h]
def levB (v : XVariable) : Bool := decide (2 ≤ v.Levels) && decide (v.Levels ≤ 8)
def schFrom (s : List XVariable) : List XVariable → Nat → Bool
  | [], _ => true
  | v :: l, k => wordB v.Name && (levB v && (!(hasName (s.take k) v.Name) && schFrom s l (k + 1)))
def schB (s : List XVariable) : Bool := decide (1 ≤ s.length) && decide (s.length ≤ 6) && schFrom s s 0
theorem sGood_eq {s : List XVariable} (h : ∀ v ∈ s, v.Name.length ≤ 1099511627776) : sh_spec_sGood s = some (schB s) := by
  unfold sh_spec_sGood
  rw [l1In_eq, Option.bind_some]
  have e : (decide ((1 : Int) ≤ (s.length : Int)) && decide ((s.length : Int) ≤ 6)) = (decide (1 ≤ s.length) && decide (s.length ≤ 6)) := by
    congr 1 <;> (congr 1; apply propext; omega)
  rw [e]
  cases h1 : (decide (1 ≤ s.length) && decide (s.length ≤ 6)) with
  | false => simp [schB, h1]
  | true =>
    simp only [Bool.not_true, Bool.false_eq_true, if_false]
    refine (range_mem (I := fun _ _ => True) (G := fun l k _ => some (schFrom s l k)) (fun _ _ _ _ => rfl) ?_ () trivial).trans (by simp [schB, h1])
    intro x l' k u next hx _ _ hn
    have hk := (List.getElem?_eq_some_iff.1 hx).1
    rw [sName_eq (h x (List.mem_of_getElem? hx)), Option.bind_some, l1In_eq, Option.bind_some]
    have e2 : (decide ((2 : Int) ≤ x.Levels) && decide (x.Levels ≤ 8)) = levB x := rfl
    simp only [e2, schFrom]
    cases wordB x.Name with
    | false => rfl
    | true =>
      cases levB x with
      | false => rfl
      | true =>
        simp only [Bool.not_true, Bool.false_eq_true, if_false, Bool.true_and]
        rw [ck_pos (by simp; omega), sFind_eq, Option.bind_some, findI_nonneg]
        simp only [Int.toNat_natCast, List.drop_zero]
        cases hasName (s.take k) x.Name with
        | true => rfl
        | false => simp only [Bool.false_eq_true, if_false, Bool.not_false, Bool.true_and]; exact hn () trivial
theorem isSchema_eq (s : List XVariable) : sh_impl_IsSchema s = some (schB s) := by
  unfold sh_impl_IsSchema
  by_cases h1 : (s.length : Int) < 1
  · simp [h1, schB, show ¬ (1 ≤ s.length) by omega]
  · by_cases h2 : (6 : Int) < (s.length : Int)
    · simp [h1, h2, schB, show ¬ (s.length ≤ 6) by omega]
    · have e : (decide (1 ≤ s.length) && decide (s.length ≤ 6)) = true := by simp; omega
      simp only [h1, h2, decide_false, Bool.false_eq_true, if_false]
      refine (range_mem (I := fun _ _ => True) (G := fun l k _ => some (schFrom s l k)) (fun _ _ _ _ => rfl) ?_ () trivial).trans (by simp only [schB, e, Bool.true_and])
      intro x l' k u next hx _ _ hn
      have hk := (List.getElem?_eq_some_iff.1 hx).1
      rw [isWord_eq, Option.bind_some]
      simp only [schFrom]
      cases wordB x.Name with
      | false => rfl
      | true =>
        simp only [Bool.not_true, Bool.false_eq_true, if_false, Bool.true_and]
        by_cases h3 : x.Levels < 2
        · simp [h3, levB, show ¬ (2 ≤ x.Levels) by omega]
        · by_cases h4 : 8 < x.Levels
          · simp [h3, h4, levB, show ¬ (x.Levels ≤ 8) by omega]
          · have : levB x = true := by simp [levB]; omega
            simp only [h3, h4, decide_false, Bool.false_eq_true, if_false, this, Bool.true_and]
            rw [ck_pos (by simp; omega)]
            simp only [Int.toNat_natCast, List.drop_zero]
            have hn' := hn () trivial
            refine range_all (G := fun l _ _ => some (!(hasName l x.Name) && schFrom s l' (k + 1))) (fun _ _ => by simp only [hasName, List.any_nil, Bool.not_false, Bool.true_and]; exact hn'.symm) ?_ 0 ()
            intro y l2 j u2 next2 ih
            simp only [ih, hasName, List.any_cons]
            by_cases h5 : y.Name = x.Name <;> simp [h5]
theorem schFrom_lev {s : List XVariable} : ∀ {l : List XVariable} {k : Nat}, schFrom s l k = true → ∀ v ∈ l, 2 ≤ v.Levels ∧ v.Levels ≤ 8
  | [], _, _, v, hv => by simp at hv
  | x :: l, k, h, v, hv => by
    simp only [schFrom, Bool.and_eq_true] at h
    rcases List.mem_cons.1 hv with rfl | hv
    · have := h.2.1; simpa [levB] using this
    · exact schFrom_lev h.2.2.2 v hv
theorem schB_lev {s : List XVariable} (h : schB s = true) {v : XVariable} (hv : v ∈ s) : 2 ≤ v.Levels ∧ v.Levels ≤ 8 := by
  simp only [schB, Bool.and_eq_true] at h
  exact schFrom_lev h.2 v hv
theorem schB_len {s : List XVariable} (h : schB s = true) : 1 ≤ s.length ∧ s.length ≤ 6 := by
  simp only [schB, Bool.and_eq_true, decide_eq_true_eq] at h
  exact h.1
/-! ### Weights, values, costs -/
def wgtB (s : List XVariable) (w : List Int) : Bool := decide (w.length = s.length) && w.all fun x => decide (1 ≤ x) && decide (x ≤ 100)
theorem iWeights_eq (s : List XVariable) (w : List Int) : sh_spec_iWeights s w = some (wgtB s w) := by
  unfold sh_spec_iWeights
  by_cases h : w.length = s.length
  · simp [h, wgtB, l1All_eq]
  · simp [h, wgtB, show ¬ ((w.length : Int) = (s.length : Int)) by omega]
theorem areWeights_eq (s : List XVariable) (w : List Int) : sh_impl_areWeights s w = some (wgtB s w) := by
  unfold sh_impl_areWeights
  by_cases h : w.length = s.length
  · simp only [show decide ((w.length : Int) ≠ (s.length : Int)) = false by simp [h], Bool.false_eq_true, if_false]
    refine (range_all (G := fun l _ _ => some (l.all fun x => decide (1 ≤ x) && decide (x ≤ 100))) (fun _ _ => rfl) ?_ 0 ()).trans (by simp [wgtB, h])
    intro x l k u next ih
    simp only [ih, List.all_cons]
    by_cases h1 : x < 1
    · simp [h1, show ¬ (1 ≤ x) by omega]
    · by_cases h2 : 100 < x
      · simp [h1, h2, show ¬ (x ≤ 100) by omega]
      · simp [h1, h2, show (1 ≤ x) by omega, show x ≤ 100 by omega]
  · simp [h, wgtB, show ¬ ((w.length : Int) = (s.length : Int)) by omega]
def valF : List XVariable → List Int → Bool
  | v :: s, x :: a => decide (0 ≤ x) && decide (x < v.Levels) && valF s a
  | _, _ => true
def valB (s : List XVariable) (a : List Int) : Bool := decide (a.length = s.length) && valF s a
theorem sFits_eq {s : List XVariable} {a : List Int} (hs : schB s = true) : sh_spec_sFits s a = some (valB s a) := by
  unfold sh_spec_sFits
  by_cases h : a.length = s.length
  · simp only [show decide ((a.length : Int) ≠ (s.length : Int)) = false by simp [h], Bool.false_eq_true, if_false]
    refine (range_mem (I := fun _ _ => True) (G := fun l k _ => some (valF l (a.drop k))) ?_ ?_ () trivial).trans (by simp [valB, h])
    · intro k u _ _; simp [valF]
    · intro x l' k u next hx _ _ hn
      have hk := (List.getElem?_eq_some_iff.1 hx).1
      have hka : k < a.length := by omega
      have hl := schB_lev hs (List.mem_of_getElem? hx)
      rw [getO_nat hka, ckI_pos (by omega) (by omega), l1In_eq, Option.bind_some, List.drop_eq_getElem_cons hka]
      simp only [valF]
      have e : (decide (0 ≤ a[k]) && decide (a[k] ≤ x.Levels - 1)) = (decide (0 ≤ a[k]) && decide (a[k] < x.Levels)) := by
        congr 2; apply propext; omega
      rw [e]
      cases (decide (0 ≤ a[k]) && decide (a[k] < x.Levels)) with
      | false => simp
      | true => simp only [Bool.not_true, Bool.false_eq_true, if_false, Bool.true_and]; exact hn () trivial
  · simp [h, valB, show ¬ ((a.length : Int) = (s.length : Int)) by omega]
theorem areValues_eq (s : List XVariable) (a : List Int) : sh_impl_areValues s a = some (valB s a) := by
  unfold sh_impl_areValues
  by_cases h : a.length = s.length
  · simp only [show decide ((a.length : Int) ≠ (s.length : Int)) = false by simp [h], Bool.false_eq_true, if_false]
    refine (range_mem (I := fun _ _ => True) (G := fun l k _ => some (valF (s.drop k) l)) ?_ ?_ () trivial).trans (by simp [valB, h])
    · intro k u _ _; cases s.drop k <;> simp [valF]
    · intro x l' k u next hx _ _ hn
      have hk := (List.getElem?_eq_some_iff.1 hx).1
      have hks : k < s.length := by omega
      rw [getO_nat hks, List.drop_eq_getElem_cons hks]
      simp only [valF]
      by_cases h1 : x < 0
      · simp [h1, show ¬ (0 ≤ x) by omega]
      · by_cases h2 : s[k].Levels ≤ x
        · simp [h1, h2, show ¬ (x < s[k].Levels) by omega]
        · simp only [h1, h2, decide_false, Bool.false_eq_true, if_false, show decide (0 ≤ x) = true by (simp; omega), show decide (x < s[k].Levels) = true by (simp; omega), Bool.true_and]
          exact hn () trivial
  · simp [h, valB, show ¬ ((a.length : Int) = (s.length : Int)) by omega]
def costF : List Int → List Int → List Int → Int
  | x :: a, y :: b, w :: ws => (if x ≠ y then w else 0) + costF a b ws
  | _, _, _ => 0
theorem names_of_bulk {s : List XVariable} (h : bulkVS s ≤ 1048576) : ∀ v ∈ s, v.Name.length ≤ 1099511627776 := by
  intro v hv
  have : v.Name.length ≤ sumL bulkV s := sumL_mem bulkV hv
  unfold bulkVS at h
  omega
end AS
namespace AS
section
variable {R σ α β : Type}
/-- Some elements of a list, each with what is made of it. -/
def selF (c : Nat → α → Bool) (f : Nat → α → β) : List α → Nat → List β
  | [], _ => []
  | x :: l, k => if c k x = true then f k x :: selF c f l (k + 1) else selF c f l (k + 1)
theorem selF_mem {c : Nat → α → Bool} {f : Nat → α → β} : ∀ {l : List α} {k : Nat} {y : β}, y ∈ selF c f l k → ∃ j x, l[j]? = some x ∧ c (k + j) x = true ∧ y = f (k + j) x
  | [], _, _, h => by simp [selF] at h
  | x :: l, k, y, h => by
    simp only [selF] at h
    have rec' : y ∈ selF c f l (k + 1) → ∃ j x', (x :: l)[j]? = some x' ∧ c (k + j) x' = true ∧ y = f (k + j) x' := fun h => by
      obtain ⟨j, x', h1, h2, h3⟩ := selF_mem h
      rw [show k + 1 + j = k + (j + 1) by omega] at h2 h3
      exact ⟨j + 1, x', by simpa using h1, h2, h3⟩
    split at h
    · rename_i hc
      rcases List.mem_cons.1 h with rfl | h
      · exact ⟨0, x, rfl, hc, rfl⟩
      · exact rec' h
    · exact rec' h
theorem mem_selF {c : Nat → α → Bool} {f : Nat → α → β} : ∀ {l : List α} {k j : Nat} {x : α}, l[j]? = some x → c (k + j) x = true → f (k + j) x ∈ selF c f l k
  | [], _, _, _, h, _ => by simp at h
  | y :: l, k, 0, x, h, hc => by
    simp only [List.getElem?_cons_zero, Option.some.injEq] at h
    subst h
    simp only [selF, Nat.add_zero] at hc ⊢
    rw [if_pos hc]; exact List.mem_cons_self
  | y :: l, k, j + 1, x, h, hc => by
    have := mem_selF (c := c) (f := f) (l := l) (k := k + 1) (j := j) (x := x) (by simpa using h) (by rw [show k + 1 + j = k + (j + 1) by omega]; exact hc)
    rw [show k + 1 + j = k + (j + 1) by omega] at this
    simp only [selF]
    split
    · exact List.mem_cons_of_mem _ this
    · exact this
theorem range_sel {body : Nat → α → List β → (List β → Option R) → Option R} {fin : List β → Option R} {l : List α} {init : List β} (c : Nat → α → Bool) (f : Nat → α → β)
    (hs : ∀ x k s next, l[k]? = some x → s.length ≤ init.length + k → body k x s next = next (if c k x = true then s ++ [f k x] else s)) : rangeF body fin l 0 init = fin (init ++ selF c f l 0) := by
  refine (range_mem (I := fun k s => s.length ≤ init.length + k) (G := fun l' k s => fin (s ++ selF c f l' k)) ?_ ?_ init (by omega))
  · intro k s _ _; simp [selF]
  · intro x l' k s next hx _ hI hn
    rw [hs x k s next hx hI]
    by_cases h : c k x = true
    · simp only [h, if_true, selF]
      rw [hn _ (by simp; omega)]; simp
    · simp only [h, Bool.false_eq_true, if_false, selF]
      exact hn _ (by omega)
/-- Is there an element? -/
def anyF (c : Nat → α → Bool) : List α → Nat → Bool
  | [], _ => false
  | x :: l, k => c k x || anyF c l (k + 1)
theorem anyF_iff {c : Nat → α → Bool} : ∀ {l : List α} {k : Nat}, anyF c l k = true ↔ ∃ j x, l[j]? = some x ∧ c (k + j) x = true
  | [], k => by simp [anyF]
  | x :: l, k => by
    simp only [anyF, Bool.or_eq_true, anyF_iff (l := l)]
    constructor
    · rintro (h | ⟨j, y, h1, h2⟩)
      · exact ⟨0, x, rfl, h⟩
      · exact ⟨j + 1, y, by simpa using h1, by rw [show k + (j + 1) = k + 1 + j by omega]; exact h2⟩
    · rintro ⟨j, y, h1, h2⟩
      cases j with
      | zero => simp only [List.getElem?_cons_zero, Option.some.injEq] at h1; subst h1; exact .inl h2
      | succ j => exact .inr ⟨j, y, by simpa using h1, by rw [show k + 1 + j = k + (j + 1) by omega]; exact h2⟩
theorem range_any {body : Nat → α → Unit → (Unit → Option R) → Option R} {fin : Unit → Option R} {l : List α} (c : Nat → α → Bool) (r : Option R)
    (hs : ∀ x k next, l[k]? = some x → body k x () next = (if c k x = true then r else next ())) : rangeF body fin l 0 () = (if anyF c l 0 = true then r else fin ()) := by
  refine (range_mem (I := fun _ _ => True) (G := fun l' k _ => if anyF c l' k = true then r else fin ()) ?_ ?_ () trivial)
  · intro k s _ _; simp [anyF]
  · intro x l' k s next hx _ _ hn
    rw [hs x k next hx]
    by_cases h : c k x = true
    · simp [h, anyF]
    · have h' : c k x = false := by simpa using h
      simp only [h', anyF, Bool.false_or, Bool.false_eq_true, if_false]; exact hn _ trivial
/-- A loop with all answers known: it adds up. -/
def foldF (f : Nat → α → σ → σ) : List α → Nat → σ → σ
  | [], _, s => s
  | x :: l, k, s => foldF f l (k + 1) (f k x s)
theorem range_fold {body : Nat → α → σ → (σ → Option R) → Option R} {fin : σ → Option R} {l : List α} {init : σ} (I : Nat → σ → Prop) (f : Nat → α → σ → σ) (h0 : I 0 init)
    (hI : ∀ x k s, l[k]? = some x → I k s → I (k + 1) (f k x s)) (hs : ∀ x k s next, l[k]? = some x → I k s → body k x s next = next (f k x s)) : rangeF body fin l 0 init = fin (foldF f l 0 init) := by
  refine (range_mem (I := I) (G := fun l' k s => fin (foldF f l' k s)) ?_ ?_ init h0)
  · intro k s _ _; rfl
  · intro x l' k s next hx _ hi hn
    rw [hs x k s next hx hi]
    exact hn _ (hI x k s hx hi)
end
end AS
namespace AS
theorem sz_end {a : Int} {n : Nat} : (if (decide (left a n < (0 : Int))) = true then some (-1 : Int) else some (left a n)) = some (left a n) := by
  by_cases h : (n : Int) ≤ a
  · rw [left_pos h]; simp [show ¬ (a - (n : Int) < 0) by omega]
  · rw [left_no h]; rfl
theorem getO_set {R α : Type} {l : List α} {k : Nat} {x : α} {f : α → Option R} (h : k < l.length) : getO (l.set k x) (k : Int) f = f x := getO_some (by rw [List.getElem?_set_self h])
theorem mark_loop2 {α : Type} {mk : α → Int → α} {sz : α → Nat} {body : ((List α × Int × Int) → Option (List α × Int)) → (List α × Int × Int) → Option (List α × Int)} {l : List α} {n : Int} (B : Int) (hB : B ≤ 4611686018427387904) (hl : l.length ≤ 1099511627776) (h0 : 0 ≤ n) (h : n + (sumL sz l : Nat) ≤ B)
    (hb : ∀ nx (s : List α) (m : Int) (k : Nat) (x : α), k < s.length → s.length = l.length → s[k]? = some x → 0 ≤ m → m + sz x ≤ B → body nx (s, m, (k : Int)) = nx (s.set k (mk x m), m + sz x, (k : Int) + 1))
    (he : ∀ nx (s : List α) (m : Int), body nx (s, m, (s.length : Int)) = some (s, m)) :
    loopF body FUEL (l, n, (0 : Int)) = some (mkL mk sz l n, n + (sumL sz l : Nat)) := by
  have e0 : ((l, n, (0 : Int)) : List α × Int × Int) = (fun k : Nat => (mixL (mkL mk sz l n) l k, n + (sumL sz (l.take k) : Nat), (k : Int))) 0 := by simp [mixL_zero, sumL]
  rw [e0]
  refine (loop_up l.length (fun k : Nat => (mixL (mkL mk sz l n) l k, n + (sumL sz (l.take k) : Nat), (k : Int))) (fun _ => some (mkL mk sz l n, n + (sumL sz l : Nat))) (by omega) ?_ ?_)
  · intro next k hk hn
    have hlen := mkL_len mk sz l n
    have hm : k < (mkL mk sz l n).length := by rw [hlen]; exact hk
    have h1 := sumL_take_le sz l (k + 1)
    rw [sumL_take sz hk] at h1 hn
    have hmix := mixL_len hlen k
    rw [hb next _ _ k l[k] (by rw [hmix]; exact hk) hmix (mixL_get hlen hk) (by omega) (by omega)]
    rw [← mkL_get mk sz l n k hk, mixL_set hlen hm, ← hn]
    simp only [cast_succ, Int.add_assoc, Int.natCast_add]
  · intro next
    have hlen := mkL_len mk sz l n
    have := mixL_end hlen
    rw [hlen] at this
    rw [this]
    have h2 := he next (mkL mk sz l n) (n + (sumL sz (l.take l.length) : Nat))
    rw [hlen] at h2
    rw [h2]; simp
theorem held_loop2 {α : Type} {mk : α → Int → α} {sz : α → Nat} {body : ((Int × Int) → Option Int) → (Int × Int) → Option Int} {l : List α} {n : Int} (B : Int) (hB : B ≤ 4611686018427387904) (hl : l.length ≤ 1099511627776) (h0 : 0 ≤ n) (h : n + (sumL sz l : Nat) ≤ B)
    (hb : ∀ nx (m : Int) (k : Nat) (x : α), k < l.length → (mkL mk sz l n)[k]? = some (mk x m) → x ∈ l → 0 ≤ m → m + sz x ≤ B → body nx (m, (k : Int)) = nx (m + sz x, (k : Int) + 1))
    (he : ∀ nx (m : Int), body nx (m, (l.length : Int)) = some m) :
    loopF body FUEL (n, (0 : Int)) = some (n + (sumL sz l : Nat)) := by
  have e0 : ((n, (0 : Int)) : Int × Int) = (fun k : Nat => (n + (sumL sz (l.take k) : Nat), (k : Int))) 0 := by simp [sumL]
  rw [e0]
  refine (loop_up l.length (fun k : Nat => (n + (sumL sz (l.take k) : Nat), (k : Int))) (fun _ => some (n + (sumL sz l : Nat))) (by omega) ?_ ?_)
  · intro next k hk hn
    have hlen := mkL_len mk sz l n
    have hm : k < (mkL mk sz l n).length := by rw [hlen]; exact hk
    have h1 := sumL_take_le sz l (k + 1)
    rw [sumL_take sz hk] at h1 hn
    rw [hb next _ k l[k] hk (by rw [List.getElem?_eq_getElem hm, mkL_get mk sz l n k hk]) (List.getElem_mem hk) (by omega) (by omega)]
    rw [← hn]
    simp only [cast_succ, Int.add_assoc, Int.natCast_add]
  · intro next
    rw [he next]; simp
/-! ### Geographies -/
/-! ### Tables -/
/-! ### Records -/
def bulkR (r : XRecord) : Nat := r.Values.length
theorem szRecord_eq {r : XRecord} {a : Int} (h0 : 0 ≤ a) (h1 : a ≤ 1048576) (hb : Bd.bd r) : sh_laws_szRecord r a = some (left a (bulkR r)) := by
  unfold sh_laws_szRecord
  obtain ⟨_, _, hv⟩ := hb
  rw [szIntS_eq h0 h1 hv.1, Option.bind_some]
  exact sz_end
theorem toRecord_eq {r : XRecord} (h : bulkR r ≤ 1048576) : sh_laws_toRecord r = some r := by
  unfold sh_laws_toRecord; unfold bulkR at h
  rw [toIntS_eq h, Option.bind_some]
theorem eqRecord_eq {a b : XRecord} (h : bulkR a ≤ 1048576) : sh_laws_eqRecord a b = some (decide (a = b)) := by
  unfold sh_laws_eqRecord; unfold bulkR at h
  simp only [eqIntS_eq (a := a.Values) (b := b.Values) (by omega), Option.bind_some]
  cases a; cases b; simp only [XRecord.mk.injEq]
  rename_i l1 v1 w1 l2 v2 w2
  by_cases h1 : l1 = l2 <;> by_cases h2 : v1 = v2 <;> by_cases h3 : w1 = w2 <;> simp [h1, h2, h3]
def bulkRS (l : List XRecord) : Nat := l.length + sumL bulkR l
theorem szRecordS_eq {l : List XRecord} {a : Int} (h0 : 0 ≤ a) (h1 : a ≤ 1048576) (hb : Bd.bd l) : sh_laws_szRecordS l a = some (left a (bulkRS l)) := by
  unfold sh_laws_szRecordS
  exact sz_loop h0 h1 hb.1 fun x hx m hm hm2 => szRecord_eq hm hm2 (hb.2 x hx)
theorem bulkR_mem {l : List XRecord} {t : XRecord} (h : t ∈ l) : bulkR t ≤ bulkRS l := by
  have := sumL_mem bulkR h; unfold bulkRS; omega
theorem toRecordS_eq {l : List XRecord} (h : bulkRS l ≤ 1048576) : sh_laws_toRecordS l = some l := by
  unfold sh_laws_toRecordS
  exact to_loop (by unfold bulkRS at h; omega) fun x hx => toRecord_eq (by have := bulkR_mem hx; omega)
theorem eqRecordS_eq {a b : List XRecord} (h : bulkRS a ≤ 1048576) : sh_laws_eqRecordS a b = some (decide (a = b)) := by
  unfold sh_laws_eqRecordS
  exact eq_loop (by unfold bulkRS at h; omega) fun x hx y => eqRecord_eq (by have := bulkR_mem hx; omega)
def mkER (r : XRecord) (n : Int) : XRecord := ⟨n, n + 1, mks (n + 1 + 1) r.Values.length⟩
def szER (r : XRecord) : Nat := bulkR r + 2
def marksRS (l : List XRecord) : Nat := sumL szER l
theorem marksRS_le : ∀ (l : List XRecord), marksRS l ≤ 2 * bulkRS l
  | [] => by simp [marksRS, sumL, bulkRS]
  | t :: l => by
    have := marksRS_le l
    simp only [marksRS, bulkRS, sumL_cons, List.length_cons, szER] at this ⊢
    omega
theorem markRecordS_eq {l : List XRecord} {n : Int} (hl : l.length ≤ 1099511627776) (h0 : 0 ≤ n) (h : n + marksRS l ≤ 4611686018427387904) : sh_laws_markRecordS l n = some (mkL mkER szER l n, n + marksRS l) := by
  unfold sh_laws_markRecordS
  refine mark_loop2 (mk := mkER) (sz := szER) 4611686018427387904 (by omega) hl h0 h ?_ ?_
  · intro nx s m k x hk hs hx hm hB
    unfold szER bulkR at hB
    simp only [lt_dec hk, if_true, Int.toNat_natCast]
    rw [getO_some hx, ckI_pos (by omega) (by omega), getO_set hk]
    simp only [List.set_set]
    rw [ckI_pos (by omega) (by omega), getO_set hk]
    simp only
    rw [markIntS_eq (by omega) (by omega), Option.bind_some]
    simp only
    rw [ckI_succ (by omega)]
    congr 1
    simp only [mkER, szER, bulkR, Prod.mk.injEq, and_true, true_and]
    omega
  · intro nx s m
    simp only [lt_self, Bool.false_eq_true, if_false]
theorem heldRecordS_eq {l : List XRecord} {n : Int} (hl : l.length ≤ 1099511627776) (h0 : 0 ≤ n) (h : n + marksRS l ≤ 4611686018427387904) : sh_laws_heldRecordS (mkL mkER szER l n) n = some (n + marksRS l) := by
  unfold sh_laws_heldRecordS
  refine held_loop2 (mk := mkER) (sz := szER) (l := l) 4611686018427387904 (by omega) hl h0 h ?_ ?_
  · intro nx m k x hk hx _ hm hB
    unfold szER bulkR at hB
    simp only [mkL_len, lt_dec hk, if_true]
    rw [getO_some hx]
    simp only [mkER, ne_eq, not_true_eq_false, decide_false, Bool.false_eq_true, if_false]
    rw [ckI_pos (by omega) (by omega), ckI_pos (by omega) (by omega), heldIntS_eq (by omega) (by omega), Option.bind_some]
    simp only [show ¬ (m + 1 + 1 + (x.Values.length : Int) < 0) by omega, decide_false, Bool.false_eq_true, if_false]
    rw [ckI_succ (by omega)]
    congr 1
    simp only [szER, bulkR, Prod.mk.injEq, and_true]
    omega
  · intro nx m
    simp only [mkL_len, lt_self, Bool.false_eq_true, if_false]
/-! ### Variables: marks -/
theorem markText_some {n : Int} (h0 : 0 ≤ n) (h1 : n ≤ 1000000000) : ∃ r, sh_laws_markText n = some r := by
  unfold sh_laws_markText
  by_cases hn : n ≤ 0
  · exact ⟨[109, 48], by simp [hn]⟩
  · simp only [hn, decide_false, Bool.false_eq_true, if_false]
    suffices H : ∀ (k : Nat) (m : Int) (t : List UInt8), 0 ≤ m → m < k → m + t.length ≤ 1000000000 → ∃ r, loopF (fun (nx : (Int × (List UInt8)) → Option (List UInt8)) (s : (Int × (List UInt8))) =>
        (if (decide ((0 : Int) < s.1)) = true then
          ck ((10 : Int) ≠ 0) <| ckI ((48 : Int) + (s.1.tmod (10 : Int))) <| ckU ((48 : Int) + (s.1.tmod (10 : Int))) <|
          ck ([((48 : Int) + (s.1.tmod (10 : Int)))] = (bytesOf [((48 : Int) + (s.1.tmod (10 : Int)))]).map fun b => ((b.toNat : Nat) : Int)) <|
          lnO ((bytesOf [((48 : Int) + (s.1.tmod (10 : Int)))]).length + s.2.length) <| ck ((10 : Int) ≠ 0) <| ckI (s.1.tdiv (10 : Int)) <|
          nx ((s.1.tdiv (10 : Int)), ((bytesOf [((48 : Int) + (s.1.tmod (10 : Int)))]) ++ s.2))
        else lnO (([109] : List UInt8).length + s.2.length) <| some (([109] : List UInt8) ++ s.2))) k (m, t) = some r by
      have hF : (1000000001 : Nat) ≤ FUEL := by decide +kernel
      obtain ⟨d, hd⟩ := Nat.exists_eq_add_of_le hF
      have := H FUEL n [] h0 (by omega) (by simpa using h1)
      exact this
    intro k
    induction k with
    | zero => intro m t h0 h1; omega
    | succ k ih =>
      intro m t h0 h1 h2
      simp only [loopF]
      by_cases hm : 0 < m
      · simp only [hm, decide_true, if_true]
        have e1 : m.tmod 10 = m % 10 := Int.tmod_eq_emod_of_nonneg h0
        have e2 : m.tdiv 10 = m / 10 := Int.tdiv_eq_ediv_of_nonneg h0
        rw [e1, e2, ck_pos (by decide), ckI_pos (by omega) (by omega), ckU_pos (by omega) (by omega), ck_pos, lnO_pos (by simp [bytesOf]; omega), ck_pos (by decide), ckI_pos (by omega) (by omega)]
        · exact ih _ _ (by omega) (by omega) (by simp [bytesOf]; omega)
        · simp only [bytesOf, List.map_cons, List.map_nil, UInt8.toNat_ofNat', List.cons.injEq, and_true]
          omega
      · simp only [hm, decide_false, Bool.false_eq_true, if_false]
        rw [lnO_pos (by simp; omega)]
        exact ⟨_, rfl⟩
def mt (n : Int) : List UInt8 := (sh_laws_markText n).getD []
theorem markText_eq {n : Int} (h0 : 0 ≤ n) (h1 : n ≤ 1000000000) : sh_laws_markText n = some (mt n) := by
  obtain ⟨r, hr⟩ := markText_some h0 h1
  unfold mt; rw [hr]; rfl
def mkEV (v : XVariable) (n : Int) : XVariable := ⟨mt n, n + 1⟩
def marksVS (l : List XVariable) : Nat := sumL (fun _ => 2) l
theorem marksVS_le : ∀ (l : List XVariable), marksVS l ≤ 2 * l.length
  | [] => by simp [marksVS, sumL]
  | t :: l => by
    have := marksVS_le l
    simp only [marksVS, sumL_cons, List.length_cons] at this ⊢
    omega
theorem markVariableS_eq {l : List XVariable} {n : Int} (hl : l.length ≤ 1099511627776) (h0 : 0 ≤ n) (h : n + marksVS l ≤ 1000000000) : sh_laws_markVariableS l n = some (mkL mkEV (fun _ => 2) l n, n + marksVS l) := by
  unfold sh_laws_markVariableS
  refine mark_loop2 (mk := mkEV) (sz := fun _ => 2) 1000000000 (by omega) hl h0 h ?_ ?_
  · intro nx s m k x hk hs hx hm hB
    simp only [lt_dec hk, if_true, Int.toNat_natCast]
    rw [markText_eq hm (by omega), Option.bind_some, getO_some hx, ckI_pos (by omega) (by omega), getO_set hk]
    simp only [List.set_set]
    rw [ckI_pos (by omega) (by omega), ckI_succ (by omega)]
    congr 1
    simp only [mkEV, Prod.mk.injEq, and_true, true_and]
    omega
  · intro nx s m
    simp only [lt_self, Bool.false_eq_true, if_false]
end AS
namespace AS
/-! ### MarginOf -/
def risB (n : Int) : Int → List Int → Bool
  | _, [] => true
  | a, x :: l => decide (a < x) && (decide (x < n) && risB n x l)
end AS
namespace AS
theorem ckK_u64 {R : Type} {n : Int} {f : Option R} (h0 : 0 ≤ n) (h1 : n ≤ 18446744073709551615) : ckK .u64 n f = f := if_pos ⟨h0, h1⟩
theorem ckK_i64 {R : Type} {n : Int} {f : Option R} (h0 : -9223372036854775808 ≤ n) (h1 : n ≤ 9223372036854775807) : ckK .i64 n f = f := if_pos ⟨h0, h1⟩
theorem getD_get {α : Type} {l : List α} {k : Nat} {d : α} (h : k < l.length) : l.getD k d = l[k] := by simp [List.getD_eq_getElem?_getD, h]
theorem not_anyF {α : Type} {c : Nat → α → Bool} {l : List α} (h : (!anyF c l 0) = true) {k : Nat} {x : α} (hx : l[k]? = some x) : c k x = false := by
  cases hc : c k x with
  | false => rfl
  | true =>
    have : anyF c l 0 = true := anyF_iff.2 ⟨k, x, hx, by simpa using hc⟩
    rw [this] at h; cases h
theorem if_not {b : Bool} : (if b = true then some false else some true) = some (!b) := by cases b <;> rfl
/-! ### Sets of levels -/
def full (v : XVariable) : Int := 2 ^ v.Levels.toNat - 1
theorem pow_bd {v : XVariable} (h : 2 ≤ v.Levels ∧ v.Levels ≤ 8) : (4 : Int) ≤ 2 ^ v.Levels.toNat ∧ (2 : Int) ^ v.Levels.toNat ≤ 256 := by
  have : v.Levels.toNat = 2 ∨ v.Levels.toNat = 3 ∨ v.Levels.toNat = 4 ∨ v.Levels.toNat = 5 ∨ v.Levels.toNat = 6 ∨ v.Levels.toNat = 7 ∨ v.Levels.toNat = 8 := by omega
  rcases this with h | h | h | h | h | h | h <;> rw [h] <;> decide
theorem full_bd {v : XVariable} (h : 2 ≤ v.Levels ∧ v.Levels ≤ 8) : 3 ≤ full v ∧ full v ≤ 255 := by
  have := pow_bd h; unfold full; omega
theorem fullSet_eq {v : XVariable} (h : 2 ≤ v.Levels ∧ v.Levels ≤ 8) : sh_impl_fullSet v = some (full v) := by
  unfold sh_impl_fullSet
  have := pow_bd h
  simp only [Int.one_mul]
  rw [ck_pos (by omega), ckI_pos (by omega) (by omega), ckI_pos (by omega) (by omega)]; rfl
theorem eFull_eq {s : List XVariable} (hs : schB s = true) {k : Nat} (hk : k < s.length) : sh_spec_eFull s (k : Int) = some (full s[k]) := by
  unfold sh_spec_eFull
  have hl := schB_lev hs (List.getElem_mem hk)
  have := pow_bd hl
  simp only [Int.one_mul]
  rw [getO_nat hk, ckK_u64 (by omega) (by omega), ck_pos (by omega), ckI_pos (by omega) (by omega), ckI_pos (by omega) (by omega)]; rfl
/-! ### Records and conditions -/
theorem valF_get : ∀ {s : List XVariable} {a : List Int}, valF s a = true → ∀ {k : Nat} {x : Int} {v : XVariable}, a[k]? = some x → s[k]? = some v → 0 ≤ x ∧ x < v.Levels
  | [], _, _, k, x, v, _, h => by simp at h
  | _ :: _, [], _, k, x, v, h, _ => by simp at h
  | v :: s, x :: a, h, 0, y, u, h1, h2 => by
    simp only [List.getElem?_cons_zero, Option.some.injEq] at h1 h2
    subst h1; subst h2
    simp only [valF, Bool.and_eq_true, decide_eq_true_eq] at h; exact h.1
  | v :: s, x :: a, h, k + 1, y, u, h1, h2 => by
    simp only [valF, Bool.and_eq_true] at h
    exact valF_get h.2 (by simpa using h1) (by simpa using h2)
theorem valB_len {s : List XVariable} {a : List Int} (h : valB s a = true) : a.length = s.length := by
  simp only [valB, Bool.and_eq_true, decide_eq_true_eq] at h; exact h.1
theorem valB_get {s : List XVariable} {a : List Int} (h : valB s a = true) {k : Nat} {x : Int} {v : XVariable} (h1 : a[k]? = some x) (h2 : s[k]? = some v) : 0 ≤ x ∧ x < v.Levels := by
  simp only [valB, Bool.and_eq_true, decide_eq_true_eq] at h; exact valF_get h.2 h1 h2
def recB (s : List XVariable) (r : XRecord) : Bool := decide (0 ≤ r.Area) && (decide (r.Area ≤ 29) && (decide (0 ≤ r.House) && (decide (r.House ≤ 999) && valB s r.Values)))
theorem rGood_eq {s : List XVariable} {r : XRecord} (hs : schB s = true) : sh_spec_rGood s r = some (recB s r) := by
  unfold sh_spec_rGood recB
  simp only [l1In_eq, Option.bind_some, sFits_eq hs]
  cases decide (0 ≤ r.Area) <;> cases decide (r.Area ≤ 29) <;> cases decide (0 ≤ r.House) <;> cases decide (r.House ≤ 999) <;> simp
theorem isRecord_eq {s : List XVariable} {r : XRecord} : sh_impl_isRecord s r = some (recB s r) := by
  unfold sh_impl_isRecord recB
  simp only [areValues_eq, Option.bind_some]
  cases decide (0 ≤ r.Area) <;> cases decide (r.Area ≤ 29) <;> cases decide (0 ≤ r.House) <;> cases decide (r.House ≤ 999) <;> simp
def offB (x v : Int) : Bool := decide ((((x / 2 ^ (v).toNat).toNat &&& (1 : Int).toNat : Nat) : Int) = (0 : Int))
theorem shr_bd {x : Int} (h : 0 ≤ x) (n : Nat) : 0 ≤ x / 2 ^ n ∧ x / 2 ^ n ≤ x := by
  have : (0 : Int) < 2 ^ n := Int.pow_pos (by omega)
  exact ⟨Int.ediv_nonneg h (by omega), Int.ediv_le_self _ h⟩
theorem recB_val {s : List XVariable} {r : XRecord} (h : recB s r = true) : valB s r.Values = true := by
  simp only [recB, Bool.and_eq_true] at h; exact h.2.2.2.2
/-! ### Variables of a table -/
theorem risB_rng {n : Int} : ∀ {l : List Int} {a : Int}, risB n a l = true → ∀ d ∈ l, a < d ∧ d < n
  | [], _, _, d, hd => by simp at hd
  | x :: l, a, h, d, hd => by
    simp only [risB, Bool.and_eq_true, decide_eq_true_eq] at h
    rcases List.mem_cons.1 hd with rfl | hd
    · exact ⟨h.1, h.2.1⟩
    · have := risB_rng h.2.2 d hd; omega
theorem risB_len {n : Int} : ∀ {l : List Int} {a : Int}, a < n → risB n a l = true → (l.length : Int) ≤ n - 1 - a
  | [], _, ha, _ => by simp; omega
  | x :: l, a, _, h => by
    simp only [risB, Bool.and_eq_true, decide_eq_true_eq] at h
    have := risB_len (a := x) h.2.1 h.2.2
    simp only [List.length_cons]; omega
def partV (s : List XVariable) (l : List Int) : List XVariable := l.map fun v => s.getD v.toNat default
theorem partV_len (s : List XVariable) (l : List Int) : (partV s l).length = l.length := by simp [partV]
/-! ### How many cells -/
def prodV : List XVariable → Int
  | [] => 1
  | v :: l => v.Levels * prodV l
theorem mul_pow_bd {a x : Int} {k : Nat} (hk : k ≤ 5) (h1 : 1 ≤ a) (h2 : a ≤ 8 ^ k) (h3 : 2 ≤ x) (h4 : x ≤ 8) : 1 ≤ a * x ∧ a * x ≤ 8 ^ (k + 1) ∧ (8 : Int) ^ (k + 1) ≤ 262144 := by
  have a1 : 1 * 1 ≤ a * x := Int.mul_le_mul h1 (by omega) (by omega) (by omega)
  have a2 : a * x ≤ 8 ^ k * 8 := Int.mul_le_mul h2 (by omega) (by omega) (by omega)
  refine ⟨by omega, by rw [Int.pow_succ]; exact a2, ?_⟩
  have : k = 0 ∨ k = 1 ∨ k = 2 ∨ k = 3 ∨ k = 4 ∨ k = 5 := by omega
  rcases this with rfl | rfl | rfl | rfl | rfl | rfl <;> decide
theorem foldF_prod : ∀ (l : List XVariable) (k : Nat) (a : Int), foldF (fun _ v a => a * v.Levels) l k a = a * prodV l
  | [], _, a => by simp [foldF, prodV]
  | v :: l, k, a => by simp only [foldF, prodV, foldF_prod l, Int.mul_assoc]
theorem sCount_eq {l : List XVariable} (hl : l.length ≤ 6) (h : ∀ v ∈ l, 2 ≤ v.Levels ∧ v.Levels ≤ 8) : sh_spec_sCount l = some (prodV l) := by
  unfold sh_spec_sCount
  refine (range_fold (I := fun k a => 1 ≤ a ∧ a ≤ 8 ^ k) (f := fun _ v a => a * v.Levels) (by simp) ?_ ?_).trans (by rw [foldF_prod, Int.one_mul])
  · intro x k a hx hI
    have hk := (List.getElem?_eq_some_iff.1 hx).1
    have := h x (List.mem_of_getElem? hx)
    have := mul_pow_bd (show k ≤ 5 by omega) hI.1 hI.2 this.1 this.2
    exact ⟨this.1, this.2.1⟩
  · intro x k a next hx hI
    have hk := (List.getElem?_eq_some_iff.1 hx).1
    have := h x (List.mem_of_getElem? hx)
    have := mul_pow_bd (show k ≤ 5 by omega) hI.1 hI.2 this.1 this.2
    rw [ckI_pos (by omega) (by omega)]
theorem combinations_eq {l : List XVariable} (hl : l.length ≤ 6) (h : ∀ v ∈ l, 2 ≤ v.Levels ∧ v.Levels ≤ 8) : sh_impl_combinations l = some (prodV l) := by
  unfold sh_impl_combinations
  refine (range_fold (I := fun k a => 1 ≤ a ∧ a ≤ 8 ^ k) (f := fun _ v a => a * v.Levels) (by simp) ?_ ?_).trans (by rw [foldF_prod, Int.one_mul])
  · intro x k a hx hI
    have hk := (List.getElem?_eq_some_iff.1 hx).1
    have := h x (List.mem_of_getElem? hx)
    have := mul_pow_bd (show k ≤ 5 by omega) hI.1 hI.2 this.1 this.2
    exact ⟨this.1, this.2.1⟩
  · intro x k a next hx hI
    have hk := (List.getElem?_eq_some_iff.1 hx).1
    have := h x (List.mem_of_getElem? hx)
    have := mul_pow_bd (show k ≤ 5 by omega) hI.1 hI.2 this.1 this.2
    rw [ckI_pos (by omega) (by omega)]
theorem prodV_bd : ∀ {l : List XVariable}, l.length ≤ 6 → (∀ v ∈ l, 2 ≤ v.Levels ∧ v.Levels ≤ 8) → 1 ≤ prodV l ∧ prodV l ≤ 8 ^ l.length ∧ (8 : Int) ^ l.length ≤ 262144
  | [], _, _ => by simp [prodV]
  | v :: l, hl, h => by
    simp only [List.length_cons] at hl
    have := prodV_bd (l := l) (by omega) (fun u hu => h u (List.mem_cons_of_mem _ hu))
    have hv := h v List.mem_cons_self
    have := mul_pow_bd (show l.length ≤ 5 by omega) this.1 this.2.1 hv.1 hv.2
    simp only [prodV, List.length_cons]
    rw [Int.mul_comm]; exact this
/-- A list of variables of a schema. -/
structure Part (s : List XVariable) (l : List Int) : Prop where
  sch : schB s = true
  ris : risB s.length (-1) l = true
theorem Part.rng {s : List XVariable} {l : List Int} (h : Part s l) : ∀ d ∈ l, 0 ≤ d ∧ d < (s.length : Int) := fun d hd => by
  have := risB_rng h.ris d hd; omega
theorem Part.len {s : List XVariable} {l : List Int} (h : Part s l) : l.length ≤ 6 := by
  have := risB_len (by omega) h.ris
  have := schB_len h.sch
  omega
theorem Part.lev {s : List XVariable} {l : List Int} (h : Part s l) : ∀ v ∈ partV s l, 2 ≤ v.Levels ∧ v.Levels ≤ 8 := by
  intro v hv
  simp only [partV, List.mem_map] at hv
  obtain ⟨d, hd, rfl⟩ := hv
  have := h.rng d hd
  rw [getD_get (show d.toNat < s.length by omega)]
  exact schB_lev h.sch (List.getElem_mem _)
theorem Part.bd {s : List XVariable} {l : List Int} (h : Part s l) : 1 ≤ prodV (partV s l) ∧ prodV (partV s l) ≤ 262144 := by
  have := prodV_bd (l := partV s l) (by rw [partV_len]; exact h.len) h.lev
  omega
/-! ### Tables -/
end AS
namespace AS
/-! ### Depths -/
/-! ### Levels -/
/-! ### Leaves -/
def hasB (l : List Int) (n : Int) : Bool := anyF (fun _ x => decide (x = n)) l 0
theorem hasB_iff {l : List Int} {n : Int} : hasB l n = true ↔ n ∈ l := by
  unfold hasB
  rw [anyF_iff]
  constructor
  · rintro ⟨j, x, h1, h2⟩
    simp only [decide_eq_true_eq] at h2
    subst h2; exact List.mem_of_getElem? h1
  · intro h
    obtain ⟨j, hj⟩ := List.getElem?_of_mem h
    exact ⟨j, n, hj, by simp⟩
theorem l1Has_eq (l : List Int) (n : Int) : sh_spec_l1Has l n = some (hasB l n) := by
  unfold sh_spec_l1Has
  refine (range_any (c := fun _ x => decide (x = n)) (some true) fun x k next _ => rfl).trans ?_
  unfold hasB
  cases anyF (fun _ x => decide (x = n)) l 0 <;> rfl
theorem index_has {l : List Int} {n : Int} : ∀ (k : Nat), ∃ r, rangeF (fun (k18 : Nat) (x19 : Int) (s17 : Unit) (nx24 : Unit → Option Int) => (if (decide (n = x19)) = true then some (k18 : Int) else nx24 ())) (fun (s17 : Unit) => some (-1 : Int)) l k () = some r ∧ decide (0 ≤ r) = hasB l n := by
  unfold hasB
  induction l with
  | nil => intro k; exact ⟨-1, rfl, rfl⟩
  | cons x l ih =>
    intro k
    simp only [rangeF]
    by_cases h : n = x
    · exact ⟨k, by simp [h], by simp [anyF, h]⟩
    · obtain ⟨r, h1, h2⟩ := ih (k + 1)
      refine ⟨r, by simpa [h] using h1, ?_⟩
      rw [h2]
      simp only [anyF, show ¬ (x = n) from fun e => h e.symm, decide_false, Bool.false_or]
      have : ∀ (l : List Int) (a b : Nat), anyF (fun _ x => decide (x = n)) l a = anyF (fun _ x => decide (x = n)) l b := by
        intro l
        induction l with
        | nil => intro a b; rfl
        | cons y l ih => intro a b; simp only [anyF]; rw [ih (a + 1) (b + 1)]
      exact this _ _ _
theorem Contains_eq (l : List Int) (n : Int) : sh_slices_Contains_int l n = some (hasB l n) := by
  unfold sh_slices_Contains_int sh_slices_Index_int
  obtain ⟨r, h1, h2⟩ := index_has (l := l) (n := n) 0
  rw [h1, Option.bind_some, h2]
/-! ### Ancestors -/
end AS
namespace AS
/-! ### Mixed radix -/
theorem prodV_drop {s : List XVariable} {k : Nat} (hk : k < s.length) : prodV (s.drop k) = s[k].Levels * prodV (s.drop (k + 1)) := by
  rw [List.drop_eq_getElem_cons hk]; rfl
/-- A list of variables that can be counted. -/
structure Vs (s : List XVariable) : Prop where
  len : s.length ≤ 6
  lev : ∀ v ∈ s, 2 ≤ v.Levels ∧ v.Levels ≤ 8
theorem Vs.get {s : List XVariable} (h : Vs s) {k : Nat} (hk : k < s.length) : 2 ≤ s[k].Levels ∧ s[k].Levels ≤ 8 := h.lev _ (List.getElem_mem hk)
theorem Vs.drop {s : List XVariable} (h : Vs s) (k : Nat) : Vs (s.drop k) := ⟨by simp; have := h.len; omega, fun v hv => h.lev v (List.mem_of_mem_drop hv)⟩
theorem Vs.bd {s : List XVariable} (h : Vs s) : 1 ≤ prodV s ∧ prodV s ≤ 262144 := by
  have := prodV_bd h.len h.lev
  omega
def digV : List XVariable → Int → List Int
  | [], _ => []
  | v :: l, i => (i / prodV l) % v.Levels :: digV l i
theorem digV_len : ∀ (s : List XVariable) (i : Int), (digV s i).length = s.length
  | [], _ => rfl
  | _ :: l, i => by simp [digV, digV_len l]
theorem digV_get : ∀ (s : List XVariable) (i : Int) (k : Nat) (h : k < s.length), (digV s i)[k]'(by rw [digV_len]; exact h) = (i / prodV (s.drop (k + 1))) % s[k].Levels
  | x :: l, _, 0, _ => rfl
  | x :: l, i, k + 1, h => by
    simp only [digV, List.getElem_cons_succ, List.drop_succ_cons]
    exact digV_get l i k (by simpa using h)
theorem div_ok {i a : Int} (h : 0 ≤ i) (ha : 1 ≤ a) : 0 ≤ i / a ∧ i / a ≤ i := ⟨Int.ediv_nonneg h (by omega), Int.ediv_le_self a h⟩
/-! ### Positions -/
end AS
namespace AS
/-! ### Surveys -/
def dataB (s : List XVariable) (l : List XRecord) : Bool := decide (l.length ≤ 40) && !anyF (fun _ r => !recB s r) l 0
theorem dGood_eq {s : List XVariable} {l : List XRecord} (hs : schB s = true) : sh_spec_dGood s l = some (dataB s l) := by
  unfold sh_spec_dGood dataB
  refine (range_any (c := fun _ r => !recB s r) (some false) ?_).trans ?_
  · intro r k next _
    rw [rGood_eq hs, Option.bind_some]
  · have e : decide ((l.length : Int) ≤ 40) = decide (l.length ≤ 40) := by congr 1; apply propext; omega
    rw [e]
    cases anyF (fun _ r => !recB s r) l 0 <;> simp
theorem isData_eq {s : List XVariable} {l : List XRecord} : sh_impl_isData s l = some (dataB s l) := by
  unfold sh_impl_isData dataB
  by_cases h : l.length ≤ 40
  · simp only [show ¬ ((40 : Int) < (l.length : Int)) by omega, decide_false, Bool.false_eq_true, if_false, h, decide_true, Bool.true_and]
    refine (range_any (c := fun _ r => !recB s r) (some false) ?_).trans (show (if anyF _ _ 0 = true then some false else some true) = _ from if_not)
    intro r k next _
    rw [isRecord_eq, Option.bind_some]
  · simp [h, show ((40 : Int) < (l.length : Int)) by omega]
theorem dataB_len {s : List XVariable} {l : List XRecord} (h : dataB s l = true) : l.length ≤ 40 := by
  simp only [dataB, Bool.and_eq_true, decide_eq_true_eq] at h; exact h.1
theorem dataB_get {s : List XVariable} {l : List XRecord} (h : dataB s l = true) {r : XRecord} (hr : r ∈ l) : recB s r = true := by
  simp only [dataB, Bool.and_eq_true] at h
  obtain ⟨k, hk⟩ := List.getElem?_of_mem hr
  have := not_anyF h.2 hk
  simpa using this
/-! ### Normal tables -/
end AS
namespace AS
/-! ### The cell of a record -/
theorem valF_of : ∀ {s : List XVariable} {a : List Int}, (∀ (k : Nat) (x : Int) (v : XVariable), a[k]? = some x → s[k]? = some v → 0 ≤ x ∧ x < v.Levels) → valF s a = true
  | [], _, _ => by simp [valF]
  | _ :: _, [], _ => by simp [valF]
  | v :: s, x :: a, h => by
    have h0 := h 0 x v rfl rfl
    simp only [valF, Bool.and_eq_true, decide_eq_true_eq]
    exact ⟨h0, valF_of fun k y u h1 h2 => h (k + 1) y u (by simpa using h1) (by simpa using h2)⟩
/-! ### The records of a cell -/
/-! ### The table of a survey -/
/-! ### Base tables -/
end AS
namespace AS
/-! ### The law's own functions on edits -/
def bulkE (e : XEdit) : Nat := e.Sets.length
theorem szEdit_eq {e : XEdit} {a : Int} (h0 : 0 ≤ a) (h1 : a ≤ 1048576) (hb : Bd.bd e) : sh_laws_szEdit e a = some (left a (bulkE e)) := by
  unfold sh_laws_szEdit
  have hl : Bd.bd e.Sets := hb
  rw [szIntS_eq h0 h1 hl.1, Option.bind_some]
  exact sz_end
theorem toEdit_eq {e : XEdit} (h : bulkE e ≤ 1048576) : sh_laws_toEdit e = some e := by
  unfold sh_laws_toEdit; unfold bulkE at h
  rw [toIntS_eq h, Option.bind_some]
theorem eqEdit_eq {a b : XEdit} (h : bulkE a ≤ 1048576) : sh_laws_eqEdit a b = some (decide (a = b)) := by
  unfold sh_laws_eqEdit; unfold bulkE at h
  rw [eqIntS_eq (by omega), Option.bind_some]
  cases a; cases b; simp only [XEdit.mk.injEq]
  split <;> simp_all
def mkEdit (e : XEdit) (n : Int) : XEdit := ⟨mks n e.Sets.length⟩
def bulkES (l : List XEdit) : Nat := l.length + sumL bulkE l
theorem szEditS_eq {l : List XEdit} {a : Int} (h0 : 0 ≤ a) (h1 : a ≤ 1048576) (hb : Bd.bd l) : sh_laws_szEditS l a = some (left a (bulkES l)) := by
  unfold sh_laws_szEditS
  exact sz_loop h0 h1 hb.1 fun x hx m hm hm2 => szEdit_eq hm hm2 (hb.2 x hx)
theorem bulkE_mem {l : List XEdit} {t : XEdit} (h : t ∈ l) : bulkE t ≤ bulkES l := by
  have := sumL_mem bulkE h; unfold bulkES; omega
theorem toEditS_eq {l : List XEdit} (h : bulkES l ≤ 1048576) : sh_laws_toEditS l = some l := by
  unfold sh_laws_toEditS
  exact to_loop (by unfold bulkES at h; omega) fun x hx => toEdit_eq (by have := bulkE_mem hx; omega)
theorem eqEditS_eq {a b : List XEdit} (h : bulkES a ≤ 1048576) : sh_laws_eqEditS a b = some (decide (a = b)) := by
  unfold sh_laws_eqEditS
  exact eq_loop (by unfold bulkES at h; omega) fun x hx y => eqEdit_eq (by have := bulkE_mem hx; omega)
def marksES (l : List XEdit) : Nat := sumL bulkE l
theorem marksES_le (l : List XEdit) : marksES l ≤ 2 * bulkES l := by unfold marksES bulkES; omega
theorem markEditS_eq {l : List XEdit} {n : Int} (hl : l.length ≤ 1099511627776) (h0 : 0 ≤ n) (h : n + marksES l ≤ 4611686018427387904) : sh_laws_markEditS l n = some (mkL mkEdit bulkE l n, n + marksES l) := by
  unfold sh_laws_markEditS
  refine mark_loop2 (mk := mkEdit) (sz := bulkE) 4611686018427387904 (by omega) hl h0 h ?_ ?_
  · intro nx s m k x hk hs hx hm hB
    unfold bulkE at hB
    simp only [lt_dec hk, if_true, Int.toNat_natCast]
    rw [getO_some hx, markIntS_eq (by omega) (by omega), Option.bind_some, ckI_succ (by omega)]
    rfl
  · intro nx s m
    simp only [lt_self, Bool.false_eq_true, if_false]
/-! ### Validity -/
def edB (s : List XVariable) (w : List Int) : Bool := decide (w.length = s.length) && !anyF (fun k x => !(decide (1 ≤ x) && decide (x ≤ full (s.getD k default)))) w 0
theorem edB_len {s : List XVariable} {w : List Int} (h : edB s w = true) : w.length = s.length := by
  simp only [edB, Bool.and_eq_true, decide_eq_true_eq] at h; exact h.1
theorem edB_get {s : List XVariable} {w : List Int} (h : edB s w = true) {k : Nat} {x : Int} (hx : w[k]? = some x) : ∃ v, s[k]? = some v ∧ 1 ≤ x ∧ x ≤ full v := by
  have hl := edB_len h
  simp only [edB, Bool.and_eq_true, decide_eq_true_eq] at h
  have hk := (List.getElem?_eq_some_iff.1 hx).1
  have := not_anyF h.2 hx
  simp only [Bool.not_eq_false', Bool.and_eq_true, decide_eq_true_eq] at this
  rw [getD_get (show k < s.length by omega)] at this
  exact ⟨_, List.getElem?_eq_getElem (by omega), this⟩
theorem eGood_eq {s : List XVariable} {e : XEdit} (hs : schB s = true) : sh_spec_eGood s e = some (edB s e.Sets) := by
  unfold sh_spec_eGood edB
  by_cases h : e.Sets.length = s.length
  · simp only [h, ne_eq, not_true_eq_false, decide_false, Bool.false_eq_true, if_false, decide_true, Bool.true_and]
    refine (range_any (c := fun k x => !(decide (1 ≤ x) && decide (x ≤ full (s.getD k default)))) (some false) ?_).trans (show (if anyF _ _ 0 = true then some false else some true) = _ from if_not)
    intro x k next hx
    have hk := (List.getElem?_eq_some_iff.1 hx).1
    have hks : k < s.length := by omega
    rw [eFull_eq hs hks, Option.bind_some, l1In_eq, Option.bind_some, getD_get hks]
  · simp [h, show ¬ ((e.Sets.length : Int) = (s.length : Int)) by omega]
theorem isEdit_eq {s : List XVariable} {e : XEdit} (hs : schB s = true) : sh_impl_isEdit s e = some (edB s e.Sets) := by
  unfold sh_impl_isEdit edB
  by_cases h : e.Sets.length = s.length
  · simp only [h, ne_eq, not_true_eq_false, decide_false, Bool.false_eq_true, if_false, decide_true, Bool.true_and]
    refine (range_any (c := fun k x => !(decide (1 ≤ x) && decide (x ≤ full (s.getD k default)))) (some false) ?_).trans (show (if anyF _ _ 0 = true then some false else some true) = _ from if_not)
    intro x k next hx
    have hk := (List.getElem?_eq_some_iff.1 hx).1
    have hks : k < s.length := by omega
    have hl := schB_lev hs (List.getElem_mem hks)
    rw [getD_get hks]
    by_cases h1 : x < 1
    · simp [h1, show ¬ (1 ≤ x) by omega]
    · simp only [h1, decide_false, Bool.false_eq_true, if_false]
      rw [getO_nat hks, fullSet_eq hl, Option.bind_some]
      by_cases h2 : full s[k] < x
      · simp [h2, show ¬ (x ≤ full s[k]) by omega]
      · simp [h2, show (1 ≤ x) by omega, show x ≤ full s[k] by omega]
  · simp [h, show ¬ ((e.Sets.length : Int) = (s.length : Int)) by omega]
def edsB (s : List XVariable) (l : List XEdit) : Bool := decide (l.length ≤ 40) && !anyF (fun _ e => !edB s e.Sets) l 0
theorem edsB_len {s : List XVariable} {l : List XEdit} (h : edsB s l = true) : l.length ≤ 40 := by
  simp only [edsB, Bool.and_eq_true, decide_eq_true_eq] at h; exact h.1
theorem edsB_get {s : List XVariable} {l : List XEdit} (h : edsB s l = true) {e : XEdit} (he : e ∈ l) : edB s e.Sets = true := by
  simp only [edsB, Bool.and_eq_true] at h
  obtain ⟨k, hk⟩ := List.getElem?_of_mem he
  have := not_anyF h.2 hk
  simpa using this
theorem eList_eq {s : List XVariable} {l : List XEdit} (hn : bulkVS s ≤ 1048576) : sh_spec_eList s l = some (schB s && edsB s l) := by
  unfold sh_spec_eList edsB
  rw [sGood_eq (names_of_bulk hn), Option.bind_some]
  cases hs : schB s with
  | false => rfl
  | true =>
    simp only [Bool.not_true, Bool.false_eq_true, if_false, Bool.true_and]
    by_cases hl : l.length ≤ 40
    · simp only [show ¬ ((40 : Int) < (l.length : Int)) by omega, decide_false, Bool.false_eq_true, if_false, hl, decide_true, Bool.true_and]
      refine (range_any (c := fun _ e => !edB s e.Sets) (some false) ?_).trans (show (if anyF _ _ 0 = true then some false else some true) = _ from if_not)
      intro e k next hx
      rw [eGood_eq hs, Option.bind_some]
    · simp [hl, show ((40 : Int) < (l.length : Int)) by omega]
theorem areEdits_eq {s : List XVariable} {l : List XEdit} (hs : schB s = true) : sh_impl_areEdits s l = some (edsB s l) := by
  unfold sh_impl_areEdits edsB
  by_cases hl : l.length ≤ 40
  · simp only [show ¬ ((40 : Int) < (l.length : Int)) by omega, decide_false, Bool.false_eq_true, if_false, hl, decide_true, Bool.true_and]
    refine (range_any (c := fun _ e => !edB s e.Sets) (some false) ?_).trans (show (if anyF _ _ 0 = true then some false else some true) = _ from if_not)
    intro e k next hx
    rw [isEdit_eq hs, Option.bind_some]
  · simp [hl, show ((40 : Int) < (l.length : Int)) by omega]
theorem schB_vs {s : List XVariable} (h : schB s = true) : Vs s := ⟨(schB_len h).2, fun v hv => schB_lev h hv⟩
def smlB (s : List XVariable) : Bool := schB s && decide (prodV s ≤ 100)
theorem smlB_sch {s : List XVariable} (h : smlB s = true) : schB s = true := by
  simp only [smlB, Bool.and_eq_true] at h; exact h.1
theorem smlB_le {s : List XVariable} (h : smlB s = true) : 1 ≤ prodV s ∧ prodV s ≤ 100 := by
  simp only [smlB, Bool.and_eq_true, decide_eq_true_eq] at h
  exact ⟨(schB_vs h.1).bd.1, h.2⟩
theorem eSmall_eq {s : List XVariable} {l : List XEdit} (hn : bulkVS s ≤ 1048576) : sh_spec_eSmall s l = some (smlB s && edsB s l) := by
  unfold sh_spec_eSmall smlB
  rw [eList_eq hn, Option.bind_some]
  cases hs : schB s with
  | false => rfl
  | true =>
    cases edsB s l with
    | false => simp
    | true =>
      have hv := schB_vs hs
      simp only [Bool.and_self, if_true, Bool.true_and, Bool.and_true]
      rw [sCount_eq hv.len hv.lev, Option.bind_some]
theorem isSmall_eq (s : List XVariable) : sh_impl_isSmall s = some (smlB s) := by
  unfold sh_impl_isSmall smlB
  rw [isSchema_eq, Option.bind_some]
  cases hs : schB s with
  | false => rfl
  | true =>
    have hv := schB_vs hs
    simp only [if_true, Bool.true_and]
    rw [combinations_eq hv.len hv.lev, Option.bind_some]
/-! ### Failing -/
def failB (w a : List Int) : Bool := !anyF (fun k x => offB (w.getD k 0) x) a 0
theorem eFails_eq {s : List XVariable} {e : XEdit} {a : List Int} (hs : schB s = true) (he : edB s e.Sets = true) (ha : valB s a = true) : sh_spec_eFails e a = some (failB e.Sets a) := by
  unfold sh_spec_eFails failB
  refine (range_any (c := fun k x => offB (e.Sets.getD k 0) x) (some false) ?_).trans (show (if anyF _ _ 0 = true then some false else some true) = _ from if_not)
  intro x k next hx
  have hk := (List.getElem?_eq_some_iff.1 hx).1
  have hks : k < s.length := by rw [← valB_len ha]; exact hk
  have hkw : k < e.Sets.length := by rw [edB_len he]; exact hks
  obtain ⟨v, hv, h0, h1⟩ := edB_get he (List.getElem?_eq_getElem hkw)
  have hl := schB_lev hs (List.mem_of_getElem? hv)
  have hf := full_bd hl
  have hav := valB_get ha hx hv
  have hsh := shr_bd (show 0 ≤ e.Sets[k] by omega) (x).toNat
  rw [getD_get hkw, getO_nat hkw, ckK_u64 (by omega) (by omega), ck_pos (by omega), ck_pos (by omega), ckK_i64 (by omega) (by omega), ck_pos (by omega), ckK_i64 (by omega) (by omega)]
  rfl
theorem fails_eq {s : List XVariable} {e : XEdit} {a : List Int} (hs : schB s = true) (he : edB s e.Sets = true) (ha : valB s a = true) : sh_impl_fails e a = some (failB e.Sets a) := by
  unfold sh_impl_fails failB
  refine (range_any (c := fun k x => offB (e.Sets.getD k 0) x) (some false) ?_).trans (show (if anyF _ _ 0 = true then some false else some true) = _ from if_not)
  intro x k next hx
  have hk := (List.getElem?_eq_some_iff.1 hx).1
  have hks : k < s.length := by rw [← valB_len ha]; exact hk
  have hkw : k < e.Sets.length := by rw [edB_len he]; exact hks
  obtain ⟨v, hv, h0, h1⟩ := edB_get he (List.getElem?_eq_getElem hkw)
  have hl := schB_lev hs (List.mem_of_getElem? hv)
  have hf := full_bd hl
  have hav := valB_get ha hx hv
  have hsh := shr_bd (show 0 ≤ e.Sets[k] by omega) (x).toNat
  rw [getD_get hkw, getO_nat hkw, ck_pos (by omega), ck_pos (by omega), ckK_i64 (by omega) (by omega), ck_pos (by omega), ckK_i64 (by omega) (by omega)]
  rfl
def fOne (l : List XEdit) (a : List Int) : Bool := anyF (fun _ e => failB e.Sets a) l 0
def failL (l : List XEdit) (a : List Int) : List Int := selF (fun _ e => failB e.Sets a) (fun k _ => (k : Int)) l 0
theorem selF_any {α β : Type} (c : Nat → α → Bool) (f : Nat → α → β) : ∀ (l : List α) (k : Nat), decide ((0 : Int) < ((selF c f l k).length : Int)) = anyF c l k
  | [], _ => rfl
  | x :: l, k => by
    have ih := selF_any c f l (k + 1)
    simp only [selF, anyF]
    by_cases h : c k x = true
    · simp only [h, if_true, Bool.true_or, List.length_cons, decide_eq_true_eq]; omega
    · have h' : c k x = false := by simpa using h
      simp only [h', Bool.false_eq_true, if_false, Bool.false_or]; exact ih
theorem failL_any (l : List XEdit) (a : List Int) : decide ((0 : Int) < ((failL l a).length : Int)) = fOne l a := selF_any _ _ _ _
theorem failL_nil (l : List XEdit) (a : List Int) : decide (((failL l a).length : Int) = 0) = !fOne l a := by
  rw [← failL_any]
  by_cases h : (failL l a).length = 0
  · rw [h]; rfl
  · have h1 : decide (((failL l a).length : Int) = 0) = false := by rw [decide_eq_false_iff_not]; omega
    have h2 : decide ((0 : Int) < ((failL l a).length : Int)) = true := by rw [decide_eq_true_eq]; omega
    rw [h1, h2]; rfl
theorem eFailed_eq {s : List XVariable} {l : List XEdit} {a : List Int} (hs : schB s = true) (hl : edsB s l = true) (ha : valB s a = true) : sh_spec_eFailed l a = some (failL l a) := by
  unfold sh_spec_eFailed
  refine (range_sel (c := fun _ e => failB e.Sets a) (f := fun k _ => (k : Int)) ?_).trans (by simp [failL])
  intro e k r next hx hr
  have hk := (List.getElem?_eq_some_iff.1 hx).1
  have := edsB_len hl
  simp only [List.length_nil, Nat.zero_add] at hr
  rw [eFails_eq hs (edsB_get hl (List.mem_of_getElem? hx)) ha, Option.bind_some]
  cases failB e.Sets a with
  | true => simp only [if_true]; rw [lnO_pos (by simp; omega)]
  | false => simp only [Bool.false_eq_true, if_false]
theorem failsOne_eq {s : List XVariable} {l : List XEdit} {a : List Int} (hs : schB s = true) (hl : edsB s l = true) (ha : valB s a = true) : sh_impl_failsOne l a = some (fOne l a) := by
  unfold sh_impl_failsOne
  refine (range_any (c := fun _ e => failB e.Sets a) (some true) ?_).trans ?_
  · intro e k next hx
    rw [fails_eq hs (edsB_get hl (List.mem_of_getElem? hx)) ha, Option.bind_some]
  · unfold fOne
    cases anyF (fun _ e => failB e.Sets a) l 0 <;> rfl
/-! ### All lists of values -/
theorem dig_val {s : List XVariable} (h : Vs s) (i : Int) : valB s (digV s i) = true := by
  simp only [valB, Bool.and_eq_true, decide_eq_true_eq]
  refine ⟨digV_len s i, valF_of fun k x v h1 h2 => ?_⟩
  obtain ⟨hk, rfl⟩ := List.getElem?_eq_some_iff.1 h2
  obtain ⟨hk2, rfl⟩ := List.getElem?_eq_some_iff.1 h1
  have hl := h.get hk
  rw [digV_get s i k hk]
  exact ⟨Int.emod_nonneg _ (by omega), Int.emod_lt_of_pos _ (by omega)⟩
end AS
namespace AS
theorem set_same {α : Type} {l : List α} {k : Nat} {x : α} (h : l[k]? = some x) : l.set k x = l := by
  obtain ⟨h1, rfl⟩ := List.getElem?_eq_some_iff.1 h
  exact List.set_getElem_self _
/-! ### Ordered lists -/
/-! ### The join by the reference -/
/-! ### The join by the program -/
end AS
namespace AS
/-! ### How often each edit fails -/
/-! ### The nearest donor -/
theorem wgtB_get {s : List XVariable} {w : List Int} (h : wgtB s w = true) : w.length = s.length ∧ ∀ x ∈ w, 1 ≤ x ∧ x ≤ 100 := by
  simp only [wgtB, Bool.and_eq_true, decide_eq_true_eq, List.all_eq_true] at h
  exact ⟨h.1, fun x hx => by have := h.2 x hx; omega⟩
/-! ### Mends -/
def othL (s : List XVariable) (vars : List Int) : List Int := selF (fun k _ => !hasB vars (k : Int)) (fun k _ => (k : Int)) s 0
theorem otherVars_eq {s : List XVariable} {vars : List Int} (hs : s.length ≤ 1048576) : sh_impl_otherVars s vars = some (othL s vars) := by
  unfold sh_impl_otherVars
  refine (range_sel (c := fun k _ => !hasB vars (k : Int)) (f := fun k _ => (k : Int)) ?_).trans (by simp [othL])
  intro x k a next hx ha
  have hk := (List.getElem?_eq_some_iff.1 hx).1
  simp only [List.length_nil, Nat.zero_add] at ha
  rw [Contains_eq, Option.bind_some]
  cases hasB vars (k : Int) with
  | true => simp only [Bool.not_true, Bool.false_eq_true, if_false]
  | false => simp only [Bool.not_false, if_true]; rw [lnO_pos (by simp; omega)]
end AS
namespace AS
/-! ### Sums over ranges -/
def sumR (n : Nat) (f : Nat → Int) : Int := sumI ((List.range n).map f)
theorem sumR_zero (f : Nat → Int) : sumR 0 f = 0 := rfl
theorem sumR_succ (n : Nat) (f : Nat → Int) : sumR (n + 1) f = sumR n f + f n := by
  simp only [sumR]
  rw [range_map_succ, sumI_append]; simp [sumI]
theorem sumR_congr {n : Nat} {f g : Nat → Int} (h : ∀ i, i < n → f i = g i) : sumR n f = sumR n g := by
  simp only [sumR]
  rw [List.map_congr_left fun i hi => h i (by simpa using hi)]
theorem sumR_nil {n : Nat} {f : Nat → Int} (h : ∀ i, i < n → f i = 0) : sumR n f = 0 := by
  induction n with
  | zero => rfl
  | succ n ih => rw [sumR_succ, ih fun i hi => h i (by omega), h n (by omega)]; rfl
theorem sumR_split (f : Nat → Int) (m : Nat) : ∀ n, sumR (m + n) f = sumR m f + sumR n (fun j => f (m + j))
  | 0 => by simp [sumR_zero]
  | n + 1 => by rw [← Nat.add_assoc, sumR_succ, sumR_split f m n, sumR_succ]; omega
/-! ### A cell and a coordinate -/
/-! ### Groups -/
structure Grp (s g : List Int) (D : Nat) (m : Int) : Prop where
  v : valid s
  hD : D < s.length
  len : (g.length : Int) = s.getD D 0
  rng : ∀ x ∈ g, 0 ≤ x ∧ x < m
  m1 : 1 ≤ m
  m2 : m ≤ s.getD D 0
def gmI (s g : List Int) (D : Nat) (m : Int) (ix : List Int) : List Int := ix.set D (if ix.getD D 0 = s.getD D 0 then m else g.getD (ix.getD D 0).toNat 0)
section
variable {s g : List Int} {D : Nat} {m : Int}
theorem Grp.sD (h : Grp s g D m) : s[D]? = some (s.getD D 0) := by rw [getD_get h.hD]; exact List.getElem?_eq_getElem h.hD
theorem Grp.val (h : Grp s g D m) {ix : List Int} (hf : fits s ix) : 0 ≤ (if ix.getD D 0 = s.getD D 0 then m else g.getD (ix.getD D 0).toNat 0) ∧ (if ix.getD D 0 = s.getD D 0 then m else g.getD (ix.getD D 0).toNat 0) ≤ m ∧
    ((if ix.getD D 0 = s.getD D 0 then m else g.getD (ix.getD D 0).toNat 0) < m ↔ ix.getD D 0 < s.getD D 0) := by
  have hl : D < ix.length := by rw [hf.1]; exact h.hD
  have hb := hf.2 D _ ix[D] h.sD (List.getElem?_eq_getElem hl)
  have hm := h.m1
  rw [getD_get hl]
  split
  · rename_i e; refine ⟨by omega, by omega, by omega⟩
  · rename_i e
    have hg : (ix[D]).toNat < g.length := by have := h.len; omega
    have hr := h.rng _ (List.getElem_mem hg)
    rw [getD_get hg]
    refine ⟨hr.1, by omega, by omega⟩
theorem Grp.fits (h : Grp s g D m) {ix : List Int} (hf : fits s ix) : fits (s.set D m) (gmI s g D m ix) := by
  have hv := h.val hf
  refine ⟨by simp only [gmI, List.length_set]; exact hf.1, fun k x y hx hy => ?_⟩
  by_cases e : D = k
  · subst e
    rw [List.getElem?_set_self h.hD] at hx
    simp only [Option.some.injEq] at hx
    subst hx
    have hl : D < ix.length := by rw [hf.1]; exact h.hD
    simp only [gmI] at hy
    rw [List.getElem?_set_self hl] at hy
    simp only [Option.some.injEq] at hy
    subst hy
    exact ⟨hv.1, hv.2.1⟩
  · rw [List.getElem?_set_ne e] at hx
    simp only [gmI] at hy
    rw [List.getElem?_set_ne e] at hy
    exact hf.2 k x y hx hy
end
end AS
namespace AS
/-! ### Values and their numbers -/
theorem sAt_eq {s : List XVariable} {i : Int} (h : Vs s) (h0 : 0 ≤ i) (h1 : i ≤ 4611686018427387904) : sh_spec_sAt s i = some (digV s i) := by
  unfold sh_spec_sAt
  have hl := h.len
  rw [mkO_pos (by omega) (by omega), ckI_pos (by omega) (by omega)]
  have hz : (List.replicate s.length (0 : Int)).length = (digV s i).length := by simp [digV_len]
  have e0 : ((i, List.replicate ((s.length : Int)).toNat (0 : Int), ((s.length : Int) - (1 : Int))) : Int × List Int × Int) = (fun k : Nat => (i / prodV (s.drop k), mixL (List.replicate s.length (0 : Int)) (digV s i) k, (k : Int) - 1)) s.length := by
    have := mixL_end hz
    simp only [List.length_replicate] at this
    simp [this, prodV]
  rw [e0]
  refine (loop_down s.length (fun k : Nat => (i / prodV (s.drop k), mixL (List.replicate s.length (0 : Int)) (digV s i) k, (k : Int) - 1)) (fun _ => some (digV s i)) (by omega) ?_ ?_)
  · intro next k hk hn
    have hk2 : k < (digV s i).length := by rw [digV_len]; exact hk
    have hb := (h.drop (k + 1)).bd
    have hx := h.get hk
    have hvd := prodV_drop hk
    have hd := div_ok h0 hb.1
    have hd2 := div_ok (a := s[k].Levels) hd.1 (by omega)
    have hdd : i / prodV (s.drop (k + 1)) / s[k].Levels = i / prodV (s.drop k) := by rw [hvd, Int.mul_comm, Int.ediv_ediv, if_neg (fun h => by omega), Int.sub_zero]
    simp only [show ((k + 1 : Nat) : Int) - 1 = (k : Int) by omega, show (0 : Int) ≤ (k : Int) by omega, decide_true, if_true]
    rw [getO_nat hk, ck_pos (by omega), getO_some (mixL_getD hz (by simpa using hk)), ck_pos (by omega)]
    rw [Int.tdiv_eq_ediv_of_nonneg hd.1, Int.tmod_eq_emod_of_nonneg hd.1, ckI_pos (by omega) (by omega), ckI_pos (by omega) (by omega), Int.toNat_natCast, hdd, ← digV_get s i k hk, mixL_setD hz hk2]
    exact hn
  · intro next
    simp [mixL_zero]
theorem valuesAt_eq {s : List XVariable} {i : Int} (h : Vs s) (h0 : 0 ≤ i) (h1 : i ≤ 4611686018427387904) : sh_impl_valuesAt s i = some (digV s i) := sAt_eq h h0 h1
/-! ### A search in an ordered list -/
/-! ### The cell of an index -/
/-! ### The index of a cell -/
/-! ### Plans -/
end AS
namespace AS
def fndN (c : Nat → Bool) : Nat → Nat → Option Nat
  | _, 0 => none
  | k, n + 1 => if c k = true then some k else fndN c (k + 1) n
theorem fndN_some {c : Nat → Bool} : ∀ {n k j : Nat}, fndN c k n = some j → k ≤ j ∧ j < k + n ∧ c j = true
  | 0, k, j, h => by simp [fndN] at h
  | n + 1, k, j, h => by
    simp only [fndN] at h
    split at h
    · rename_i hc; cases h; exact ⟨Nat.le_refl _, by omega, hc⟩
    · have := fndN_some h; exact ⟨by omega, by omega, this.2.2⟩
theorem fndN_none {c : Nat → Bool} : ∀ {n k : Nat}, fndN c k n = none ↔ ∀ j, k ≤ j → j < k + n → c j = false
  | 0, k => by simp [fndN]; omega
  | n + 1, k => by
    simp only [fndN]
    cases hc : c k with
    | true =>
      simp only [if_true, reduceCtorEq, false_iff]
      intro h; have := h k (Nat.le_refl _) (by omega); rw [hc] at this; cases this
    | false =>
      simp only [Bool.false_eq_true, if_false]
      rw [fndN_none]
      constructor
      · intro h j h1 h2
        by_cases e : j = k
        · rw [e]; exact hc
        · exact h j (by omega) (by omega)
      · intro h j h1 h2; exact h j (by omega) (by omega)
/-! ### The first values that pass -/
abbrev digN (s : List XVariable) : Nat → List Int := fun k => digV s (k : Int)
theorem digV_ne {s : List XVariable} (h : 1 ≤ s.length) (i : Int) : digV s i ≠ [] := by
  intro e
  have := digV_len s i
  rw [e] at this
  simp at this; omega
/-! ### Completions -/
def agrB (f v a : List Int) : Bool := !anyF (fun _ x => decide (a.getD x.toNat 0 ≠ v.getD x.toNat 0)) f 0
def fitB (s : List XVariable) (l : List XEdit) (f v : List Int) (k : Nat) : Bool := !fOne l (digV s (k : Int)) && agrB f v (digV s (k : Int))
def comO (s : List XVariable) (l : List XEdit) (f v : List Int) : Option (List Int) := (fndN (fitB s l f v) 0 (prodV s).toNat).map (digN s)
def inV (s : List XVariable) (f : List Int) : Prop := ∀ d ∈ f, 0 ≤ d ∧ d < s.length
theorem comO_ne {s : List XVariable} {l : List XEdit} {f v : List Int} (h : 1 ≤ s.length) : comO s l f v ≠ some [] := by
  unfold comO
  cases fndN (fitB s l f v) 0 (prodV s).toNat with
  | none => simp
  | some k => simpa using digV_ne h (k : Int)
theorem comO_len {s : List XVariable} {l : List XEdit} {f v : List Int} : ((comO s l f v).getD []).length ≤ s.length := by
  unfold comO
  cases fndN (fitB s l f v) 0 (prodV s).toNat with
  | none => simp
  | some k => simp [digV_len]
theorem range_and {R α : Type} {body : Nat → α → Bool → (Bool → Option R) → Option R} {fin : Bool → Option R} {l : List α} {c : Nat → α → Bool}
    (hs : ∀ x k b next, l[k]? = some x → body k x b next = next (b && !c k x)) (b : Bool) : rangeF body fin l 0 b = fin (b && !anyF c l 0) := by
  refine (range_mem (I := fun _ _ => True) (G := fun l' k b => fin (b && !anyF c l' k)) ?_ ?_ b trivial)
  · intro k s _ _; simp [anyF]
  · intro x l' k s next hx _ _ hn
    rw [hs x k s next hx, hn _ trivial]
    simp only [anyF]
    cases c k x <;> cases s <;> simp
theorem eComplete_eq {s : List XVariable} {l : List XEdit} {f v : List Int} (hs : schB s = true) (hl : edsB s l = true) (hv : valB s v = true) (hf : inV s f) (hle : prodV s ≤ 100) :
    sh_spec_eComplete s l f v = some ((comO s l f v).getD [], (comO s l f v).isSome) := by
  unfold sh_spec_eComplete comO
  have hvs := schB_vs hs
  have hb := hvs.bd
  have hvl := valB_len hv
  obtain ⟨n, hn⟩ := Int.eq_ofNat_of_zero_le (show 0 ≤ prodV s by omega)
  have hnt : (prodV s).toNat = n := by omega
  rw [hnt]
  refine (loop_up n (fun k => (k : Int)) (fun k => some (((fndN (fitB s l f v) k (n - k)).map (digN s)).getD [], ((fndN (fitB s l f v) k (n - k)).map (digN s)).isSome)) (by omega) ?_ ?_).trans (by simp)
  · intro next k hk hnx
    obtain ⟨d, hd⟩ : ∃ d, n - k = d + 1 := ⟨n - k - 1, by omega⟩
    have hd2 : n - (k + 1) = d := by omega
    rw [hd2] at hnx
    rw [sCount_eq hvs.len hvs.lev, Option.bind_some, hn]
    simp only [lt_dec hk, if_true]
    rw [sAt_eq hvs (by omega) (by omega), Option.bind_some, eFailed_eq hs hl (dig_val hvs _), Option.bind_some, failL_nil, hd]
    refine (range_and (c := fun _ x => decide ((digV s (k : Int)).getD x.toNat 0 ≠ v.getD x.toNat 0)) ?_ (!fOne l (digV s (k : Int)))).trans ?_
    · intro x q b nx hx
      have hm := hf x (List.mem_of_getElem? hx)
      cases b with
      | false => rfl
      | true =>
        simp only [if_true, Bool.true_and]
        rw [getO_pos hm.1 (by rw [digV_len]; omega), getO_pos hm.1 (by omega), getD_get (show x.toNat < (digV s (k : Int)).length by rw [digV_len]; omega), getD_get (show x.toNat < v.length by omega)]
        congr 1
        by_cases e : (digV s (k : Int))[x.toNat]'(by rw [digV_len]; omega) = v[x.toNat]'(by omega) <;> simp [e]
    · show (if fitB s l f v k = true then _ else _) = _
      simp only [fndN]
      cases fitB s l f v k with
      | true => simp
      | false =>
        simp only [Bool.false_eq_true, if_false]
        rw [ckI_succ (by omega)]; exact hnx
  · intro next
    rw [sCount_eq hvs.len hvs.lev, Option.bind_some, hn]
    simp [lt_self, fndN]
theorem completionOf_1_eq {s : List XVariable} {f v a : List Int} {w : Option (List Int)} (ha : a.length = s.length) (hv : v.length = s.length) (hf : inV s f) :
    sh_impl_completionOf_1 a f v w = some (if agrB f v a = true then (some a, false) else (w, true)) := by
  unfold sh_impl_completionOf_1 agrB
  refine (range_any (c := fun _ x => decide (a.getD x.toNat 0 ≠ v.getD x.toNat 0)) (some (w, true)) ?_).trans ?_
  · intro x k next hx
    have hm := hf x (List.mem_of_getElem? hx)
    rw [getO_pos hm.1 (by omega), getO_pos hm.1 (by omega), getD_get (show x.toNat < a.length by omega), getD_get (show x.toNat < v.length by omega)]
  · cases anyF (fun _ x => decide (a.getD x.toNat 0 ≠ v.getD x.toNat 0)) f 0 <;> rfl
theorem completionOf_eq {s : List XVariable} {l : List XEdit} {f v : List Int} (hs : schB s = true) (hl : edsB s l = true) (hv : valB s v = true) (hf : inV s f) (hle : prodV s ≤ 100) :
    sh_impl_completionOf s l f v = some (comO s l f v) := by
  have key : sh_impl_passing_impl_completionOf_1 s l (f, v, none) = some (comO s l f v, ()) := by
    unfold sh_impl_passing_impl_completionOf_1 comO
    have hvs := schB_vs hs
    have hb := hvs.bd
    have hvl := valB_len hv
    obtain ⟨n, hn⟩ := Int.eq_ofNat_of_zero_le (show 0 ≤ prodV s by omega)
    have hnt : (prodV s).toNat = n := by omega
    rw [combinations_eq hvs.len hvs.lev, Option.bind_some, hnt, hn]
    refine (loop_up n (fun k => ((none : Option (List Int)), (k : Int))) (fun k => some ((fndN (fitB s l f v) k (n - k)).map (digN s), ())) (by omega) ?_ ?_).trans (by simp)
    · intro next k hk hnx
      obtain ⟨d, hd⟩ : ∃ d, n - k = d + 1 := ⟨n - k - 1, by omega⟩
      have hd2 : n - (k + 1) = d := by omega
      rw [hd2] at hnx
      simp only [lt_dec hk, if_true]
      rw [valuesAt_eq hvs (by omega) (by omega), Option.bind_some, failsOne_eq hs hl (dig_val hvs _), Option.bind_some, hd]
      cases hfo : fOne l (digV s (k : Int)) with
      | true =>
        have hp : fitB s l f v k = false := by simp [fitB, hfo]
        simp only [fndN, hp, Bool.not_true, Bool.false_eq_true, if_false]
        rw [ckI_succ (by omega)]; exact hnx
      | false =>
        simp only [Bool.not_false, if_true]
        rw [completionOf_1_eq (digV_len s _) hvl hf, Option.bind_some]
        cases hag : agrB f v (digV s (k : Int)) with
        | true =>
          have hp : fitB s l f v k = true := by simp [fitB, hfo, hag]
          simp [fndN, hp]
        | false =>
          have hp : fitB s l f v k = false := by simp [fitB, hfo, hag]
          simp only [fndN, hp, Bool.false_eq_true, if_false, Bool.not_true]
          rw [ckI_succ (by omega)]; exact hnx
    · intro next
      simp [lt_self, fndN]
  unfold sh_impl_completionOf
  rw [key, Option.bind_some]
end AS
