/- Plain lemmas, and the law. No condition. -/
import Derived.Test.YtjikhkfmddflhaaQSmallestCoverS
set_option linter.unusedVariables false
set_option linter.unusedSimpArgs false
namespace AS
section
variable {R σ α β : Type}
theorem FUEL_big {n : Nat} (h : n ≤ 4611686018427387904) : n < FUEL := Nat.lt_of_le_of_lt h (by decide +kernel)
/-- A loop that counts. -/
theorem loop_up {body : (σ → Option R) → σ → Option R} (n : Nat) (S : Nat → σ) (G : Nat → Option R) (hn : n ≤ 4611686018427387904)
    (hs : ∀ next k, k < n → next (S (k + 1)) = G (k + 1) → body next (S k) = G k) (he : ∀ next, body next (S n) = G n) : loopF body FUEL (S 0) = G 0 := by
  have key : ∀ d k, k + d = n → ∀ m, d < m → loopF body m (S k) = G k := by
    intro d
    induction d with
    | zero => intro k hk m hm; obtain ⟨m, rfl⟩ := Nat.exists_eq_succ_of_ne_zero (by omega : m ≠ 0); simp only [loopF]; rw [show k = n by omega]; exact he _
    | succ d ih =>
      intro k hk m hm
      obtain ⟨m, rfl⟩ := Nat.exists_eq_succ_of_ne_zero (by omega : m ≠ 0)
      simp only [loopF]
      exact hs _ k (by omega) (ih (k + 1) (by omega) m (by omega))
  exact key n 0 (by omega) FUEL (FUEL_big hn)
/-- A range that only goes on. -/
theorem range_all {body : Nat → α → σ → (σ → Option R) → Option R} {fin : σ → Option R} {l : List α} {G : List α → Nat → σ → Option R}
    (h0 : ∀ k s, G [] k s = fin s) (hs : ∀ x l k s next, (∀ s', next s' = G l (k + 1) s') → body k x s next = G (x :: l) k s) : ∀ k s, rangeF body fin l k s = G l k s := by
  induction l with
  | nil => intro k s; simp only [rangeF, h0]
  | cons x l ih => intro k s; simp only [rangeF]; exact hs x l k s _ fun s' => ih (k + 1) s'
/-- A range with what is known of the elements. -/
theorem range_mem {body : Nat → α → σ → (σ → Option R) → Option R} {fin : σ → Option R} {l : List α} (I : Nat → σ → Prop) {G : List α → Nat → σ → Option R}
    (h0 : ∀ k s, I k s → k = l.length → fin s = G [] k s) (hs : ∀ x l' k s next, l[k]? = some x → l.drop k = x :: l' → I k s → (∀ s', I (k + 1) s' → next s' = G l' (k + 1) s') → body k x s next = G (x :: l') k s) :
    ∀ s, I 0 s → rangeF body fin l 0 s = G l 0 s := by
  have key : ∀ d k s, k + d = l.length → I k s → rangeF body fin (l.drop k) k s = G (l.drop k) k s := by
    intro d
    induction d with
    | zero =>
      intro k s hk hi
      rw [List.drop_of_length_le (by omega)]
      exact h0 k s hi (by omega)
    | succ d ih =>
      intro k s hk hi
      have hlt : k < l.length := by omega
      rw [List.drop_eq_getElem_cons hlt]
      simp only [rangeF]
      refine hs _ _ k s _ (List.getElem?_eq_getElem hlt) (List.drop_eq_getElem_cons hlt) hi fun s' hs' => ih (k + 1) s' (by omega) hs'
  intro s hi
  have := key l.length 0 s (by omega) hi
  simpa using this
theorem getO_some {l : List α} {k : Nat} {x : α} {f : α → Option R} (h : l[k]? = some x) : getO l (k : Int) f = f x := by simp [getO, h]
theorem ckI_succ {n : Nat} {f : Option R} (h : n ≤ 4611686018427387904) : ckI ((n : Int) + 1) f = f := ckI_pos (by omega) (by omega)
theorem lt_dec {k n : Nat} (h : k < n) : decide ((k : Int) < (n : Int)) = true := by simp [h]
theorem lt_self (n : Nat) : decide ((n : Int) < (n : Int)) = false := by simp
theorem cast_succ (k : Nat) : ((k + 1 : Nat) : Int) = (k : Int) + 1 := rfl
/-! ### One list into another, cell by cell -/
def mixL (a b : List α) (k : Nat) : List α := a.take k ++ b.drop k
theorem mixL_zero (a b : List α) : mixL a b 0 = b := by simp [mixL]
theorem mixL_end {a b : List α} (h : a.length = b.length) : mixL a b a.length = a := by simp [mixL, ← h]
theorem mixL_len {a b : List α} (h : a.length = b.length) (k : Nat) : (mixL a b k).length = b.length := by simp [mixL]; omega
theorem mixL_get {a b : List α} (h : a.length = b.length) {k : Nat} (hk : k < b.length) : (mixL a b k)[k]? = some b[k] := by
  simp only [mixL]
  rw [List.getElem?_append_right (by simp; omega)]
  simp [show min k a.length = k by omega, hk]
theorem mixL_set {a b : List α} (h : a.length = b.length) {k : Nat} (hk : k < a.length) : (mixL a b k).set k a[k] = mixL a b (k + 1) := by
  apply List.ext_getElem?
  intro i
  simp only [mixL]
  by_cases hi : i = k
  · subst hi
    rw [List.getElem?_set_self (by simp; omega), List.getElem?_append_left (by simp; omega), List.getElem?_take_of_lt (by omega)]
    rw [List.getElem?_eq_getElem (by omega)]
  · rw [List.getElem?_set_ne (Ne.symm hi)]
    simp only [List.getElem?_append, List.length_take, List.getElem?_take, List.getElem?_drop]
    by_cases h1 : i < k
    · simp [show i < min k a.length by omega, show i < min (k+1) a.length by omega, h1, show i < k + 1 by omega]
    · simp only [show ¬ i < min k a.length by omega, show ¬ i < min (k+1) a.length by omega, if_false]
      congr 1; omega
/-! ### The marks -/
def mks (n : Int) (m : Nat) : List Int := (List.range m).map fun (i : Nat) => n + (i : Int)
theorem mks_len (n : Int) (m : Nat) : (mks n m).length = m := by simp [mks]
theorem mks_get (n : Int) {m k : Nat} (h : k < m) : (mks n m)[k]'(by rw [mks_len]; exact h) = n + k := by simp [mks]
end
end AS
namespace AS
theorem toIntS_eq {l : List Int} (h : l.length ≤ 1048576) : sh_laws_toIntS l = some l := by
  unfold sh_laws_toIntS
  rw [mkO_pos (by omega) (by omega)]
  refine (loop_up l.length (fun k => (mixL l (List.replicate l.length 0) k, (k : Int))) (fun _ => some l) (by omega) ?_ ?_)
  · intro next k hk hn
    simp only [lt_dec hk, if_true]
    rw [getO_nat hk, getO_some (mixL_get (by simp) (by simpa using hk)), ckI_succ (by omega)]
    simp only [Int.toNat_natCast, mixL_set (b := List.replicate l.length 0) (by simp) hk]
    exact hn
  · intro next
    simp only [lt_self]
    simp [mixL_end (a := l) (b := List.replicate l.length 0) (by simp)]
theorem eqIntS_eq {a b : List Int} (h : a.length ≤ 1099511627776) : sh_laws_eqIntS a b = some (decide (a = b)) := by
  unfold sh_laws_eqIntS
  by_cases hl : a.length = b.length
  · simp only [hl, ne_eq, not_true_eq_false, decide_false, Bool.false_eq_true, if_false]
    refine (loop_up b.length (fun k => (k : Int)) (fun k => some (decide (a.drop k = b.drop k))) (by omega) ?_ ?_).trans (by simp)
    · intro next k hk hn
      have hk' : k < a.length := by omega
      simp only [lt_dec hk, if_true]
      rw [getO_nat hk', getO_nat hk, ckI_succ (by omega)]
      rw [List.drop_eq_getElem_cons hk', List.drop_eq_getElem_cons hk]
      by_cases e : a[k] = b[k]
      · simp only [e, not_true_eq_false, decide_false, Bool.false_eq_true, if_false, List.cons.injEq, true_and]
        exact hn
      · simp only [ne_eq, e, not_false_eq_true, decide_true, if_true, List.cons.injEq, false_and, decide_false]
    · intro next
      simp only [lt_self]
      simp [List.drop_of_length_le (Nat.le_refl _), List.drop_of_length_le (show a.length ≤ b.length by omega)]
  · have : ¬ (a = b) := fun e => hl (by rw [e])
    have h2 : ¬ ((a.length : Int) = (b.length : Int)) := by omega
    simp [this, h2]
theorem markIntS_eq {l : List Int} {n : Int} (h0 : 0 ≤ n) (h : n + l.length ≤ 4611686018427387904) : sh_laws_markIntS l n = some (mks n l.length, n + l.length) := by
  unfold sh_laws_markIntS
  have e0 : ((l, n, (0 : Int)) : List Int × Int × Int) = (fun k : Nat => (mixL (mks n l.length) l k, n + (k : Int), (k : Int))) 0 := by simp [mixL_zero]
  rw [e0]
  refine (loop_up l.length (fun k : Nat => (mixL (mks n l.length) l k, n + (k : Int), (k : Int))) (fun _ => some (mks n l.length, n + l.length)) (by omega) ?_ ?_)
  · intro next k hk hn
    have hm : k < (mks n l.length).length := by rw [mks_len]; exact hk
    simp only [mixL_len (mks_len n l.length), lt_dec hk, if_true]
    rw [getO_some (mixL_get (mks_len n l.length) hk), ckI_pos (by omega) (by omega), ckI_succ (by omega)]
    simp only [Int.toNat_natCast]
    rw [← mks_get n hk, mixL_set (mks_len n l.length) hm, ← hn, mks_get n hk]
    simp only [cast_succ, Int.add_assoc]
  · intro next
    simp only [mixL_len (mks_len n l.length), lt_self]
    have := mixL_end (mks_len n l.length)
    rw [mks_len] at this
    simp [this]
theorem heldIntS_eq {m : Nat} {n : Int} (h0 : 0 ≤ n) (h : n + m ≤ 4611686018427387904) : sh_laws_heldIntS (mks n m) n = some (n + m) := by
  unfold sh_laws_heldIntS
  have e0 : ((n, (0 : Int)) : Int × Int) = (fun k : Nat => (n + (k : Int), (k : Int))) 0 := by simp
  rw [e0]
  refine (loop_up m (fun k : Nat => (n + (k : Int), (k : Int))) (fun _ => some (n + m)) (by omega) ?_ ?_)
  · intro next k hk hn
    have hm : k < (mks n m).length := by rw [mks_len]; exact hk
    simp only [mks_len, lt_dec hk, if_true]
    rw [getO_nat hm, mks_get n hk, ckI_pos (by omega) (by omega), ckI_succ (by omega)]
    simp only [ne_eq, not_true_eq_false, decide_false, Bool.false_eq_true, if_false]
    rw [← hn]; simp only [cast_succ, Int.add_assoc]
  · intro next
    simp only [mks_len, lt_self]
    simp
theorem l1In_eq (x lo hi : Int) : sh_spec_l1In x lo hi = some (decide (lo ≤ x) && decide (x ≤ hi)) := by
  unfold sh_spec_l1In
  by_cases h : lo ≤ x <;> simp [h]
/-! ### AddCells -/
end AS
namespace AS
theorem loop_down {R σ : Type} {body : (σ → Option R) → σ → Option R} (n : Nat) (S : Nat → σ) (G : Nat → Option R) (hn : n ≤ 4611686018427387904)
    (hs : ∀ next k, k < n → next (S k) = G k → body next (S (k + 1)) = G (k + 1)) (he : ∀ next, body next (S 0) = G 0) : loopF body FUEL (S n) = G n := by
  have := loop_up (body := body) n (fun j => S (n - j)) (fun j => G (n - j)) hn (fun next k hk hx => by
    have e : n - k = (n - (k + 1)) + 1 := by omega
    rw [e]; exact hs next (n - (k + 1)) (by omega) hx) (fun next => by
    simp only [Nat.sub_self]; exact he next)
  simpa using this
theorem mixL_setD {α : Type} {a b : List α} (h : a.length = b.length) {k : Nat} (hk : k < b.length) : (mixL a b (k + 1)).set k b[k] = mixL a b k := by
  apply List.ext_getElem?
  intro i
  simp only [mixL]
  by_cases hi : i = k
  · subst hi
    rw [List.getElem?_set_self (by simp; omega), List.getElem?_append_right (by simp; omega)]
    simp [show min i a.length = i by omega, hk]
  · rw [List.getElem?_set_ne (Ne.symm hi)]
    simp only [List.getElem?_append, List.length_take, List.getElem?_take, List.getElem?_drop]
    by_cases h1 : i < k
    · simp [show i < min k a.length by omega, show i < min (k+1) a.length by omega, h1, show i < k + 1 by omega]
    · simp only [show ¬ i < min k a.length by omega, show ¬ i < min (k+1) a.length by omega, if_false]
      congr 1; omega
theorem mixL_getD {α : Type} {a b : List α} (h : a.length = b.length) {k : Nat} (hk : k < a.length) : (mixL a b (k + 1))[k]? = some a[k] := by
  simp only [mixL]
  rw [List.getElem?_append_left (by simp; omega), List.getElem?_take_of_lt (by omega), List.getElem?_eq_getElem hk]
theorem getO_int {R α : Type} {l : List α} {i : Int} {k : Nat} {x : α} {f : α → Option R} (hi : i = (k : Int)) (h : l[k]? = some x) : getO l i f = f x := by subst hi; exact getO_some h
def valid (s : List Int) : Prop := s.length ≤ 4 ∧ ∀ x ∈ s, 1 ≤ x ∧ x ≤ 30
theorem valid.drop {s : List Int} (h : valid s) (k : Nat) : valid (s.drop k) := ⟨by have := h.1; simp; omega, fun y hy => h.2 y (List.mem_of_mem_drop hy)⟩
theorem valid.get {s : List Int} (h : valid s) {k : Nat} {x : Int} (hx : s[k]? = some x) : 1 ≤ x ∧ x ≤ 30 := h.2 x (List.mem_of_getElem? hx)
/-! ### How many cells -/
/-! ### Strides -/
/-! ### Indices -/
/-! ### Cells -/
/-- Indices that fit sizes. -/
def fits (s ix : List Int) : Prop := ix.length = s.length ∧ ∀ (k : Nat) (x y : Int), s[k]? = some x → ix[k]? = some y → 0 ≤ y ∧ y ≤ x
theorem fits.set {s ix : List Int} (h : fits s ix) {d : Nat} {x y : Int} (hx : s[d]? = some x) (h0 : 0 ≤ y) (h1 : y ≤ x) : fits s (ix.set d y) := by
  refine ⟨by rw [List.length_set]; exact h.1, fun k x' y' hx' hy' => ?_⟩
  by_cases e : d = k
  · subst e
    rw [hx] at hx'; cases hx'
    have hk : d < ix.length := by rw [h.1]; exact (List.getElem?_eq_some_iff.1 hx).1
    rw [List.getElem?_set_self hk] at hy'; cases hy'
    exact ⟨h0, h1⟩
  · rw [List.getElem?_set_ne e] at hy'
    exact h.2 k x' y' hx' hy'
end AS
namespace AS
section
variable {α : Type}
theorem to_loop {f : α → Option α} {z : α} {l : List α} (hl : l.length ≤ 1099511627776) (hf : ∀ x ∈ l, f x = some x) :
    mkO (l.length : Int) (loopF (fun (nx : (List α × Int) → Option (List α)) (s : List α × Int) =>
      (if (decide (s.2 < (l.length : Int))) = true then
        getO l s.2 fun x => (f x).bind fun y => getO s.1 s.2 fun _ => ckI (s.2 + (1 : Int)) <| nx ((s.1.set (s.2).toNat y), (s.2 + (1 : Int)))
      else some s.1)) FUEL ((List.replicate ((l.length : Int)).toNat z), (0 : Int))) = some l := by
  rw [mkO_pos (by omega) (by omega)]
  refine (loop_up l.length (fun k => (mixL l (List.replicate l.length z) k, (k : Int))) (fun _ => some l) (by omega) ?_ ?_)
  · intro next k hk hn
    simp only [lt_dec hk, if_true]
    rw [getO_nat hk, hf _ (List.getElem_mem hk), Option.bind_some, getO_some (mixL_get (by simp) (by simpa using hk)), ckI_succ (by omega)]
    simp only [Int.toNat_natCast, mixL_set (b := List.replicate l.length z) (by simp) hk]
    exact hn
  · intro next
    simp only [lt_self]
    simp [mixL_end (a := l) (b := List.replicate l.length z) (by simp)]
theorem eq_loop [DecidableEq α] {f : α → α → Option Bool} {a b : List α} (h : a.length ≤ 1099511627776) (hf : ∀ x ∈ a, ∀ y, f x y = some (decide (x = y))) :
    (if (decide ((a.length : Int) ≠ (b.length : Int))) = true then some false else
      loopF (fun (nx : Int → Option Bool) (s : Int) =>
        (if (decide (s < (a.length : Int))) = true then
          getO a s fun x => getO b s fun y => (f x y).bind fun r => (if (!r) = true then some false else ckI (s + (1 : Int)) <| nx (s + (1 : Int)))
        else some true)) FUEL (0 : Int)) = some (decide (a = b)) := by
  by_cases hl : a.length = b.length
  · simp only [hl, ne_eq, not_true_eq_false, decide_false, Bool.false_eq_true, if_false]
    refine (loop_up b.length (fun k => (k : Int)) (fun k => some (decide (a.drop k = b.drop k))) (by omega) ?_ ?_).trans (by simp)
    · intro next k hk hn
      have hk' : k < a.length := by omega
      simp only [lt_dec hk, if_true]
      rw [getO_nat hk', getO_nat hk, ckI_succ (by omega), hf _ (List.getElem_mem hk'), Option.bind_some]
      rw [List.drop_eq_getElem_cons hk', List.drop_eq_getElem_cons hk]
      by_cases e : a[k] = b[k]
      · simp only [e, decide_true, Bool.not_true, Bool.false_eq_true, if_false, List.cons.injEq, true_and]
        exact hn
      · simp only [e, decide_false, Bool.not_false, if_true, List.cons.injEq, false_and]
    · intro next
      simp only [lt_self]
      simp [List.drop_of_length_le (Nat.le_refl _), List.drop_of_length_le (show a.length ≤ b.length by omega)]
  · have : ¬ (a = b) := fun e => hl (by rw [e])
    have h2 : ¬ ((a.length : Int) = (b.length : Int)) := by omega
    simp [this, h2]
/-- The sum of a measure. -/
def sumL (sz : α → Nat) (l : List α) : Nat := (l.map sz).sum
theorem sumL_cons (sz : α → Nat) (x : α) (l : List α) : sumL sz (x :: l) = sz x + sumL sz l := by simp [sumL]
theorem sumL_take (sz : α → Nat) {l : List α} {k : Nat} (h : k < l.length) : sumL sz (l.take (k + 1)) = sumL sz (l.take k) + sz l[k] := by
  simp only [sumL, List.take_add_one, List.map_append, List.sum_append, List.getElem?_eq_getElem h, Option.toList, List.map_cons, List.map_nil, List.sum_cons, List.sum_nil, Nat.add_zero]
theorem sumL_take_le (sz : α → Nat) (l : List α) (k : Nat) : sumL sz (l.take k) ≤ sumL sz l := by
  have h := congrArg (fun l => (l.map sz).sum) (List.take_append_drop k l)
  simp only [List.map_append, List.sum_append] at h
  simp only [sumL]; omega
theorem sumL_mem (sz : α → Nat) {l : List α} {x : α} (h : x ∈ l) : sz x ≤ sumL sz l := by
  induction l with
  | nil => cases h
  | cons y l ih =>
    rw [sumL_cons]
    rcases List.mem_cons.1 h with rfl | h
    · omega
    · have := ih h; omega
/-- The marks on a list, element by element. -/
def mkL (mk : α → Int → α) (sz : α → Nat) : List α → Int → List α
  | [], _ => []
  | x :: l, n => mk x n :: mkL mk sz l (n + sz x)
theorem mkL_len (mk : α → Int → α) (sz : α → Nat) : ∀ (l : List α) (n : Int), (mkL mk sz l n).length = l.length
  | [], _ => rfl
  | x :: l, n => by simp [mkL, mkL_len mk sz l]
theorem mkL_get (mk : α → Int → α) (sz : α → Nat) : ∀ (l : List α) (n : Int) (k : Nat) (h : k < l.length), (mkL mk sz l n)[k]'(by rw [mkL_len]; exact h) = mk l[k] (n + (sumL sz (l.take k) : Nat))
  | x :: l, n, 0, _ => by simp [mkL, sumL]
  | x :: l, n, k + 1, h => by
    simp only [mkL, List.getElem_cons_succ, List.take_succ_cons, sumL_cons]
    rw [mkL_get mk sz l (n + sz x) k (by simpa using h)]
    congr 1
    omega
/-- What is left of an allowance. -/
def left (a : Int) (n : Nat) : Int := if (n : Int) ≤ a then a - n else -1
theorem left_pos {a : Int} {n : Nat} (h : (n : Int) ≤ a) : left a n = a - n := if_pos h
theorem sz_loop {sz : α → Nat} {f : α → Int → Option Int} {l : List α} {a : Int} (h0 : 0 ≤ a) (h1 : a ≤ 1048576) (hl : l.length ≤ 9223372036854775807)
    (hf : ∀ x ∈ l, ∀ m : Int, 0 ≤ m → m ≤ 1048576 → f x m = some (left m (sz x))) :
    (ckI (a - (l.length : Int)) <| (if (decide ((a - (l.length : Int)) < (0 : Int))) = true then some (-1 : Int) else
      loopF (fun (nx : (Int × Int) → Option Int) (s : Int × Int) =>
        (if (decide (s.2 < (l.length : Int))) = true then
          getO l s.2 fun x => (f x s.1).bind fun r => (if (decide (r < (0 : Int))) = true then some (-1 : Int) else ckI (s.2 + (1 : Int)) <| nx (r, (s.2 + (1 : Int))))
        else some s.1)) FUEL ((a - (l.length : Int)), (0 : Int)))) = some (left a (l.length + sumL sz l)) := by
  · rw [ckI_pos (by omega) (by omega)]
    by_cases hn : a - (l.length : Int) < 0
    · simp only [hn, decide_true, if_true, left, show ¬ (((l.length + sumL sz l : Nat) : Int) ≤ a) by omega, if_false]
    · have hbig : l.length ≤ 4611686018427387904 := by omega
      simp only [hn, decide_false, Bool.false_eq_true, if_false]
      -- the first element too large decides
      have key : ∀ d k, k + d = l.length → ∀ m, d < m → ((l.length + sumL sz (l.take k) : Nat) : Int) ≤ a →
          loopF (fun (nx : (Int × Int) → Option Int) (s : Int × Int) =>
            (if (decide (s.2 < (l.length : Int))) = true then
              getO l s.2 fun x => (f x s.1).bind fun r => (if (decide (r < (0 : Int))) = true then some (-1 : Int) else ckI (s.2 + (1 : Int)) <| nx (r, (s.2 + (1 : Int))))
            else some s.1)) m ((a - (l.length : Int) - (sumL sz (l.take k) : Nat)), (k : Int)) = some (AS.left a (l.length + sumL sz l)) := by
        intro d
        induction d with
        | zero =>
          intro k hk m hm hle
          obtain ⟨m, rfl⟩ := Nat.exists_eq_succ_of_ne_zero (by omega : m ≠ 0)
          have e : k = l.length := by omega
          subst e
          simp only [loopF, lt_self, Bool.false_eq_true, if_false, List.take_length] at hle ⊢
          rw [left_pos hle]
          congr 1; omega
        | succ d ih =>
          intro k hk m hm hle
          obtain ⟨m, rfl⟩ := Nat.exists_eq_succ_of_ne_zero (by omega : m ≠ 0)
          have hlt : k < l.length := by omega
          simp only [loopF, lt_dec hlt, if_true]
          rw [getO_nat hlt, hf _ (List.getElem_mem hlt) _ (by omega) (by omega), Option.bind_some]
          by_cases hs : ((sz l[k] : Nat) : Int) ≤ a - (l.length : Int) - (sumL sz (l.take k) : Nat)
          · rw [left_pos hs, ckI_succ (by omega)]
            simp only [show ¬ (a - (l.length : Int) - (sumL sz (l.take k) : Nat) - (sz l[k] : Nat) < 0) by omega, decide_false, Bool.false_eq_true, if_false]
            have := ih (k + 1) (by omega) m (by omega) (by rw [sumL_take sz hlt]; omega)
            rw [sumL_take sz hlt] at this
            rw [← this]
            congr 2
            omega
          · have h2 : AS.left (a - (l.length : Int) - (sumL sz (l.take k) : Nat)) (sz l[k]) = -1 := if_neg hs
            rw [h2]
            have h3 := sumL_take_le sz l (k + 1)
            rw [sumL_take sz hlt] at h3
            simp only [show ((-1 : Int) < 0) = True by simp, decide_true, if_true, AS.left, show ¬ (((l.length + sumL sz l : Nat) : Int) ≤ a) by omega, if_false]
      have := key l.length 0 (by omega) FUEL (FUEL_big hbig) (by simp [sumL]; omega)
      simpa [sumL] using this
end
end AS
namespace AS
theorem szIntS_eq {l : List Int} {a : Int} (h0 : 0 ≤ a) (h1 : a ≤ 1048576) (hl : l.length ≤ 9223372036854775807) : sh_laws_szIntS l a = some (left a l.length) := by
  unfold sh_laws_szIntS
  rw [ckI_pos (by omega) (by omega)]
  unfold left
  by_cases h : a - (l.length : Int) < 0
  · simp [h, show ¬ ((l.length : Int) ≤ a) by omega]
  · simp [h, show ((l.length : Int) ≤ a) by omega]
theorem left_no {a : Int} {m : Nat} (h : ¬ (m : Int) ≤ a) : left a m = -1 := if_neg h
theorem XCube.ext' {a b : XCube} (h1 : a.Sizes = b.Sizes) (h2 : a.Cells = b.Cells) : a = b := by cases a; cases b; simp_all
/-! ### Right form -/
/-! ### The first break -/
end AS
namespace AS
/-! ### The law's own functions on variables -/
def bulkV (v : XVariable) : Nat := v.Name.length
theorem szVariable_eq {v : XVariable} {a : Int} (h0 : 0 ≤ a) (h1 : a ≤ 1048576) (hb : Bd.bd v) : sh_laws_szVariable v a = some (left a (bulkV v)) := by
  unfold sh_laws_szVariable
  have hl : v.Name.length ≤ 9223372036854775807 := hb.1.1
  rw [ckI_pos (by omega) (by omega)]
  unfold left bulkV
  by_cases h : a - (v.Name.length : Int) < 0
  · simp [h, show ¬ ((v.Name.length : Int) ≤ a) by omega]
  · simp [h, show ((v.Name.length : Int) ≤ a) by omega]
def bulkVS (s : List XVariable) : Nat := s.length + sumL bulkV s
theorem szVariableS_eq {s : List XVariable} {a : Int} (h0 : 0 ≤ a) (h1 : a ≤ 1048576) (hb : Bd.bd s) : sh_laws_szVariableS s a = some (left a (bulkVS s)) := by
  unfold sh_laws_szVariableS
  exact sz_loop h0 h1 hb.1 fun x hx m hm hm2 => szVariable_eq hm hm2 (hb.2 x hx)
theorem toVariable_eq (v : XVariable) : sh_laws_toVariable v = some v := rfl
theorem toVariableS_eq {s : List XVariable} (h : bulkVS s ≤ 1048576) : sh_laws_toVariableS s = some s := by
  unfold sh_laws_toVariableS
  exact to_loop (by unfold bulkVS at h; omega) fun x _ => toVariable_eq x
theorem XVariable.ext' {a b : XVariable} (h1 : a.Name = b.Name) (h2 : a.Levels = b.Levels) : a = b := by cases a; cases b; simp_all
theorem eqVariable_eq (a b : XVariable) : sh_laws_eqVariable a b = some (decide (a = b)) := by
  unfold sh_laws_eqVariable
  by_cases h1 : a.Name = b.Name
  · by_cases h2 : a.Levels = b.Levels
    · simp [h1, h2, XVariable.ext' h1 h2]
    · simp [h1, h2, show ¬ a = b from fun e => h2 (by rw [e])]
  · simp [h1, show ¬ a = b from fun e => h1 (by rw [e])]
theorem eqVariableS_eq {a b : List XVariable} (h : bulkVS a ≤ 1048576) : sh_laws_eqVariableS a b = some (decide (a = b)) := by
  unfold sh_laws_eqVariableS
  exact eq_loop (by unfold bulkVS at h; omega) fun x _ y => eqVariable_eq x y
/-! ### Schemas -/
def lowB (n : List UInt8) : Bool := n.all fun c => decide ((97 : Int) ≤ (c.toNat : Int)) && decide ((c.toNat : Int) ≤ 122)
def wordB (n : List UInt8) : Bool := lowB n && (decide (1 ≤ n.length) && decide (n.length ≤ 8))
theorem sName_eq {n : List UInt8} (h : n.length ≤ 1099511627776) : sh_spec_sName n = some (wordB n) := by
  unfold sh_spec_sName
  refine (loop_up n.length (fun k => (k : Int)) (fun k => some (lowB (n.drop k) && (decide (1 ≤ n.length) && decide (n.length ≤ 8)))) (by omega) ?_ ?_).trans (by simp [wordB])
  · intro next k hk hn
    simp only [lt_dec hk, if_true]
    rw [getO_nat hk, List.drop_eq_getElem_cons hk]
    by_cases h1 : (n[k].toNat : Int) < 97
    · simp only [h1, decide_true, if_true, lowB, List.all_cons, show decide ((97 : Int) ≤ (n[k].toNat : Int)) = false by (simp only [decide_eq_false_iff_not]; omega), Bool.false_and]
    · by_cases h2 : (122 : Int) < (n[k].toNat : Int)
      · simp only [h1, h2, decide_true, decide_false, Bool.false_eq_true, if_false, if_true, lowB, List.all_cons, show decide ((n[k].toNat : Int) ≤ 122) = false by (simp only [decide_eq_false_iff_not]; omega), Bool.and_false, Bool.false_and]
      · simp only [h1, h2, decide_false, Bool.false_eq_true, if_false]
        rw [ckI_succ (by omega)]
        refine hn.trans ?_
        have : (decide ((97 : Int) ≤ (n[k].toNat : Int)) && decide ((n[k].toNat : Int) ≤ 122)) = true := by simp only [Bool.and_eq_true, decide_eq_true_eq]; omega
        simp only [lowB, List.all_cons, this, Bool.true_and]
  · intro next
    simp only [lt_self, Bool.false_eq_true, if_false, l1In_eq, Option.bind_some, List.drop_length, lowB, List.all_nil, Bool.true_and, Option.some.injEq]
    congr 1 <;> (congr 1; apply propext; omega)
theorem isWord_eq (n : List UInt8) : sh_impl_isWord n = some (wordB n) := by
  unfold sh_impl_isWord
  by_cases h1 : (n.length : Int) < 1
  · simp [h1, wordB, show ¬ (1 ≤ n.length) by omega]
  · by_cases h2 : (8 : Int) < (n.length : Int)
    · simp [h1, h2, wordB, show ¬ (n.length ≤ 8) by omega]
    · simp only [h1, h2, decide_false, Bool.false_eq_true, if_false]
      refine (range_all (G := fun l _ _ => some (lowB l)) (fun _ _ => rfl) ?_ 0 ()).trans (by simp only [wordB, show decide (1 ≤ n.length) = true by (simp; omega), show decide (n.length ≤ 8) = true by (simp; omega), Bool.and_true])
      intro x l k s next ih
      simp only [ih, lowB, List.all_cons]
      by_cases h3 : (x.toNat : Int) < 97
      · simp [h3, show ¬ (97 ≤ (x.toNat : Int)) by omega]
      · by_cases h4 : (122 : Int) < (x.toNat : Int)
        · simp [h3, h4, show ¬ ((x.toNat : Int) ≤ 122) by omega]
        · have : (decide ((97 : Int) ≤ (x.toNat : Int)) && decide ((x.toNat : Int) ≤ 122)) = true := by simp only [Bool.and_eq_true, decide_eq_true_eq]; omega
          simp only [h3, h4, decide_false, Bool.false_eq_true, if_false, this, Bool.true_and]
def hasName (l : List XVariable) (n : List UInt8) : Bool := l.any fun v => decide (v.Name = n)
def findI : List XVariable → List UInt8 → Nat → Int
  | [], _, _ => -1
  | v :: l, n, k => if v.Name = n then k else findI l n (k + 1)
theorem findI_nonneg : ∀ (l : List XVariable) (n : List UInt8) (k : Nat), decide (0 ≤ findI l n k) = hasName l n
  | [], _, _ => rfl
  | v :: l, n, k => by
    simp only [findI, hasName, List.any_cons]
    by_cases h : v.Name = n
    · simp [h]
    · simp only [h, if_false, decide_false, Bool.false_or]; exact findI_nonneg l n (k + 1)
theorem sFind_eq (l : List XVariable) (n : List UInt8) : sh_spec_sFind l n = some (findI l n 0) := by
  unfold sh_spec_sFind
  refine range_all (G := fun l k _ => some (findI l n k)) (fun _ _ => rfl) ?_ 0 ()
  intro x l k s next ih
  simp only [ih, findI]
  by_cases h : x.Name = n <;> simp [h]
def levB (v : XVariable) : Bool := decide (2 ≤ v.Levels) && decide (v.Levels ≤ 8)
def schFrom (s : List XVariable) : List XVariable → Nat → Bool
  | [], _ => true
  | v :: l, k => wordB v.Name && (levB v && (!(hasName (s.take k) v.Name) && schFrom s l (k + 1)))
def schB (s : List XVariable) : Bool := decide (1 ≤ s.length) && decide (s.length ≤ 6) && schFrom s s 0
theorem sGood_eq {s : List XVariable} (h : ∀ v ∈ s, v.Name.length ≤ 1099511627776) : sh_spec_sGood s = some (schB s) := by
  unfold sh_spec_sGood
  rw [l1In_eq, Option.bind_some]
  have e : (decide ((1 : Int) ≤ (s.length : Int)) && decide ((s.length : Int) ≤ 6)) = (decide (1 ≤ s.length) && decide (s.length ≤ 6)) := by
    congr 1 <;> (congr 1; apply propext; omega)
  rw [e]
  cases h1 : (decide (1 ≤ s.length) && decide (s.length ≤ 6)) with
  | false => simp [schB, h1]
  | true =>
    simp only [Bool.not_true, Bool.false_eq_true, if_false]
    refine (range_mem (I := fun _ _ => True) (G := fun l k _ => some (schFrom s l k)) (fun _ _ _ _ => rfl) ?_ () trivial).trans (by simp [schB, h1])
    intro x l' k u next hx _ _ hn
    have hk := (List.getElem?_eq_some_iff.1 hx).1
    rw [sName_eq (h x (List.mem_of_getElem? hx)), Option.bind_some, l1In_eq, Option.bind_some]
    have e2 : (decide ((2 : Int) ≤ x.Levels) && decide (x.Levels ≤ 8)) = levB x := rfl
    simp only [e2, schFrom]
    cases wordB x.Name with
    | false => rfl
    | true =>
      cases levB x with
      | false => rfl
      | true =>
        simp only [Bool.not_true, Bool.false_eq_true, if_false, Bool.true_and]
        rw [ck_pos (by simp; omega), sFind_eq, Option.bind_some, findI_nonneg]
        simp only [Int.toNat_natCast, List.drop_zero]
        cases hasName (s.take k) x.Name with
        | true => rfl
        | false => simp only [Bool.false_eq_true, if_false, Bool.not_false, Bool.true_and]; exact hn () trivial
theorem isSchema_eq (s : List XVariable) : sh_impl_IsSchema s = some (schB s) := by
  unfold sh_impl_IsSchema
  by_cases h1 : (s.length : Int) < 1
  · simp [h1, schB, show ¬ (1 ≤ s.length) by omega]
  · by_cases h2 : (6 : Int) < (s.length : Int)
    · simp [h1, h2, schB, show ¬ (s.length ≤ 6) by omega]
    · have e : (decide (1 ≤ s.length) && decide (s.length ≤ 6)) = true := by simp; omega
      simp only [h1, h2, decide_false, Bool.false_eq_true, if_false]
      refine (range_mem (I := fun _ _ => True) (G := fun l k _ => some (schFrom s l k)) (fun _ _ _ _ => rfl) ?_ () trivial).trans (by simp only [schB, e, Bool.true_and])
      intro x l' k u next hx _ _ hn
      have hk := (List.getElem?_eq_some_iff.1 hx).1
      rw [isWord_eq, Option.bind_some]
      simp only [schFrom]
      cases wordB x.Name with
      | false => rfl
      | true =>
        simp only [Bool.not_true, Bool.false_eq_true, if_false, Bool.true_and]
        by_cases h3 : x.Levels < 2
        · simp [h3, levB, show ¬ (2 ≤ x.Levels) by omega]
        · by_cases h4 : 8 < x.Levels
          · simp [h3, h4, levB, show ¬ (x.Levels ≤ 8) by omega]
          · have : levB x = true := by simp [levB]; omega
            simp only [h3, h4, decide_false, Bool.false_eq_true, if_false, this, Bool.true_and]
            rw [ck_pos (by simp; omega)]
            simp only [Int.toNat_natCast, List.drop_zero]
            have hn' := hn () trivial
            refine range_all (G := fun l _ _ => some (!(hasName l x.Name) && schFrom s l' (k + 1))) (fun _ _ => by simp only [hasName, List.any_nil, Bool.not_false, Bool.true_and]; exact hn'.symm) ?_ 0 ()
            intro y l2 j u2 next2 ih
            simp only [ih, hasName, List.any_cons]
            by_cases h5 : y.Name = x.Name <;> simp [h5]
theorem schFrom_lev {s : List XVariable} : ∀ {l : List XVariable} {k : Nat}, schFrom s l k = true → ∀ v ∈ l, 2 ≤ v.Levels ∧ v.Levels ≤ 8
  | [], _, _, v, hv => by simp at hv
  | x :: l, k, h, v, hv => by
    simp only [schFrom, Bool.and_eq_true] at h
    rcases List.mem_cons.1 hv with rfl | hv
    · have := h.2.1; simpa [levB] using this
    · exact schFrom_lev h.2.2.2 v hv
theorem schB_lev {s : List XVariable} (h : schB s = true) {v : XVariable} (hv : v ∈ s) : 2 ≤ v.Levels ∧ v.Levels ≤ 8 := by
  simp only [schB, Bool.and_eq_true] at h
  exact schFrom_lev h.2 v hv
theorem schB_len {s : List XVariable} (h : schB s = true) : 1 ≤ s.length ∧ s.length ≤ 6 := by
  simp only [schB, Bool.and_eq_true, decide_eq_true_eq] at h
  exact h.1
/-! ### Weights, values, costs -/
def valF : List XVariable → List Int → Bool
  | v :: s, x :: a => decide (0 ≤ x) && decide (x < v.Levels) && valF s a
  | _, _ => true
def valB (s : List XVariable) (a : List Int) : Bool := decide (a.length = s.length) && valF s a
theorem sFits_eq {s : List XVariable} {a : List Int} (hs : schB s = true) : sh_spec_sFits s a = some (valB s a) := by
  unfold sh_spec_sFits
  by_cases h : a.length = s.length
  · simp only [show decide ((a.length : Int) ≠ (s.length : Int)) = false by simp [h], Bool.false_eq_true, if_false]
    refine (range_mem (I := fun _ _ => True) (G := fun l k _ => some (valF l (a.drop k))) ?_ ?_ () trivial).trans (by simp [valB, h])
    · intro k u _ _; simp [valF]
    · intro x l' k u next hx _ _ hn
      have hk := (List.getElem?_eq_some_iff.1 hx).1
      have hka : k < a.length := by omega
      have hl := schB_lev hs (List.mem_of_getElem? hx)
      rw [getO_nat hka, ckI_pos (by omega) (by omega), l1In_eq, Option.bind_some, List.drop_eq_getElem_cons hka]
      simp only [valF]
      have e : (decide (0 ≤ a[k]) && decide (a[k] ≤ x.Levels - 1)) = (decide (0 ≤ a[k]) && decide (a[k] < x.Levels)) := by
        congr 2; apply propext; omega
      rw [e]
      cases (decide (0 ≤ a[k]) && decide (a[k] < x.Levels)) with
      | false => simp
      | true => simp only [Bool.not_true, Bool.false_eq_true, if_false, Bool.true_and]; exact hn () trivial
  · simp [h, valB, show ¬ ((a.length : Int) = (s.length : Int)) by omega]
theorem areValues_eq (s : List XVariable) (a : List Int) : sh_impl_areValues s a = some (valB s a) := by
  unfold sh_impl_areValues
  by_cases h : a.length = s.length
  · simp only [show decide ((a.length : Int) ≠ (s.length : Int)) = false by simp [h], Bool.false_eq_true, if_false]
    refine (range_mem (I := fun _ _ => True) (G := fun l k _ => some (valF (s.drop k) l)) ?_ ?_ () trivial).trans (by simp [valB, h])
    · intro k u _ _; cases s.drop k <;> simp [valF]
    · intro x l' k u next hx _ _ hn
      have hk := (List.getElem?_eq_some_iff.1 hx).1
      have hks : k < s.length := by omega
      rw [getO_nat hks, List.drop_eq_getElem_cons hks]
      simp only [valF]
      by_cases h1 : x < 0
      · simp [h1, show ¬ (0 ≤ x) by omega]
      · by_cases h2 : s[k].Levels ≤ x
        · simp [h1, h2, show ¬ (x < s[k].Levels) by omega]
        · simp only [h1, h2, decide_false, Bool.false_eq_true, if_false, show decide (0 ≤ x) = true by (simp; omega), show decide (x < s[k].Levels) = true by (simp; omega), Bool.true_and]
          exact hn () trivial
  · simp [h, valB, show ¬ ((a.length : Int) = (s.length : Int)) by omega]
theorem names_of_bulk {s : List XVariable} (h : bulkVS s ≤ 1048576) : ∀ v ∈ s, v.Name.length ≤ 1099511627776 := by
  intro v hv
  have : v.Name.length ≤ sumL bulkV s := sumL_mem bulkV hv
  unfold bulkVS at h
  omega
end AS
namespace AS
section
variable {R σ α β : Type}
/-- Some elements of a list, each with what is made of it. -/
def selF (c : Nat → α → Bool) (f : Nat → α → β) : List α → Nat → List β
  | [], _ => []
  | x :: l, k => if c k x = true then f k x :: selF c f l (k + 1) else selF c f l (k + 1)
theorem selF_mem {c : Nat → α → Bool} {f : Nat → α → β} : ∀ {l : List α} {k : Nat} {y : β}, y ∈ selF c f l k → ∃ j x, l[j]? = some x ∧ c (k + j) x = true ∧ y = f (k + j) x
  | [], _, _, h => by simp [selF] at h
  | x :: l, k, y, h => by
    simp only [selF] at h
    have rec' : y ∈ selF c f l (k + 1) → ∃ j x', (x :: l)[j]? = some x' ∧ c (k + j) x' = true ∧ y = f (k + j) x' := fun h => by
      obtain ⟨j, x', h1, h2, h3⟩ := selF_mem h
      rw [show k + 1 + j = k + (j + 1) by omega] at h2 h3
      exact ⟨j + 1, x', by simpa using h1, h2, h3⟩
    split at h
    · rename_i hc
      rcases List.mem_cons.1 h with rfl | h
      · exact ⟨0, x, rfl, hc, rfl⟩
      · exact rec' h
    · exact rec' h
theorem range_sel {body : Nat → α → List β → (List β → Option R) → Option R} {fin : List β → Option R} {l : List α} {init : List β} (c : Nat → α → Bool) (f : Nat → α → β)
    (hs : ∀ x k s next, l[k]? = some x → s.length ≤ init.length + k → body k x s next = next (if c k x = true then s ++ [f k x] else s)) : rangeF body fin l 0 init = fin (init ++ selF c f l 0) := by
  refine (range_mem (I := fun k s => s.length ≤ init.length + k) (G := fun l' k s => fin (s ++ selF c f l' k)) ?_ ?_ init (by omega))
  · intro k s _ _; simp [selF]
  · intro x l' k s next hx _ hI hn
    rw [hs x k s next hx hI]
    by_cases h : c k x = true
    · simp only [h, if_true, selF]
      rw [hn _ (by simp; omega)]; simp
    · simp only [h, Bool.false_eq_true, if_false, selF]
      exact hn _ (by omega)
/-- Is there an element? -/
def anyF (c : Nat → α → Bool) : List α → Nat → Bool
  | [], _ => false
  | x :: l, k => c k x || anyF c l (k + 1)
theorem anyF_iff {c : Nat → α → Bool} : ∀ {l : List α} {k : Nat}, anyF c l k = true ↔ ∃ j x, l[j]? = some x ∧ c (k + j) x = true
  | [], k => by simp [anyF]
  | x :: l, k => by
    simp only [anyF, Bool.or_eq_true, anyF_iff (l := l)]
    constructor
    · rintro (h | ⟨j, y, h1, h2⟩)
      · exact ⟨0, x, rfl, h⟩
      · exact ⟨j + 1, y, by simpa using h1, by rw [show k + (j + 1) = k + 1 + j by omega]; exact h2⟩
    · rintro ⟨j, y, h1, h2⟩
      cases j with
      | zero => simp only [List.getElem?_cons_zero, Option.some.injEq] at h1; subst h1; exact .inl h2
      | succ j => exact .inr ⟨j, y, by simpa using h1, by rw [show k + 1 + j = k + (j + 1) by omega]; exact h2⟩
theorem range_any {body : Nat → α → Unit → (Unit → Option R) → Option R} {fin : Unit → Option R} {l : List α} (c : Nat → α → Bool) (r : Option R)
    (hs : ∀ x k next, l[k]? = some x → body k x () next = (if c k x = true then r else next ())) : rangeF body fin l 0 () = (if anyF c l 0 = true then r else fin ()) := by
  refine (range_mem (I := fun _ _ => True) (G := fun l' k _ => if anyF c l' k = true then r else fin ()) ?_ ?_ () trivial)
  · intro k s _ _; simp [anyF]
  · intro x l' k s next hx _ _ hn
    rw [hs x k next hx]
    by_cases h : c k x = true
    · simp [h, anyF]
    · have h' : c k x = false := by simpa using h
      simp only [h', anyF, Bool.false_or, Bool.false_eq_true, if_false]; exact hn _ trivial
/-- A loop with all answers known: it adds up. -/
def foldF (f : Nat → α → σ → σ) : List α → Nat → σ → σ
  | [], _, s => s
  | x :: l, k, s => foldF f l (k + 1) (f k x s)
theorem range_fold {body : Nat → α → σ → (σ → Option R) → Option R} {fin : σ → Option R} {l : List α} {init : σ} (I : Nat → σ → Prop) (f : Nat → α → σ → σ) (h0 : I 0 init)
    (hI : ∀ x k s, l[k]? = some x → I k s → I (k + 1) (f k x s)) (hs : ∀ x k s next, l[k]? = some x → I k s → body k x s next = next (f k x s)) : rangeF body fin l 0 init = fin (foldF f l 0 init) := by
  refine (range_mem (I := I) (G := fun l' k s => fin (foldF f l' k s)) ?_ ?_ init h0)
  · intro k s _ _; rfl
  · intro x l' k s next hx _ hi hn
    rw [hs x k s next hx hi]
    exact hn _ (hI x k s hx hi)
end
end AS
namespace AS
theorem sz_end {a : Int} {n : Nat} : (if (decide (left a n < (0 : Int))) = true then some (-1 : Int) else some (left a n)) = some (left a n) := by
  by_cases h : (n : Int) ≤ a
  · rw [left_pos h]; simp [show ¬ (a - (n : Int) < 0) by omega]
  · rw [left_no h]; rfl
theorem getO_set {R α : Type} {l : List α} {k : Nat} {x : α} {f : α → Option R} (h : k < l.length) : getO (l.set k x) (k : Int) f = f x := getO_some (by rw [List.getElem?_set_self h])
theorem mark_loop2 {α : Type} {mk : α → Int → α} {sz : α → Nat} {body : ((List α × Int × Int) → Option (List α × Int)) → (List α × Int × Int) → Option (List α × Int)} {l : List α} {n : Int} (B : Int) (hB : B ≤ 4611686018427387904) (hl : l.length ≤ 1099511627776) (h0 : 0 ≤ n) (h : n + (sumL sz l : Nat) ≤ B)
    (hb : ∀ nx (s : List α) (m : Int) (k : Nat) (x : α), k < s.length → s.length = l.length → s[k]? = some x → 0 ≤ m → m + sz x ≤ B → body nx (s, m, (k : Int)) = nx (s.set k (mk x m), m + sz x, (k : Int) + 1))
    (he : ∀ nx (s : List α) (m : Int), body nx (s, m, (s.length : Int)) = some (s, m)) :
    loopF body FUEL (l, n, (0 : Int)) = some (mkL mk sz l n, n + (sumL sz l : Nat)) := by
  have e0 : ((l, n, (0 : Int)) : List α × Int × Int) = (fun k : Nat => (mixL (mkL mk sz l n) l k, n + (sumL sz (l.take k) : Nat), (k : Int))) 0 := by simp [mixL_zero, sumL]
  rw [e0]
  refine (loop_up l.length (fun k : Nat => (mixL (mkL mk sz l n) l k, n + (sumL sz (l.take k) : Nat), (k : Int))) (fun _ => some (mkL mk sz l n, n + (sumL sz l : Nat))) (by omega) ?_ ?_)
  · intro next k hk hn
    have hlen := mkL_len mk sz l n
    have hm : k < (mkL mk sz l n).length := by rw [hlen]; exact hk
    have h1 := sumL_take_le sz l (k + 1)
    rw [sumL_take sz hk] at h1 hn
    have hmix := mixL_len hlen k
    rw [hb next _ _ k l[k] (by rw [hmix]; exact hk) hmix (mixL_get hlen hk) (by omega) (by omega)]
    rw [← mkL_get mk sz l n k hk, mixL_set hlen hm, ← hn]
    simp only [cast_succ, Int.add_assoc, Int.natCast_add]
  · intro next
    have hlen := mkL_len mk sz l n
    have := mixL_end hlen
    rw [hlen] at this
    rw [this]
    have h2 := he next (mkL mk sz l n) (n + (sumL sz (l.take l.length) : Nat))
    rw [hlen] at h2
    rw [h2]; simp
/-! ### Geographies -/
/-! ### Tables -/
/-! ### Records -/
/-! ### Variables: marks -/
theorem markText_some {n : Int} (h0 : 0 ≤ n) (h1 : n ≤ 1000000000) : ∃ r, sh_laws_markText n = some r := by
  unfold sh_laws_markText
  by_cases hn : n ≤ 0
  · exact ⟨[109, 48], by simp [hn]⟩
  · simp only [hn, decide_false, Bool.false_eq_true, if_false]
    suffices H : ∀ (k : Nat) (m : Int) (t : List UInt8), 0 ≤ m → m < k → m + t.length ≤ 1000000000 → ∃ r, loopF (fun (nx : (Int × (List UInt8)) → Option (List UInt8)) (s : (Int × (List UInt8))) =>
        (if (decide ((0 : Int) < s.1)) = true then
          ck ((10 : Int) ≠ 0) <| ckI ((48 : Int) + (s.1.tmod (10 : Int))) <| ckU ((48 : Int) + (s.1.tmod (10 : Int))) <|
          ck ([((48 : Int) + (s.1.tmod (10 : Int)))] = (bytesOf [((48 : Int) + (s.1.tmod (10 : Int)))]).map fun b => ((b.toNat : Nat) : Int)) <|
          lnO ((bytesOf [((48 : Int) + (s.1.tmod (10 : Int)))]).length + s.2.length) <| ck ((10 : Int) ≠ 0) <| ckI (s.1.tdiv (10 : Int)) <|
          nx ((s.1.tdiv (10 : Int)), ((bytesOf [((48 : Int) + (s.1.tmod (10 : Int)))]) ++ s.2))
        else lnO (([109] : List UInt8).length + s.2.length) <| some (([109] : List UInt8) ++ s.2))) k (m, t) = some r by
      have hF : (1000000001 : Nat) ≤ FUEL := by decide +kernel
      obtain ⟨d, hd⟩ := Nat.exists_eq_add_of_le hF
      have := H FUEL n [] h0 (by omega) (by simpa using h1)
      exact this
    intro k
    induction k with
    | zero => intro m t h0 h1; omega
    | succ k ih =>
      intro m t h0 h1 h2
      simp only [loopF]
      by_cases hm : 0 < m
      · simp only [hm, decide_true, if_true]
        have e1 : m.tmod 10 = m % 10 := Int.tmod_eq_emod_of_nonneg h0
        have e2 : m.tdiv 10 = m / 10 := Int.tdiv_eq_ediv_of_nonneg h0
        rw [e1, e2, ck_pos (by decide), ckI_pos (by omega) (by omega), ckU_pos (by omega) (by omega), ck_pos, lnO_pos (by simp [bytesOf]; omega), ck_pos (by decide), ckI_pos (by omega) (by omega)]
        · exact ih _ _ (by omega) (by omega) (by simp [bytesOf]; omega)
        · simp only [bytesOf, List.map_cons, List.map_nil, UInt8.toNat_ofNat', List.cons.injEq, and_true]
          omega
      · simp only [hm, decide_false, Bool.false_eq_true, if_false]
        rw [lnO_pos (by simp; omega)]
        exact ⟨_, rfl⟩
def mt (n : Int) : List UInt8 := (sh_laws_markText n).getD []
theorem markText_eq {n : Int} (h0 : 0 ≤ n) (h1 : n ≤ 1000000000) : sh_laws_markText n = some (mt n) := by
  obtain ⟨r, hr⟩ := markText_some h0 h1
  unfold mt; rw [hr]; rfl
def mkEV (v : XVariable) (n : Int) : XVariable := ⟨mt n, n + 1⟩
def marksVS (l : List XVariable) : Nat := sumL (fun _ => 2) l
theorem marksVS_le : ∀ (l : List XVariable), marksVS l ≤ 2 * l.length
  | [] => by simp [marksVS, sumL]
  | t :: l => by
    have := marksVS_le l
    simp only [marksVS, sumL_cons, List.length_cons] at this ⊢
    omega
theorem markVariableS_eq {l : List XVariable} {n : Int} (hl : l.length ≤ 1099511627776) (h0 : 0 ≤ n) (h : n + marksVS l ≤ 1000000000) : sh_laws_markVariableS l n = some (mkL mkEV (fun _ => 2) l n, n + marksVS l) := by
  unfold sh_laws_markVariableS
  refine mark_loop2 (mk := mkEV) (sz := fun _ => 2) 1000000000 (by omega) hl h0 h ?_ ?_
  · intro nx s m k x hk hs hx hm hB
    simp only [lt_dec hk, if_true, Int.toNat_natCast]
    rw [markText_eq hm (by omega), Option.bind_some, getO_some hx, ckI_pos (by omega) (by omega), getO_set hk]
    simp only [List.set_set]
    rw [ckI_pos (by omega) (by omega), ckI_succ (by omega)]
    congr 1
    simp only [mkEV, Prod.mk.injEq, and_true, true_and]
    omega
  · intro nx s m
    simp only [lt_self, Bool.false_eq_true, if_false]
end AS
namespace AS
/-! ### MarginOf -/
def risB (n : Int) : Int → List Int → Bool
  | _, [] => true
  | a, x :: l => decide (a < x) && (decide (x < n) && risB n x l)
theorem l1Rising_eq (l : List Int) (n : Int) (hl : l.length ≤ 1048576) : sh_spec_l1Rising l 0 (n - 1) = some (risB n (-1) l) := by
  unfold sh_spec_l1Rising
  refine (range_mem (I := fun k _ => ∀ j, j + 1 = k → ∃ x, l[j]? = some x ∧ 0 ≤ x) (G := fun l' k _ => some (risB n (if k = 0 then -1 else l.getD (k - 1) 0) l')) ?_ ?_ () (fun j hj => by omega)).trans (by simp)
  · intro k u _ _; simp [risB]
  · intro x l' k u next hx _ hI hn
    have hk := (List.getElem?_eq_some_iff.1 hx).1
    rw [l1In_eq, Option.bind_some]
    by_cases h0 : 0 ≤ x ∧ x ≤ n - 1
    · simp only [show decide (0 ≤ x) = true by simp [h0.1], show decide (x ≤ n - 1) = true by simp [h0.2], Bool.and_self, Bool.not_true, Bool.false_eq_true, if_false, risB, show decide (x < n) = true by (simp; omega), Bool.true_and]
      have hn' := hn () (fun j hj => ⟨x, by rw [show j = k by omega]; exact hx, h0.1⟩)
      have hgx : l.getD k 0 = x := by simp [List.getD_eq_getElem?_getD, hx]
      simp only [show ¬ (k + 1 = 0) by omega, if_false, Nat.add_sub_cancel, hgx] at hn'
      by_cases hk0 : k = 0
      · subst hk0
        simp only [show ¬ ((0 : Int) < ((0 : Nat) : Int)) by omega, decide_false, Bool.false_eq_true, if_false, if_true, show decide (-1 < x) = true by (simp; omega), Bool.true_and]
        exact hn'
      · obtain ⟨y, hy, hy0⟩ := hI (k - 1) (by omega)
        have hgy : l.getD (k - 1) 0 = y := by simp [List.getD_eq_getElem?_getD, hy]
        simp only [show ((0 : Int) < (k : Int)) by omega, decide_true, if_true, hk0, if_false, hgy]
        rw [ckI_pos (by omega) (by omega), getO_int (k := k - 1) (by omega) hy]
        by_cases h1 : x ≤ y
        · simp [h1, show ¬ (y < x) by omega]
        · simp only [h1, decide_false, Bool.false_eq_true, if_false, show decide (y < x) = true by (simp; omega), Bool.true_and]
          exact hn'
    · have e : (decide (0 ≤ x) && decide (x ≤ n - 1)) = false := by simp only [Bool.and_eq_false_iff, decide_eq_false_iff_not]; omega
      simp only [e, Bool.not_false, if_true, risB, Option.some.injEq]
      by_cases h1 : x < n
      · have : ¬ 0 ≤ x := by omega
        have hlast : ¬ ((if k = 0 then (-1 : Int) else l.getD (k - 1) 0) < x) := by
          by_cases hk0 : k = 0
          · simp only [hk0, if_true]; omega
          · obtain ⟨y, hy, hy0⟩ := hI (k - 1) (by omega)
            have hgy : l.getD (k - 1) 0 = y := by simp [List.getD_eq_getElem?_getD, hy]
            simp only [hk0, if_false, hgy]; omega
        simp only [hlast, decide_false, Bool.false_and]
      · simp only [h1, decide_false, Bool.false_and, Bool.and_false]
end AS
namespace AS
theorem ckK_u64 {R : Type} {n : Int} {f : Option R} (h0 : 0 ≤ n) (h1 : n ≤ 18446744073709551615) : ckK .u64 n f = f := if_pos ⟨h0, h1⟩
theorem ckK_i64 {R : Type} {n : Int} {f : Option R} (h0 : -9223372036854775808 ≤ n) (h1 : n ≤ 9223372036854775807) : ckK .i64 n f = f := if_pos ⟨h0, h1⟩
theorem getD_get {α : Type} {l : List α} {k : Nat} {d : α} (h : k < l.length) : l.getD k d = l[k] := by simp [List.getD_eq_getElem?_getD, h]
theorem not_anyF {α : Type} {c : Nat → α → Bool} {l : List α} (h : (!anyF c l 0) = true) {k : Nat} {x : α} (hx : l[k]? = some x) : c k x = false := by
  cases hc : c k x with
  | false => rfl
  | true =>
    have : anyF c l 0 = true := anyF_iff.2 ⟨k, x, hx, by simpa using hc⟩
    rw [this] at h; cases h
theorem if_not {b : Bool} : (if b = true then some false else some true) = some (!b) := by cases b <;> rfl
/-! ### Sets of levels -/
def full (v : XVariable) : Int := 2 ^ v.Levels.toNat - 1
theorem pow_bd {v : XVariable} (h : 2 ≤ v.Levels ∧ v.Levels ≤ 8) : (4 : Int) ≤ 2 ^ v.Levels.toNat ∧ (2 : Int) ^ v.Levels.toNat ≤ 256 := by
  have : v.Levels.toNat = 2 ∨ v.Levels.toNat = 3 ∨ v.Levels.toNat = 4 ∨ v.Levels.toNat = 5 ∨ v.Levels.toNat = 6 ∨ v.Levels.toNat = 7 ∨ v.Levels.toNat = 8 := by omega
  rcases this with h | h | h | h | h | h | h <;> rw [h] <;> decide
theorem full_bd {v : XVariable} (h : 2 ≤ v.Levels ∧ v.Levels ≤ 8) : 3 ≤ full v ∧ full v ≤ 255 := by
  have := pow_bd h; unfold full; omega
theorem fullSet_eq {v : XVariable} (h : 2 ≤ v.Levels ∧ v.Levels ≤ 8) : sh_impl_fullSet v = some (full v) := by
  unfold sh_impl_fullSet
  have := pow_bd h
  simp only [Int.one_mul]
  rw [ck_pos (by omega), ckI_pos (by omega) (by omega), ckI_pos (by omega) (by omega)]; rfl
theorem eFull_eq {s : List XVariable} (hs : schB s = true) {k : Nat} (hk : k < s.length) : sh_spec_eFull s (k : Int) = some (full s[k]) := by
  unfold sh_spec_eFull
  have hl := schB_lev hs (List.getElem_mem hk)
  have := pow_bd hl
  simp only [Int.one_mul]
  rw [getO_nat hk, ckK_u64 (by omega) (by omega), ck_pos (by omega), ckI_pos (by omega) (by omega), ckI_pos (by omega) (by omega)]; rfl
/-! ### Records and conditions -/
theorem valF_get : ∀ {s : List XVariable} {a : List Int}, valF s a = true → ∀ {k : Nat} {x : Int} {v : XVariable}, a[k]? = some x → s[k]? = some v → 0 ≤ x ∧ x < v.Levels
  | [], _, _, k, x, v, _, h => by simp at h
  | _ :: _, [], _, k, x, v, h, _ => by simp at h
  | v :: s, x :: a, h, 0, y, u, h1, h2 => by
    simp only [List.getElem?_cons_zero, Option.some.injEq] at h1 h2
    subst h1; subst h2
    simp only [valF, Bool.and_eq_true, decide_eq_true_eq] at h; exact h.1
  | v :: s, x :: a, h, k + 1, y, u, h1, h2 => by
    simp only [valF, Bool.and_eq_true] at h
    exact valF_get h.2 (by simpa using h1) (by simpa using h2)
theorem valB_len {s : List XVariable} {a : List Int} (h : valB s a = true) : a.length = s.length := by
  simp only [valB, Bool.and_eq_true, decide_eq_true_eq] at h; exact h.1
theorem valB_get {s : List XVariable} {a : List Int} (h : valB s a = true) {k : Nat} {x : Int} {v : XVariable} (h1 : a[k]? = some x) (h2 : s[k]? = some v) : 0 ≤ x ∧ x < v.Levels := by
  simp only [valB, Bool.and_eq_true, decide_eq_true_eq] at h; exact valF_get h.2 h1 h2
def offB (x v : Int) : Bool := decide ((((x / 2 ^ (v).toNat).toNat &&& (1 : Int).toNat : Nat) : Int) = (0 : Int))
theorem shr_bd {x : Int} (h : 0 ≤ x) (n : Nat) : 0 ≤ x / 2 ^ n ∧ x / 2 ^ n ≤ x := by
  have : (0 : Int) < 2 ^ n := Int.pow_pos (by omega)
  exact ⟨Int.ediv_nonneg h (by omega), Int.ediv_le_self _ h⟩
/-! ### Variables of a table -/
theorem risB_rng {n : Int} : ∀ {l : List Int} {a : Int}, risB n a l = true → ∀ d ∈ l, a < d ∧ d < n
  | [], _, _, d, hd => by simp at hd
  | x :: l, a, h, d, hd => by
    simp only [risB, Bool.and_eq_true, decide_eq_true_eq] at h
    rcases List.mem_cons.1 hd with rfl | hd
    · exact ⟨h.1, h.2.1⟩
    · have := risB_rng h.2.2 d hd; omega
theorem risB_len {n : Int} : ∀ {l : List Int} {a : Int}, a < n → risB n a l = true → (l.length : Int) ≤ n - 1 - a
  | [], _, ha, _ => by simp; omega
  | x :: l, a, _, h => by
    simp only [risB, Bool.and_eq_true, decide_eq_true_eq] at h
    have := risB_len (a := x) h.2.1 h.2.2
    simp only [List.length_cons]; omega
def partV (s : List XVariable) (l : List Int) : List XVariable := l.map fun v => s.getD v.toNat default
theorem partV_len (s : List XVariable) (l : List Int) : (partV s l).length = l.length := by simp [partV]
/-! ### How many cells -/
def prodV : List XVariable → Int
  | [] => 1
  | v :: l => v.Levels * prodV l
theorem mul_pow_bd {a x : Int} {k : Nat} (hk : k ≤ 5) (h1 : 1 ≤ a) (h2 : a ≤ 8 ^ k) (h3 : 2 ≤ x) (h4 : x ≤ 8) : 1 ≤ a * x ∧ a * x ≤ 8 ^ (k + 1) ∧ (8 : Int) ^ (k + 1) ≤ 262144 := by
  have a1 : 1 * 1 ≤ a * x := Int.mul_le_mul h1 (by omega) (by omega) (by omega)
  have a2 : a * x ≤ 8 ^ k * 8 := Int.mul_le_mul h2 (by omega) (by omega) (by omega)
  refine ⟨by omega, by rw [Int.pow_succ]; exact a2, ?_⟩
  have : k = 0 ∨ k = 1 ∨ k = 2 ∨ k = 3 ∨ k = 4 ∨ k = 5 := by omega
  rcases this with rfl | rfl | rfl | rfl | rfl | rfl <;> decide
theorem foldF_prod : ∀ (l : List XVariable) (k : Nat) (a : Int), foldF (fun _ v a => a * v.Levels) l k a = a * prodV l
  | [], _, a => by simp [foldF, prodV]
  | v :: l, k, a => by simp only [foldF, prodV, foldF_prod l, Int.mul_assoc]
theorem sCount_eq {l : List XVariable} (hl : l.length ≤ 6) (h : ∀ v ∈ l, 2 ≤ v.Levels ∧ v.Levels ≤ 8) : sh_spec_sCount l = some (prodV l) := by
  unfold sh_spec_sCount
  refine (range_fold (I := fun k a => 1 ≤ a ∧ a ≤ 8 ^ k) (f := fun _ v a => a * v.Levels) (by simp) ?_ ?_).trans (by rw [foldF_prod, Int.one_mul])
  · intro x k a hx hI
    have hk := (List.getElem?_eq_some_iff.1 hx).1
    have := h x (List.mem_of_getElem? hx)
    have := mul_pow_bd (show k ≤ 5 by omega) hI.1 hI.2 this.1 this.2
    exact ⟨this.1, this.2.1⟩
  · intro x k a next hx hI
    have hk := (List.getElem?_eq_some_iff.1 hx).1
    have := h x (List.mem_of_getElem? hx)
    have := mul_pow_bd (show k ≤ 5 by omega) hI.1 hI.2 this.1 this.2
    rw [ckI_pos (by omega) (by omega)]
theorem combinations_eq {l : List XVariable} (hl : l.length ≤ 6) (h : ∀ v ∈ l, 2 ≤ v.Levels ∧ v.Levels ≤ 8) : sh_impl_combinations l = some (prodV l) := by
  unfold sh_impl_combinations
  refine (range_fold (I := fun k a => 1 ≤ a ∧ a ≤ 8 ^ k) (f := fun _ v a => a * v.Levels) (by simp) ?_ ?_).trans (by rw [foldF_prod, Int.one_mul])
  · intro x k a hx hI
    have hk := (List.getElem?_eq_some_iff.1 hx).1
    have := h x (List.mem_of_getElem? hx)
    have := mul_pow_bd (show k ≤ 5 by omega) hI.1 hI.2 this.1 this.2
    exact ⟨this.1, this.2.1⟩
  · intro x k a next hx hI
    have hk := (List.getElem?_eq_some_iff.1 hx).1
    have := h x (List.mem_of_getElem? hx)
    have := mul_pow_bd (show k ≤ 5 by omega) hI.1 hI.2 this.1 this.2
    rw [ckI_pos (by omega) (by omega)]
theorem prodV_bd : ∀ {l : List XVariable}, l.length ≤ 6 → (∀ v ∈ l, 2 ≤ v.Levels ∧ v.Levels ≤ 8) → 1 ≤ prodV l ∧ prodV l ≤ 8 ^ l.length ∧ (8 : Int) ^ l.length ≤ 262144
  | [], _, _ => by simp [prodV]
  | v :: l, hl, h => by
    simp only [List.length_cons] at hl
    have := prodV_bd (l := l) (by omega) (fun u hu => h u (List.mem_cons_of_mem _ hu))
    have hv := h v List.mem_cons_self
    have := mul_pow_bd (show l.length ≤ 5 by omega) this.1 this.2.1 hv.1 hv.2
    simp only [prodV, List.length_cons]
    rw [Int.mul_comm]; exact this
/-- A list of variables of a schema. -/
structure Part (s : List XVariable) (l : List Int) : Prop where
  sch : schB s = true
  ris : risB s.length (-1) l = true
theorem Part.rng {s : List XVariable} {l : List Int} (h : Part s l) : ∀ d ∈ l, 0 ≤ d ∧ d < (s.length : Int) := fun d hd => by
  have := risB_rng h.ris d hd; omega
theorem Part.len {s : List XVariable} {l : List Int} (h : Part s l) : l.length ≤ 6 := by
  have := risB_len (by omega) h.ris
  have := schB_len h.sch
  omega
theorem Part.lev {s : List XVariable} {l : List Int} (h : Part s l) : ∀ v ∈ partV s l, 2 ≤ v.Levels ∧ v.Levels ≤ 8 := by
  intro v hv
  simp only [partV, List.mem_map] at hv
  obtain ⟨d, hd, rfl⟩ := hv
  have := h.rng d hd
  rw [getD_get (show d.toNat < s.length by omega)]
  exact schB_lev h.sch (List.getElem_mem _)
theorem Part.bd {s : List XVariable} {l : List Int} (h : Part s l) : 1 ≤ prodV (partV s l) ∧ prodV (partV s l) ≤ 262144 := by
  have := prodV_bd (l := partV s l) (by rw [partV_len]; exact h.len) h.lev
  omega
/-! ### Tables -/
end AS
namespace AS
/-! ### Depths -/
/-! ### Levels -/
/-! ### Leaves -/
def hasB (l : List Int) (n : Int) : Bool := anyF (fun _ x => decide (x = n)) l 0
theorem l1Has_eq (l : List Int) (n : Int) : sh_spec_l1Has l n = some (hasB l n) := by
  unfold sh_spec_l1Has
  refine (range_any (c := fun _ x => decide (x = n)) (some true) fun x k next _ => rfl).trans ?_
  unfold hasB
  cases anyF (fun _ x => decide (x = n)) l 0 <;> rfl
theorem index_has {l : List Int} {n : Int} : ∀ (k : Nat), ∃ r, rangeF (fun (k18 : Nat) (x19 : Int) (s17 : Unit) (nx24 : Unit → Option Int) => (if (decide (n = x19)) = true then some (k18 : Int) else nx24 ())) (fun (s17 : Unit) => some (-1 : Int)) l k () = some r ∧ decide (0 ≤ r) = hasB l n := by
  unfold hasB
  induction l with
  | nil => intro k; exact ⟨-1, rfl, rfl⟩
  | cons x l ih =>
    intro k
    simp only [rangeF]
    by_cases h : n = x
    · exact ⟨k, by simp [h], by simp [anyF, h]⟩
    · obtain ⟨r, h1, h2⟩ := ih (k + 1)
      refine ⟨r, by simpa [h] using h1, ?_⟩
      rw [h2]
      simp only [anyF, show ¬ (x = n) from fun e => h e.symm, decide_false, Bool.false_or]
      have : ∀ (l : List Int) (a b : Nat), anyF (fun _ x => decide (x = n)) l a = anyF (fun _ x => decide (x = n)) l b := by
        intro l
        induction l with
        | nil => intro a b; rfl
        | cons y l ih => intro a b; simp only [anyF]; rw [ih (a + 1) (b + 1)]
      exact this _ _ _
theorem Contains_eq (l : List Int) (n : Int) : sh_slices_Contains_int l n = some (hasB l n) := by
  unfold sh_slices_Contains_int sh_slices_Index_int
  obtain ⟨r, h1, h2⟩ := index_has (l := l) (n := n) 0
  rw [h1, Option.bind_some, h2]
/-! ### Ancestors -/
end AS
namespace AS
/-! ### Mixed radix -/
theorem prodV_drop {s : List XVariable} {k : Nat} (hk : k < s.length) : prodV (s.drop k) = s[k].Levels * prodV (s.drop (k + 1)) := by
  rw [List.drop_eq_getElem_cons hk]; rfl
/-- A list of variables that can be counted. -/
structure Vs (s : List XVariable) : Prop where
  len : s.length ≤ 6
  lev : ∀ v ∈ s, 2 ≤ v.Levels ∧ v.Levels ≤ 8
theorem Vs.get {s : List XVariable} (h : Vs s) {k : Nat} (hk : k < s.length) : 2 ≤ s[k].Levels ∧ s[k].Levels ≤ 8 := h.lev _ (List.getElem_mem hk)
theorem Vs.drop {s : List XVariable} (h : Vs s) (k : Nat) : Vs (s.drop k) := ⟨by simp; have := h.len; omega, fun v hv => h.lev v (List.mem_of_mem_drop hv)⟩
theorem Vs.bd {s : List XVariable} (h : Vs s) : 1 ≤ prodV s ∧ prodV s ≤ 262144 := by
  have := prodV_bd h.len h.lev
  omega
def digV : List XVariable → Int → List Int
  | [], _ => []
  | v :: l, i => (i / prodV l) % v.Levels :: digV l i
theorem digV_len : ∀ (s : List XVariable) (i : Int), (digV s i).length = s.length
  | [], _ => rfl
  | _ :: l, i => by simp [digV, digV_len l]
theorem digV_get : ∀ (s : List XVariable) (i : Int) (k : Nat) (h : k < s.length), (digV s i)[k]'(by rw [digV_len]; exact h) = (i / prodV (s.drop (k + 1))) % s[k].Levels
  | x :: l, _, 0, _ => rfl
  | x :: l, i, k + 1, h => by
    simp only [digV, List.getElem_cons_succ, List.drop_succ_cons]
    exact digV_get l i k (by simpa using h)
theorem div_ok {i a : Int} (h : 0 ≤ i) (ha : 1 ≤ a) : 0 ≤ i / a ∧ i / a ≤ i := ⟨Int.ediv_nonneg h (by omega), Int.ediv_le_self a h⟩
/-! ### Positions -/
end AS
namespace AS
/-! ### The cell of a record -/
theorem valF_of : ∀ {s : List XVariable} {a : List Int}, (∀ (k : Nat) (x : Int) (v : XVariable), a[k]? = some x → s[k]? = some v → 0 ≤ x ∧ x < v.Levels) → valF s a = true
  | [], _, _ => by simp [valF]
  | _ :: _, [], _ => by simp [valF]
  | v :: s, x :: a, h => by
    have h0 := h 0 x v rfl rfl
    simp only [valF, Bool.and_eq_true, decide_eq_true_eq]
    exact ⟨h0, valF_of fun k y u h1 h2 => h (k + 1) y u (by simpa using h1) (by simpa using h2)⟩
/-! ### The records of a cell -/
/-! ### The table of a survey -/
/-! ### Base tables -/
end AS
namespace AS
/-! ### The law's own functions on edits -/
def bulkE (e : XEdit) : Nat := e.Sets.length
theorem szEdit_eq {e : XEdit} {a : Int} (h0 : 0 ≤ a) (h1 : a ≤ 1048576) (hb : Bd.bd e) : sh_laws_szEdit e a = some (left a (bulkE e)) := by
  unfold sh_laws_szEdit
  have hl : Bd.bd e.Sets := hb
  rw [szIntS_eq h0 h1 hl.1, Option.bind_some]
  exact sz_end
theorem toEdit_eq {e : XEdit} (h : bulkE e ≤ 1048576) : sh_laws_toEdit e = some e := by
  unfold sh_laws_toEdit; unfold bulkE at h
  rw [toIntS_eq h, Option.bind_some]
theorem eqEdit_eq {a b : XEdit} (h : bulkE a ≤ 1048576) : sh_laws_eqEdit a b = some (decide (a = b)) := by
  unfold sh_laws_eqEdit; unfold bulkE at h
  rw [eqIntS_eq (by omega), Option.bind_some]
  cases a; cases b; simp only [XEdit.mk.injEq]
  split <;> simp_all
def mkEdit (e : XEdit) (n : Int) : XEdit := ⟨mks n e.Sets.length⟩
def bulkES (l : List XEdit) : Nat := l.length + sumL bulkE l
theorem szEditS_eq {l : List XEdit} {a : Int} (h0 : 0 ≤ a) (h1 : a ≤ 1048576) (hb : Bd.bd l) : sh_laws_szEditS l a = some (left a (bulkES l)) := by
  unfold sh_laws_szEditS
  exact sz_loop h0 h1 hb.1 fun x hx m hm hm2 => szEdit_eq hm hm2 (hb.2 x hx)
theorem bulkE_mem {l : List XEdit} {t : XEdit} (h : t ∈ l) : bulkE t ≤ bulkES l := by
  have := sumL_mem bulkE h; unfold bulkES; omega
theorem toEditS_eq {l : List XEdit} (h : bulkES l ≤ 1048576) : sh_laws_toEditS l = some l := by
  unfold sh_laws_toEditS
  exact to_loop (by unfold bulkES at h; omega) fun x hx => toEdit_eq (by have := bulkE_mem hx; omega)
theorem eqEditS_eq {a b : List XEdit} (h : bulkES a ≤ 1048576) : sh_laws_eqEditS a b = some (decide (a = b)) := by
  unfold sh_laws_eqEditS
  exact eq_loop (by unfold bulkES at h; omega) fun x hx y => eqEdit_eq (by have := bulkE_mem hx; omega)
def marksES (l : List XEdit) : Nat := sumL bulkE l
theorem marksES_le (l : List XEdit) : marksES l ≤ 2 * bulkES l := by unfold marksES bulkES; omega
theorem markEditS_eq {l : List XEdit} {n : Int} (hl : l.length ≤ 1099511627776) (h0 : 0 ≤ n) (h : n + marksES l ≤ 4611686018427387904) : sh_laws_markEditS l n = some (mkL mkEdit bulkE l n, n + marksES l) := by
  unfold sh_laws_markEditS
  refine mark_loop2 (mk := mkEdit) (sz := bulkE) 4611686018427387904 (by omega) hl h0 h ?_ ?_
  · intro nx s m k x hk hs hx hm hB
    unfold bulkE at hB
    simp only [lt_dec hk, if_true, Int.toNat_natCast]
    rw [getO_some hx, markIntS_eq (by omega) (by omega), Option.bind_some, ckI_succ (by omega)]
    rfl
  · intro nx s m
    simp only [lt_self, Bool.false_eq_true, if_false]
/-! ### Validity -/
def edB (s : List XVariable) (w : List Int) : Bool := decide (w.length = s.length) && !anyF (fun k x => !(decide (1 ≤ x) && decide (x ≤ full (s.getD k default)))) w 0
theorem edB_len {s : List XVariable} {w : List Int} (h : edB s w = true) : w.length = s.length := by
  simp only [edB, Bool.and_eq_true, decide_eq_true_eq] at h; exact h.1
theorem edB_get {s : List XVariable} {w : List Int} (h : edB s w = true) {k : Nat} {x : Int} (hx : w[k]? = some x) : ∃ v, s[k]? = some v ∧ 1 ≤ x ∧ x ≤ full v := by
  have hl := edB_len h
  simp only [edB, Bool.and_eq_true, decide_eq_true_eq] at h
  have hk := (List.getElem?_eq_some_iff.1 hx).1
  have := not_anyF h.2 hx
  simp only [Bool.not_eq_false', Bool.and_eq_true, decide_eq_true_eq] at this
  rw [getD_get (show k < s.length by omega)] at this
  exact ⟨_, List.getElem?_eq_getElem (by omega), this⟩
theorem eGood_eq {s : List XVariable} {e : XEdit} (hs : schB s = true) : sh_spec_eGood s e = some (edB s e.Sets) := by
  unfold sh_spec_eGood edB
  by_cases h : e.Sets.length = s.length
  · simp only [h, ne_eq, not_true_eq_false, decide_false, Bool.false_eq_true, if_false, decide_true, Bool.true_and]
    refine (range_any (c := fun k x => !(decide (1 ≤ x) && decide (x ≤ full (s.getD k default)))) (some false) ?_).trans (show (if anyF _ _ 0 = true then some false else some true) = _ from if_not)
    intro x k next hx
    have hk := (List.getElem?_eq_some_iff.1 hx).1
    have hks : k < s.length := by omega
    rw [eFull_eq hs hks, Option.bind_some, l1In_eq, Option.bind_some, getD_get hks]
  · simp [h, show ¬ ((e.Sets.length : Int) = (s.length : Int)) by omega]
theorem isEdit_eq {s : List XVariable} {e : XEdit} (hs : schB s = true) : sh_impl_isEdit s e = some (edB s e.Sets) := by
  unfold sh_impl_isEdit edB
  by_cases h : e.Sets.length = s.length
  · simp only [h, ne_eq, not_true_eq_false, decide_false, Bool.false_eq_true, if_false, decide_true, Bool.true_and]
    refine (range_any (c := fun k x => !(decide (1 ≤ x) && decide (x ≤ full (s.getD k default)))) (some false) ?_).trans (show (if anyF _ _ 0 = true then some false else some true) = _ from if_not)
    intro x k next hx
    have hk := (List.getElem?_eq_some_iff.1 hx).1
    have hks : k < s.length := by omega
    have hl := schB_lev hs (List.getElem_mem hks)
    rw [getD_get hks]
    by_cases h1 : x < 1
    · simp [h1, show ¬ (1 ≤ x) by omega]
    · simp only [h1, decide_false, Bool.false_eq_true, if_false]
      rw [getO_nat hks, fullSet_eq hl, Option.bind_some]
      by_cases h2 : full s[k] < x
      · simp [h2, show ¬ (x ≤ full s[k]) by omega]
      · simp [h2, show (1 ≤ x) by omega, show x ≤ full s[k] by omega]
  · simp [h, show ¬ ((e.Sets.length : Int) = (s.length : Int)) by omega]
def edsB (s : List XVariable) (l : List XEdit) : Bool := decide (l.length ≤ 40) && !anyF (fun _ e => !edB s e.Sets) l 0
theorem edsB_len {s : List XVariable} {l : List XEdit} (h : edsB s l = true) : l.length ≤ 40 := by
  simp only [edsB, Bool.and_eq_true, decide_eq_true_eq] at h; exact h.1
theorem edsB_get {s : List XVariable} {l : List XEdit} (h : edsB s l = true) {e : XEdit} (he : e ∈ l) : edB s e.Sets = true := by
  simp only [edsB, Bool.and_eq_true] at h
  obtain ⟨k, hk⟩ := List.getElem?_of_mem he
  have := not_anyF h.2 hk
  simpa using this
theorem eList_eq {s : List XVariable} {l : List XEdit} (hn : bulkVS s ≤ 1048576) : sh_spec_eList s l = some (schB s && edsB s l) := by
  unfold sh_spec_eList edsB
  rw [sGood_eq (names_of_bulk hn), Option.bind_some]
  cases hs : schB s with
  | false => rfl
  | true =>
    simp only [Bool.not_true, Bool.false_eq_true, if_false, Bool.true_and]
    by_cases hl : l.length ≤ 40
    · simp only [show ¬ ((40 : Int) < (l.length : Int)) by omega, decide_false, Bool.false_eq_true, if_false, hl, decide_true, Bool.true_and]
      refine (range_any (c := fun _ e => !edB s e.Sets) (some false) ?_).trans (show (if anyF _ _ 0 = true then some false else some true) = _ from if_not)
      intro e k next hx
      rw [eGood_eq hs, Option.bind_some]
    · simp [hl, show ((40 : Int) < (l.length : Int)) by omega]
theorem areEdits_eq {s : List XVariable} {l : List XEdit} (hs : schB s = true) : sh_impl_areEdits s l = some (edsB s l) := by
  unfold sh_impl_areEdits edsB
  by_cases hl : l.length ≤ 40
  · simp only [show ¬ ((40 : Int) < (l.length : Int)) by omega, decide_false, Bool.false_eq_true, if_false, hl, decide_true, Bool.true_and]
    refine (range_any (c := fun _ e => !edB s e.Sets) (some false) ?_).trans (show (if anyF _ _ 0 = true then some false else some true) = _ from if_not)
    intro e k next hx
    rw [isEdit_eq hs, Option.bind_some]
  · simp [hl, show ((40 : Int) < (l.length : Int)) by omega]
theorem schB_vs {s : List XVariable} (h : schB s = true) : Vs s := ⟨(schB_len h).2, fun v hv => schB_lev h hv⟩
def smlB (s : List XVariable) : Bool := schB s && decide (prodV s ≤ 100)
theorem smlB_sch {s : List XVariable} (h : smlB s = true) : schB s = true := by
  simp only [smlB, Bool.and_eq_true] at h; exact h.1
theorem smlB_le {s : List XVariable} (h : smlB s = true) : 1 ≤ prodV s ∧ prodV s ≤ 100 := by
  simp only [smlB, Bool.and_eq_true, decide_eq_true_eq] at h
  exact ⟨(schB_vs h.1).bd.1, h.2⟩
theorem eSmall_eq {s : List XVariable} {l : List XEdit} (hn : bulkVS s ≤ 1048576) : sh_spec_eSmall s l = some (smlB s && edsB s l) := by
  unfold sh_spec_eSmall smlB
  rw [eList_eq hn, Option.bind_some]
  cases hs : schB s with
  | false => rfl
  | true =>
    cases edsB s l with
    | false => simp
    | true =>
      have hv := schB_vs hs
      simp only [Bool.and_self, if_true, Bool.true_and, Bool.and_true]
      rw [sCount_eq hv.len hv.lev, Option.bind_some]
theorem isSmall_eq (s : List XVariable) : sh_impl_isSmall s = some (smlB s) := by
  unfold sh_impl_isSmall smlB
  rw [isSchema_eq, Option.bind_some]
  cases hs : schB s with
  | false => rfl
  | true =>
    have hv := schB_vs hs
    simp only [if_true, Bool.true_and]
    rw [combinations_eq hv.len hv.lev, Option.bind_some]
/-! ### Failing -/
def failB (w a : List Int) : Bool := !anyF (fun k x => offB (w.getD k 0) x) a 0
theorem eFails_eq {s : List XVariable} {e : XEdit} {a : List Int} (hs : schB s = true) (he : edB s e.Sets = true) (ha : valB s a = true) : sh_spec_eFails e a = some (failB e.Sets a) := by
  unfold sh_spec_eFails failB
  refine (range_any (c := fun k x => offB (e.Sets.getD k 0) x) (some false) ?_).trans (show (if anyF _ _ 0 = true then some false else some true) = _ from if_not)
  intro x k next hx
  have hk := (List.getElem?_eq_some_iff.1 hx).1
  have hks : k < s.length := by rw [← valB_len ha]; exact hk
  have hkw : k < e.Sets.length := by rw [edB_len he]; exact hks
  obtain ⟨v, hv, h0, h1⟩ := edB_get he (List.getElem?_eq_getElem hkw)
  have hl := schB_lev hs (List.mem_of_getElem? hv)
  have hf := full_bd hl
  have hav := valB_get ha hx hv
  have hsh := shr_bd (show 0 ≤ e.Sets[k] by omega) (x).toNat
  rw [getD_get hkw, getO_nat hkw, ckK_u64 (by omega) (by omega), ck_pos (by omega), ck_pos (by omega), ckK_i64 (by omega) (by omega), ck_pos (by omega), ckK_i64 (by omega) (by omega)]
  rfl
theorem fails_eq {s : List XVariable} {e : XEdit} {a : List Int} (hs : schB s = true) (he : edB s e.Sets = true) (ha : valB s a = true) : sh_impl_fails e a = some (failB e.Sets a) := by
  unfold sh_impl_fails failB
  refine (range_any (c := fun k x => offB (e.Sets.getD k 0) x) (some false) ?_).trans (show (if anyF _ _ 0 = true then some false else some true) = _ from if_not)
  intro x k next hx
  have hk := (List.getElem?_eq_some_iff.1 hx).1
  have hks : k < s.length := by rw [← valB_len ha]; exact hk
  have hkw : k < e.Sets.length := by rw [edB_len he]; exact hks
  obtain ⟨v, hv, h0, h1⟩ := edB_get he (List.getElem?_eq_getElem hkw)
  have hl := schB_lev hs (List.mem_of_getElem? hv)
  have hf := full_bd hl
  have hav := valB_get ha hx hv
  have hsh := shr_bd (show 0 ≤ e.Sets[k] by omega) (x).toNat
  rw [getD_get hkw, getO_nat hkw, ck_pos (by omega), ck_pos (by omega), ckK_i64 (by omega) (by omega), ck_pos (by omega), ckK_i64 (by omega) (by omega)]
  rfl
def fOne (l : List XEdit) (a : List Int) : Bool := anyF (fun _ e => failB e.Sets a) l 0
def failL (l : List XEdit) (a : List Int) : List Int := selF (fun _ e => failB e.Sets a) (fun k _ => (k : Int)) l 0
theorem selF_any {α β : Type} (c : Nat → α → Bool) (f : Nat → α → β) : ∀ (l : List α) (k : Nat), decide ((0 : Int) < ((selF c f l k).length : Int)) = anyF c l k
  | [], _ => rfl
  | x :: l, k => by
    have ih := selF_any c f l (k + 1)
    simp only [selF, anyF]
    by_cases h : c k x = true
    · simp only [h, if_true, Bool.true_or, List.length_cons, decide_eq_true_eq]; omega
    · have h' : c k x = false := by simpa using h
      simp only [h', Bool.false_eq_true, if_false, Bool.false_or]; exact ih
theorem failL_any (l : List XEdit) (a : List Int) : decide ((0 : Int) < ((failL l a).length : Int)) = fOne l a := selF_any _ _ _ _
theorem failL_nil (l : List XEdit) (a : List Int) : decide (((failL l a).length : Int) = 0) = !fOne l a := by
  rw [← failL_any]
  by_cases h : (failL l a).length = 0
  · rw [h]; rfl
  · have h1 : decide (((failL l a).length : Int) = 0) = false := by rw [decide_eq_false_iff_not]; omega
    have h2 : decide ((0 : Int) < ((failL l a).length : Int)) = true := by rw [decide_eq_true_eq]; omega
    rw [h1, h2]; rfl
theorem eFailed_eq {s : List XVariable} {l : List XEdit} {a : List Int} (hs : schB s = true) (hl : edsB s l = true) (ha : valB s a = true) : sh_spec_eFailed l a = some (failL l a) := by
  unfold sh_spec_eFailed
  refine (range_sel (c := fun _ e => failB e.Sets a) (f := fun k _ => (k : Int)) ?_).trans (by simp [failL])
  intro e k r next hx hr
  have hk := (List.getElem?_eq_some_iff.1 hx).1
  have := edsB_len hl
  simp only [List.length_nil, Nat.zero_add] at hr
  rw [eFails_eq hs (edsB_get hl (List.mem_of_getElem? hx)) ha, Option.bind_some]
  cases failB e.Sets a with
  | true => simp only [if_true]; rw [lnO_pos (by simp; omega)]
  | false => simp only [Bool.false_eq_true, if_false]
theorem failsOne_eq {s : List XVariable} {l : List XEdit} {a : List Int} (hs : schB s = true) (hl : edsB s l = true) (ha : valB s a = true) : sh_impl_failsOne l a = some (fOne l a) := by
  unfold sh_impl_failsOne
  refine (range_any (c := fun _ e => failB e.Sets a) (some true) ?_).trans ?_
  · intro e k next hx
    rw [fails_eq hs (edsB_get hl (List.mem_of_getElem? hx)) ha, Option.bind_some]
  · unfold fOne
    cases anyF (fun _ e => failB e.Sets a) l 0 <;> rfl
/-! ### All lists of values -/
theorem dig_val {s : List XVariable} (h : Vs s) (i : Int) : valB s (digV s i) = true := by
  simp only [valB, Bool.and_eq_true, decide_eq_true_eq]
  refine ⟨digV_len s i, valF_of fun k x v h1 h2 => ?_⟩
  obtain ⟨hk, rfl⟩ := List.getElem?_eq_some_iff.1 h2
  obtain ⟨hk2, rfl⟩ := List.getElem?_eq_some_iff.1 h1
  have hl := h.get hk
  rw [digV_get s i k hk]
  exact ⟨Int.emod_nonneg _ (by omega), Int.emod_lt_of_pos _ (by omega)⟩
end AS
namespace AS
/-! ### How often each edit fails -/
/-! ### The nearest donor -/
/-! ### Mends -/
def othL (s : List XVariable) (vars : List Int) : List Int := selF (fun k _ => !hasB vars (k : Int)) (fun k _ => (k : Int)) s 0
theorem otherVars_eq {s : List XVariable} {vars : List Int} (hs : s.length ≤ 1048576) : sh_impl_otherVars s vars = some (othL s vars) := by
  unfold sh_impl_otherVars
  refine (range_sel (c := fun k _ => !hasB vars (k : Int)) (f := fun k _ => (k : Int)) ?_).trans (by simp [othL])
  intro x k a next hx ha
  have hk := (List.getElem?_eq_some_iff.1 hx).1
  simp only [List.length_nil, Nat.zero_add] at ha
  rw [Contains_eq, Option.bind_some]
  cases hasB vars (k : Int) with
  | true => simp only [Bool.not_true, Bool.false_eq_true, if_false]
  | false => simp only [Bool.not_false, if_true]; rw [lnO_pos (by simp; omega)]
end AS
namespace AS
/-! ### Values and their numbers -/
theorem sAt_eq {s : List XVariable} {i : Int} (h : Vs s) (h0 : 0 ≤ i) (h1 : i ≤ 4611686018427387904) : sh_spec_sAt s i = some (digV s i) := by
  unfold sh_spec_sAt
  have hl := h.len
  rw [mkO_pos (by omega) (by omega), ckI_pos (by omega) (by omega)]
  have hz : (List.replicate s.length (0 : Int)).length = (digV s i).length := by simp [digV_len]
  have e0 : ((i, List.replicate ((s.length : Int)).toNat (0 : Int), ((s.length : Int) - (1 : Int))) : Int × List Int × Int) = (fun k : Nat => (i / prodV (s.drop k), mixL (List.replicate s.length (0 : Int)) (digV s i) k, (k : Int) - 1)) s.length := by
    have := mixL_end hz
    simp only [List.length_replicate] at this
    simp [this, prodV]
  rw [e0]
  refine (loop_down s.length (fun k : Nat => (i / prodV (s.drop k), mixL (List.replicate s.length (0 : Int)) (digV s i) k, (k : Int) - 1)) (fun _ => some (digV s i)) (by omega) ?_ ?_)
  · intro next k hk hn
    have hk2 : k < (digV s i).length := by rw [digV_len]; exact hk
    have hb := (h.drop (k + 1)).bd
    have hx := h.get hk
    have hvd := prodV_drop hk
    have hd := div_ok h0 hb.1
    have hd2 := div_ok (a := s[k].Levels) hd.1 (by omega)
    have hdd : i / prodV (s.drop (k + 1)) / s[k].Levels = i / prodV (s.drop k) := by rw [hvd, Int.mul_comm, Int.ediv_ediv, if_neg (fun h => by omega), Int.sub_zero]
    simp only [show ((k + 1 : Nat) : Int) - 1 = (k : Int) by omega, show (0 : Int) ≤ (k : Int) by omega, decide_true, if_true]
    rw [getO_nat hk, ck_pos (by omega), getO_some (mixL_getD hz (by simpa using hk)), ck_pos (by omega)]
    rw [Int.tdiv_eq_ediv_of_nonneg hd.1, Int.tmod_eq_emod_of_nonneg hd.1, ckI_pos (by omega) (by omega), ckI_pos (by omega) (by omega), Int.toNat_natCast, hdd, ← digV_get s i k hk, mixL_setD hz hk2]
    exact hn
  · intro next
    simp [mixL_zero]
theorem valuesAt_eq {s : List XVariable} {i : Int} (h : Vs s) (h0 : 0 ≤ i) (h1 : i ≤ 4611686018427387904) : sh_impl_valuesAt s i = some (digV s i) := sAt_eq h h0 h1
/-! ### A search in an ordered list -/
/-! ### The cell of an index -/
/-! ### The index of a cell -/
/-! ### Plans -/
end AS
namespace AS
def fndN (c : Nat → Bool) : Nat → Nat → Option Nat
  | _, 0 => none
  | k, n + 1 => if c k = true then some k else fndN c (k + 1) n
/-! ### The first values that pass -/
abbrev digN (s : List XVariable) : Nat → List Int := fun k => digV s (k : Int)
theorem digV_ne {s : List XVariable} (h : 1 ≤ s.length) (i : Int) : digV s i ≠ [] := by
  intro e
  have := digV_len s i
  rw [e] at this
  simp at this; omega
/-! ### Completions -/
def agrB (f v a : List Int) : Bool := !anyF (fun _ x => decide (a.getD x.toNat 0 ≠ v.getD x.toNat 0)) f 0
def fitB (s : List XVariable) (l : List XEdit) (f v : List Int) (k : Nat) : Bool := !fOne l (digV s (k : Int)) && agrB f v (digV s (k : Int))
def comO (s : List XVariable) (l : List XEdit) (f v : List Int) : Option (List Int) := (fndN (fitB s l f v) 0 (prodV s).toNat).map (digN s)
def inV (s : List XVariable) (f : List Int) : Prop := ∀ d ∈ f, 0 ≤ d ∧ d < s.length
theorem comO_ne {s : List XVariable} {l : List XEdit} {f v : List Int} (h : 1 ≤ s.length) : comO s l f v ≠ some [] := by
  unfold comO
  cases fndN (fitB s l f v) 0 (prodV s).toNat with
  | none => simp
  | some k => simpa using digV_ne h (k : Int)
theorem eAsked_eq {s : List XVariable} {l : List XEdit} {f v : List Int} (h0 : bulkVS s ≤ 1048576) (h2 : f.length ≤ 1048576) : sh_spec_eAsked s l f v = some ((smlB s && edsB s l) && (risB s.length (-1) f && valB s v)) := by
  unfold sh_spec_eAsked
  rw [eSmall_eq h0, Option.bind_some]
  cases hs : smlB s with
  | false => rfl
  | true =>
    have hsch := smlB_sch hs
    have hls := schB_len hsch
    cases hl : edsB s l with
    | false => rfl
    | true =>
      simp only [Bool.and_self, if_true, Bool.true_and]
      rw [ckI_pos (by omega) (by omega), l1Rising_eq _ _ h2, Option.bind_some]
      cases hr : risB s.length (-1) f with
      | false => rfl
      | true =>
        simp only [if_true, Bool.true_and]
        rw [sFits_eq hsch, Option.bind_some]
theorem range_and {R α : Type} {body : Nat → α → Bool → (Bool → Option R) → Option R} {fin : Bool → Option R} {l : List α} {c : Nat → α → Bool}
    (hs : ∀ x k b next, l[k]? = some x → body k x b next = next (b && !c k x)) (b : Bool) : rangeF body fin l 0 b = fin (b && !anyF c l 0) := by
  refine (range_mem (I := fun _ _ => True) (G := fun l' k b => fin (b && !anyF c l' k)) ?_ ?_ b trivial)
  · intro k s _ _; simp [anyF]
  · intro x l' k s next hx _ _ hn
    rw [hs x k s next hx, hn _ trivial]
    simp only [anyF]
    cases c k x <;> cases s <;> simp
theorem eComplete_eq {s : List XVariable} {l : List XEdit} {f v : List Int} (hs : schB s = true) (hl : edsB s l = true) (hv : valB s v = true) (hf : inV s f) (hle : prodV s ≤ 100) :
    sh_spec_eComplete s l f v = some ((comO s l f v).getD [], (comO s l f v).isSome) := by
  unfold sh_spec_eComplete comO
  have hvs := schB_vs hs
  have hb := hvs.bd
  have hvl := valB_len hv
  obtain ⟨n, hn⟩ := Int.eq_ofNat_of_zero_le (show 0 ≤ prodV s by omega)
  have hnt : (prodV s).toNat = n := by omega
  rw [hnt]
  refine (loop_up n (fun k => (k : Int)) (fun k => some (((fndN (fitB s l f v) k (n - k)).map (digN s)).getD [], ((fndN (fitB s l f v) k (n - k)).map (digN s)).isSome)) (by omega) ?_ ?_).trans (by simp)
  · intro next k hk hnx
    obtain ⟨d, hd⟩ : ∃ d, n - k = d + 1 := ⟨n - k - 1, by omega⟩
    have hd2 : n - (k + 1) = d := by omega
    rw [hd2] at hnx
    rw [sCount_eq hvs.len hvs.lev, Option.bind_some, hn]
    simp only [lt_dec hk, if_true]
    rw [sAt_eq hvs (by omega) (by omega), Option.bind_some, eFailed_eq hs hl (dig_val hvs _), Option.bind_some, failL_nil, hd]
    refine (range_and (c := fun _ x => decide ((digV s (k : Int)).getD x.toNat 0 ≠ v.getD x.toNat 0)) ?_ (!fOne l (digV s (k : Int)))).trans ?_
    · intro x q b nx hx
      have hm := hf x (List.mem_of_getElem? hx)
      cases b with
      | false => rfl
      | true =>
        simp only [if_true, Bool.true_and]
        rw [getO_pos hm.1 (by rw [digV_len]; omega), getO_pos hm.1 (by omega), getD_get (show x.toNat < (digV s (k : Int)).length by rw [digV_len]; omega), getD_get (show x.toNat < v.length by omega)]
        congr 1
        by_cases e : (digV s (k : Int))[x.toNat]'(by rw [digV_len]; omega) = v[x.toNat]'(by omega) <;> simp [e]
    · show (if fitB s l f v k = true then _ else _) = _
      simp only [fndN]
      cases fitB s l f v k with
      | true => simp
      | false =>
        simp only [Bool.false_eq_true, if_false]
        rw [ckI_succ (by omega)]; exact hnx
  · intro next
    rw [sCount_eq hvs.len hvs.lev, Option.bind_some, hn]
    simp [lt_self, fndN]
theorem completionOf_1_eq {s : List XVariable} {f v a : List Int} {w : Option (List Int)} (ha : a.length = s.length) (hv : v.length = s.length) (hf : inV s f) :
    sh_impl_completionOf_1 a f v w = some (if agrB f v a = true then (some a, false) else (w, true)) := by
  unfold sh_impl_completionOf_1 agrB
  refine (range_any (c := fun _ x => decide (a.getD x.toNat 0 ≠ v.getD x.toNat 0)) (some (w, true)) ?_).trans ?_
  · intro x k next hx
    have hm := hf x (List.mem_of_getElem? hx)
    rw [getO_pos hm.1 (by omega), getO_pos hm.1 (by omega), getD_get (show x.toNat < a.length by omega), getD_get (show x.toNat < v.length by omega)]
  · cases anyF (fun _ x => decide (a.getD x.toNat 0 ≠ v.getD x.toNat 0)) f 0 <;> rfl
theorem completionOf_eq {s : List XVariable} {l : List XEdit} {f v : List Int} (hs : schB s = true) (hl : edsB s l = true) (hv : valB s v = true) (hf : inV s f) (hle : prodV s ≤ 100) :
    sh_impl_completionOf s l f v = some (comO s l f v) := by
  have key : sh_impl_passing_impl_completionOf_1 s l (f, v, none) = some (comO s l f v, ()) := by
    unfold sh_impl_passing_impl_completionOf_1 comO
    have hvs := schB_vs hs
    have hb := hvs.bd
    have hvl := valB_len hv
    obtain ⟨n, hn⟩ := Int.eq_ofNat_of_zero_le (show 0 ≤ prodV s by omega)
    have hnt : (prodV s).toNat = n := by omega
    rw [combinations_eq hvs.len hvs.lev, Option.bind_some, hnt, hn]
    refine (loop_up n (fun k => ((none : Option (List Int)), (k : Int))) (fun k => some ((fndN (fitB s l f v) k (n - k)).map (digN s), ())) (by omega) ?_ ?_).trans (by simp)
    · intro next k hk hnx
      obtain ⟨d, hd⟩ : ∃ d, n - k = d + 1 := ⟨n - k - 1, by omega⟩
      have hd2 : n - (k + 1) = d := by omega
      rw [hd2] at hnx
      simp only [lt_dec hk, if_true]
      rw [valuesAt_eq hvs (by omega) (by omega), Option.bind_some, failsOne_eq hs hl (dig_val hvs _), Option.bind_some, hd]
      cases hfo : fOne l (digV s (k : Int)) with
      | true =>
        have hp : fitB s l f v k = false := by simp [fitB, hfo]
        simp only [fndN, hp, Bool.not_true, Bool.false_eq_true, if_false]
        rw [ckI_succ (by omega)]; exact hnx
      | false =>
        simp only [Bool.not_false, if_true]
        rw [completionOf_1_eq (digV_len s _) hvl hf, Option.bind_some]
        cases hag : agrB f v (digV s (k : Int)) with
        | true =>
          have hp : fitB s l f v k = true := by simp [fitB, hfo, hag]
          simp [fndN, hp]
        | false =>
          have hp : fitB s l f v k = false := by simp [fitB, hfo, hag]
          simp only [fndN, hp, Bool.false_eq_true, if_false, Bool.not_true]
          rw [ckI_succ (by omega)]; exact hnx
    · intro next
      simp [lt_self, fndN]
  unfold sh_impl_completionOf
  rw [key, Option.bind_some]
end AS
namespace AS
/-! ### Bits of a mask -/
def bitsL (m : Nat) : List Int := ((List.range 6).filter fun (i : Nat) => m.testBit i).map fun (i : Nat) => (i : Int)
theorem bits_len (m : Nat) : (bitsL m).length ≤ 6 := by
  have := List.length_filter_le (fun i => m.testBit i) (List.range 6)
  simp only [bitsL, List.length_map]
  simpa using this
theorem bits_m : ∀ m : Nat, m < 64 → sh_impl_membersOf (m : Int) = some (bitsL m) := by decide +kernel
theorem bits_e : ∀ m : Nat, m < 64 → sh_spec_eLevels (m : Int) = some (bitsL m) := by decide +kernel
/-! ### Comparing -/
def cmpI (a b : Int) : Int := if a < b then -1 else if b < a then 1 else 0
def lexC : List Int → List Int → Int
  | [], [] => 0
  | [], _ :: _ => -1
  | _ :: _, [] => 1
  | x :: a, y :: b => if cmpI x y ≠ 0 then cmpI x y else lexC a b
theorem cmpI_eq (a b : Int) : sh_cmp_Compare_int a b = some (cmpI a b) := by
  unfold sh_cmp_Compare_int sh_cmp_isNaN_int cmpI
  by_cases h1 : a < b
  · simp [h1]
  · by_cases h2 : b < a <;> simp [h1, h2]
theorem lexC_eq (a b : List Int) : sh_slices_Compare_int a b = some (lexC a b) := by
  unfold sh_slices_Compare_int
  refine (range_mem (I := fun k _ => k ≤ b.length) (G := fun l' k _ => some (lexC l' (b.drop k))) ?_ ?_ () (Nat.zero_le _)).trans (by simp)
  · intro k _ hk he
    rw [← he]
    by_cases h : k < b.length
    · rw [List.drop_eq_getElem_cons h]
      simp [lexC, show ((k : Int) < (b.length : Int)) by omega]
    · rw [List.drop_of_length_le (by omega)]
      simp [lexC, show ¬ ((k : Int) < (b.length : Int)) by omega]
  · intro x l' k _ next hx _ hk hn
    by_cases h : k < b.length
    · rw [List.drop_eq_getElem_cons h]
      simp only [show ¬ ((b.length : Int) ≤ (k : Int)) by omega, decide_false, Bool.false_eq_true, if_false, lexC]
      rw [getO_nat h, cmpI_eq, Option.bind_some]
      by_cases e : cmpI x b[k] = 0
      · simp only [e, ne_eq, not_true_eq_false, decide_false, Bool.false_eq_true, if_false]
        exact hn _ (by omega)
      · simp [e]
    · rw [List.drop_of_length_le (by omega)]
      simp [lexC, show ((b.length : Int) ≤ (k : Int)) by omega]
theorem l1Less_eq {a b : List Int} (ha : a.length ≤ 1048576) (hb : b.length ≤ 1048576) : sh_spec_l1Less a b = some (lexC a b) := by
  unfold sh_spec_l1Less
  simp only [jn]
  have hend : ∀ k, (k = a.length ∧ k ≤ b.length ∨ k = b.length ∧ k ≤ a.length) → (ckI ((a.length : Int) - (b.length : Int)) <| (sh_spec_l1Sign ((a.length : Int) - (b.length : Int))).bind fun x155 => some x155) = some (lexC (a.drop k) (b.drop k)) := by
    intro k hk
    rw [ckI_pos (by omega) (by omega)]
    unfold sh_spec_l1Sign
    by_cases h1 : k < a.length
    · have h2 : ¬ k < b.length := by omega
      rw [List.drop_eq_getElem_cons h1, List.drop_of_length_le (show b.length ≤ k by omega)]
      have e1 : decide ((a.length : Int) - (b.length : Int) < 0) = false := by rw [decide_eq_false_iff_not]; omega
      have e2 : decide ((0 : Int) < (a.length : Int) - (b.length : Int)) = true := by rw [decide_eq_true_eq]; omega
      simp only [e1, e2, Bool.false_eq_true, if_false, if_true, Option.bind_some, lexC]
    · rw [List.drop_of_length_le (show a.length ≤ k by omega)]
      by_cases h2 : k < b.length
      · rw [List.drop_eq_getElem_cons h2]
        have e1 : decide ((a.length : Int) - (b.length : Int) < 0) = true := by rw [decide_eq_true_eq]; omega
        simp only [e1, if_true, Option.bind_some, lexC]
      · rw [List.drop_of_length_le (show b.length ≤ k by omega)]
        have e : (a.length : Int) - (b.length : Int) = 0 := by omega
        rw [e]; simp [lexC]
  refine (loop_up (min a.length b.length) (fun k => (k : Int)) (fun k => some (lexC (a.drop k) (b.drop k))) (by omega) ?_ ?_).trans (by simp)
  · intro next k hk hn
    have hka : k < a.length := by omega
    have hkb : k < b.length := by omega
    simp only [lt_dec hka, lt_dec hkb, if_true]
    rw [getO_nat hka, getO_nat hkb, List.drop_eq_getElem_cons hka, List.drop_eq_getElem_cons hkb, ckI_succ (by omega)]
    simp only [lexC]
    rcases Int.lt_trichotomy a[k] b[k] with h | h | h
    · simp [cmpI, h, show a[k] ≠ b[k] by omega]
    · simp only [h, ne_eq, not_true_eq_false, decide_false, Bool.false_eq_true, if_false, cmpI, Int.lt_irrefl]
      exact hn
    · simp [cmpI, h, show ¬ a[k] < b[k] by omega, show a[k] ≠ b[k] by omega]
  · intro next
    by_cases h1 : a.length ≤ b.length
    · rw [show min a.length b.length = a.length by omega]
      simp only [lt_self, Bool.false_eq_true, if_false]
      exact hend _ (by omega)
    · rw [show min a.length b.length = b.length by omega]
      simp only [lt_dec (show b.length < a.length by omega), lt_self, Bool.false_eq_true, if_false, if_true]
      exact hend _ (by omega)
def or3 (x y z : Int) : Int := if x ≠ 0 then x else if y ≠ 0 then y else z
theorem or3_eq (x y z : Int) : sh_cmp_Or_int [x, y, z] = some (or3 x y z) := by
  unfold sh_cmp_Or_int or3
  by_cases h1 : x = 0
  · by_cases h2 : y = 0
    · by_cases h3 : z = 0 <;> simp [rangeF, h1, h2, h3]
    · simp [rangeF, h1, h2]
  · simp [rangeF, h1]
def lssB (wt : List Int → Int) (a b : List Int) : Bool :=
  decide (wt a < wt b) || (decide (wt a = wt b) && (decide ((a.length : Int) < (b.length : Int)) || (decide ((a.length : Int) = (b.length : Int)) && decide (lexC a b < 0))))
theorem or3_lss (wt : List Int → Int) (a b : List Int) : decide ((0 : Int) ≤ or3 (cmpI (wt a) (wt b)) (cmpI (a.length : Int) (b.length : Int)) (lexC a b)) = !lssB wt a b := by
  unfold lssB or3
  rcases Int.lt_trichotomy (wt a) (wt b) with h | h | h
  · simp [cmpI, h]
  · rcases Int.lt_trichotomy (a.length : Int) (b.length : Int) with q | q | q
    · simp [cmpI, h, q]
    · by_cases r : lexC a b < 0 <;> simp [cmpI, h, q, r] <;> omega
    · simp [cmpI, h, q, show ¬ ((a.length : Int) < (b.length : Int)) by omega, show ¬ ((a.length : Int) = (b.length : Int)) by omega]
  · simp [cmpI, h, show ¬ (wt a < wt b) by omega, show ¬ (wt a = wt b) by omega]
/-! ### The search -/
def stp (cm : List Int → Bool) (wt : List Int → Int) (st : List Int × Bool) (m : Nat) : List Int × Bool := if ((!st.2 || lssB wt (bitsL m) st.1) && cm (bitsL m)) = true then (bitsL m, true) else st
def stN (cm : List Int → Bool) (wt : List Int → Int) : Nat → List Int × Bool
  | 0 => ([], false)
  | k + 1 => stp cm wt (stN cm wt k) k
theorem stN_len (cm : List Int → Bool) (wt : List Int → Int) : ∀ k, (stN cm wt k).1.length ≤ 6
  | 0 => by simp [stN]
  | k + 1 => by
    have ih := stN_len cm wt k
    simp only [stN, stp]
    split
    · exact bits_len k
    · exact ih
def cmB (s : List XVariable) (l : List XEdit) (v vars : List Int) : Bool := (comO s l (othL s vars) v).isSome
theorem oth_in (s : List XVariable) (vars : List Int) : inV s (othL s vars) := fun d hd => by
  obtain ⟨k, y, h1, _, rfl⟩ := selF_mem hd
  have := (List.getElem?_eq_some_iff.1 h1).1
  simp only [Nat.zero_add]; omega
theorem pow_len {s : List XVariable} (h : s.length ≤ 6) : 2 ^ s.length ≤ 64 := by
  have := Nat.pow_le_pow_right (show 0 < 2 by omega) h
  simpa using this
theorem pow_int (n : Nat) : (1 : Int) * 2 ^ ((n : Int)).toNat = ((2 ^ n : Nat) : Int) := by
  rw [Int.toNat_natCast, Int.one_mul]; push_cast; rfl
theorem ckI_pow {R : Type} {s : List XVariable} {f : Option R} (h : s.length ≤ 6) : ckI (((2 ^ s.length : Nat) : Int)) f = f := by
  have := pow_len h
  generalize 2 ^ s.length = N at *
  exact ckI_pos (by omega) (by omega)
theorem cover_len {s : List XVariable} {l : List XEdit} {v : List Int} (hs : schB s = true) (hl : edsB s l = true) (hv : valB s v = true) (hle : prodV s ≤ 100) :
    sh_impl_leastCover_impl_SmallestCover_1 s l v () = some (stN (cmB s l v) (fun a => (a.length : Int)) (2 ^ s.length)) := by
  have hls := schB_len hs
  have hp := pow_len hls.2
  unfold sh_impl_leastCover_impl_SmallestCover_1
  rw [ck_pos (by omega), pow_int, ckI_pow hls.2]
  refine loop_up (2 ^ s.length) (fun k => ((stN (cmB s l v) (fun a => (a.length : Int)) k).1, (stN (cmB s l v) (fun a => (a.length : Int)) k).2, (k : Int))) (fun _ => some (stN (cmB s l v) (fun a => (a.length : Int)) (2 ^ s.length))) (by omega) ?_ ?_
  · intro next k hk hn
    simp only [stN, stp, cast_succ] at hn
    generalize hst : stN (cmB s l v) (fun a => (a.length : Int)) k = st at hn ⊢
    obtain ⟨best, found⟩ := st
    have hO := otherVars_eq (s := s) (vars := bitsL k) (by omega)
    have hC := completionOf_eq hs hl hv (oth_in s (bitsL k)) hle
    have hne : comO s l (othL s (bitsL k)) v ≠ some [] := comO_ne hls.1
    simp only [lt_dec hk, if_true]
    rw [bits_m k (by omega), Option.bind_some]
    simp only [jn, hO, hC, Option.bind_some, ck_pos hne, ckI_succ (show k ≤ 4611686018427387904 by omega), sh_impl_SmallestCover_1, cmpI_eq, lexC_eq, or3_eq, or3_lss (fun a : List Int => (a.length : Int))]
    have hcm : (comO s l (othL s (bitsL k)) v).isSome = cmB s l v (bitsL k) := rfl
    rw [hcm]
    revert hn
    cases found <;> cases lssB (fun a => (a.length : Int)) (bitsL k) best <;> cases cmB s l v (bitsL k) <;> exact fun hn => hn
  · intro next
    simp only [lt_self, Bool.false_eq_true, if_false]
theorem spec_fixed {R : Type} {s : List XVariable} {vars : List Int} {fin : List Int → Option R} (hs : s.length ≤ 1048576) :
    rangeF (fun (k1514 : Nat) (x1515 : XVariable) (s1513 : (List Int)) (nx1542 : (List Int) → Option R) =>
      (sh_spec_l1Has vars (k1514 : Int)).bind fun x1587 =>
      (if (!x1587) = true then lnO (s1513.length + [(k1514 : Int)].length) <| nx1542 (s1513 ++ [(k1514 : Int)]) else nx1542 s1513)) fin s 0 [] = fin (othL s vars) := by
  refine (range_sel (c := fun k _ => !hasB vars (k : Int)) (f := fun k _ => (k : Int)) ?_).trans (by simp [othL])
  intro x k a next hx ha
  have hk := (List.getElem?_eq_some_iff.1 hx).1
  simp only [List.length_nil, Nat.zero_add] at ha
  rw [l1Has_eq, Option.bind_some]
  cases hasB vars (k : Int) with
  | true => simp only [Bool.not_true, Bool.false_eq_true, if_false]
  | false => simp only [Bool.not_false, if_true]; rw [lnO_pos (by simp; omega)]
theorem core_SmallestCover (s : List XVariable) (l : List XEdit) (v : List Int) (h0 : bulkVS s ≤ 1048576) (h1 : bulkES l ≤ 1048576) (h3 : v.length ≤ 1048576) :
    ∃ r, sh_spec_SmallestCover s l v = some r ∧ sh_impl_SmallestCover s l v = some r ∧ r.1.length ≤ 1048576 := by
  refine ⟨if (smlB s && edsB s l) && valB s v then stN (cmB s l v) (fun a => (a.length : Int)) (2 ^ s.length) else ([], false), ?_, ?_, ?_⟩
  · unfold sh_spec_SmallestCover
    rw [eAsked_eq h0 (by simp), Option.bind_some, show risB s.length (-1) [] = true from rfl, Bool.true_and]
    cases hc : (smlB s && edsB s l) && valB s v with
    | false => rfl
    | true =>
      simp only [Bool.and_eq_true] at hc
      have hs := smlB_sch hc.1.1
      have hl := hc.1.2
      have hv := hc.2
      have hle := (smlB_le hc.1.1).2
      have hls := schB_len hs
      have hp := pow_len hls.2
      simp only [Bool.not_true, Bool.false_eq_true, if_false, if_true]
      refine loop_up (2 ^ s.length) (fun k => ((stN (cmB s l v) (fun a => (a.length : Int)) k).1, (stN (cmB s l v) (fun a => (a.length : Int)) k).2, (k : Int))) (fun _ => some (stN (cmB s l v) (fun a => (a.length : Int)) (2 ^ s.length))) (by omega) ?_ ?_
      · intro next k hk hn
        have hsl := stN_len (cmB s l v) (fun a => (a.length : Int)) k
        simp only [stN, stp, cast_succ] at hn
        generalize hst : stN (cmB s l v) (fun a => (a.length : Int)) k = st at hn hsl ⊢
        obtain ⟨best, found⟩ := st
        rw [ckK_u64 (by omega) (by omega), ck_pos (by omega), pow_int, ckI_pow hls.2]
        simp only [lt_dec hk, if_true]
        rw [bits_e k (by omega), Option.bind_some]
        refine (spec_fixed (by omega)).trans ?_
        rw [eComplete_eq hs hl hv (oth_in s (bitsL k)) hle, Option.bind_some]
        have hb := bits_len k
        simp only at hsl
        have hcm : (comO s l (othL s (bitsL k)) v).isSome = cmB s l v (bitsL k) := rfl
        simp only [hcm, ckI_succ (show k ≤ 4611686018427387904 by omega), l1Less_eq (show (bitsL k).length ≤ 1048576 by omega) (show best.length ≤ 1048576 by omega), Option.bind_some]
        have hin : ((if (!found) = true then some true else if (decide (((bitsL k).length : Int) < (best.length : Int))) = true then some true else if (decide (((bitsL k).length : Int) = (best.length : Int))) = true then some (decide (lexC (bitsL k) best < 0)) else some false) : Option Bool) = some (!found || lssB (fun a => (a.length : Int)) (bitsL k) best) := by
          unfold lssB
          cases found with
          | false => rfl
          | true =>
            by_cases q : ((bitsL k).length : Int) < (best.length : Int)
            · simp [q]
            · by_cases q2 : ((bitsL k).length : Int) = (best.length : Int) <;> simp [q, q2]
        rw [hin]
        simp only [Option.bind_some]
        revert hn
        cases found <;> cases lssB (fun a => (a.length : Int)) (bitsL k) best <;> cases cmB s l v (bitsL k) <;> exact fun hn => hn
      · intro next
        rw [ckK_u64 (by omega) (by omega), ck_pos (by omega), pow_int, ckI_pow hls.2]
        simp only [lt_self, Bool.false_eq_true, if_false]
  · unfold sh_impl_SmallestCover
    rw [isSmall_eq, Option.bind_some]
    cases hs : smlB s with
    | false => rfl
    | true =>
      have hsch := smlB_sch hs
      simp only [Bool.not_true, Bool.false_eq_true, if_false, Bool.true_and]
      rw [areEdits_eq hsch, Option.bind_some]
      cases hl : edsB s l with
      | false => rfl
      | true =>
        simp only [Bool.not_true, Bool.false_eq_true, if_false, Bool.true_and]
        rw [areValues_eq, Option.bind_some]
        cases hv : valB s v with
        | false => rfl
        | true =>
          simp only [Bool.not_true, Bool.false_eq_true, if_false, if_true]
          rw [cover_len hsch hl hv (smlB_le hs).2, Option.bind_some]
  · split
    · have := stN_len (cmB s l v) (fun a => (a.length : Int)) (2 ^ s.length)
      omega
    · simp
/-! ### Weights -/
section
variable {s : List XVariable} {l : List XEdit} {w v : List Int}
end
/-! ### Mended values -/
/-! ### A donor's values -/
end AS
namespace AS
theorem law_SmallestCover (v0 : List XVariable) (v1 : List XEdit) (v2 : List Int) (b0 : Bd.bd v0) (b1 : Bd.bd v1) (b2 : Bd.bd v2) : sh_laws_FnExactSmallestCover v0 v1 v2 = some true := by
  unfold sh_laws_FnExactSmallestCover
  by_cases h2 : v2.length ≤ 1048576
  · simp only [show ¬ ((1048576 : Int) < (v2.length : Int)) by omega, decide_false, Bool.false_eq_true, if_false]
    rw [szVariableS_eq (by omega) (by omega) b0, Option.bind_some]
    by_cases h0 : ((bulkVS v0 : Nat) : Int) ≤ 1048576
    · rw [left_pos h0]
      simp only [show ¬ ((1048576 : Int) - ((bulkVS v0 : Nat) : Int) < 0) by omega, decide_false, Bool.false_eq_true, if_false]
      rw [szEditS_eq (by omega) (by omega) b1, Option.bind_some]
      by_cases h1 : ((bulkES v1 : Nat) : Int) ≤ 1048576 - ((bulkVS v0 : Nat) : Int)
      · rw [left_pos h1]
        simp only [show ¬ (1048576 - ((bulkVS v0 : Nat) : Int) - ((bulkES v1 : Nat) : Int) < 0) by omega, decide_false, Bool.false_eq_true, if_false]
        obtain ⟨r, e1, e2, q0⟩ := core_SmallestCover v0 v1 v2 (by omega) (by omega) h2
        have q0' := q0
        have n0 : v0.length ≤ bulkVS v0 := Nat.le_add_right _ _
        have m0 := marksVS_le v0
        have n1 : v1.length ≤ bulkES v1 := Nat.le_add_right _ _
        have m1 := marksES_le v1
        simp [e1, e2, toVariableS_eq (s := v0) (by omega),
      eqVariableS_eq (a := v0) (b := v0) (by omega),
      toEditS_eq (l := v1) (by omega),
      eqEditS_eq (a := v1) (b := v1) (by omega),
      toIntS_eq (l := v2) (by omega),
      eqIntS_eq (a := v2) (b := v2) (by omega),
      markVariableS_eq (l := v0) (n := 1) (by omega) (by omega) (by omega),
      markEditS_eq (l := v1) (n := 1 + ((marksVS v0 : Nat) : Int)) (by omega) (by omega) (by omega),
      markIntS_eq (l := v2) (n := 1 + ((marksVS v0 : Nat) : Int) + ((marksES v1 : Nat) : Int)) (by omega) (by omega),
      show ¬ ((1 : Int) + ((marksVS v0 : Nat) : Int) + ((marksES v1 : Nat) : Int) + (v2.length : Int) < 0) by omega,
      eqIntS_eq (a := r.1) (b := r.1) (by omega),
      markIntS_eq (l := r.1) (n := 1) (by omega) (by omega),
      heldIntS_eq (m := (r.1).length) (n := 1) (by omega) (by omega),
      show ¬ ((1 : Int) + ((r.1).length : Int) < 0) by omega]
      · rw [left_no h1]; simp
    · rw [left_no h0]; simp
  · simp [show ((1048576 : Int) < (v2.length : Int)) by omega]
end AS
