/- Plain lemmas, and the law. No condition. -/
import Derived.Test.YtpllepipjbiefaaDoorQReportTextS
import Derived.Lib.Join
set_option linter.unusedVariables false
set_option linter.unusedSimpArgs false
namespace AS
section
variable {R σ α β : Type}
theorem FUEL_big {n : Nat} (h : n ≤ 4611686018427387904) : n < FUEL := Nat.lt_of_le_of_lt h (by decide +kernel)
/-- A loop that counts. -/
theorem loop_up {body : (σ → Option R) → σ → Option R} (n : Nat) (S : Nat → σ) (G : Nat → Option R) (hn : n ≤ 4611686018427387904)
    (hs : ∀ next k, k < n → next (S (k + 1)) = G (k + 1) → body next (S k) = G k) (he : ∀ next, body next (S n) = G n) : loopF body FUEL (S 0) = G 0 := by
  have key : ∀ d k, k + d = n → ∀ m, d < m → loopF body m (S k) = G k := by
    intro d
    induction d with
    | zero => intro k hk m hm; obtain ⟨m, rfl⟩ := Nat.exists_eq_succ_of_ne_zero (by omega : m ≠ 0); simp only [loopF]; rw [show k = n by omega]; exact he _
    | succ d ih =>
      intro k hk m hm
      obtain ⟨m, rfl⟩ := Nat.exists_eq_succ_of_ne_zero (by omega : m ≠ 0)
      simp only [loopF]
      exact hs _ k (by omega) (ih (k + 1) (by omega) m (by omega))
  exact key n 0 (by omega) FUEL (FUEL_big hn)
/-- A range that only goes on. -/
theorem range_all {body : Nat → α → σ → (σ → Option R) → Option R} {fin : σ → Option R} {l : List α} {G : List α → Nat → σ → Option R}
    (h0 : ∀ k s, G [] k s = fin s) (hs : ∀ x l k s next, (∀ s', next s' = G l (k + 1) s') → body k x s next = G (x :: l) k s) : ∀ k s, rangeF body fin l k s = G l k s := by
  induction l with
  | nil => intro k s; simp only [rangeF, h0]
  | cons x l ih => intro k s; simp only [rangeF]; exact hs x l k s _ fun s' => ih (k + 1) s'
/-- A range with what is known of the elements. -/
theorem range_mem {body : Nat → α → σ → (σ → Option R) → Option R} {fin : σ → Option R} {l : List α} (I : Nat → σ → Prop) {G : List α → Nat → σ → Option R}
    (h0 : ∀ k s, I k s → k = l.length → fin s = G [] k s) (hs : ∀ x l' k s next, l[k]? = some x → l.drop k = x :: l' → I k s → (∀ s', I (k + 1) s' → next s' = G l' (k + 1) s') → body k x s next = G (x :: l') k s) :
    ∀ s, I 0 s → rangeF body fin l 0 s = G l 0 s := by
  have key : ∀ d k s, k + d = l.length → I k s → rangeF body fin (l.drop k) k s = G (l.drop k) k s := by
    intro d
    induction d with
    | zero =>
      intro k s hk hi
      rw [List.drop_of_length_le (by omega)]
      exact h0 k s hi (by omega)
    | succ d ih =>
      intro k s hk hi
      have hlt : k < l.length := by omega
      rw [List.drop_eq_getElem_cons hlt]
      simp only [rangeF]
      refine hs _ _ k s _ (List.getElem?_eq_getElem hlt) (List.drop_eq_getElem_cons hlt) hi fun s' hs' => ih (k + 1) s' (by omega) hs'
  intro s hi
  have := key l.length 0 s (by omega) hi
  simpa using this
theorem getO_some {l : List α} {k : Nat} {x : α} {f : α → Option R} (h : l[k]? = some x) : getO l (k : Int) f = f x := by simp [getO, h]
theorem ckI_succ {n : Nat} {f : Option R} (h : n ≤ 4611686018427387904) : ckI ((n : Int) + 1) f = f := ckI_pos (by omega) (by omega)
theorem lt_dec {k n : Nat} (h : k < n) : decide ((k : Int) < (n : Int)) = true := by simp [h]
theorem lt_self (n : Nat) : decide ((n : Int) < (n : Int)) = false := by simp
/-! ### One list into another, cell by cell -/
def mixL (a b : List α) (k : Nat) : List α := a.take k ++ b.drop k
theorem mixL_zero (a b : List α) : mixL a b 0 = b := by simp [mixL]
theorem mixL_end {a b : List α} (h : a.length = b.length) : mixL a b a.length = a := by simp [mixL, ← h]
theorem mixL_get {a b : List α} (h : a.length = b.length) {k : Nat} (hk : k < b.length) : (mixL a b k)[k]? = some b[k] := by
  simp only [mixL]
  rw [List.getElem?_append_right (by simp; omega)]
  simp [show min k a.length = k by omega, hk]
theorem mixL_set {a b : List α} (h : a.length = b.length) {k : Nat} (hk : k < a.length) : (mixL a b k).set k a[k] = mixL a b (k + 1) := by
  apply List.ext_getElem?
  intro i
  simp only [mixL]
  by_cases hi : i = k
  · subst hi
    rw [List.getElem?_set_self (by simp; omega), List.getElem?_append_left (by simp; omega), List.getElem?_take_of_lt (by omega)]
    rw [List.getElem?_eq_getElem (by omega)]
  · rw [List.getElem?_set_ne (Ne.symm hi)]
    simp only [List.getElem?_append, List.length_take, List.getElem?_take, List.getElem?_drop]
    by_cases h1 : i < k
    · simp [show i < min k a.length by omega, show i < min (k+1) a.length by omega, h1, show i < k + 1 by omega]
    · simp only [show ¬ i < min k a.length by omega, show ¬ i < min (k+1) a.length by omega, if_false]
      congr 1; omega
/-! ### The marks -/
end
end AS
namespace AS
theorem toIntS_eq {l : List Int} (h : l.length ≤ 1048576) : sh_laws_toIntS l = some l := by
  unfold sh_laws_toIntS
  rw [mkO_pos (by omega) (by omega)]
  refine (loop_up l.length (fun k => (mixL l (List.replicate l.length 0) k, (k : Int))) (fun _ => some l) (by omega) ?_ ?_)
  · intro next k hk hn
    simp only [lt_dec hk, if_true]
    rw [getO_nat hk, getO_some (mixL_get (by simp) (by simpa using hk)), ckI_succ (by omega)]
    simp only [Int.toNat_natCast, mixL_set (b := List.replicate l.length 0) (by simp) hk]
    exact hn
  · intro next
    simp only [lt_self]
    simp [mixL_end (a := l) (b := List.replicate l.length 0) (by simp)]
theorem eqIntS_eq {a b : List Int} (h : a.length ≤ 1099511627776) : sh_laws_eqIntS a b = some (decide (a = b)) := by
  unfold sh_laws_eqIntS
  by_cases hl : a.length = b.length
  · simp only [hl, ne_eq, not_true_eq_false, decide_false, Bool.false_eq_true, if_false]
    refine (loop_up b.length (fun k => (k : Int)) (fun k => some (decide (a.drop k = b.drop k))) (by omega) ?_ ?_).trans (by simp)
    · intro next k hk hn
      have hk' : k < a.length := by omega
      simp only [lt_dec hk, if_true]
      rw [getO_nat hk', getO_nat hk, ckI_succ (by omega)]
      rw [List.drop_eq_getElem_cons hk', List.drop_eq_getElem_cons hk]
      by_cases e : a[k] = b[k]
      · simp only [e, not_true_eq_false, decide_false, Bool.false_eq_true, if_false, List.cons.injEq, true_and]
        exact hn
      · simp only [ne_eq, e, not_false_eq_true, decide_true, if_true, List.cons.injEq, false_and, decide_false]
    · intro next
      simp only [lt_self]
      simp [List.drop_of_length_le (Nat.le_refl _), List.drop_of_length_le (show a.length ≤ b.length by omega)]
  · have : ¬ (a = b) := fun e => hl (by rw [e])
    have h2 : ¬ ((a.length : Int) = (b.length : Int)) := by omega
    simp [this, h2]
theorem l1In_eq (x lo hi : Int) : sh_spec_l1In x lo hi = some (decide (lo ≤ x) && decide (x ≤ hi)) := by
  unfold sh_spec_l1In
  by_cases h : lo ≤ x <;> simp [h]
theorem l1All_eq (l : List Int) (lo hi : Int) : sh_spec_l1All l lo hi = some (l.all fun x => decide (lo ≤ x) && decide (x ≤ hi)) := by
  unfold sh_spec_l1All
  refine range_all (G := fun l _ _ => some (l.all fun x => decide (lo ≤ x) && decide (x ≤ hi))) (fun _ _ => rfl) ?_ 0 ()
  intro x l k s next ih
  simp only [l1In_eq, Option.bind_some, ih, List.all_cons]
  cases (decide (lo ≤ x) && decide (x ≤ hi)) <;> simp
theorem areSmall_eq (l : List Int) (n : Int) : sh_impl_areSmallIntegers l n = some (decide ((l.length : Int) = n) && l.all fun x => decide (-1000000 ≤ x) && decide (x ≤ 1000000)) := by
  unfold sh_impl_areSmallIntegers
  by_cases h : (l.length : Int) = n
  · simp only [h, ne_eq, not_true_eq_false, decide_false, Bool.false_eq_true, if_false, decide_true, Bool.true_and]
    refine range_all (G := fun l _ _ => some (l.all fun x => decide (-1000000 ≤ x) && decide (x ≤ 1000000))) (fun _ _ => rfl) ?_ 0 ()
    intro x l k s next ih
    simp only [ih, List.all_cons]
    by_cases h1 : x < -1000000
    · simp [h1, show ¬ (-1000000 ≤ x) by omega]
    · by_cases h2 : 1000000 < x
      · simp [h1, h2, show ¬ (x ≤ 1000000) by omega]
      · simp [h1, h2, show (-1000000 ≤ x) by omega, show x ≤ 1000000 by omega]
  · simp [h]
/-! ### AddCells -/
end AS
namespace AS
theorem loop_down {R σ : Type} {body : (σ → Option R) → σ → Option R} (n : Nat) (S : Nat → σ) (G : Nat → Option R) (hn : n ≤ 4611686018427387904)
    (hs : ∀ next k, k < n → next (S k) = G k → body next (S (k + 1)) = G (k + 1)) (he : ∀ next, body next (S 0) = G 0) : loopF body FUEL (S n) = G n := by
  have := loop_up (body := body) n (fun j => S (n - j)) (fun j => G (n - j)) hn (fun next k hk hx => by
    have e : n - k = (n - (k + 1)) + 1 := by omega
    rw [e]; exact hs next (n - (k + 1)) (by omega) hx) (fun next => by
    simp only [Nat.sub_self]; exact he next)
  simpa using this
theorem mixL_setD {α : Type} {a b : List α} (h : a.length = b.length) {k : Nat} (hk : k < b.length) : (mixL a b (k + 1)).set k b[k] = mixL a b k := by
  apply List.ext_getElem?
  intro i
  simp only [mixL]
  by_cases hi : i = k
  · subst hi
    rw [List.getElem?_set_self (by simp; omega), List.getElem?_append_right (by simp; omega)]
    simp [show min i a.length = i by omega, hk]
  · rw [List.getElem?_set_ne (Ne.symm hi)]
    simp only [List.getElem?_append, List.length_take, List.getElem?_take, List.getElem?_drop]
    by_cases h1 : i < k
    · simp [show i < min k a.length by omega, show i < min (k+1) a.length by omega, h1, show i < k + 1 by omega]
    · simp only [show ¬ i < min k a.length by omega, show ¬ i < min (k+1) a.length by omega, if_false]
      congr 1; omega
theorem mixL_getD {α : Type} {a b : List α} (h : a.length = b.length) {k : Nat} (hk : k < a.length) : (mixL a b (k + 1))[k]? = some a[k] := by
  simp only [mixL]
  rw [List.getElem?_append_left (by simp; omega), List.getElem?_take_of_lt (by omega), List.getElem?_eq_getElem hk]
theorem getO_int {R α : Type} {l : List α} {i : Int} {k : Nat} {x : α} {f : α → Option R} (hi : i = (k : Int)) (h : l[k]? = some x) : getO l i f = f x := by subst hi; exact getO_some h
def valid (s : List Int) : Prop := s.length ≤ 4 ∧ ∀ x ∈ s, 1 ≤ x ∧ x ≤ 30
theorem valid.drop {s : List Int} (h : valid s) (k : Nat) : valid (s.drop k) := ⟨by have := h.1; simp; omega, fun y hy => h.2 y (List.mem_of_mem_drop hy)⟩
theorem valid.get {s : List Int} (h : valid s) {k : Nat} {x : Int} (hx : s[k]? = some x) : 1 ≤ x ∧ x ≤ 30 := h.2 x (List.mem_of_getElem? hx)
/-! ### How many cells -/
/-! ### Strides -/
/-! ### Indices -/
/-! ### Cells -/
/-- Indices that fit sizes. -/
def fits (s ix : List Int) : Prop := ix.length = s.length ∧ ∀ (k : Nat) (x y : Int), s[k]? = some x → ix[k]? = some y → 0 ≤ y ∧ y ≤ x
theorem fits.set {s ix : List Int} (h : fits s ix) {d : Nat} {x y : Int} (hx : s[d]? = some x) (h0 : 0 ≤ y) (h1 : y ≤ x) : fits s (ix.set d y) := by
  refine ⟨by rw [List.length_set]; exact h.1, fun k x' y' hx' hy' => ?_⟩
  by_cases e : d = k
  · subst e
    rw [hx] at hx'; cases hx'
    have hk : d < ix.length := by rw [h.1]; exact (List.getElem?_eq_some_iff.1 hx).1
    rw [List.getElem?_set_self hk] at hy'; cases hy'
    exact ⟨h0, h1⟩
  · rw [List.getElem?_set_ne e] at hy'
    exact h.2 k x' y' hx' hy'
end AS
namespace AS
section
variable {α : Type}
theorem to_loop {f : α → Option α} {z : α} {l : List α} (hl : l.length ≤ 1099511627776) (hf : ∀ x ∈ l, f x = some x) :
    mkO (l.length : Int) (loopF (fun (nx : (List α × Int) → Option (List α)) (s : List α × Int) =>
      (if (decide (s.2 < (l.length : Int))) = true then
        getO l s.2 fun x => (f x).bind fun y => getO s.1 s.2 fun _ => ckI (s.2 + (1 : Int)) <| nx ((s.1.set (s.2).toNat y), (s.2 + (1 : Int)))
      else some s.1)) FUEL ((List.replicate ((l.length : Int)).toNat z), (0 : Int))) = some l := by
  rw [mkO_pos (by omega) (by omega)]
  refine (loop_up l.length (fun k => (mixL l (List.replicate l.length z) k, (k : Int))) (fun _ => some l) (by omega) ?_ ?_)
  · intro next k hk hn
    simp only [lt_dec hk, if_true]
    rw [getO_nat hk, hf _ (List.getElem_mem hk), Option.bind_some, getO_some (mixL_get (by simp) (by simpa using hk)), ckI_succ (by omega)]
    simp only [Int.toNat_natCast, mixL_set (b := List.replicate l.length z) (by simp) hk]
    exact hn
  · intro next
    simp only [lt_self]
    simp [mixL_end (a := l) (b := List.replicate l.length z) (by simp)]
theorem eq_loop [DecidableEq α] {f : α → α → Option Bool} {a b : List α} (h : a.length ≤ 1099511627776) (hf : ∀ x ∈ a, ∀ y, f x y = some (decide (x = y))) :
    (if (decide ((a.length : Int) ≠ (b.length : Int))) = true then some false else
      loopF (fun (nx : Int → Option Bool) (s : Int) =>
        (if (decide (s < (a.length : Int))) = true then
          getO a s fun x => getO b s fun y => (f x y).bind fun r => (if (!r) = true then some false else ckI (s + (1 : Int)) <| nx (s + (1 : Int)))
        else some true)) FUEL (0 : Int)) = some (decide (a = b)) := by
  by_cases hl : a.length = b.length
  · simp only [hl, ne_eq, not_true_eq_false, decide_false, Bool.false_eq_true, if_false]
    refine (loop_up b.length (fun k => (k : Int)) (fun k => some (decide (a.drop k = b.drop k))) (by omega) ?_ ?_).trans (by simp)
    · intro next k hk hn
      have hk' : k < a.length := by omega
      simp only [lt_dec hk, if_true]
      rw [getO_nat hk', getO_nat hk, ckI_succ (by omega), hf _ (List.getElem_mem hk'), Option.bind_some]
      rw [List.drop_eq_getElem_cons hk', List.drop_eq_getElem_cons hk]
      by_cases e : a[k] = b[k]
      · simp only [e, decide_true, Bool.not_true, Bool.false_eq_true, if_false, List.cons.injEq, true_and]
        exact hn
      · simp only [e, decide_false, Bool.not_false, if_true, List.cons.injEq, false_and]
    · intro next
      simp only [lt_self]
      simp [List.drop_of_length_le (Nat.le_refl _), List.drop_of_length_le (show a.length ≤ b.length by omega)]
  · have : ¬ (a = b) := fun e => hl (by rw [e])
    have h2 : ¬ ((a.length : Int) = (b.length : Int)) := by omega
    simp [this, h2]
/-- The sum of a measure. -/
def sumL (sz : α → Nat) (l : List α) : Nat := (l.map sz).sum
theorem sumL_cons (sz : α → Nat) (x : α) (l : List α) : sumL sz (x :: l) = sz x + sumL sz l := by simp [sumL]
theorem sumL_take (sz : α → Nat) {l : List α} {k : Nat} (h : k < l.length) : sumL sz (l.take (k + 1)) = sumL sz (l.take k) + sz l[k] := by
  simp only [sumL, List.take_add_one, List.map_append, List.sum_append, List.getElem?_eq_getElem h, Option.toList, List.map_cons, List.map_nil, List.sum_cons, List.sum_nil, Nat.add_zero]
theorem sumL_take_le (sz : α → Nat) (l : List α) (k : Nat) : sumL sz (l.take k) ≤ sumL sz l := by
  have h := congrArg (fun l => (l.map sz).sum) (List.take_append_drop k l)
  simp only [List.map_append, List.sum_append] at h
  simp only [sumL]; omega
theorem sumL_mem (sz : α → Nat) {l : List α} {x : α} (h : x ∈ l) : sz x ≤ sumL sz l := by
  induction l with
  | nil => cases h
  | cons y l ih =>
    rw [sumL_cons]
    rcases List.mem_cons.1 h with rfl | h
    · omega
    · have := ih h; omega
/-- What is left of an allowance. -/
def left (a : Int) (n : Nat) : Int := if (n : Int) ≤ a then a - n else -1
theorem left_pos {a : Int} {n : Nat} (h : (n : Int) ≤ a) : left a n = a - n := if_pos h
theorem sz_loop {sz : α → Nat} {f : α → Int → Option Int} {l : List α} {a : Int} (h0 : 0 ≤ a) (h1 : a ≤ 1048576) (hl : l.length ≤ 9223372036854775807)
    (hf : ∀ x ∈ l, ∀ m : Int, 0 ≤ m → m ≤ 1048576 → f x m = some (left m (sz x))) :
    (ckI (a - (l.length : Int)) <| (if (decide ((a - (l.length : Int)) < (0 : Int))) = true then some (-1 : Int) else
      loopF (fun (nx : (Int × Int) → Option Int) (s : Int × Int) =>
        (if (decide (s.2 < (l.length : Int))) = true then
          getO l s.2 fun x => (f x s.1).bind fun r => (if (decide (r < (0 : Int))) = true then some (-1 : Int) else ckI (s.2 + (1 : Int)) <| nx (r, (s.2 + (1 : Int))))
        else some s.1)) FUEL ((a - (l.length : Int)), (0 : Int)))) = some (left a (l.length + sumL sz l)) := by
  · rw [ckI_pos (by omega) (by omega)]
    by_cases hn : a - (l.length : Int) < 0
    · simp only [hn, decide_true, if_true, left, show ¬ (((l.length + sumL sz l : Nat) : Int) ≤ a) by omega, if_false]
    · have hbig : l.length ≤ 4611686018427387904 := by omega
      simp only [hn, decide_false, Bool.false_eq_true, if_false]
      -- the first element too large decides
      have key : ∀ d k, k + d = l.length → ∀ m, d < m → ((l.length + sumL sz (l.take k) : Nat) : Int) ≤ a →
          loopF (fun (nx : (Int × Int) → Option Int) (s : Int × Int) =>
            (if (decide (s.2 < (l.length : Int))) = true then
              getO l s.2 fun x => (f x s.1).bind fun r => (if (decide (r < (0 : Int))) = true then some (-1 : Int) else ckI (s.2 + (1 : Int)) <| nx (r, (s.2 + (1 : Int))))
            else some s.1)) m ((a - (l.length : Int) - (sumL sz (l.take k) : Nat)), (k : Int)) = some (AS.left a (l.length + sumL sz l)) := by
        intro d
        induction d with
        | zero =>
          intro k hk m hm hle
          obtain ⟨m, rfl⟩ := Nat.exists_eq_succ_of_ne_zero (by omega : m ≠ 0)
          have e : k = l.length := by omega
          subst e
          simp only [loopF, lt_self, Bool.false_eq_true, if_false, List.take_length] at hle ⊢
          rw [left_pos hle]
          congr 1; omega
        | succ d ih =>
          intro k hk m hm hle
          obtain ⟨m, rfl⟩ := Nat.exists_eq_succ_of_ne_zero (by omega : m ≠ 0)
          have hlt : k < l.length := by omega
          simp only [loopF, lt_dec hlt, if_true]
          rw [getO_nat hlt, hf _ (List.getElem_mem hlt) _ (by omega) (by omega), Option.bind_some]
          by_cases hs : ((sz l[k] : Nat) : Int) ≤ a - (l.length : Int) - (sumL sz (l.take k) : Nat)
          · rw [left_pos hs, ckI_succ (by omega)]
            simp only [show ¬ (a - (l.length : Int) - (sumL sz (l.take k) : Nat) - (sz l[k] : Nat) < 0) by omega, decide_false, Bool.false_eq_true, if_false]
            have := ih (k + 1) (by omega) m (by omega) (by rw [sumL_take sz hlt]; omega)
            rw [sumL_take sz hlt] at this
            rw [← this]
            congr 2
            omega
          · have h2 : AS.left (a - (l.length : Int) - (sumL sz (l.take k) : Nat)) (sz l[k]) = -1 := if_neg hs
            rw [h2]
            have h3 := sumL_take_le sz l (k + 1)
            rw [sumL_take sz hlt] at h3
            simp only [show ((-1 : Int) < 0) = True by simp, decide_true, if_true, AS.left, show ¬ (((l.length + sumL sz l : Nat) : Int) ≤ a) by omega, if_false]
      have := key l.length 0 (by omega) FUEL (FUEL_big hbig) (by simp [sumL]; omega)
      simpa [sumL] using this
end
end AS
namespace AS
theorem szIntS_eq {l : List Int} {a : Int} (h0 : 0 ≤ a) (h1 : a ≤ 1048576) (hl : l.length ≤ 9223372036854775807) : sh_laws_szIntS l a = some (left a l.length) := by
  unfold sh_laws_szIntS
  rw [ckI_pos (by omega) (by omega)]
  unfold left
  by_cases h : a - (l.length : Int) < 0
  · simp [h, show ¬ ((l.length : Int) ≤ a) by omega]
  · simp [h, show ((l.length : Int) ≤ a) by omega]
theorem left_left {a : Int} {m n : Nat} (h : (m : Int) ≤ a) : left (a - m) n = left a (m + n) := by
  unfold left; split <;> split <;> omega
theorem left_out {a : Int} {m n : Nat} (h : ¬ (m : Int) ≤ a) : left a (m + n) = -1 := if_neg (by omega)
theorem left_no {a : Int} {m : Nat} (h : ¬ (m : Int) ≤ a) : left a m = -1 := if_neg h
/-! ### Right form -/
/-! ### The first break -/
end AS
namespace AS
/-! ### The law's own functions on variables -/
def bulkV (v : XVariable) : Nat := v.Name.length
theorem szVariable_eq {v : XVariable} {a : Int} (h0 : 0 ≤ a) (h1 : a ≤ 1048576) (hb : Bd.bd v) : sh_laws_szVariable v a = some (left a (bulkV v)) := by
  unfold sh_laws_szVariable
  have hl : v.Name.length ≤ 9223372036854775807 := hb.1.1
  rw [ckI_pos (by omega) (by omega)]
  unfold left bulkV
  by_cases h : a - (v.Name.length : Int) < 0
  · simp [h, show ¬ ((v.Name.length : Int) ≤ a) by omega]
  · simp [h, show ((v.Name.length : Int) ≤ a) by omega]
def bulkVS (s : List XVariable) : Nat := s.length + sumL bulkV s
theorem szVariableS_eq {s : List XVariable} {a : Int} (h0 : 0 ≤ a) (h1 : a ≤ 1048576) (hb : Bd.bd s) : sh_laws_szVariableS s a = some (left a (bulkVS s)) := by
  unfold sh_laws_szVariableS
  exact sz_loop h0 h1 hb.1 fun x hx m hm hm2 => szVariable_eq hm hm2 (hb.2 x hx)
theorem toVariable_eq (v : XVariable) : sh_laws_toVariable v = some v := rfl
theorem toVariableS_eq {s : List XVariable} (h : bulkVS s ≤ 1048576) : sh_laws_toVariableS s = some s := by
  unfold sh_laws_toVariableS
  exact to_loop (by unfold bulkVS at h; omega) fun x _ => toVariable_eq x
theorem XVariable.ext' {a b : XVariable} (h1 : a.Name = b.Name) (h2 : a.Levels = b.Levels) : a = b := by cases a; cases b; simp_all
theorem eqVariable_eq (a b : XVariable) : sh_laws_eqVariable a b = some (decide (a = b)) := by
  unfold sh_laws_eqVariable
  by_cases h1 : a.Name = b.Name
  · by_cases h2 : a.Levels = b.Levels
    · simp [h1, h2, XVariable.ext' h1 h2]
    · simp [h1, h2, show ¬ a = b from fun e => h2 (by rw [e])]
  · simp [h1, show ¬ a = b from fun e => h1 (by rw [e])]
theorem eqVariableS_eq {a b : List XVariable} (h : bulkVS a ≤ 1048576) : sh_laws_eqVariableS a b = some (decide (a = b)) := by
  unfold sh_laws_eqVariableS
  exact eq_loop (by unfold bulkVS at h; omega) fun x _ y => eqVariable_eq x y
/-! ### Schemas -/
def lowB (n : List UInt8) : Bool := n.all fun c => decide ((97 : Int) ≤ (c.toNat : Int)) && decide ((c.toNat : Int) ≤ 122)
def wordB (n : List UInt8) : Bool := lowB n && (decide (1 ≤ n.length) && decide (n.length ≤ 8))
theorem sName_eq {n : List UInt8} (h : n.length ≤ 1099511627776) : sh_spec_sName n = some (wordB n) := by
  unfold sh_spec_sName
  refine (loop_up n.length (fun k => (k : Int)) (fun k => some (lowB (n.drop k) && (decide (1 ≤ n.length) && decide (n.length ≤ 8)))) (by omega) ?_ ?_).trans (by simp [wordB])
  · intro next k hk hn
    simp only [lt_dec hk, if_true]
    rw [getO_nat hk, List.drop_eq_getElem_cons hk]
    by_cases h1 : (n[k].toNat : Int) < 97
    · simp only [h1, decide_true, if_true, lowB, List.all_cons, show decide ((97 : Int) ≤ (n[k].toNat : Int)) = false by (simp only [decide_eq_false_iff_not]; omega), Bool.false_and]
    · by_cases h2 : (122 : Int) < (n[k].toNat : Int)
      · simp only [h1, h2, decide_true, decide_false, Bool.false_eq_true, if_false, if_true, lowB, List.all_cons, show decide ((n[k].toNat : Int) ≤ 122) = false by (simp only [decide_eq_false_iff_not]; omega), Bool.and_false, Bool.false_and]
      · simp only [h1, h2, decide_false, Bool.false_eq_true, if_false]
        rw [ckI_succ (by omega)]
        refine hn.trans ?_
        have : (decide ((97 : Int) ≤ (n[k].toNat : Int)) && decide ((n[k].toNat : Int) ≤ 122)) = true := by simp only [Bool.and_eq_true, decide_eq_true_eq]; omega
        simp only [lowB, List.all_cons, this, Bool.true_and]
  · intro next
    simp only [lt_self, Bool.false_eq_true, if_false, l1In_eq, Option.bind_some, List.drop_length, lowB, List.all_nil, Bool.true_and, Option.some.injEq]
    congr 1 <;> (congr 1; apply propext; omega)
theorem isWord_eq (n : List UInt8) : sh_impl_isWord n = some (wordB n) := by
  unfold sh_impl_isWord
  by_cases h1 : (n.length : Int) < 1
  · simp [h1, wordB, show ¬ (1 ≤ n.length) by omega]
  · by_cases h2 : (8 : Int) < (n.length : Int)
    · simp [h1, h2, wordB, show ¬ (n.length ≤ 8) by omega]
    · simp only [h1, h2, decide_false, Bool.false_eq_true, if_false]
      refine (range_all (G := fun l _ _ => some (lowB l)) (fun _ _ => rfl) ?_ 0 ()).trans (by simp only [wordB, show decide (1 ≤ n.length) = true by (simp; omega), show decide (n.length ≤ 8) = true by (simp; omega), Bool.and_true])
      intro x l k s next ih
      simp only [ih, lowB, List.all_cons]
      by_cases h3 : (x.toNat : Int) < 97
      · simp [h3, show ¬ (97 ≤ (x.toNat : Int)) by omega]
      · by_cases h4 : (122 : Int) < (x.toNat : Int)
        · simp [h3, h4, show ¬ ((x.toNat : Int) ≤ 122) by omega]
        · have : (decide ((97 : Int) ≤ (x.toNat : Int)) && decide ((x.toNat : Int) ≤ 122)) = true := by simp only [Bool.and_eq_true, decide_eq_true_eq]; omega
          simp only [h3, h4, decide_false, Bool.false_eq_true, if_false, this, Bool.true_and]
def hasName (l : List XVariable) (n : List UInt8) : Bool := l.any fun v => decide (v.Name = n)
def findI : List XVariable → List UInt8 → Nat → Int
  | [], _, _ => -1
  | v :: l, n, k => if v.Name = n then k else findI l n (k + 1)
theorem findI_nonneg : ∀ (l : List XVariable) (n : List UInt8) (k : Nat), decide (0 ≤ findI l n k) = hasName l n
  | [], _, _ => rfl
  | v :: l, n, k => by
    simp only [findI, hasName, List.any_cons]
    by_cases h : v.Name = n
    · simp [h]
    · simp only [h, if_false, decide_false, Bool.false_or]; exact findI_nonneg l n (k + 1)
theorem sFind_eq (l : List XVariable) (n : List UInt8) : sh_spec_sFind l n = some (findI l n 0) := by
  unfold sh_spec_sFind
  refine range_all (G := fun l k _ => some (findI l n k)) (fun _ _ => rfl) ?_ 0 ()
  intro x l k s next ih
  simp only [ih, findI]
  by_cases h : x.Name = n <;> simp [h]
def levB (v : XVariable) : Bool := decide (2 ≤ v.Levels) && decide (v.Levels ≤ 8)
def schFrom (s : List XVariable) : List XVariable → Nat → Bool
  | [], _ => true
  | v :: l, k => wordB v.Name && (levB v && (!(hasName (s.take k) v.Name) && schFrom s l (k + 1)))
def schB (s : List XVariable) : Bool := decide (1 ≤ s.length) && decide (s.length ≤ 6) && schFrom s s 0
theorem sGood_eq {s : List XVariable} (h : ∀ v ∈ s, v.Name.length ≤ 1099511627776) : sh_spec_sGood s = some (schB s) := by
  unfold sh_spec_sGood
  rw [l1In_eq, Option.bind_some]
  have e : (decide ((1 : Int) ≤ (s.length : Int)) && decide ((s.length : Int) ≤ 6)) = (decide (1 ≤ s.length) && decide (s.length ≤ 6)) := by
    congr 1 <;> (congr 1; apply propext; omega)
  rw [e]
  cases h1 : (decide (1 ≤ s.length) && decide (s.length ≤ 6)) with
  | false => simp [schB, h1]
  | true =>
    simp only [Bool.not_true, Bool.false_eq_true, if_false]
    refine (range_mem (I := fun _ _ => True) (G := fun l k _ => some (schFrom s l k)) (fun _ _ _ _ => rfl) ?_ () trivial).trans (by simp [schB, h1])
    intro x l' k u next hx _ _ hn
    have hk := (List.getElem?_eq_some_iff.1 hx).1
    rw [sName_eq (h x (List.mem_of_getElem? hx)), Option.bind_some, l1In_eq, Option.bind_some]
    have e2 : (decide ((2 : Int) ≤ x.Levels) && decide (x.Levels ≤ 8)) = levB x := rfl
    simp only [e2, schFrom]
    cases wordB x.Name with
    | false => rfl
    | true =>
      cases levB x with
      | false => rfl
      | true =>
        simp only [Bool.not_true, Bool.false_eq_true, if_false, Bool.true_and]
        rw [ck_pos (by simp; omega), sFind_eq, Option.bind_some, findI_nonneg]
        simp only [Int.toNat_natCast, List.drop_zero]
        cases hasName (s.take k) x.Name with
        | true => rfl
        | false => simp only [Bool.false_eq_true, if_false, Bool.not_false, Bool.true_and]; exact hn () trivial
theorem isSchema_eq (s : List XVariable) : sh_impl_IsSchema s = some (schB s) := by
  unfold sh_impl_IsSchema
  by_cases h1 : (s.length : Int) < 1
  · simp [h1, schB, show ¬ (1 ≤ s.length) by omega]
  · by_cases h2 : (6 : Int) < (s.length : Int)
    · simp [h1, h2, schB, show ¬ (s.length ≤ 6) by omega]
    · have e : (decide (1 ≤ s.length) && decide (s.length ≤ 6)) = true := by simp; omega
      simp only [h1, h2, decide_false, Bool.false_eq_true, if_false]
      refine (range_mem (I := fun _ _ => True) (G := fun l k _ => some (schFrom s l k)) (fun _ _ _ _ => rfl) ?_ () trivial).trans (by simp only [schB, e, Bool.true_and])
      intro x l' k u next hx _ _ hn
      have hk := (List.getElem?_eq_some_iff.1 hx).1
      rw [isWord_eq, Option.bind_some]
      simp only [schFrom]
      cases wordB x.Name with
      | false => rfl
      | true =>
        simp only [Bool.not_true, Bool.false_eq_true, if_false, Bool.true_and]
        by_cases h3 : x.Levels < 2
        · simp [h3, levB, show ¬ (2 ≤ x.Levels) by omega]
        · by_cases h4 : 8 < x.Levels
          · simp [h3, h4, levB, show ¬ (x.Levels ≤ 8) by omega]
          · have : levB x = true := by simp [levB]; omega
            simp only [h3, h4, decide_false, Bool.false_eq_true, if_false, this, Bool.true_and]
            rw [ck_pos (by simp; omega)]
            simp only [Int.toNat_natCast, List.drop_zero]
            have hn' := hn () trivial
            refine range_all (G := fun l _ _ => some (!(hasName l x.Name) && schFrom s l' (k + 1))) (fun _ _ => by simp only [hasName, List.any_nil, Bool.not_false, Bool.true_and]; exact hn'.symm) ?_ 0 ()
            intro y l2 j u2 next2 ih
            simp only [ih, hasName, List.any_cons]
            by_cases h5 : y.Name = x.Name <;> simp [h5]
theorem schFrom_lev {s : List XVariable} : ∀ {l : List XVariable} {k : Nat}, schFrom s l k = true → ∀ v ∈ l, 2 ≤ v.Levels ∧ v.Levels ≤ 8
  | [], _, _, v, hv => by simp at hv
  | x :: l, k, h, v, hv => by
    simp only [schFrom, Bool.and_eq_true] at h
    rcases List.mem_cons.1 hv with rfl | hv
    · have := h.2.1; simpa [levB] using this
    · exact schFrom_lev h.2.2.2 v hv
theorem schB_lev {s : List XVariable} (h : schB s = true) {v : XVariable} (hv : v ∈ s) : 2 ≤ v.Levels ∧ v.Levels ≤ 8 := by
  simp only [schB, Bool.and_eq_true] at h
  exact schFrom_lev h.2 v hv
theorem schB_len {s : List XVariable} (h : schB s = true) : 1 ≤ s.length ∧ s.length ≤ 6 := by
  simp only [schB, Bool.and_eq_true, decide_eq_true_eq] at h
  exact h.1
/-! ### Weights, values, costs -/
def valF : List XVariable → List Int → Bool
  | v :: s, x :: a => decide (0 ≤ x) && decide (x < v.Levels) && valF s a
  | _, _ => true
def valB (s : List XVariable) (a : List Int) : Bool := decide (a.length = s.length) && valF s a
theorem names_of_bulk {s : List XVariable} (h : bulkVS s ≤ 1048576) : ∀ v ∈ s, v.Name.length ≤ 1099511627776 := by
  intro v hv
  have : v.Name.length ≤ sumL bulkV s := sumL_mem bulkV hv
  unfold bulkVS at h
  omega
end AS
namespace AS
theorem sz_end {a : Int} {n : Nat} : (if (decide (left a n < (0 : Int))) = true then some (-1 : Int) else some (left a n)) = some (left a n) := by
  by_cases h : (n : Int) ≤ a
  · rw [left_pos h]; simp [show ¬ (a - (n : Int) < 0) by omega]
  · rw [left_no h]; rfl
theorem sz_next {a : Int} {m n : Nat} {K : Int → Option Int} (h0 : 0 ≤ a) (hK : (m : Int) ≤ a → K (a - m) = some (left (a - m) n)) : (if (decide (left a m < (0 : Int))) = true then some (-1 : Int) else K (left a m)) = some (left a (m + n)) := by
  by_cases h : (m : Int) ≤ a
  · rw [left_pos h, hK h, left_left h]
    simp only [show ¬ (a - (m : Int) < 0) by omega, decide_false, Bool.false_eq_true, if_false]
  · rw [left_no h, left_out h]; simp
/-! ### Geographies -/
def bulkG (g : XGeo) : Nat := g.Parents.length
theorem szGeo_eq {g : XGeo} {a : Int} (h0 : 0 ≤ a) (h1 : a ≤ 1048576) (hb : Bd.bd g) : sh_laws_szGeo g a = some (left a (bulkG g)) := by
  unfold sh_laws_szGeo
  have hl : Bd.bd g.Parents := hb
  rw [szIntS_eq h0 h1 hl.1, Option.bind_some]
  exact sz_end
theorem toGeo_eq {g : XGeo} (h : bulkG g ≤ 1048576) : sh_laws_toGeo g = some g := by
  unfold sh_laws_toGeo; unfold bulkG at h
  rw [toIntS_eq h, Option.bind_some]
theorem eqGeo_eq {a b : XGeo} (h : bulkG a ≤ 1048576) : sh_laws_eqGeo a b = some (decide (a = b)) := by
  unfold sh_laws_eqGeo; unfold bulkG at h
  rw [eqIntS_eq (by omega), Option.bind_some]
  cases a; cases b; simp only [XGeo.mk.injEq]
  split <;> simp_all
/-! ### Tables -/
def bulkT (t : XTable) : Nat := t.Vars.length + t.Where.length
theorem szTable_eq {t : XTable} {a : Int} (h0 : 0 ≤ a) (h1 : a ≤ 1048576) (hb : Bd.bd t) : sh_laws_szTable t a = some (left a (bulkT t)) := by
  unfold sh_laws_szTable
  obtain ⟨_, hv, hw, _⟩ := hb
  rw [szIntS_eq h0 h1 hv.1, Option.bind_some]
  refine sz_next (K := fun x => (sh_laws_szIntS t.Where x).bind fun x9 => if (decide (x9 < (0 : Int))) = true then some (-1 : Int) else some x9) h0 fun h => ?_
  rw [szIntS_eq (by omega) (by omega) hw.1, Option.bind_some]
  exact sz_end
theorem toTable_eq {t : XTable} (h : bulkT t ≤ 1048576) : sh_laws_toTable t = some t := by
  unfold sh_laws_toTable; unfold bulkT at h
  rw [toIntS_eq (by omega), Option.bind_some, toIntS_eq (by omega), Option.bind_some]
theorem eqTable_eq {a b : XTable} (h : bulkT a ≤ 1048576) : sh_laws_eqTable a b = some (decide (a = b)) := by
  unfold sh_laws_eqTable; unfold bulkT at h
  simp only [eqIntS_eq (a := a.Vars) (b := b.Vars) (by omega), eqIntS_eq (a := a.Where) (b := b.Where) (by omega), Option.bind_some]
  cases a; cases b; simp only [XTable.mk.injEq]
  rename_i l1 v1 w1 s1 l2 v2 w2 s2
  by_cases h1 : l1 = l2 <;> by_cases h2 : v1 = v2 <;> by_cases h3 : w1 = w2 <;> by_cases h4 : s1 = s2 <;> simp [h1, h2, h3, h4]
/-! ### Records -/
/-! ### Variables: marks -/
end AS
namespace AS
section
variable {R σ α β : Type}
/-- Some elements of a list, each with what is made of it. -/
def selF (c : Nat → α → Bool) (f : Nat → α → β) : List α → Nat → List β
  | [], _ => []
  | x :: l, k => if c k x = true then f k x :: selF c f l (k + 1) else selF c f l (k + 1)
theorem selF_len (c : Nat → α → Bool) (f : Nat → α → β) : ∀ (l : List α) (k : Nat), (selF c f l k).length ≤ l.length
  | [], _ => Nat.le_refl _
  | x :: l, k => by
    simp only [selF]
    have := selF_len c f l (k + 1)
    split <;> simp <;> omega
theorem selF_mem {c : Nat → α → Bool} {f : Nat → α → β} : ∀ {l : List α} {k : Nat} {y : β}, y ∈ selF c f l k → ∃ j x, l[j]? = some x ∧ c (k + j) x = true ∧ y = f (k + j) x
  | [], _, _, h => by simp [selF] at h
  | x :: l, k, y, h => by
    simp only [selF] at h
    have rec' : y ∈ selF c f l (k + 1) → ∃ j x', (x :: l)[j]? = some x' ∧ c (k + j) x' = true ∧ y = f (k + j) x' := fun h => by
      obtain ⟨j, x', h1, h2, h3⟩ := selF_mem h
      rw [show k + 1 + j = k + (j + 1) by omega] at h2 h3
      exact ⟨j + 1, x', by simpa using h1, h2, h3⟩
    split at h
    · rename_i hc
      rcases List.mem_cons.1 h with rfl | h
      · exact ⟨0, x, rfl, hc, rfl⟩
      · exact rec' h
    · exact rec' h
theorem mem_selF {c : Nat → α → Bool} {f : Nat → α → β} : ∀ {l : List α} {k j : Nat} {x : α}, l[j]? = some x → c (k + j) x = true → f (k + j) x ∈ selF c f l k
  | [], _, _, _, h, _ => by simp at h
  | y :: l, k, 0, x, h, hc => by
    simp only [List.getElem?_cons_zero, Option.some.injEq] at h
    subst h
    simp only [selF, Nat.add_zero] at hc ⊢
    rw [if_pos hc]; exact List.mem_cons_self
  | y :: l, k, j + 1, x, h, hc => by
    have := mem_selF (c := c) (f := f) (l := l) (k := k + 1) (j := j) (x := x) (by simpa using h) (by rw [show k + 1 + j = k + (j + 1) by omega]; exact hc)
    rw [show k + 1 + j = k + (j + 1) by omega] at this
    simp only [selF]
    split
    · exact List.mem_cons_of_mem _ this
    · exact this
theorem range_sel {body : Nat → α → List β → (List β → Option R) → Option R} {fin : List β → Option R} {l : List α} {init : List β} (c : Nat → α → Bool) (f : Nat → α → β)
    (hs : ∀ x k s next, l[k]? = some x → s.length ≤ init.length + k → body k x s next = next (if c k x = true then s ++ [f k x] else s)) : rangeF body fin l 0 init = fin (init ++ selF c f l 0) := by
  refine (range_mem (I := fun k s => s.length ≤ init.length + k) (G := fun l' k s => fin (s ++ selF c f l' k)) ?_ ?_ init (by omega))
  · intro k s _ _; simp [selF]
  · intro x l' k s next hx _ hI hn
    rw [hs x k s next hx hI]
    by_cases h : c k x = true
    · simp only [h, if_true, selF]
      rw [hn _ (by simp; omega)]; simp
    · simp only [h, Bool.false_eq_true, if_false, selF]
      exact hn _ (by omega)
/-- Is there an element? -/
def anyF (c : Nat → α → Bool) : List α → Nat → Bool
  | [], _ => false
  | x :: l, k => c k x || anyF c l (k + 1)
theorem anyF_iff {c : Nat → α → Bool} : ∀ {l : List α} {k : Nat}, anyF c l k = true ↔ ∃ j x, l[j]? = some x ∧ c (k + j) x = true
  | [], k => by simp [anyF]
  | x :: l, k => by
    simp only [anyF, Bool.or_eq_true, anyF_iff (l := l)]
    constructor
    · rintro (h | ⟨j, y, h1, h2⟩)
      · exact ⟨0, x, rfl, h⟩
      · exact ⟨j + 1, y, by simpa using h1, by rw [show k + (j + 1) = k + 1 + j by omega]; exact h2⟩
    · rintro ⟨j, y, h1, h2⟩
      cases j with
      | zero => simp only [List.getElem?_cons_zero, Option.some.injEq] at h1; subst h1; exact .inl h2
      | succ j => exact .inr ⟨j, y, by simpa using h1, by rw [show k + 1 + j = k + (j + 1) by omega]; exact h2⟩
theorem range_any {body : Nat → α → Unit → (Unit → Option R) → Option R} {fin : Unit → Option R} {l : List α} (c : Nat → α → Bool) (r : Option R)
    (hs : ∀ x k next, l[k]? = some x → body k x () next = (if c k x = true then r else next ())) : rangeF body fin l 0 () = (if anyF c l 0 = true then r else fin ()) := by
  refine (range_mem (I := fun _ _ => True) (G := fun l' k _ => if anyF c l' k = true then r else fin ()) ?_ ?_ () trivial)
  · intro k s _ _; simp [anyF]
  · intro x l' k s next hx _ _ hn
    rw [hs x k next hx]
    by_cases h : c k x = true
    · simp [h, anyF]
    · have h' : c k x = false := by simpa using h
      simp only [h', anyF, Bool.false_or, Bool.false_eq_true, if_false]; exact hn _ trivial
/-- A loop with all answers known: it adds up. -/
def foldF (f : Nat → α → σ → σ) : List α → Nat → σ → σ
  | [], _, s => s
  | x :: l, k, s => foldF f l (k + 1) (f k x s)
theorem range_fold {body : Nat → α → σ → (σ → Option R) → Option R} {fin : σ → Option R} {l : List α} {init : σ} (I : Nat → σ → Prop) (f : Nat → α → σ → σ) (h0 : I 0 init)
    (hI : ∀ x k s, l[k]? = some x → I k s → I (k + 1) (f k x s)) (hs : ∀ x k s next, l[k]? = some x → I k s → body k x s next = next (f k x s)) : rangeF body fin l 0 init = fin (foldF f l 0 init) := by
  refine (range_mem (I := I) (G := fun l' k s => fin (foldF f l' k s)) ?_ ?_ init h0)
  · intro k s _ _; rfl
  · intro x l' k s next hx _ hi hn
    rw [hs x k s next hx hi]
    exact hn _ (hI x k s hx hi)
end
end AS
namespace AS
/-! ### MarginOf -/
def risB (n : Int) : Int → List Int → Bool
  | _, [] => true
  | a, x :: l => decide (a < x) && (decide (x < n) && risB n x l)
theorem l1Rising_big (l : List Int) (n : Int) (hl : l.length ≤ 1125899906842624) : sh_spec_l1Rising l 0 (n - 1) = some (risB n (-1) l) := by
  unfold sh_spec_l1Rising
  refine (range_mem (I := fun k _ => ∀ j, j + 1 = k → ∃ x, l[j]? = some x ∧ 0 ≤ x) (G := fun l' k _ => some (risB n (if k = 0 then -1 else l.getD (k - 1) 0) l')) ?_ ?_ () (fun j hj => by omega)).trans (by simp)
  · intro k u _ _; simp [risB]
  · intro x l' k u next hx _ hI hn
    have hk := (List.getElem?_eq_some_iff.1 hx).1
    rw [l1In_eq, Option.bind_some]
    by_cases h0 : 0 ≤ x ∧ x ≤ n - 1
    · simp only [show decide (0 ≤ x) = true by simp [h0.1], show decide (x ≤ n - 1) = true by simp [h0.2], Bool.and_self, Bool.not_true, Bool.false_eq_true, if_false, risB, show decide (x < n) = true by (simp; omega), Bool.true_and]
      have hn' := hn () (fun j hj => ⟨x, by rw [show j = k by omega]; exact hx, h0.1⟩)
      have hgx : l.getD k 0 = x := by simp [List.getD_eq_getElem?_getD, hx]
      simp only [show ¬ (k + 1 = 0) by omega, if_false, Nat.add_sub_cancel, hgx] at hn'
      by_cases hk0 : k = 0
      · subst hk0
        simp only [show ¬ ((0 : Int) < ((0 : Nat) : Int)) by omega, decide_false, Bool.false_eq_true, if_false, if_true, show decide (-1 < x) = true by (simp; omega), Bool.true_and]
        exact hn'
      · obtain ⟨y, hy, hy0⟩ := hI (k - 1) (by omega)
        have hgy : l.getD (k - 1) 0 = y := by simp [List.getD_eq_getElem?_getD, hy]
        simp only [show ((0 : Int) < (k : Int)) by omega, decide_true, if_true, hk0, if_false, hgy]
        rw [ckI_pos (by omega) (by omega), getO_int (k := k - 1) (by omega) hy]
        by_cases h1 : x ≤ y
        · simp [h1, show ¬ (y < x) by omega]
        · simp only [h1, decide_false, Bool.false_eq_true, if_false, show decide (y < x) = true by (simp; omega), Bool.true_and]
          exact hn'
    · have e : (decide (0 ≤ x) && decide (x ≤ n - 1)) = false := by simp only [Bool.and_eq_false_iff, decide_eq_false_iff_not]; omega
      simp only [e, Bool.not_false, if_true, risB, Option.some.injEq]
      by_cases h1 : x < n
      · have : ¬ 0 ≤ x := by omega
        have hlast : ¬ ((if k = 0 then (-1 : Int) else l.getD (k - 1) 0) < x) := by
          by_cases hk0 : k = 0
          · simp only [hk0, if_true]; omega
          · obtain ⟨y, hy, hy0⟩ := hI (k - 1) (by omega)
            have hgy : l.getD (k - 1) 0 = y := by simp [List.getD_eq_getElem?_getD, hy]
            simp only [hk0, if_false, hgy]; omega
        simp only [hlast, decide_false, Bool.false_and]
      · simp only [h1, decide_false, Bool.false_and, Bool.and_false]
end AS
namespace AS
def upB (k : Nat) (x : Int) : Bool := decide (k = 0) || (decide (0 ≤ x) && decide (x < (k : Int)))
def geoB (g : XGeo) : Bool := decide (1 ≤ g.Parents.length) && (decide (g.Parents.length ≤ 30) && (decide (g.Parents[0]? = some (-1)) && !anyF (fun k x => !upB k x) g.Parents 0))
structure GeoOk (p : List Int) : Prop where
  n1 : 1 ≤ p.length
  n2 : p.length ≤ 30
  z : p[0]? = some (-1)
  up : ∀ (k : Nat) (x : Int), 0 < k → p[k]? = some x → 0 ≤ x ∧ x < k
theorem geoB_ok {g : XGeo} (h : geoB g = true) : GeoOk g.Parents := by
  simp only [geoB, Bool.and_eq_true, decide_eq_true_eq, Bool.not_eq_true'] at h
  obtain ⟨h1, h2, h3, h4⟩ := h
  refine ⟨h1, h2, h3, fun k x hk hx => ?_⟩
  cases hc : upB k x with
  | true =>
    simp only [upB, Bool.or_eq_true, Bool.and_eq_true, decide_eq_true_eq] at hc
    omega
  | false =>
    have : anyF (fun k x => !upB k x) g.Parents 0 = true := anyF_iff.2 ⟨k, x, hx, by simp [hc]⟩
    rw [h4] at this; cases this
theorem gGood_eq (g : XGeo) : sh_spec_gGood g = some (geoB g) := by
  unfold sh_spec_gGood
  rw [l1In_eq, Option.bind_some]
  have e1 : decide ((1 : Int) ≤ (g.Parents.length : Int)) = decide (1 ≤ g.Parents.length) := by congr 1; apply propext; omega
  have e2 : decide ((g.Parents.length : Int) ≤ 30) = decide (g.Parents.length ≤ 30) := by congr 1; apply propext; omega
  rw [e1, e2]
  unfold geoB
  cases h1 : decide (1 ≤ g.Parents.length) with
  | false => simp
  | true =>
    cases h2 : decide (g.Parents.length ≤ 30) with
    | false => simp
    | true =>
      simp only [decide_eq_true_eq] at h1 h2
      have hx := List.getElem?_eq_getElem (show 0 < g.Parents.length by omega)
      simp only [Bool.and_self, Bool.not_true, Bool.false_eq_true, if_false, Bool.true_and]
      rw [getO_int (i := 0) (k := 0) rfl hx]
      by_cases hz : g.Parents[0] = -1
      · simp only [hz, ne_eq, not_true_eq_false, decide_false, Bool.false_eq_true, if_false]
        rw [hx, hz]
        refine (range_any (c := fun k x => !upB k x) (some false) ?_).trans ?_
        · intro x k next hxk
          by_cases hk : k = 0
          · subst hk; simp [upB]
          · simp only [show ((0 : Int) < (k : Int)) by omega, decide_true, if_true]
            rw [ckI_pos (by have := (List.getElem?_eq_some_iff.1 hxk).1; omega) (by have := (List.getElem?_eq_some_iff.1 hxk).1; omega), l1In_eq, Option.bind_some]
            have e : decide (x ≤ (k : Int) - 1) = decide (x < (k : Int)) := by congr 1; apply propext; omega
            rw [e]
            simp only [upB, hk, decide_false, Bool.false_or]
        · cases anyF (fun k x => !upB k x) g.Parents 0 <;> simp
      · simp [hz, hx]
theorem isGeo_eq (g : XGeo) : sh_impl_IsGeo g = some (geoB g) := by
  unfold sh_impl_IsGeo geoB
  by_cases h1 : 1 ≤ g.Parents.length
  · by_cases h2 : g.Parents.length ≤ 30
    · have hx := List.getElem?_eq_getElem (show 0 < g.Parents.length by omega)
      simp only [show ¬ ((g.Parents.length : Int) < 1) by omega, show ¬ ((30 : Int) < (g.Parents.length : Int)) by omega, h1, h2, decide_false, decide_true, Bool.false_eq_true, if_false, Bool.true_and]
      rw [getO_int (i := 0) (k := 0) rfl hx]
      by_cases hz : g.Parents[0] = -1
      · simp only [hz, ne_eq, not_true_eq_false, decide_false, Bool.false_eq_true, if_false]
        rw [hx, hz]
        have key := loop_up (body := fun (nx : Int → Option Bool) (s : Int) => (if (decide (s < (g.Parents.length : Int))) = true then
            getO g.Parents s fun x => (if (decide (x < (0 : Int))) = true then some false else (if (decide (s ≤ x)) = true then some false else ckI (s + (1 : Int)) <| nx (s + (1 : Int))))
            else some true)) (g.Parents.length - 1) (fun k => ((k + 1 : Nat) : Int)) (fun k => some (!anyF (fun k x => !upB k x) (g.Parents.drop (k + 1)) (k + 1))) (by omega) (by
          intro next k hk hn
          have hk' : k + 1 < g.Parents.length := by omega
          simp only [lt_dec hk', if_true]
          rw [getO_nat hk', List.drop_eq_getElem_cons hk']
          simp only [anyF]
          by_cases c1 : g.Parents[k + 1] < 0
          · simp [c1, upB, show ¬ (0 ≤ g.Parents[k + 1]) by omega]
          · by_cases c2 : ((k + 1 : Nat) : Int) ≤ g.Parents[k + 1]
            · have : upB (k + 1) g.Parents[k + 1] = false := by
                simp only [upB, Bool.or_eq_false_iff, Bool.and_eq_false_iff, decide_eq_false_iff_not]; omega
              simp only [c1, c2, decide_false, decide_true, Bool.false_eq_true, if_false, if_true, this, Bool.not_false, Bool.true_or, Bool.not_true]
            · have : upB (k + 1) g.Parents[k + 1] = true := by
                simp only [upB, Bool.or_eq_true, Bool.and_eq_true, decide_eq_true_eq]; omega
              simp only [c1, c2, decide_false, Bool.false_eq_true, if_false, this, Bool.not_true, Bool.false_or]
              rw [ckI_succ (by omega)]
              exact hn) (by
          intro next
          have e : g.Parents.length - 1 + 1 = g.Parents.length := by omega
          rw [e]
          simp only [lt_self, Bool.false_eq_true, if_false, List.drop_length, anyF, Bool.not_false])
        have e0 : anyF (fun k x => !upB k x) g.Parents 0 = anyF (fun k x => !upB k x) (g.Parents.drop 1) 1 := by
          rw [← List.drop_zero (l := g.Parents), List.drop_eq_getElem_cons (show 0 < g.Parents.length by omega)]
          simp [anyF, upB]
        rw [e0]
        exact key
      · simp [hz, hx]
    · simp [h2, show ((30 : Int) < (g.Parents.length : Int)) by omega, show ¬ ((g.Parents.length : Int) < 1) by omega]
  · simp [h1, show ((g.Parents.length : Int) < 1) by omega]
/-! ### Depths -/
def par (p : List Int) (i : Nat) : Nat := (p.getD i 0).toNat
def depF (p : List Int) : Nat → Nat → Nat
  | 0, _ => 0
  | _ + 1, 0 => 0
  | f + 1, i + 1 => depF p f (par p (i + 1)) + 1
def dep (p : List Int) (i : Nat) : Nat := depF p i i
theorem GeoOk.par {p : List Int} (h : GeoOk p) {i : Nat} (h0 : 0 < i) (hi : i < p.length) : p[i]? = some ((par p i : Nat) : Int) ∧ AS.par p i < i := by
  have hx := List.getElem?_eq_getElem hi
  have := h.up i _ h0 hx
  have e : AS.par p i = (p[i]).toNat := by simp [AS.par, List.getD_eq_getElem?_getD, hx]
  rw [hx, e]
  exact ⟨by congr 1; omega, by omega⟩
theorem depF_eq {p : List Int} (h : GeoOk p) : ∀ (i f : Nat), i ≤ f → i < p.length → depF p f i = dep p i := by
  intro i
  induction i using Nat.strongRecOn with
  | _ i ih =>
    intro f hf hi
    cases i with
    | zero => cases f <;> rfl
    | succ i =>
      obtain ⟨f, rfl⟩ := Nat.exists_eq_succ_of_ne_zero (by omega : f ≠ 0)
      have hp : par p (i + 1) < i + 1 := (h.par (Nat.succ_pos i) hi).2
      simp only [dep, depF]
      rw [ih _ hp f (by omega) (by omega), ih _ hp i (by omega) (by omega)]
theorem dep_zero (p : List Int) : dep p 0 = 0 := rfl
theorem dep_step {p : List Int} (h : GeoOk p) {i : Nat} (h0 : 0 < i) (hi : i < p.length) : dep p i = dep p (par p i) + 1 := by
  obtain ⟨i, rfl⟩ := Nat.exists_eq_succ_of_ne_zero (by omega : i ≠ 0)
  have hp : par p (i + 1) < i + 1 := (h.par h0 hi).2
  have hi : i + 1 < p.length := hi
  show depF p i (par p (i + 1)) + 1 = _
  rw [depF_eq h _ i (by omega) (by omega)]
theorem dep_le {p : List Int} (h : GeoOk p) : ∀ (i : Nat), i < p.length → dep p i ≤ i := by
  intro i
  induction i using Nat.strongRecOn with
  | _ i ih =>
    intro hi
    by_cases h0 : i = 0
    · subst h0; exact Nat.le_refl _
    · rw [dep_step h (by omega) hi]
      have hp := (h.par (show 0 < i by omega) hi).2
      have := ih _ hp (by omega)
      omega
theorem gDepth_eq {g : XGeo} (h : GeoOk g.Parents) {i : Nat} (hi : i < g.Parents.length) : sh_spec_gDepth g (i : Int) = some ((dep g.Parents i : Nat) : Int) := by
  unfold sh_spec_gDepth
  refine loopF_eq (I := fun s : Int × Int => ∃ a n : Nat, a < g.Parents.length ∧ s = ((a : Int), (n : Int)) ∧ n + dep g.Parents a = dep g.Parents i) (mu := fun s => s.1.toNat) (F := fun _ => some ((dep g.Parents i : Nat) : Int)) ?_ FUEL _ ⟨i, 0, hi, rfl, by omega⟩ (FUEL_big (by have := h.n2; simp; omega))
  rintro s next ⟨a, n, ha, rfl, hd⟩ hn
  by_cases h0 : a = 0
  · subst h0
    rw [dep_zero] at hd
    rw [getO_some h.z]
    simp only [show ¬ ((0 : Int) ≤ -1) by omega, decide_false, Bool.false_eq_true, if_false]
    rw [← hd]; rfl
  · obtain ⟨hp, hlt⟩ := h.par (show 0 < a by omega) ha
    have hs := dep_step h (show 0 < a by omega) ha
    have hle := dep_le h i hi
    have := h.n2
    rw [getO_some hp]
    simp only [show ((0 : Int) ≤ ((par g.Parents a : Nat) : Int)) by omega, decide_true, if_true]
    rw [ckI_pos (by omega) (by omega)]
    exact hn _ ⟨par g.Parents a, n + 1, by omega, by simp, by omega⟩ (by simp; omega)
theorem depthOf_eq {g : XGeo} (h : GeoOk g.Parents) {i : Nat} (hi : i < g.Parents.length) : sh_impl_depthOf g (i : Int) = some ((dep g.Parents i : Nat) : Int) := by
  unfold sh_impl_depthOf
  refine loopF_eq (I := fun s : Int × Int => ∃ a n : Nat, a < g.Parents.length ∧ s = ((a : Int), (n : Int)) ∧ n + dep g.Parents a = dep g.Parents i) (mu := fun s => s.1.toNat) (F := fun _ => some ((dep g.Parents i : Nat) : Int)) ?_ FUEL _ ⟨i, 0, hi, rfl, by omega⟩ (FUEL_big (by have := h.n2; simp; omega))
  rintro s next ⟨a, n, ha, rfl, hd⟩ hn
  by_cases h0 : a = 0
  · subst h0
    rw [dep_zero] at hd
    simp only [show ¬ ((0 : Int) < ((0 : Nat) : Int)) by omega, decide_false, Bool.false_eq_true, if_false]
    rw [← hd]; rfl
  · obtain ⟨hp, hlt⟩ := h.par (show 0 < a by omega) ha
    have hs := dep_step h (show 0 < a by omega) ha
    have hle := dep_le h i hi
    have := h.n2
    simp only [show ((0 : Int) < (a : Int)) by omega, decide_true, if_true]
    rw [getO_some hp, ckI_pos (by omega) (by omega)]
    exact hn _ ⟨par g.Parents a, n + 1, by omega, by simp, by omega⟩ (by simp; omega)
/-! ### Levels -/
def levL (p : List Int) (L : Int) : List Int := selF (fun k _ => decide (((dep p k : Nat) : Int) = L)) (fun k _ => (k : Int)) p 0
theorem levL_len (p : List Int) (L : Int) : (levL p L).length ≤ p.length := selF_len _ _ _ _
theorem levL_mem {p : List Int} {L x : Int} : x ∈ levL p L ↔ ∃ i, i < p.length ∧ x = (i : Int) ∧ ((dep p i : Nat) : Int) = L := by
  constructor
  · intro h
    obtain ⟨j, y, h1, h2, h3⟩ := selF_mem h
    simp only [Nat.zero_add, decide_eq_true_eq] at h2 h3
    exact ⟨j, (List.getElem?_eq_some_iff.1 h1).1, h3, h2⟩
  · rintro ⟨i, hi, rfl, h⟩
    have := mem_selF (c := fun k (_ : Int) => decide (((dep p k : Nat) : Int) = L)) (f := fun k (_ : Int) => (k : Int)) (k := 0) (List.getElem?_eq_getElem hi) (by simpa using h)
    simpa [levL] using this
theorem gLevel_eq {g : XGeo} (h : GeoOk g.Parents) (L : Int) : sh_spec_gLevel g L = some (levL g.Parents L) := by
  unfold sh_spec_gLevel
  refine (range_sel (c := fun k _ => decide (((dep g.Parents k : Nat) : Int) = L)) (f := fun k _ => (k : Int)) ?_).trans (by simp [levL])
  intro x k s next hx hs
  have hk := (List.getElem?_eq_some_iff.1 hx).1
  have := h.n2
  simp only [List.length_nil, Nat.zero_add] at hs
  rw [gDepth_eq h hk, Option.bind_some]
  by_cases hL : ((dep g.Parents k : Nat) : Int) = L
  · simp only [hL, decide_true, if_true]
    rw [lnO_pos (by simp; omega)]
  · simp only [hL, decide_false, Bool.false_eq_true, if_false]
theorem areasAt_eq {g : XGeo} (h : GeoOk g.Parents) (L : Int) : sh_impl_areasAt g L = some (levL g.Parents L) := by
  unfold sh_impl_areasAt
  refine (range_sel (c := fun k _ => decide (((dep g.Parents k : Nat) : Int) = L)) (f := fun k _ => (k : Int)) ?_).trans (by simp [levL])
  intro x k s next hx hs
  have hk := (List.getElem?_eq_some_iff.1 hx).1
  have := h.n2
  simp only [List.length_nil, Nat.zero_add] at hs
  rw [depthOf_eq h hk, Option.bind_some]
  by_cases hL : ((dep g.Parents k : Nat) : Int) = L
  · simp only [hL, decide_true, if_true]
    rw [lnO_pos (by simp; omega)]
  · simp only [hL, decide_false, Bool.false_eq_true, if_false]
/-! ### Leaves -/
/-! ### Ancestors -/
end AS
namespace AS
theorem ckK_u64 {R : Type} {n : Int} {f : Option R} (h0 : 0 ≤ n) (h1 : n ≤ 18446744073709551615) : ckK .u64 n f = f := if_pos ⟨h0, h1⟩
theorem getD_get {α : Type} {l : List α} {k : Nat} {d : α} (h : k < l.length) : l.getD k d = l[k] := by simp [List.getD_eq_getElem?_getD, h]
theorem getD_some {α : Type} {l : List α} {k : Nat} {d x : α} (h : l[k]? = some x) : l.getD k d = x := by simp [List.getD_eq_getElem?_getD, h]
theorem anyF_swap {α β : Type} {P : α → β → Bool} {s : List α} {w : List β} {d : β} {d' : α} (h : w.length = s.length) : anyF (fun k v => P v (w.getD k d)) s 0 = anyF (fun k x => P (s.getD k d') x) w 0 := by
  rw [Bool.eq_iff_iff, anyF_iff, anyF_iff]
  constructor
  · rintro ⟨j, v, h1, h2⟩
    have hj := (List.getElem?_eq_some_iff.1 h1).1
    refine ⟨j, w[j]'(by omega), List.getElem?_eq_getElem _, ?_⟩
    simp only [Nat.zero_add] at h2 ⊢
    rw [getD_get (by omega)] at h2
    rw [getD_some h1]; exact h2
  · rintro ⟨j, x, h1, h2⟩
    have hj := (List.getElem?_eq_some_iff.1 h1).1
    refine ⟨j, s[j]'(by omega), List.getElem?_eq_getElem _, ?_⟩
    simp only [Nat.zero_add] at h2 ⊢
    rw [getD_get (by omega)] at h2
    rw [getD_some h1]; exact h2
theorem if_not {b : Bool} : (if b = true then some false else some true) = some (!b) := by cases b <;> rfl
/-! ### Sets of levels -/
def full (v : XVariable) : Int := 2 ^ v.Levels.toNat - 1
theorem pow_bd {v : XVariable} (h : 2 ≤ v.Levels ∧ v.Levels ≤ 8) : (4 : Int) ≤ 2 ^ v.Levels.toNat ∧ (2 : Int) ^ v.Levels.toNat ≤ 256 := by
  have : v.Levels.toNat = 2 ∨ v.Levels.toNat = 3 ∨ v.Levels.toNat = 4 ∨ v.Levels.toNat = 5 ∨ v.Levels.toNat = 6 ∨ v.Levels.toNat = 7 ∨ v.Levels.toNat = 8 := by omega
  rcases this with h | h | h | h | h | h | h <;> rw [h] <;> decide
theorem fullSet_eq {v : XVariable} (h : 2 ≤ v.Levels ∧ v.Levels ≤ 8) : sh_impl_fullSet v = some (full v) := by
  unfold sh_impl_fullSet
  have := pow_bd h
  simp only [Int.one_mul]
  rw [ck_pos (by omega), ckI_pos (by omega) (by omega), ckI_pos (by omega) (by omega)]; rfl
def whB (s : List XVariable) (w : List Int) : Bool := decide (w.length = s.length) && !anyF (fun k x => !(decide (0 ≤ x) && decide (x ≤ full (s.getD k default)))) w 0
theorem whB_len {s : List XVariable} {w : List Int} (h : whB s w = true) : w.length = s.length := by
  simp only [whB, Bool.and_eq_true, decide_eq_true_eq] at h; exact h.1
theorem uWhere_eq {s : List XVariable} {w : List Int} (hs : schB s = true) : sh_spec_uWhere s w = some (whB s w) := by
  unfold sh_spec_uWhere whB
  by_cases h : w.length = s.length
  · simp only [h, ne_eq, not_true_eq_false, decide_false, Bool.false_eq_true, if_false, decide_true, Bool.true_and]
    refine (range_any (c := fun k v => !(decide (0 ≤ w.getD k 0) && decide (w.getD k 0 ≤ full v))) (some false) ?_).trans ?_
    · intro v k next hx
      have hk := (List.getElem?_eq_some_iff.1 hx).1
      have hb := pow_bd (schB_lev hs (List.mem_of_getElem? hx))
      have hl := schB_lev hs (List.mem_of_getElem? hx)
      simp only [Int.one_mul]
      rw [getO_nat (show k < w.length by omega), ckK_u64 (by omega) (by omega), ck_pos (by omega), ckI_pos (by omega) (by omega), ckI_pos (by omega) (by omega), l1In_eq, Option.bind_some, getD_get (show k < w.length by omega)]
      rfl
    · rw [anyF_swap (P := fun v x => !(decide (0 ≤ x) && decide (x ≤ full v))) (d' := default) h]; exact if_not
  · simp [h, show ¬ ((w.length : Int) = (s.length : Int)) by omega]
theorem isWhere_eq {s : List XVariable} {w : List Int} (hs : schB s = true) : sh_impl_isWhere s w = some (whB s w) := by
  unfold sh_impl_isWhere whB
  by_cases h : w.length = s.length
  · simp only [h, ne_eq, not_true_eq_false, decide_false, Bool.false_eq_true, if_false, decide_true, Bool.true_and]
    refine (range_any (c := fun k x => !(decide (0 ≤ x) && decide (x ≤ full (s.getD k default)))) (some false) ?_).trans (show (if anyF _ _ 0 = true then some false else some true) = _ from if_not)
    intro x k next hx
    have hk := (List.getElem?_eq_some_iff.1 hx).1
    have hks : k < s.length := by omega
    have hl := schB_lev hs (List.getElem_mem hks)
    rw [getO_nat hks, fullSet_eq hl, Option.bind_some, getD_get hks]
    by_cases h1 : x < 0
    · simp [h1, show ¬ (0 ≤ x) by omega]
    · by_cases h2 : full s[k] < x
      · simp [h1, h2, show ¬ (x ≤ full s[k]) by omega]
      · simp [h1, h2, show (0 ≤ x) by omega, show x ≤ full s[k] by omega]
  · simp [h, show ¬ ((w.length : Int) = (s.length : Int)) by omega]
/-! ### Records and conditions -/
theorem valF_get : ∀ {s : List XVariable} {a : List Int}, valF s a = true → ∀ {k : Nat} {x : Int} {v : XVariable}, a[k]? = some x → s[k]? = some v → 0 ≤ x ∧ x < v.Levels
  | [], _, _, k, x, v, _, h => by simp at h
  | _ :: _, [], _, k, x, v, h, _ => by simp at h
  | v :: s, x :: a, h, 0, y, u, h1, h2 => by
    simp only [List.getElem?_cons_zero, Option.some.injEq] at h1 h2
    subst h1; subst h2
    simp only [valF, Bool.and_eq_true, decide_eq_true_eq] at h; exact h.1
  | v :: s, x :: a, h, k + 1, y, u, h1, h2 => by
    simp only [valF, Bool.and_eq_true] at h
    exact valF_get h.2 (by simpa using h1) (by simpa using h2)
theorem valB_len {s : List XVariable} {a : List Int} (h : valB s a = true) : a.length = s.length := by
  simp only [valB, Bool.and_eq_true, decide_eq_true_eq] at h; exact h.1
theorem valB_get {s : List XVariable} {a : List Int} (h : valB s a = true) {k : Nat} {x : Int} {v : XVariable} (h1 : a[k]? = some x) (h2 : s[k]? = some v) : 0 ≤ x ∧ x < v.Levels := by
  simp only [valB, Bool.and_eq_true, decide_eq_true_eq] at h; exact valF_get h.2 h1 h2
/-! ### Variables of a table -/
theorem risB_rng {n : Int} : ∀ {l : List Int} {a : Int}, risB n a l = true → ∀ d ∈ l, a < d ∧ d < n
  | [], _, _, d, hd => by simp at hd
  | x :: l, a, h, d, hd => by
    simp only [risB, Bool.and_eq_true, decide_eq_true_eq] at h
    rcases List.mem_cons.1 hd with rfl | hd
    · exact ⟨h.1, h.2.1⟩
    · have := risB_rng h.2.2 d hd; omega
theorem risB_len {n : Int} : ∀ {l : List Int} {a : Int}, a < n → risB n a l = true → (l.length : Int) ≤ n - 1 - a
  | [], _, ha, _ => by simp; omega
  | x :: l, a, _, h => by
    simp only [risB, Bool.and_eq_true, decide_eq_true_eq] at h
    have := risB_len (a := x) h.2.1 h.2.2
    simp only [List.length_cons]; omega
theorem areVars_eq (s : List XVariable) (l : List Int) : sh_impl_areVars s l = some (risB s.length (-1) l) := by
  unfold sh_impl_areVars
  refine range_mem (I := fun _ _ => True) (G := fun l _ a => some (risB s.length a l)) (fun _ _ _ _ => rfl) ?_ (-1) trivial
  intro x l' k a next _ _ _ hn
  simp only [risB]
  by_cases h1 : x ≤ a
  · simp [h1, show ¬ (a < x) by omega]
  · by_cases h2 : (s.length : Int) ≤ x
    · simp [h1, h2, show ¬ (x < (s.length : Int)) by omega]
    · simp only [h1, h2, decide_false, Bool.false_eq_true, if_false, show decide (a < x) = true by (simp; omega), show decide (x < (s.length : Int)) = true by (simp; omega), Bool.true_and]
      exact hn _ trivial
def partV (s : List XVariable) (l : List Int) : List XVariable := l.map fun v => s.getD v.toNat default
theorem partV_len (s : List XVariable) (l : List Int) : (partV s l).length = l.length := by simp [partV]
theorem selF_map {α β : Type} (f : α → β) : ∀ (l : List α) (k : Nat), selF (fun _ _ => true) (fun _ x => f x) l k = l.map f
  | [], _ => rfl
  | x :: l, k => by simp only [selF, if_true, List.map_cons, selF_map f l]
theorem sPart_eq {s : List XVariable} {l : List Int} (h : ∀ d ∈ l, 0 ≤ d ∧ d < (s.length : Int)) (hl : l.length ≤ 1099511627776) : sh_spec_sPart s l = some (partV s l) := by
  unfold sh_spec_sPart
  refine (range_sel (c := fun _ _ => true) (f := fun _ v => s.getD v.toNat default) ?_).trans (by rw [selF_map]; rfl)
  intro x k a next hx ha
  have hk := (List.getElem?_eq_some_iff.1 hx).1
  have hxb := h x (List.mem_of_getElem? hx)
  have hlt : x.toNat < s.length := by omega
  simp only [List.length_nil, Nat.zero_add] at ha
  rw [getO_pos hxb.1 hlt, lnO_pos (by simp; omega), getD_get hlt]
  rfl
theorem crossed_eq {s : List XVariable} {t : XTable} (h : ∀ d ∈ t.Vars, 0 ≤ d ∧ d < (s.length : Int)) (hl : t.Vars.length ≤ 1099511627776) : sh_impl_crossed s t = some (partV s t.Vars) := by
  unfold sh_impl_crossed
  rw [mkO_pos (by omega) (by omega), Int.toNat_natCast]
  have hz : (partV s t.Vars).length = (List.replicate t.Vars.length (⟨([] : List UInt8), (0 : Int)⟩ : XVariable)).length := by simp [partV_len]
  refine range_mem (I := fun k a => a = mixL (partV s t.Vars) (List.replicate t.Vars.length (⟨([] : List UInt8), (0 : Int)⟩ : XVariable)) k) (G := fun _ _ _ => some (partV s t.Vars)) ?_ ?_ _ (mixL_zero _ _).symm
  · intro k a ha hk
    subst ha
    have := mixL_end hz
    rw [partV_len] at this
    rw [hk, this]
  · intro x l' k a next hx _ ha hn
    subst ha
    have hk := (List.getElem?_eq_some_iff.1 hx).1
    have hxb := h x (List.mem_of_getElem? hx)
    have hlt : x.toNat < s.length := by omega
    rw [getO_pos hxb.1 hlt, getO_some (mixL_get hz (by simpa using hk))]
    refine hn _ ?_
    rw [Int.toNat_natCast, ← mixL_set hz (by rw [partV_len]; exact hk)]
    congr 1
    have hxe := (List.getElem?_eq_some_iff.1 hx).2
    simp only [partV, List.getElem_map, hxe, getD_get hlt]
/-! ### How many cells -/
def prodV : List XVariable → Int
  | [] => 1
  | v :: l => v.Levels * prodV l
theorem mul_pow_bd {a x : Int} {k : Nat} (hk : k ≤ 5) (h1 : 1 ≤ a) (h2 : a ≤ 8 ^ k) (h3 : 2 ≤ x) (h4 : x ≤ 8) : 1 ≤ a * x ∧ a * x ≤ 8 ^ (k + 1) ∧ (8 : Int) ^ (k + 1) ≤ 262144 := by
  have a1 : 1 * 1 ≤ a * x := Int.mul_le_mul h1 (by omega) (by omega) (by omega)
  have a2 : a * x ≤ 8 ^ k * 8 := Int.mul_le_mul h2 (by omega) (by omega) (by omega)
  refine ⟨by omega, by rw [Int.pow_succ]; exact a2, ?_⟩
  have : k = 0 ∨ k = 1 ∨ k = 2 ∨ k = 3 ∨ k = 4 ∨ k = 5 := by omega
  rcases this with rfl | rfl | rfl | rfl | rfl | rfl <;> decide
theorem foldF_prod : ∀ (l : List XVariable) (k : Nat) (a : Int), foldF (fun _ v a => a * v.Levels) l k a = a * prodV l
  | [], _, a => by simp [foldF, prodV]
  | v :: l, k, a => by simp only [foldF, prodV, foldF_prod l, Int.mul_assoc]
theorem sCount_eq {l : List XVariable} (hl : l.length ≤ 6) (h : ∀ v ∈ l, 2 ≤ v.Levels ∧ v.Levels ≤ 8) : sh_spec_sCount l = some (prodV l) := by
  unfold sh_spec_sCount
  refine (range_fold (I := fun k a => 1 ≤ a ∧ a ≤ 8 ^ k) (f := fun _ v a => a * v.Levels) (by simp) ?_ ?_).trans (by rw [foldF_prod, Int.one_mul])
  · intro x k a hx hI
    have hk := (List.getElem?_eq_some_iff.1 hx).1
    have := h x (List.mem_of_getElem? hx)
    have := mul_pow_bd (show k ≤ 5 by omega) hI.1 hI.2 this.1 this.2
    exact ⟨this.1, this.2.1⟩
  · intro x k a next hx hI
    have hk := (List.getElem?_eq_some_iff.1 hx).1
    have := h x (List.mem_of_getElem? hx)
    have := mul_pow_bd (show k ≤ 5 by omega) hI.1 hI.2 this.1 this.2
    rw [ckI_pos (by omega) (by omega)]
theorem combinations_eq {l : List XVariable} (hl : l.length ≤ 6) (h : ∀ v ∈ l, 2 ≤ v.Levels ∧ v.Levels ≤ 8) : sh_impl_combinations l = some (prodV l) := by
  unfold sh_impl_combinations
  refine (range_fold (I := fun k a => 1 ≤ a ∧ a ≤ 8 ^ k) (f := fun _ v a => a * v.Levels) (by simp) ?_ ?_).trans (by rw [foldF_prod, Int.one_mul])
  · intro x k a hx hI
    have hk := (List.getElem?_eq_some_iff.1 hx).1
    have := h x (List.mem_of_getElem? hx)
    have := mul_pow_bd (show k ≤ 5 by omega) hI.1 hI.2 this.1 this.2
    exact ⟨this.1, this.2.1⟩
  · intro x k a next hx hI
    have hk := (List.getElem?_eq_some_iff.1 hx).1
    have := h x (List.mem_of_getElem? hx)
    have := mul_pow_bd (show k ≤ 5 by omega) hI.1 hI.2 this.1 this.2
    rw [ckI_pos (by omega) (by omega)]
theorem prodV_bd : ∀ {l : List XVariable}, l.length ≤ 6 → (∀ v ∈ l, 2 ≤ v.Levels ∧ v.Levels ≤ 8) → 1 ≤ prodV l ∧ prodV l ≤ 8 ^ l.length ∧ (8 : Int) ^ l.length ≤ 262144
  | [], _, _ => by simp [prodV]
  | v :: l, hl, h => by
    simp only [List.length_cons] at hl
    have := prodV_bd (l := l) (by omega) (fun u hu => h u (List.mem_cons_of_mem _ hu))
    have hv := h v List.mem_cons_self
    have := mul_pow_bd (show l.length ≤ 5 by omega) this.1 this.2.1 hv.1 hv.2
    simp only [prodV, List.length_cons]
    rw [Int.mul_comm]; exact this
/-- A list of variables of a schema. -/
structure Part (s : List XVariable) (l : List Int) : Prop where
  sch : schB s = true
  ris : risB s.length (-1) l = true
theorem Part.rng {s : List XVariable} {l : List Int} (h : Part s l) : ∀ d ∈ l, 0 ≤ d ∧ d < (s.length : Int) := fun d hd => by
  have := risB_rng h.ris d hd; omega
theorem Part.len {s : List XVariable} {l : List Int} (h : Part s l) : l.length ≤ 6 := by
  have := risB_len (by omega) h.ris
  have := schB_len h.sch
  omega
theorem Part.lev {s : List XVariable} {l : List Int} (h : Part s l) : ∀ v ∈ partV s l, 2 ≤ v.Levels ∧ v.Levels ≤ 8 := by
  intro v hv
  simp only [partV, List.mem_map] at hv
  obtain ⟨d, hd, rfl⟩ := hv
  have := h.rng d hd
  rw [getD_get (show d.toNat < s.length by omega)]
  exact schB_lev h.sch (List.getElem_mem _)
theorem Part.bd {s : List XVariable} {l : List Int} (h : Part s l) : 1 ≤ prodV (partV s l) ∧ prodV (partV s l) ≤ 262144 := by
  have := prodV_bd (l := partV s l) (by rw [partV_len]; exact h.len) h.lev
  omega
theorem Part.part {s : List XVariable} {l : List Int} (h : Part s l) : sh_spec_sPart s l = some (partV s l) := sPart_eq h.rng (by have := h.len; omega)
theorem Part.count {s : List XVariable} {l : List Int} (h : Part s l) : sh_spec_sCount (partV s l) = some (prodV (partV s l)) := sCount_eq (by rw [partV_len]; exact h.len) h.lev
theorem Part.cross {s : List XVariable} {t : XTable} (h : Part s t.Vars) : sh_impl_crossed s t = some (partV s t.Vars) := crossed_eq h.rng (by have := h.len; omega)
theorem Part.comb {s : List XVariable} {l : List Int} (h : Part s l) : sh_impl_combinations (partV s l) = some (prodV (partV s l)) := combinations_eq (by rw [partV_len]; exact h.len) h.lev
def cntT (g : XGeo) (s : List XVariable) (t : XTable) : Int := ((levL g.Parents t.Level).length : Int) * prodV (partV s t.Vars)
theorem cntT_bd {g : XGeo} {s : List XVariable} {t : XTable} (hg : geoB g = true) (h : Part s t.Vars) : 0 ≤ cntT g s t ∧ cntT g s t ≤ 7864320 := by
  have h1 := levL_len g.Parents t.Level
  have h2 := (geoB_ok hg).n2
  have h3 := h.bd
  constructor
  · exact Int.mul_nonneg (by omega) (by omega)
  · have : cntT g s t ≤ 30 * 262144 := Int.mul_le_mul (by omega) h3.2 (by omega) (by omega)
    omega
theorem uCount_eq {g : XGeo} {s : List XVariable} {t : XTable} (hg : geoB g = true) (h : Part s t.Vars) : sh_spec_uCount g s t = some (cntT g s t) := by
  unfold sh_spec_uCount
  have hb := cntT_bd hg h
  have h1 := levL_len g.Parents t.Level
  have h2 := (geoB_ok hg).n2
  unfold cntT at hb ⊢
  rw [gLevel_eq (geoB_ok hg), Option.bind_some, lmO_pos (by omega), h.part, Option.bind_some, h.count, Option.bind_some, ckI_pos (by omega) (by omega)]
theorem cellCount_eq {g : XGeo} {s : List XVariable} {t : XTable} (hg : geoB g = true) (h : Part s t.Vars) : sh_impl_cellCount g s t = some (cntT g s t) := by
  unfold sh_impl_cellCount
  have hb := cntT_bd hg h
  have h1 := levL_len g.Parents t.Level
  have h2 := (geoB_ok hg).n2
  unfold cntT at hb ⊢
  rw [areasAt_eq (geoB_ok hg), Option.bind_some, lmO_pos (by omega), h.cross, Option.bind_some, h.comb, Option.bind_some, ckI_pos (by omega) (by omega)]
/-! ### Tables -/
def tabB (g : XGeo) (s : List XVariable) (t : XTable) : Bool :=
  !(levL g.Parents t.Level).isEmpty && (risB s.length (-1) t.Vars && (whB s t.Where && (decide (-1 ≤ t.Sum) && (decide (t.Sum < (s.length : Int)) && decide (cntT g s t ≤ 600)))))
def allB (g : XGeo) (s : List XVariable) (t : XTable) : Bool := geoB g && (schB s && tabB g s t)
theorem uGood_big {g : XGeo} {s : List XVariable} {t : XTable} (hn : bulkVS s ≤ 1048576) (ht : t.Vars.length ≤ 1125899906842624) : sh_spec_uGood g s t = some (allB g s t) := by
  unfold sh_spec_uGood allB
  rw [gGood_eq, Option.bind_some]
  cases hg : geoB g with
  | false => rfl
  | true =>
    rw [sGood_eq (names_of_bulk hn), Option.bind_some]
    cases hs : schB s with
    | false => rfl
    | true =>
      have hl := schB_len hs
      unfold tabB
      rw [gLevel_eq (geoB_ok hg), Option.bind_some]
      cases he : levL g.Parents t.Level with
      | nil => rfl
      | cons y l =>
        have e : decide (((y :: l).length : Int) = 0) = false := by simp; omega
        simp only [e, Bool.not_true, Bool.false_eq_true, if_false, List.isEmpty_cons, Bool.not_false, Bool.true_and]
        rw [ckI_pos (by omega) (by omega), l1Rising_big _ _ ht, Option.bind_some]
        cases hr : risB s.length (-1) t.Vars with
        | false => rfl
        | true =>
          have hp : Part s t.Vars := ⟨hs, hr⟩
          rw [uWhere_eq hs, Option.bind_some]
          cases hw : whB s t.Where with
          | false => rfl
          | true =>
            simp only [Bool.not_true, Bool.false_eq_true, if_false, Bool.true_and]
            rw [ckI_pos (by omega) (by omega), l1In_eq, Option.bind_some, Option.bind_some]
            have e2 : decide (t.Sum ≤ (s.length : Int) - 1) = decide (t.Sum < (s.length : Int)) := by congr 1; apply propext; omega
            rw [e2, uCount_eq hg hp, Option.bind_some]
            cases decide (-1 ≤ t.Sum) <;> cases decide (t.Sum < (s.length : Int)) <;> simp
theorem uGood_eq {g : XGeo} {s : List XVariable} {t : XTable} (hn : bulkVS s ≤ 1048576) (ht : bulkT t ≤ 1048576) : sh_spec_uGood g s t = some (allB g s t) := uGood_big hn (by unfold bulkT at ht; omega)
theorem isTable_eq {g : XGeo} {s : List XVariable} {t : XTable} (hg : geoB g = true) (hs : schB s = true) : sh_impl_isTable g s t = some (tabB g s t) := by
  unfold sh_impl_isTable tabB
  rw [areVars_eq, Option.bind_some]
  cases hr : risB s.length (-1) t.Vars with
  | false => cases (levL g.Parents t.Level).isEmpty <;> rfl
  | true =>
    have hp : Part s t.Vars := ⟨hs, hr⟩
    have hpb := hp.bd
    rw [isWhere_eq hs, Option.bind_some]
    cases hw : whB s t.Where with
    | false => cases (levL g.Parents t.Level).isEmpty <;> rfl
    | true =>
      simp only [Bool.not_true, Bool.false_eq_true, if_false, Bool.true_and]
      rw [cellCount_eq hg hp]
      by_cases h1 : t.Sum < -1
      · simp [h1, show ¬ (-1 ≤ t.Sum) by omega]
      · by_cases h2 : (s.length : Int) ≤ t.Sum
        · simp [h1, h2, show ¬ (t.Sum < (s.length : Int)) by omega]
        · simp only [h1, h2, decide_false, Bool.false_eq_true, if_false, Option.bind_some, show decide (-1 ≤ t.Sum) = true by (simp; omega), show decide (t.Sum < (s.length : Int)) = true by (simp; omega), Bool.true_and]
          cases he : levL g.Parents t.Level with
          | nil => simp [cntT, he]
          | cons y l =>
            have : 0 < cntT g s t := by
              unfold cntT; rw [he]
              exact Int.mul_pos (by simp) (by omega)
            simp [this]
theorem areTabled_eq (g : XGeo) (s : List XVariable) (t : XTable) : sh_impl_areTabled g s t = some (allB g s t) := by
  unfold sh_impl_areTabled allB
  rw [isGeo_eq, Option.bind_some]
  cases hg : geoB g with
  | false => rfl
  | true =>
    rw [isSchema_eq, Option.bind_some]
    cases hs : schB s with
    | false => rfl
    | true => simp [isTable_eq hg hs]
/-- All that is known of a valid table. -/
structure Tab (g : XGeo) (s : List XVariable) (t : XTable) : Prop where
  geo : geoB g = true
  p : Part s t.Vars
  w : whB s t.Where = true
  s0 : -1 ≤ t.Sum
  s1 : t.Sum < (s.length : Int)
  ne : levL g.Parents t.Level ≠ []
  le : cntT g s t ≤ 600
theorem allB_tab {g : XGeo} {s : List XVariable} {t : XTable} (h : allB g s t = true) : Tab g s t := by
  simp only [allB, tabB, Bool.and_eq_true, decide_eq_true_eq, Bool.not_eq_true', List.isEmpty_eq_false_iff] at h
  obtain ⟨h1, h2, h3, h4, h5, h6, h7, h8⟩ := h
  exact ⟨h1, ⟨h2, h4⟩, h5, h6, h7, h3, h8⟩
theorem Tab.ok {g : XGeo} {s : List XVariable} {t : XTable} (h : Tab g s t) : GeoOk g.Parents := geoB_ok h.geo
theorem Tab.sch {g : XGeo} {s : List XVariable} {t : XTable} (h : Tab g s t) : schB s = true := h.p.sch
end AS
namespace AS
/-! ### Mixed radix -/
theorem prodV_drop {s : List XVariable} {k : Nat} (hk : k < s.length) : prodV (s.drop k) = s[k].Levels * prodV (s.drop (k + 1)) := by
  rw [List.drop_eq_getElem_cons hk]; rfl
/-- A list of variables that can be counted. -/
structure Vs (s : List XVariable) : Prop where
  len : s.length ≤ 6
  lev : ∀ v ∈ s, 2 ≤ v.Levels ∧ v.Levels ≤ 8
theorem Part.vs {s : List XVariable} {l : List Int} (h : Part s l) : Vs (partV s l) := ⟨by rw [partV_len]; exact h.len, h.lev⟩
theorem Vs.get {s : List XVariable} (h : Vs s) {k : Nat} (hk : k < s.length) : 2 ≤ s[k].Levels ∧ s[k].Levels ≤ 8 := h.lev _ (List.getElem_mem hk)
theorem Vs.drop {s : List XVariable} (h : Vs s) (k : Nat) : Vs (s.drop k) := ⟨by simp; have := h.len; omega, fun v hv => h.lev v (List.mem_of_mem_drop hv)⟩
theorem Vs.bd {s : List XVariable} (h : Vs s) : 1 ≤ prodV s ∧ prodV s ≤ 262144 := by
  have := prodV_bd h.len h.lev
  omega
def digV : List XVariable → Int → List Int
  | [], _ => []
  | v :: l, i => (i / prodV l) % v.Levels :: digV l i
theorem digV_len : ∀ (s : List XVariable) (i : Int), (digV s i).length = s.length
  | [], _ => rfl
  | _ :: l, i => by simp [digV, digV_len l]
theorem digV_get : ∀ (s : List XVariable) (i : Int) (k : Nat) (h : k < s.length), (digV s i)[k]'(by rw [digV_len]; exact h) = (i / prodV (s.drop (k + 1))) % s[k].Levels
  | x :: l, _, 0, _ => rfl
  | x :: l, i, k + 1, h => by
    simp only [digV, List.getElem_cons_succ, List.drop_succ_cons]
    exact digV_get l i k (by simpa using h)
theorem div_ok {i a : Int} (h : 0 ≤ i) (ha : 1 ≤ a) : 0 ≤ i / a ∧ i / a ≤ i := ⟨Int.ediv_nonneg h (by omega), Int.ediv_le_self a h⟩
/-! ### Positions -/
end AS
namespace AS
/-! ### Leaves below an area -/
theorem Tab.lev {g : XGeo} {s : List XVariable} {t : XTable} (h : Tab g s t) : ∃ i, i < g.Parents.length ∧ ((dep g.Parents i : Nat) : Int) = t.Level := by
  cases hl : levL g.Parents t.Level with
  | nil => exact absurd hl h.ne
  | cons x l =>
    obtain ⟨i, h1, _, h2⟩ := levL_mem.1 (show x ∈ levL g.Parents t.Level by rw [hl]; exact List.mem_cons_self)
    exact ⟨i, h1, h2⟩
/-! ### What a table takes of a variable -/
/-! ### The greatest amount -/
theorem Tab.sum {g : XGeo} {s : List XVariable} {t : XTable} (ht : Tab g s t) (h : ¬ t.Sum < 0) : t.Sum.toNat < s.length ∧ ((t.Sum.toNat : Nat) : Int) = t.Sum ∧ t.Sum.toNat < t.Where.length := by
  have h1 := ht.s1
  have h2 := whB_len ht.w
  omega
end AS
namespace AS
/-! ### The cell of a record -/
theorem valF_of : ∀ {s : List XVariable} {a : List Int}, (∀ (k : Nat) (x : Int) (v : XVariable), a[k]? = some x → s[k]? = some v → 0 ≤ x ∧ x < v.Levels) → valF s a = true
  | [], _, _ => by simp [valF]
  | _ :: _, [], _ => by simp [valF]
  | v :: s, x :: a, h => by
    have h0 := h 0 x v rfl rfl
    simp only [valF, Bool.and_eq_true, decide_eq_true_eq]
    exact ⟨h0, valF_of fun k y u h1 h2 => h (k + 1) y u (by simpa using h1) (by simpa using h2)⟩
/-! ### The records of a cell -/
/-! ### The table of a survey -/
/-! ### Base tables -/
end AS
namespace AS
/-! ### The law's own functions on edits -/
/-! ### Validity -/
/-! ### Failing -/
/-! ### All lists of values -/
theorem dig_val {s : List XVariable} (h : Vs s) (i : Int) : valB s (digV s i) = true := by
  simp only [valB, Bool.and_eq_true, decide_eq_true_eq]
  refine ⟨digV_len s i, valF_of fun k x v h1 h2 => ?_⟩
  obtain ⟨hk, rfl⟩ := List.getElem?_eq_some_iff.1 h2
  obtain ⟨hk2, rfl⟩ := List.getElem?_eq_some_iff.1 h1
  have hl := h.get hk
  rw [digV_get s i k hk]
  exact ⟨Int.emod_nonneg _ (by omega), Int.emod_lt_of_pos _ (by omega)⟩
end AS
namespace AS
/-! ### Names -/
theorem schFrom_word {s : List XVariable} : ∀ {l : List XVariable} {k : Nat}, schFrom s l k = true → ∀ v ∈ l, wordB v.Name = true
  | [], _, _, v, hv => by simp at hv
  | x :: l, k, h, v, hv => by
    simp only [schFrom, Bool.and_eq_true] at h
    rcases List.mem_cons.1 hv with rfl | hv
    · exact h.1
    · exact schFrom_word h.2.2.2 v hv
theorem schB_word {s : List XVariable} (h : schB s = true) {v : XVariable} (hv : v ∈ s) : wordB v.Name = true := by
  simp only [schB, Bool.and_eq_true] at h
  exact schFrom_word h.2 v hv
theorem schB_name {s : List XVariable} (h : schB s = true) {v : XVariable} (hv : v ∈ s) : 1 ≤ v.Name.length ∧ v.Name.length ≤ 8 := by
  have := schB_word h hv
  simp only [wordB, Bool.and_eq_true, decide_eq_true_eq] at this
  exact this.2
/-! ### Joined parts -/
/-! ### Numerals and sets -/
def dgT (n : Nat) : List UInt8 := if n < 10 then [UInt8.ofNat (48 + n)] else [UInt8.ofNat (48 + n / 10), UInt8.ofNat (48 + n % 10)]
theorem l1Num_all : ∀ n : Nat, n < 100 → sh_spec_l1Num (n : Int) = some (dgT n) := by decide +kernel
theorem l1Num_eq {n : Int} (h0 : 0 ≤ n) (h1 : n < 100) : sh_spec_l1Num n = some (dgT n.toNat) := by
  have := l1Num_all n.toNat (by omega)
  rwa [Int.toNat_of_nonneg h0] at this
theorem dgT_len (n : Nat) : (dgT n).length ≤ 2 := by unfold dgT; split <;> simp
/-! ### Edits -/
theorem Itoa_eq {n : Int} (h0 : 0 ≤ n) (h1 : n < 100) : sh_strconv_Itoa n = some (dgT n.toNat) := by
  unfold sh_strconv_Itoa dgT
  rw [if_pos ⟨h0, h1⟩]
  by_cases h : n < 10
  · rw [if_pos h, if_pos (by omega)]
  · rw [if_neg h, if_neg (by omega)]
end AS
namespace AS
def nmV (s : List XVariable) (x : Int) : List UInt8 := (s.getD x.toNat default).Name
theorem nmV_len {s : List XVariable} (hs : schB s = true) {x : Int} (h0 : 0 ≤ x) (h1 : x < (s.length : Int)) : (nmV s x).length ≤ 8 ∧ 1 ≤ (nmV s x).length ∧ nmV s x = (s[x.toNat]'(by omega)).Name := by
  have hx : x.toNat < s.length := by omega
  have := schB_name hs (List.getElem_mem hx)
  unfold nmV
  rw [getD_get hx]
  exact ⟨this.2, this.1, rfl⟩
theorem Tab.vars {g : XGeo} {s : List XVariable} {t : XTable} (h : Tab g s t) : (∀ v ∈ t.Vars, 0 ≤ v ∧ v < (s.length : Int)) ∧ t.Vars.length ≤ 6 := by
  have hls := schB_len h.sch
  have h1 := risB_len (by omega) h.p.ris
  refine ⟨fun v hv => ?_, by omega⟩
  have := risB_rng h.p.ris v hv
  omega
end AS
namespace AS
/-! ### Values and their numbers -/
theorem sAt_eq {s : List XVariable} {i : Int} (h : Vs s) (h0 : 0 ≤ i) (h1 : i ≤ 4611686018427387904) : sh_spec_sAt s i = some (digV s i) := by
  unfold sh_spec_sAt
  have hl := h.len
  rw [mkO_pos (by omega) (by omega), ckI_pos (by omega) (by omega)]
  have hz : (List.replicate s.length (0 : Int)).length = (digV s i).length := by simp [digV_len]
  have e0 : ((i, List.replicate ((s.length : Int)).toNat (0 : Int), ((s.length : Int) - (1 : Int))) : Int × List Int × Int) = (fun k : Nat => (i / prodV (s.drop k), mixL (List.replicate s.length (0 : Int)) (digV s i) k, (k : Int) - 1)) s.length := by
    have := mixL_end hz
    simp only [List.length_replicate] at this
    simp [this, prodV]
  rw [e0]
  refine (loop_down s.length (fun k : Nat => (i / prodV (s.drop k), mixL (List.replicate s.length (0 : Int)) (digV s i) k, (k : Int) - 1)) (fun _ => some (digV s i)) (by omega) ?_ ?_)
  · intro next k hk hn
    have hk2 : k < (digV s i).length := by rw [digV_len]; exact hk
    have hb := (h.drop (k + 1)).bd
    have hx := h.get hk
    have hvd := prodV_drop hk
    have hd := div_ok h0 hb.1
    have hd2 := div_ok (a := s[k].Levels) hd.1 (by omega)
    have hdd : i / prodV (s.drop (k + 1)) / s[k].Levels = i / prodV (s.drop k) := by rw [hvd, Int.mul_comm, Int.ediv_ediv, if_neg (fun h => by omega), Int.sub_zero]
    simp only [show ((k + 1 : Nat) : Int) - 1 = (k : Int) by omega, show (0 : Int) ≤ (k : Int) by omega, decide_true, if_true]
    rw [getO_nat hk, ck_pos (by omega), getO_some (mixL_getD hz (by simpa using hk)), ck_pos (by omega)]
    rw [Int.tdiv_eq_ediv_of_nonneg hd.1, Int.tmod_eq_emod_of_nonneg hd.1, ckI_pos (by omega) (by omega), ckI_pos (by omega) (by omega), Int.toNat_natCast, hdd, ← digV_get s i k hk, mixL_setD hz hk2]
    exact hn
  · intro next
    simp [mixL_zero]
theorem valuesAt_eq {s : List XVariable} {i : Int} (h : Vs s) (h0 : 0 ≤ i) (h1 : i ≤ 4611686018427387904) : sh_impl_valuesAt s i = some (digV s i) := sAt_eq h h0 h1
/-! ### A search in an ordered list -/
/-! ### The cell of an index -/
theorem len_cell {g : XGeo} {s : List XVariable} {t : XTable} (ht : Tab g s t) {i : Int} (h0 : 0 ≤ i) (h1 : i < cntT g s t) : 0 ≤ i / prodV (partV s t.Vars) ∧ (i / prodV (partV s t.Vars)).toNat < (levL g.Parents t.Level).length := by
  have hp := ht.p.bd
  have h2 : 0 ≤ i / prodV (partV s t.Vars) := Int.ediv_nonneg h0 (by omega)
  have h3 : i / prodV (partV s t.Vars) < ((levL g.Parents t.Level).length : Int) := Int.ediv_lt_of_lt_mul (by omega) h1
  exact ⟨h2, by omega⟩
def cellA (g : XGeo) (s : List XVariable) (t : XTable) (i : Int) : Int := (levL g.Parents t.Level).getD (i / prodV (partV s t.Vars)).toNat 0
def cellV (s : List XVariable) (t : XTable) (i : Int) : List Int := digV (partV s t.Vars) (i % prodV (partV s t.Vars))
theorem cellAt_eq {g : XGeo} {s : List XVariable} {t : XTable} (ht : Tab g s t) {i : Int} (h0 : 0 ≤ i) (h1 : i < cntT g s t) : sh_impl_cellAt g s t i = some (cellA g s t i, cellV s t i) := by
  unfold sh_impl_cellAt
  have hp := ht.p.bd
  have hc := cntT_bd ht.geo ht.p
  have hle := ht.le
  have hi := len_cell ht h0 h1
  have hm := Int.emod_nonneg i (show prodV (partV s t.Vars) ≠ 0 by omega)
  have hm2 := Int.emod_lt_of_pos i (show 0 < prodV (partV s t.Vars) by omega)
  have hd := Int.ediv_le_self (prodV (partV s t.Vars)) h0
  rw [ht.p.cross, Option.bind_some, ht.p.comb, Option.bind_some, areasAt_eq ht.ok, Option.bind_some, ck_pos (by omega), Int.tdiv_eq_ediv_of_nonneg h0, Int.tmod_eq_emod_of_nonneg h0, ckI_pos (by omega) (by omega),
    getO_pos hi.1 hi.2, ck_pos (by omega), valuesAt_eq ht.p.vs hm (by omega), Option.bind_some]
  simp only [cellA, cellV, getD_get hi.2]
def cellR' (g : XGeo) (s : List XVariable) (t : XTable) (i : Int) : Int × List Int × Bool := if allB g s t && (decide (0 ≤ i) && decide (i < cntT g s t)) then (cellA g s t i, cellV s t i, true) else (0, [], false)
/-! ### The index of a cell -/
/-! ### Plans -/
end AS
namespace AS
def cvT (s : List XVariable) : List Int → List Int → List UInt8
  | x :: l, y :: m => ((([32] ++ nmV s x) ++ [61]) ++ dgT y.toNat) ++ cvT s l m
  | _, _ => []
def celT (g : XGeo) (s : List XVariable) (t : XTable) (i : Int) : List UInt8 := ([97, 114, 101, 97, 32] ++ dgT (cellA g s t i).toNat) ++ cvT s t.Vars (cellV s t i)
theorem specCellAt_eq {g : XGeo} {s : List XVariable} {t : XTable} {i : Int} (h1 : bulkVS s ≤ 1048576) (h2 : bulkT t ≤ 1048576) : sh_spec_CellAt g s t i = some (cellR' g s t i) := by
  unfold sh_spec_CellAt cellR'
  rw [uGood_eq h1 h2, Option.bind_some]
  cases h : allB g s t with
  | false => rfl
  | true =>
    have ht := allB_tab h
    have hc := cntT_bd ht.geo ht.p
    have hp := ht.p.bd
    have hle := ht.le
    simp only [Bool.not_true, Bool.false_eq_true, if_false, Bool.true_and]
    rw [uCount_eq ht.geo ht.p, Option.bind_some, ckI_pos (by omega) (by omega), l1In_eq, Option.bind_some]
    have e : (decide (0 ≤ i) && decide (i ≤ cntT g s t - 1)) = (decide (0 ≤ i) && decide (i < cntT g s t)) := by
      congr 2; apply propext; omega
    rw [e]
    cases hb : (decide (0 ≤ i) && decide (i < cntT g s t)) with
    | false => rfl
    | true =>
      simp only [Bool.and_eq_true, decide_eq_true_eq] at hb
      have hi := len_cell ht hb.1 hb.2
      have hm := Int.emod_nonneg i (show prodV (partV s t.Vars) ≠ 0 by omega)
      have hm2 := Int.emod_lt_of_pos i (show 0 < prodV (partV s t.Vars) by omega)
      have hd := Int.ediv_le_self (prodV (partV s t.Vars)) hb.1
      simp only [Bool.not_true, Bool.false_eq_true, if_false, if_true]
      rw [ht.p.part, Option.bind_some, ht.p.count, Option.bind_some, gLevel_eq ht.ok, Option.bind_some, ck_pos (by omega), Int.tdiv_eq_ediv_of_nonneg hb.1, Int.tmod_eq_emod_of_nonneg hb.1, ckI_pos (by omega) (by omega),
        getO_pos hi.1 hi.2, ck_pos (by omega), sAt_eq ht.p.vs hm (by omega), Option.bind_some]
      simp only [cellA, cellV, getD_get hi.2]
theorem cellA_bd {g : XGeo} {s : List XVariable} {t : XTable} (ht : Tab g s t) {i : Int} (h0 : 0 ≤ i) (h1 : i < cntT g s t) : 0 ≤ cellA g s t i ∧ cellA g s t i < 30 := by
  have hi := len_cell ht h0 h1
  have hn := ht.ok.n2
  unfold cellA
  rw [getD_get hi.2]
  obtain ⟨j, h2, h3, _⟩ := levL_mem.1 (List.getElem_mem hi.2)
  omega
theorem cellV_bd {g : XGeo} {s : List XVariable} {t : XTable} (ht : Tab g s t) (i : Int) : (cellV s t i).length = t.Vars.length ∧ ∀ y ∈ cellV s t i, 0 ≤ y ∧ y < 8 := by
  have hv := dig_val ht.p.vs (i % prodV (partV s t.Vars))
  have hl := valB_len hv
  have hpl : (partV s t.Vars).length = t.Vars.length := by simp [partV]
  refine ⟨by unfold cellV; omega, fun y hy => ?_⟩
  obtain ⟨k, hk⟩ := List.getElem?_of_mem hy
  have hkl := (List.getElem?_eq_some_iff.1 hk).1
  unfold cellV at hk hkl
  have hkp : k < (partV s t.Vars).length := by omega
  have h1 := valB_get hv hk (List.getElem?_eq_getElem hkp)
  have h2 := ht.p.vs.lev _ (List.getElem_mem hkp)
  omega
theorem cell_loop {g : XGeo} {s : List XVariable} {t : XTable} (ht : Tab g s t) {i : Int} {num : Int → Option (List UInt8)} (hnum : ∀ {y : Int}, 0 ≤ y → y < 100 → num y = some (dgT y.toNat)) {a0 : List UInt8} (h0 : a0.length ≤ 10) :
    rangeF (fun (k96 : Nat) (x97 : Int) (s95 : (List UInt8)) (nx148 : (List UInt8) → Option (List UInt8)) =>
      getO s x97 fun x163 =>
      lnO (([32] : List UInt8).length + x163.Name.length) <|
      lnO ((([32] : List UInt8) ++ x163.Name).length + ([61] : List UInt8).length) <|
      getO (cellV s t i) (k96 : Int) fun x168 =>
      (num x168).bind fun x171 =>
      lnO (((([32] : List UInt8) ++ x163.Name) ++ ([61] : List UInt8)).length + x171.length) <|
      lnO (s95.length + (((([32] : List UInt8) ++ x163.Name) ++ ([61] : List UInt8)) ++ x171).length) <|
      nx148 (s95 ++ (((([32] : List UInt8) ++ x163.Name) ++ ([61] : List UInt8)) ++ x171)))
      (fun (s95 : (List UInt8)) => some s95) t.Vars 0 a0 = some (a0 ++ cvT s t.Vars (cellV s t i)) := by
  have hs := ht.sch
  have hvs := ht.vars
  have hcv := cellV_bd ht i
  refine (range_mem (I := fun k (a : List UInt8) => a.length ≤ 10 + 20 * k) (G := fun l' k a => some (a ++ cvT s l' ((cellV s t i).drop k))) ?_ ?_ a0 (by omega)).trans (by simp)
  · intro k a _ _; simp [cvT]
  · intro x l' k a next hx _ ha hn
    have hk := (List.getElem?_eq_some_iff.1 hx).1
    have hm := hvs.1 x (List.mem_of_getElem? hx)
    have hkc : k < (cellV s t i).length := by omega
    have hnm := nmV_len hs hm.1 hm.2
    have hy := hcv.2 _ (List.getElem_mem hkc)
    have hd := dgT_len ((cellV s t i)[k]).toNat
    rw [getO_pos hm.1 (by omega), ← hnm.2.2, lnO_pos (by simp only [List.length_cons, List.length_nil]; omega), lnO_pos (by simp only [List.length_append, List.length_cons, List.length_nil]; omega), getO_nat hkc, hnum hy.1 (by omega), Option.bind_some,
      lnO_pos (by simp only [List.length_append, List.length_cons, List.length_nil]; omega), lnO_pos (by simp only [List.length_append, List.length_cons, List.length_nil]; omega), hn _ (by simp only [List.length_append, List.length_cons, List.length_nil]; omega), List.drop_eq_getElem_cons hkc]
    simp [cvT]
theorem nCell_eq {g : XGeo} {s : List XVariable} {t : XTable} (hg : allB g s t = true) {i : Int} (h0 : 0 ≤ i) (h1 : i < cntT g s t) (hb1 : bulkVS s ≤ 1048576) (hb2 : bulkT t ≤ 1048576) : sh_spec_nCell g s t i = some (celT g s t i) := by
  have ht := allB_tab hg
  have hA := cellA_bd ht h0 h1
  have hd := dgT_len (cellA g s t i).toNat
  unfold sh_spec_nCell
  rw [specCellAt_eq hb1 hb2, Option.bind_some]
  have e : cellR' g s t i = (cellA g s t i, cellV s t i, true) := by unfold cellR'; simp [hg, h0, h1]
  rw [e]
  simp only
  rw [l1Num_eq hA.1 (by omega), Option.bind_some, lnO_pos (by simp only [List.length_cons, List.length_nil]; omega)]
  exact cell_loop ht (fun h0 h1 => l1Num_eq h0 h1) (by simp only [List.length_append, List.length_cons, List.length_nil]; omega)
theorem cellText_eq {g : XGeo} {s : List XVariable} {t : XTable} (ht : Tab g s t) {i : Int} (h0 : 0 ≤ i) (h1 : i < cntT g s t) : sh_impl_cellText g s t i = some (celT g s t i) := by
  have hA := cellA_bd ht h0 h1
  have hd := dgT_len (cellA g s t i).toNat
  unfold sh_impl_cellText
  rw [cellAt_eq ht h0 h1, Option.bind_some]
  simp only
  rw [Itoa_eq hA.1 (by omega), Option.bind_some, lnO_pos (by simp only [List.length_cons, List.length_nil]; omega)]
  exact cell_loop ht (fun h0 h1 => Itoa_eq h0 h1) (by simp only [List.length_append, List.length_cons, List.length_nil]; omega)
/-! ### Plans -/
end AS
namespace AS
/-! ### Numerals -/
def decN (n : Nat) : List UInt8 := if h : n < 10 then [UInt8.ofNat (48 + n)] else decN (n / 10) ++ [UInt8.ofNat (48 + n % 10)]
  termination_by n
  decreasing_by omega
theorem decN_lt {n : Nat} (h : n < 10) : decN n = [UInt8.ofNat (48 + n)] := by rw [decN, dif_pos h]
theorem decN_ge {n : Nat} (h : ¬ n < 10) : decN n = decN (n / 10) ++ [UInt8.ofNat (48 + n % 10)] := by rw [decN, dif_neg h]
theorem decN_len : ∀ {k n : Nat}, n < 10 ^ (k + 1) → (decN n).length ≤ k + 1
  | 0, n, h => by rw [decN_lt (by simpa using h)]; simp
  | k + 1, n, h => by
    by_cases hn : n < 10
    · rw [decN_lt hn]; simp
    · rw [decN_ge hn]
      have := decN_len (k := k) (n := n / 10) (by rw [Nat.pow_succ] at h; omega)
      simp only [List.length_append, List.length_cons, List.length_nil]; omega
theorem decN_len7 {n : Nat} (h : n ≤ 1000000) : (decN n).length ≤ 7 := decN_len (k := 6) (by omega)
theorem ofNat_toNat8 {n : Nat} (h : n < 256) : (UInt8.ofNat n).toNat = n := by simp [UInt8.toNat_ofNat']; omega
theorem byte_ok {n : Int} (h0 : 0 ≤ n) (h1 : n ≤ 255) : [n] = (bytesOf [n]).map fun b => ((b.toNat : Nat) : Int) := by
  simp only [bytesOf, List.map_cons, List.map_nil, List.cons.injEq, and_true]
  rw [ofNat_toNat8 (by omega)]; omega
theorem byte_of {n : Nat} : bytesOf [(48 : Int) + (n : Int)] = [UInt8.ofNat (48 + n)] := by
  simp only [bytesOf, List.map_cons, List.map_nil, List.cons.injEq, and_true]
  congr 1
theorem l1Num_fuel : ∀ (m n f : Nat), n < 10 ^ (m + 1) → n ≤ 1000000000 → m < f → loopF sh_spec_l1Num_B f (n : Int) = some (decN n) := by
  intro m
  induction m with
  | zero =>
    intro n f h1 h2 h3
    obtain ⟨f, rfl⟩ := Nat.exists_eq_succ_of_ne_zero (show f ≠ 0 by omega)
    have hn : n < 10 := by simpa using h1
    simp only [loopF]
    unfold sh_spec_l1Num_B
    rw [if_pos (by simp; omega), ckI_pos (by omega) (by omega), ckU_pos (by omega) (by omega), ck_pos (byte_ok (by omega) (by omega)), byte_of, decN_lt hn]
  | succ m ih =>
    intro n f h1 h2 h3
    obtain ⟨f, rfl⟩ := Nat.exists_eq_succ_of_ne_zero (show f ≠ 0 by omega)
    show sh_spec_l1Num_B (loopF sh_spec_l1Num_B f) (n : Int) = _
    have hi : loopF sh_spec_l1Num_B f ((n / 10 : Nat) : Int) = some (decN (n / 10)) := ih (n / 10) f (by rw [Nat.pow_succ] at h1; omega) (by omega) (by omega)
    generalize loopF sh_spec_l1Num_B f = self at hi
    unfold sh_spec_l1Num_B
    by_cases hn : n < 10
    · rw [if_pos (by simp; omega), ckI_pos (by omega) (by omega), ckU_pos (by omega) (by omega), ck_pos (byte_ok (by omega) (by omega)), byte_of, decN_lt hn]
    · have e1 : (n : Int).tdiv 10 = ((n / 10 : Nat) : Int) := by rw [Int.tdiv_eq_ediv_of_nonneg (by omega)]; omega
      have e2 : (n : Int).tmod 10 = ((n % 10 : Nat) : Int) := by rw [Int.tmod_eq_emod_of_nonneg (by omega)]; omega
      rw [if_neg (by simp; omega), ck_pos (by decide), e1, e2, ckI_pos (by omega) (by omega), hi, Option.bind_some, ck_pos (by decide), ckI_pos (by omega) (by omega),
        ckU_pos (by omega) (by omega), ck_pos (byte_ok (by omega) (by omega)), byte_of]
      have hl := decN_len (k := 9) (n := n / 10) (by omega)
      rw [lnO_pos (by simp only [List.length_cons, List.length_nil]; omega), decN_ge hn]
theorem l1Num_big {n : Int} (h0 : 0 ≤ n) (h1 : n ≤ 1000000000) : sh_spec_l1Num n = some (decN n.toNat) := by
  unfold sh_spec_l1Num
  have := l1Num_fuel 9 n.toNat FUEL (by omega) (by omega) (FUEL_big (by omega))
  rwa [Int.toNat_of_nonneg h0] at this
def sgT (v : Int) : List UInt8 := if v < 0 then 45 :: decN (-v).toNat else decN v.toNat
theorem sgT_len {v : Int} (h0 : -1000000 ≤ v) (h1 : v ≤ 1000000) : (sgT v).length ≤ 8 := by
  unfold sgT
  split
  · have := decN_len7 (n := (-v).toNat) (by omega)
    simp only [List.length_cons]; omega
  · have := decN_len7 (n := v.toNat) (by omega)
    omega
theorem nSigned_eq {v : Int} (h0 : -1000000 ≤ v) (h1 : v ≤ 1000000) : sh_spec_nSigned v = some (sgT v) := by
  unfold sh_spec_nSigned sgT
  by_cases h : v < 0
  · have := decN_len7 (n := (-v).toNat) (by omega)
    rw [if_pos (by simpa using h), if_pos h, ckI_pos (by omega) (by omega), l1Num_big (by omega) (by omega), Option.bind_some, lnO_pos (by simp only [List.length_cons, List.length_nil]; omega)]
    rfl
  · rw [if_neg (by simpa using h), if_neg h, l1Num_big (by omega) (by omega), Option.bind_some]
/-! ### The number of a string, as the reference reads it -/
/-! ### Pieces -/
/-! ### Numbers, as the program reads them -/
end AS
namespace AS
/-! ### The text of a report -/
theorem dgT_mem : ∀ n : Nat, n < 100 → ∀ c ∈ dgT n, c ≠ (10 : UInt8) := by decide +kernel
theorem nm_mem {s : List XVariable} (hs : schB s = true) {x : Int} (h0 : 0 ≤ x) (h1 : x < (s.length : Int)) : ∀ c ∈ nmV s x, c ≠ 10 := by
  intro c hc
  rw [(nmV_len hs h0 h1).2.2] at hc
  have hw := schB_word hs (List.getElem_mem (show x.toNat < s.length by omega))
  simp only [wordB, Bool.and_eq_true] at hw
  have := List.all_eq_true.1 hw.1 c hc
  rintro rfl
  simp at this
theorem cvT_mem {s : List XVariable} (hs : schB s = true) : ∀ {l m : List Int}, (∀ v ∈ l, 0 ≤ v ∧ v < (s.length : Int)) → (∀ y ∈ m, 0 ≤ y ∧ y < 8) → (cvT s l m).length ≤ 12 * l.length ∧ ∀ c ∈ cvT s l m, c ≠ 10
  | [], m, _, _ => by simp [cvT]
  | x :: l, [], _, _ => by simp [cvT]
  | x :: l, y :: m, hl, hm => by
    obtain ⟨h1, h2⟩ := cvT_mem hs (l := l) (m := m) (fun v hv => hl v (by simp [hv])) (fun z hz => hm z (by simp [hz]))
    have hx := hl x (by simp)
    have hy := hm y (by simp)
    have hn := nmV_len hs hx.1 hx.2
    have hd := dgT_len y.toNat
    refine ⟨?_, fun c hc => ?_⟩
    · simp only [cvT, List.length_append, List.length_cons, List.length_nil]; omega
    · simp only [cvT, List.mem_append, List.mem_cons, List.not_mem_nil, or_false] at hc
      rcases hc with ((((rfl | hc) | rfl) | hc) | hc)
      · decide
      · exact nm_mem hs hx.1 hx.2 c hc
      · decide
      · exact dgT_mem _ (by omega) c hc
      · exact h2 c hc
theorem celT_mem {g : XGeo} {s : List XVariable} {t : XTable} (ht : Tab g s t) {i : Int} (h0 : 0 ≤ i) (h1 : i < cntT g s t) : (celT g s t i).length ≤ 100 ∧ ∀ c ∈ celT g s t i, c ≠ 10 := by
  have hvs := ht.vars
  have hcv := cellV_bd ht i
  have hA := cellA_bd ht h0 h1
  have hd := dgT_len (cellA g s t i).toNat
  obtain ⟨h2, h3⟩ := cvT_mem ht.sch hvs.1 hcv.2
  unfold celT
  refine ⟨?_, fun c hc => ?_⟩
  · simp only [List.length_append, List.length_cons, List.length_nil]; omega
  · rw [List.mem_append, List.mem_append] at hc
    rcases hc with ((hc | hc) | hc)
    · simp only [List.mem_cons, List.not_mem_nil, or_false] at hc
      rcases hc with rfl | rfl | rfl | rfl | rfl <;> decide
    · exact dgT_mem _ (by omega) c hc
    · exact h3 c hc
def linT (g : XGeo) (s : List XVariable) (t : XTable) (i : Nat) (v : Int) : List UInt8 := (celT g s t (i : Int) ++ [58, 32]) ++ sgT v
def repF (g : XGeo) (s : List XVariable) (t : XTable) : Nat → List Int → List UInt8
  | _, [] => []
  | i, v :: c => (linT g s t i v ++ [10]) ++ repF g s t (i + 1) c
def smC (c : List Int) : Bool := c.all fun x => decide (-1000000 ≤ x) && decide (x ≤ 1000000)
theorem smC_mem {c : List Int} (h : smC c = true) {v : Int} (hv : v ∈ c) : -1000000 ≤ v ∧ v ≤ 1000000 := by
  have := List.all_eq_true.1 h v hv
  simpa using this
theorem nReport_eq {g : XGeo} {s : List XVariable} {t : XTable} (hg : allB g s t = true) (hb1 : bulkVS s ≤ 1048576) (hb2 : bulkT t ≤ 1048576) {c : List Int} (hc : (c.length : Int) = cntT g s t) (hs : smC c = true) : sh_spec_nReport g s t c = some (repF g s t 0 c) := by
  have ht := allB_tab hg
  have hle := ht.le
  unfold sh_spec_nReport
  refine (range_mem (I := fun k (a : List UInt8) => a.length ≤ 200 * k) (G := fun l' k a => some (a ++ repF g s t k l')) ?_ ?_ [] (by simp)).trans (by simp)
  · intro k a _ _; simp [repF]
  · intro v l' k a next hx _ ha hn
    have hk := (List.getElem?_eq_some_iff.1 hx).1
    have hv := smC_mem hs (List.mem_of_getElem? hx)
    have h1 := (celT_mem ht (i := (k : Int)) (by omega) (by omega)).1
    have h2 := sgT_len hv.1 hv.2
    rw [nCell_eq hg (by omega) (by omega) hb1 hb2, Option.bind_some, lnO_pos (by simp only [List.length_cons, List.length_nil]; omega), nSigned_eq hv.1 hv.2, Option.bind_some, lnO_pos (by simp only [List.length_append, List.length_cons, List.length_nil]; omega),
      lnO_pos (by simp only [List.length_append, List.length_cons, List.length_nil]; omega), lnO_pos (by simp only [List.length_append, List.length_cons, List.length_nil]; omega), hn _ (by simp only [List.length_append, List.length_cons, List.length_nil]; omega)]
    simp [repF, linT]
/-! ### The reference reads it -/
/-! ### The program reads it -/
end AS
namespace AS
theorem decN_dec : ∀ n : Nat, Go.Lib.decDigits n = decN n := by
  intro n
  induction n using Nat.strongRecOn with
  | _ n ih =>
    by_cases h : n < 10
    · rw [Go.Lib.decDigits, dif_pos h, decN_lt h]
    · rw [Go.Lib.decDigits, dif_neg h, decN_ge h, ih (n / 10) (by omega)]
theorem itoa_sgT (v : Int) : Go.Lib.itoa v = sgT v := by
  unfold Go.Lib.itoa sgT
  by_cases h : v < 0
  · rw [if_pos h, if_pos h, decN_dec, show v.natAbs = (-v).toNat by omega]
  · rw [if_neg h, if_neg h, decN_dec]
theorem nCells_eq {g : XGeo} {s : List XVariable} {t : XTable} (h1 : bulkVS s ≤ 1048576) (h2 : bulkT t ≤ 1048576) (c : List Int) : sh_spec_nCells g s t c = some (allB g s t && (decide ((c.length : Int) = cntT g s t) && smC c)) := by
  unfold sh_spec_nCells
  rw [uGood_eq h1 h2, Option.bind_some]
  cases h : allB g s t with
  | false => rfl
  | true =>
    have ht := allB_tab h
    rw [if_pos rfl, uCount_eq ht.geo ht.p, Option.bind_some]
    by_cases hl : (c.length : Int) = cntT g s t
    · rw [if_pos (decide_eq_true hl), l1All_eq, Option.bind_some, decide_eq_true hl]; rfl
    · rw [if_neg (by simpa using hl), decide_eq_false hl]; rfl
theorem repS_eq {g : XGeo} {s : List XVariable} {t : XTable} (ht : Tab g s t) : ∀ {l : List Int} {k : Nat} {a : List UInt8}, (k : Int) + l.length ≤ cntT g s t → smC l = true → a.length ≤ 200 * k →
    sh_repS (sh_impl_cellText g s t) l k a = some (a ++ repF g s t k l)
  | [], k, a, _, _, _ => by simp [sh_repS, repF]
  | v :: l, k, a, hk, hs, ha => by
    have hle := ht.le
    simp only [List.length_cons] at hk
    have hv := smC_mem hs (v := v) (by simp)
    have hs2 : smC l = true := by
      simp only [smC, List.all_cons, Bool.and_eq_true] at hs ⊢
      exact hs.2
    have h1 := (celT_mem ht (i := (k : Int)) (by omega) (by omega)).1
    have h2 := sgT_len hv.1 hv.2
    simp only [sh_repS]
    rw [cellText_eq ht (by omega) (by omega), Option.bind_some, itoa_sgT, ck_pos ⟨by omega, by simp only [List.length_append, List.length_cons, List.length_nil]; omega, by omega, by omega⟩,
      repS_eq ht (by omega) hs2 (by simp only [List.length_append, List.length_cons, List.length_nil]; omega)]
    simp [repF, linT]
theorem core_ReportText (g : XGeo) (s : List XVariable) (t : XTable) (c : List Int) (h0 : bulkG g ≤ 1048576) (h1 : bulkVS s ≤ 1048576) (h2 : bulkT t ≤ 1048576) (h3 : c.length ≤ 1048576) : ∃ x, sh_spec_ReportText g s t c = some x ∧ sh_impl_ReportText g s t c = some x := by
  refine ⟨if allB g s t && (decide ((c.length : Int) = cntT g s t) && smC c) then (repF g s t 0 c, true) else ([], false), ?_, ?_⟩
  · unfold sh_spec_ReportText
    rw [nCells_eq h1 h2, Option.bind_some]
    cases h : allB g s t && (decide ((c.length : Int) = cntT g s t) && smC c) with
    | false => rfl
    | true =>
      simp only [Bool.and_eq_true, decide_eq_true_eq] at h
      rw [if_neg (by decide), if_pos rfl, nReport_eq h.1 h1 h2 h.2.1 h.2.2, Option.bind_some]
  · unfold sh_impl_ReportText
    rw [ck_pos (by omega), areTabled_eq, Option.bind_some]
    cases h : allB g s t with
    | false => rfl
    | true =>
      have ht := allB_tab h
      rw [if_pos rfl, cellCount_eq ht.geo ht.p, Option.bind_some, areSmall_eq, Option.bind_some]
      have e : (c.all fun x => decide (-1000000 ≤ x) && decide (x ≤ 1000000)) = smC c := rfl
      rw [e, Bool.true_and]
      cases h4 : decide ((c.length : Int) = cntT g s t) && smC c with
      | false => rfl
      | true =>
        simp only [Bool.and_eq_true, decide_eq_true_eq] at h4
        rw [if_pos rfl, if_pos rfl, repS_eq ht (k := 0) (by simp; omega) h4.2 (by simp), Option.bind_some]
        simp
end AS
namespace AS
theorem law_ReportText (v0 : XGeo) (v1 : List XVariable) (v2 : XTable) (v3 : List Int) (b0 : Bd.bd v0) (b1 : Bd.bd v1) (b2 : Bd.bd v2) (b3 : Bd.bd v3) : sh_laws_FnExactReportText v0 v1 v2 v3 = some true := by
  unfold sh_laws_FnExactReportText
  by_cases h3 : v3.length ≤ 1048576
  · simp only [show ¬ ((1048576 : Int) < (v3.length : Int)) by omega, decide_false, Bool.false_eq_true, if_false]
    rw [szGeo_eq (by omega) (by omega) b0, Option.bind_some]
    by_cases h0 : ((bulkG v0 : Nat) : Int) ≤ 1048576
    · rw [left_pos h0]
      simp only [show ¬ ((1048576 : Int) - ((bulkG v0 : Nat) : Int) < 0) by omega, decide_false, Bool.false_eq_true, if_false]
      rw [szVariableS_eq (by omega) (by omega) b1, Option.bind_some]
      by_cases h1 : ((bulkVS v1 : Nat) : Int) ≤ 1048576 - ((bulkG v0 : Nat) : Int)
      · rw [left_pos h1]
        simp only [show ¬ (1048576 - ((bulkG v0 : Nat) : Int) - ((bulkVS v1 : Nat) : Int) < 0) by omega, decide_false, Bool.false_eq_true, if_false]
        rw [szTable_eq (by omega) (by omega) b2, Option.bind_some]
        by_cases h2 : ((bulkT v2 : Nat) : Int) ≤ 1048576 - ((bulkG v0 : Nat) : Int) - ((bulkVS v1 : Nat) : Int)
        · rw [left_pos h2]
          simp only [show ¬ (1048576 - ((bulkG v0 : Nat) : Int) - ((bulkVS v1 : Nat) : Int) - ((bulkT v2 : Nat) : Int) < 0) by omega, decide_false, Bool.false_eq_true, if_false]
          obtain ⟨r, e1, e2⟩ := core_ReportText v0 v1 v2 v3 (by omega) (by omega) (by omega) h3
          have n1 : v1.length ≤ bulkVS v1 := Nat.le_add_right _ _
          simp [e1, e2, toGeo_eq (g := v0) (by omega),
      eqGeo_eq (a := v0) (b := v0) (by omega),
      toVariableS_eq (s := v1) (by omega),
      eqVariableS_eq (a := v1) (b := v1) (by omega),
      toTable_eq (t := v2) (by omega),
      eqTable_eq (a := v2) (b := v2) (by omega),
      toIntS_eq (l := v3) (by omega),
      eqIntS_eq (a := v3) (b := v3) (by omega)]
        · rw [left_no h2]; simp
      · rw [left_no h1]; simp
    · rw [left_no h0]; simp
  · simp [show ((1048576 : Int) < (v3.length : Int)) by omega]
end AS
