/- Plain lemmas, and the law. No condition. -/
import Derived.Test.YtpllepipjbiefaaGreatDoorQParsePlanS
import Derived.Lib.Join
set_option linter.unusedVariables false
set_option linter.unusedSimpArgs false
namespace AS
section
variable {R σ α β : Type}
theorem FUEL_big {n : Nat} (h : n ≤ 4611686018427387904) : n < FUEL := Nat.lt_of_le_of_lt h (by decide +kernel)
/-- A loop that counts. -/
theorem loop_up {body : (σ → Option R) → σ → Option R} (n : Nat) (S : Nat → σ) (G : Nat → Option R) (hn : n ≤ 4611686018427387904)
    (hs : ∀ next k, k < n → next (S (k + 1)) = G (k + 1) → body next (S k) = G k) (he : ∀ next, body next (S n) = G n) : loopF body FUEL (S 0) = G 0 := by
  have key : ∀ d k, k + d = n → ∀ m, d < m → loopF body m (S k) = G k := by
    intro d
    induction d with
    | zero => intro k hk m hm; obtain ⟨m, rfl⟩ := Nat.exists_eq_succ_of_ne_zero (by omega : m ≠ 0); simp only [loopF]; rw [show k = n by omega]; exact he _
    | succ d ih =>
      intro k hk m hm
      obtain ⟨m, rfl⟩ := Nat.exists_eq_succ_of_ne_zero (by omega : m ≠ 0)
      simp only [loopF]
      exact hs _ k (by omega) (ih (k + 1) (by omega) m (by omega))
  exact key n 0 (by omega) FUEL (FUEL_big hn)
/-- A range that only goes on. -/
theorem range_all {body : Nat → α → σ → (σ → Option R) → Option R} {fin : σ → Option R} {l : List α} {G : List α → Nat → σ → Option R}
    (h0 : ∀ k s, G [] k s = fin s) (hs : ∀ x l k s next, (∀ s', next s' = G l (k + 1) s') → body k x s next = G (x :: l) k s) : ∀ k s, rangeF body fin l k s = G l k s := by
  induction l with
  | nil => intro k s; simp only [rangeF, h0]
  | cons x l ih => intro k s; simp only [rangeF]; exact hs x l k s _ fun s' => ih (k + 1) s'
/-- A range with what is known of the elements. -/
theorem range_mem {body : Nat → α → σ → (σ → Option R) → Option R} {fin : σ → Option R} {l : List α} (I : Nat → σ → Prop) {G : List α → Nat → σ → Option R}
    (h0 : ∀ k s, I k s → k = l.length → fin s = G [] k s) (hs : ∀ x l' k s next, l[k]? = some x → l.drop k = x :: l' → I k s → (∀ s', I (k + 1) s' → next s' = G l' (k + 1) s') → body k x s next = G (x :: l') k s) :
    ∀ s, I 0 s → rangeF body fin l 0 s = G l 0 s := by
  have key : ∀ d k s, k + d = l.length → I k s → rangeF body fin (l.drop k) k s = G (l.drop k) k s := by
    intro d
    induction d with
    | zero =>
      intro k s hk hi
      rw [List.drop_of_length_le (by omega)]
      exact h0 k s hi (by omega)
    | succ d ih =>
      intro k s hk hi
      have hlt : k < l.length := by omega
      rw [List.drop_eq_getElem_cons hlt]
      simp only [rangeF]
      refine hs _ _ k s _ (List.getElem?_eq_getElem hlt) (List.drop_eq_getElem_cons hlt) hi fun s' hs' => ih (k + 1) s' (by omega) hs'
  intro s hi
  have := key l.length 0 s (by omega) hi
  simpa using this
theorem getO_some {l : List α} {k : Nat} {x : α} {f : α → Option R} (h : l[k]? = some x) : getO l (k : Int) f = f x := by simp [getO, h]
theorem ckI_succ {n : Nat} {f : Option R} (h : n ≤ 4611686018427387904) : ckI ((n : Int) + 1) f = f := ckI_pos (by omega) (by omega)
theorem lt_dec {k n : Nat} (h : k < n) : decide ((k : Int) < (n : Int)) = true := by simp [h]
theorem lt_self (n : Nat) : decide ((n : Int) < (n : Int)) = false := by simp
theorem cast_succ (k : Nat) : ((k + 1 : Nat) : Int) = (k : Int) + 1 := rfl
/-! ### One list into another, cell by cell -/
def mixL (a b : List α) (k : Nat) : List α := a.take k ++ b.drop k
theorem mixL_zero (a b : List α) : mixL a b 0 = b := by simp [mixL]
theorem mixL_end {a b : List α} (h : a.length = b.length) : mixL a b a.length = a := by simp [mixL, ← h]
theorem mixL_len {a b : List α} (h : a.length = b.length) (k : Nat) : (mixL a b k).length = b.length := by simp [mixL]; omega
theorem mixL_get {a b : List α} (h : a.length = b.length) {k : Nat} (hk : k < b.length) : (mixL a b k)[k]? = some b[k] := by
  simp only [mixL]
  rw [List.getElem?_append_right (by simp; omega)]
  simp [show min k a.length = k by omega, hk]
theorem mixL_set {a b : List α} (h : a.length = b.length) {k : Nat} (hk : k < a.length) : (mixL a b k).set k a[k] = mixL a b (k + 1) := by
  apply List.ext_getElem?
  intro i
  simp only [mixL]
  by_cases hi : i = k
  · subst hi
    rw [List.getElem?_set_self (by simp; omega), List.getElem?_append_left (by simp; omega), List.getElem?_take_of_lt (by omega)]
    rw [List.getElem?_eq_getElem (by omega)]
  · rw [List.getElem?_set_ne (Ne.symm hi)]
    simp only [List.getElem?_append, List.length_take, List.getElem?_take, List.getElem?_drop]
    by_cases h1 : i < k
    · simp [show i < min k a.length by omega, show i < min (k+1) a.length by omega, h1, show i < k + 1 by omega]
    · simp only [show ¬ i < min k a.length by omega, show ¬ i < min (k+1) a.length by omega, if_false]
      congr 1; omega
/-! ### The marks -/
def mks (n : Int) (m : Nat) : List Int := (List.range m).map fun (i : Nat) => n + (i : Int)
theorem mks_len (n : Int) (m : Nat) : (mks n m).length = m := by simp [mks]
theorem mks_get (n : Int) {m k : Nat} (h : k < m) : (mks n m)[k]'(by rw [mks_len]; exact h) = n + k := by simp [mks]
end
end AS
namespace AS
theorem toIntS_eq {l : List Int} (h : l.length ≤ 1048576) : sh_laws_toIntS l = some l := by
  unfold sh_laws_toIntS
  rw [mkO_pos (by omega) (by omega)]
  refine (loop_up l.length (fun k => (mixL l (List.replicate l.length 0) k, (k : Int))) (fun _ => some l) (by omega) ?_ ?_)
  · intro next k hk hn
    simp only [lt_dec hk, if_true]
    rw [getO_nat hk, getO_some (mixL_get (by simp) (by simpa using hk)), ckI_succ (by omega)]
    simp only [Int.toNat_natCast, mixL_set (b := List.replicate l.length 0) (by simp) hk]
    exact hn
  · intro next
    simp only [lt_self]
    simp [mixL_end (a := l) (b := List.replicate l.length 0) (by simp)]
theorem eqIntS_eq {a b : List Int} (h : a.length ≤ 1099511627776) : sh_laws_eqIntS a b = some (decide (a = b)) := by
  unfold sh_laws_eqIntS
  by_cases hl : a.length = b.length
  · simp only [hl, ne_eq, not_true_eq_false, decide_false, Bool.false_eq_true, if_false]
    refine (loop_up b.length (fun k => (k : Int)) (fun k => some (decide (a.drop k = b.drop k))) (by omega) ?_ ?_).trans (by simp)
    · intro next k hk hn
      have hk' : k < a.length := by omega
      simp only [lt_dec hk, if_true]
      rw [getO_nat hk', getO_nat hk, ckI_succ (by omega)]
      rw [List.drop_eq_getElem_cons hk', List.drop_eq_getElem_cons hk]
      by_cases e : a[k] = b[k]
      · simp only [e, not_true_eq_false, decide_false, Bool.false_eq_true, if_false, List.cons.injEq, true_and]
        exact hn
      · simp only [ne_eq, e, not_false_eq_true, decide_true, if_true, List.cons.injEq, false_and, decide_false]
    · intro next
      simp only [lt_self]
      simp [List.drop_of_length_le (Nat.le_refl _), List.drop_of_length_le (show a.length ≤ b.length by omega)]
  · have : ¬ (a = b) := fun e => hl (by rw [e])
    have h2 : ¬ ((a.length : Int) = (b.length : Int)) := by omega
    simp [this, h2]
theorem markIntS_eq {l : List Int} {n : Int} (h0 : 0 ≤ n) (h : n + l.length ≤ 4611686018427387904) : sh_laws_markIntS l n = some (mks n l.length, n + l.length) := by
  unfold sh_laws_markIntS
  have e0 : ((l, n, (0 : Int)) : List Int × Int × Int) = (fun k : Nat => (mixL (mks n l.length) l k, n + (k : Int), (k : Int))) 0 := by simp [mixL_zero]
  rw [e0]
  refine (loop_up l.length (fun k : Nat => (mixL (mks n l.length) l k, n + (k : Int), (k : Int))) (fun _ => some (mks n l.length, n + l.length)) (by omega) ?_ ?_)
  · intro next k hk hn
    have hm : k < (mks n l.length).length := by rw [mks_len]; exact hk
    simp only [mixL_len (mks_len n l.length), lt_dec hk, if_true]
    rw [getO_some (mixL_get (mks_len n l.length) hk), ckI_pos (by omega) (by omega), ckI_succ (by omega)]
    simp only [Int.toNat_natCast]
    rw [← mks_get n hk, mixL_set (mks_len n l.length) hm, ← hn, mks_get n hk]
    simp only [cast_succ, Int.add_assoc]
  · intro next
    simp only [mixL_len (mks_len n l.length), lt_self]
    have := mixL_end (mks_len n l.length)
    rw [mks_len] at this
    simp [this]
theorem heldIntS_eq {m : Nat} {n : Int} (h0 : 0 ≤ n) (h : n + m ≤ 4611686018427387904) : sh_laws_heldIntS (mks n m) n = some (n + m) := by
  unfold sh_laws_heldIntS
  have e0 : ((n, (0 : Int)) : Int × Int) = (fun k : Nat => (n + (k : Int), (k : Int))) 0 := by simp
  rw [e0]
  refine (loop_up m (fun k : Nat => (n + (k : Int), (k : Int))) (fun _ => some (n + m)) (by omega) ?_ ?_)
  · intro next k hk hn
    have hm : k < (mks n m).length := by rw [mks_len]; exact hk
    simp only [mks_len, lt_dec hk, if_true]
    rw [getO_nat hm, mks_get n hk, ckI_pos (by omega) (by omega), ckI_succ (by omega)]
    simp only [ne_eq, not_true_eq_false, decide_false, Bool.false_eq_true, if_false]
    rw [← hn]; simp only [cast_succ, Int.add_assoc]
  · intro next
    simp only [mks_len, lt_self]
    simp
theorem l1In_eq (x lo hi : Int) : sh_spec_l1In x lo hi = some (decide (lo ≤ x) && decide (x ≤ hi)) := by
  unfold sh_spec_l1In
  by_cases h : lo ≤ x <;> simp [h]
/-! ### AddCells -/
end AS
namespace AS
theorem getO_int {R α : Type} {l : List α} {i : Int} {k : Nat} {x : α} {f : α → Option R} (hi : i = (k : Int)) (h : l[k]? = some x) : getO l i f = f x := by subst hi; exact getO_some h
def valid (s : List Int) : Prop := s.length ≤ 4 ∧ ∀ x ∈ s, 1 ≤ x ∧ x ≤ 30
theorem valid.tail {x : Int} {s : List Int} (h : valid (x :: s)) : valid s := ⟨by have := h.1; simp at this; omega, fun y hy => h.2 y (by simp [hy])⟩
theorem valid.drop {s : List Int} (h : valid s) (k : Nat) : valid (s.drop k) := ⟨by have := h.1; simp; omega, fun y hy => h.2 y (List.mem_of_mem_drop hy)⟩
/-! ### How many cells -/
/-! ### Strides -/
/-! ### Indices -/
/-! ### Cells -/
/-- Indices that fit sizes. -/
def fits (s ix : List Int) : Prop := ix.length = s.length ∧ ∀ (k : Nat) (x y : Int), s[k]? = some x → ix[k]? = some y → 0 ≤ y ∧ y ≤ x
theorem fits.set {s ix : List Int} (h : fits s ix) {d : Nat} {x y : Int} (hx : s[d]? = some x) (h0 : 0 ≤ y) (h1 : y ≤ x) : fits s (ix.set d y) := by
  refine ⟨by rw [List.length_set]; exact h.1, fun k x' y' hx' hy' => ?_⟩
  by_cases e : d = k
  · subst e
    rw [hx] at hx'; cases hx'
    have hk : d < ix.length := by rw [h.1]; exact (List.getElem?_eq_some_iff.1 hx).1
    rw [List.getElem?_set_self hk] at hy'; cases hy'
    exact ⟨h0, h1⟩
  · rw [List.getElem?_set_ne e] at hy'
    exact h.2 k x' y' hx' hy'
end AS
namespace AS
section
variable {α : Type}
theorem to_loop {f : α → Option α} {z : α} {l : List α} (hl : l.length ≤ 1099511627776) (hf : ∀ x ∈ l, f x = some x) :
    mkO (l.length : Int) (loopF (fun (nx : (List α × Int) → Option (List α)) (s : List α × Int) =>
      (if (decide (s.2 < (l.length : Int))) = true then
        getO l s.2 fun x => (f x).bind fun y => getO s.1 s.2 fun _ => ckI (s.2 + (1 : Int)) <| nx ((s.1.set (s.2).toNat y), (s.2 + (1 : Int)))
      else some s.1)) FUEL ((List.replicate ((l.length : Int)).toNat z), (0 : Int))) = some l := by
  rw [mkO_pos (by omega) (by omega)]
  refine (loop_up l.length (fun k => (mixL l (List.replicate l.length z) k, (k : Int))) (fun _ => some l) (by omega) ?_ ?_)
  · intro next k hk hn
    simp only [lt_dec hk, if_true]
    rw [getO_nat hk, hf _ (List.getElem_mem hk), Option.bind_some, getO_some (mixL_get (by simp) (by simpa using hk)), ckI_succ (by omega)]
    simp only [Int.toNat_natCast, mixL_set (b := List.replicate l.length z) (by simp) hk]
    exact hn
  · intro next
    simp only [lt_self]
    simp [mixL_end (a := l) (b := List.replicate l.length z) (by simp)]
theorem eq_loop [DecidableEq α] {f : α → α → Option Bool} {a b : List α} (h : a.length ≤ 1099511627776) (hf : ∀ x ∈ a, ∀ y, f x y = some (decide (x = y))) :
    (if (decide ((a.length : Int) ≠ (b.length : Int))) = true then some false else
      loopF (fun (nx : Int → Option Bool) (s : Int) =>
        (if (decide (s < (a.length : Int))) = true then
          getO a s fun x => getO b s fun y => (f x y).bind fun r => (if (!r) = true then some false else ckI (s + (1 : Int)) <| nx (s + (1 : Int)))
        else some true)) FUEL (0 : Int)) = some (decide (a = b)) := by
  by_cases hl : a.length = b.length
  · simp only [hl, ne_eq, not_true_eq_false, decide_false, Bool.false_eq_true, if_false]
    refine (loop_up b.length (fun k => (k : Int)) (fun k => some (decide (a.drop k = b.drop k))) (by omega) ?_ ?_).trans (by simp)
    · intro next k hk hn
      have hk' : k < a.length := by omega
      simp only [lt_dec hk, if_true]
      rw [getO_nat hk', getO_nat hk, ckI_succ (by omega), hf _ (List.getElem_mem hk'), Option.bind_some]
      rw [List.drop_eq_getElem_cons hk', List.drop_eq_getElem_cons hk]
      by_cases e : a[k] = b[k]
      · simp only [e, decide_true, Bool.not_true, Bool.false_eq_true, if_false, List.cons.injEq, true_and]
        exact hn
      · simp only [e, decide_false, Bool.not_false, if_true, List.cons.injEq, false_and]
    · intro next
      simp only [lt_self]
      simp [List.drop_of_length_le (Nat.le_refl _), List.drop_of_length_le (show a.length ≤ b.length by omega)]
  · have : ¬ (a = b) := fun e => hl (by rw [e])
    have h2 : ¬ ((a.length : Int) = (b.length : Int)) := by omega
    simp [this, h2]
/-- The sum of a measure. -/
def sumL (sz : α → Nat) (l : List α) : Nat := (l.map sz).sum
theorem sumL_cons (sz : α → Nat) (x : α) (l : List α) : sumL sz (x :: l) = sz x + sumL sz l := by simp [sumL]
theorem sumL_take (sz : α → Nat) {l : List α} {k : Nat} (h : k < l.length) : sumL sz (l.take (k + 1)) = sumL sz (l.take k) + sz l[k] := by
  simp only [sumL, List.take_add_one, List.map_append, List.sum_append, List.getElem?_eq_getElem h, Option.toList, List.map_cons, List.map_nil, List.sum_cons, List.sum_nil, Nat.add_zero]
theorem sumL_take_le (sz : α → Nat) (l : List α) (k : Nat) : sumL sz (l.take k) ≤ sumL sz l := by
  have h := congrArg (fun l => (l.map sz).sum) (List.take_append_drop k l)
  simp only [List.map_append, List.sum_append] at h
  simp only [sumL]; omega
theorem sumL_mem (sz : α → Nat) {l : List α} {x : α} (h : x ∈ l) : sz x ≤ sumL sz l := by
  induction l with
  | nil => cases h
  | cons y l ih =>
    rw [sumL_cons]
    rcases List.mem_cons.1 h with rfl | h
    · omega
    · have := ih h; omega
/-- The marks on a list, element by element. -/
def mkL (mk : α → Int → α) (sz : α → Nat) : List α → Int → List α
  | [], _ => []
  | x :: l, n => mk x n :: mkL mk sz l (n + sz x)
theorem mkL_len (mk : α → Int → α) (sz : α → Nat) : ∀ (l : List α) (n : Int), (mkL mk sz l n).length = l.length
  | [], _ => rfl
  | x :: l, n => by simp [mkL, mkL_len mk sz l]
theorem mkL_get (mk : α → Int → α) (sz : α → Nat) : ∀ (l : List α) (n : Int) (k : Nat) (h : k < l.length), (mkL mk sz l n)[k]'(by rw [mkL_len]; exact h) = mk l[k] (n + (sumL sz (l.take k) : Nat))
  | x :: l, n, 0, _ => by simp [mkL, sumL]
  | x :: l, n, k + 1, h => by
    simp only [mkL, List.getElem_cons_succ, List.take_succ_cons, sumL_cons]
    rw [mkL_get mk sz l (n + sz x) k (by simpa using h)]
    congr 1
    omega
/-- What is left of an allowance. -/
def left (a : Int) (n : Nat) : Int := if (n : Int) ≤ a then a - n else -1
theorem left_pos {a : Int} {n : Nat} (h : (n : Int) ≤ a) : left a n = a - n := if_pos h
theorem sz_loop {sz : α → Nat} {f : α → Int → Option Int} {l : List α} {a : Int} (h0 : 0 ≤ a) (h1 : a ≤ 1048576) (hl : l.length ≤ 9223372036854775807)
    (hf : ∀ x ∈ l, ∀ m : Int, 0 ≤ m → m ≤ 1048576 → f x m = some (left m (sz x))) :
    (ckI (a - (l.length : Int)) <| (if (decide ((a - (l.length : Int)) < (0 : Int))) = true then some (-1 : Int) else
      loopF (fun (nx : (Int × Int) → Option Int) (s : Int × Int) =>
        (if (decide (s.2 < (l.length : Int))) = true then
          getO l s.2 fun x => (f x s.1).bind fun r => (if (decide (r < (0 : Int))) = true then some (-1 : Int) else ckI (s.2 + (1 : Int)) <| nx (r, (s.2 + (1 : Int))))
        else some s.1)) FUEL ((a - (l.length : Int)), (0 : Int)))) = some (left a (l.length + sumL sz l)) := by
  · rw [ckI_pos (by omega) (by omega)]
    by_cases hn : a - (l.length : Int) < 0
    · simp only [hn, decide_true, if_true, left, show ¬ (((l.length + sumL sz l : Nat) : Int) ≤ a) by omega, if_false]
    · have hbig : l.length ≤ 4611686018427387904 := by omega
      simp only [hn, decide_false, Bool.false_eq_true, if_false]
      -- the first element too large decides
      have key : ∀ d k, k + d = l.length → ∀ m, d < m → ((l.length + sumL sz (l.take k) : Nat) : Int) ≤ a →
          loopF (fun (nx : (Int × Int) → Option Int) (s : Int × Int) =>
            (if (decide (s.2 < (l.length : Int))) = true then
              getO l s.2 fun x => (f x s.1).bind fun r => (if (decide (r < (0 : Int))) = true then some (-1 : Int) else ckI (s.2 + (1 : Int)) <| nx (r, (s.2 + (1 : Int))))
            else some s.1)) m ((a - (l.length : Int) - (sumL sz (l.take k) : Nat)), (k : Int)) = some (AS.left a (l.length + sumL sz l)) := by
        intro d
        induction d with
        | zero =>
          intro k hk m hm hle
          obtain ⟨m, rfl⟩ := Nat.exists_eq_succ_of_ne_zero (by omega : m ≠ 0)
          have e : k = l.length := by omega
          subst e
          simp only [loopF, lt_self, Bool.false_eq_true, if_false, List.take_length] at hle ⊢
          rw [left_pos hle]
          congr 1; omega
        | succ d ih =>
          intro k hk m hm hle
          obtain ⟨m, rfl⟩ := Nat.exists_eq_succ_of_ne_zero (by omega : m ≠ 0)
          have hlt : k < l.length := by omega
          simp only [loopF, lt_dec hlt, if_true]
          rw [getO_nat hlt, hf _ (List.getElem_mem hlt) _ (by omega) (by omega), Option.bind_some]
          by_cases hs : ((sz l[k] : Nat) : Int) ≤ a - (l.length : Int) - (sumL sz (l.take k) : Nat)
          · rw [left_pos hs, ckI_succ (by omega)]
            simp only [show ¬ (a - (l.length : Int) - (sumL sz (l.take k) : Nat) - (sz l[k] : Nat) < 0) by omega, decide_false, Bool.false_eq_true, if_false]
            have := ih (k + 1) (by omega) m (by omega) (by rw [sumL_take sz hlt]; omega)
            rw [sumL_take sz hlt] at this
            rw [← this]
            congr 2
            omega
          · have h2 : AS.left (a - (l.length : Int) - (sumL sz (l.take k) : Nat)) (sz l[k]) = -1 := if_neg hs
            rw [h2]
            have h3 := sumL_take_le sz l (k + 1)
            rw [sumL_take sz hlt] at h3
            simp only [show ((-1 : Int) < 0) = True by simp, decide_true, if_true, AS.left, show ¬ (((l.length + sumL sz l : Nat) : Int) ≤ a) by omega, if_false]
      have := key l.length 0 (by omega) FUEL (FUEL_big hbig) (by simp [sumL]; omega)
      simpa [sumL] using this
end
end AS
namespace AS
theorem sumL_bd {α : Type} {sz : α → Nat} {b : Nat} : ∀ {l : List α}, (∀ x ∈ l, sz x ≤ b) → sumL sz l ≤ l.length * b
  | [], _ => by simp [sumL]
  | x :: l, h => by
    rw [sumL_cons, List.length_cons, Nat.succ_mul]
    have := h x (by simp)
    have := sumL_bd (l := l) (b := b) (fun y hy => h y (by simp [hy]))
    omega
end AS
namespace AS
theorem szIntS_eq {l : List Int} {a : Int} (h0 : 0 ≤ a) (h1 : a ≤ 1048576) (hl : l.length ≤ 9223372036854775807) : sh_laws_szIntS l a = some (left a l.length) := by
  unfold sh_laws_szIntS
  rw [ckI_pos (by omega) (by omega)]
  unfold left
  by_cases h : a - (l.length : Int) < 0
  · simp [h, show ¬ ((l.length : Int) ≤ a) by omega]
  · simp [h, show ((l.length : Int) ≤ a) by omega]
theorem left_no {a : Int} {m : Nat} (h : ¬ (m : Int) ≤ a) : left a m = -1 := if_neg h
/-! ### Right form -/
/-! ### The first break -/
end AS
namespace AS
/-! ### The law's own functions on variables -/
def bulkV (v : XVariable) : Nat := v.Name.length
theorem szVariable_eq {v : XVariable} {a : Int} (h0 : 0 ≤ a) (h1 : a ≤ 1048576) (hb : Bd.bd v) : sh_laws_szVariable v a = some (left a (bulkV v)) := by
  unfold sh_laws_szVariable
  have hl : v.Name.length ≤ 9223372036854775807 := hb.1.1
  rw [ckI_pos (by omega) (by omega)]
  unfold left bulkV
  by_cases h : a - (v.Name.length : Int) < 0
  · simp [h, show ¬ ((v.Name.length : Int) ≤ a) by omega]
  · simp [h, show ((v.Name.length : Int) ≤ a) by omega]
def bulkVS (s : List XVariable) : Nat := s.length + sumL bulkV s
theorem szVariableS_eq {s : List XVariable} {a : Int} (h0 : 0 ≤ a) (h1 : a ≤ 1048576) (hb : Bd.bd s) : sh_laws_szVariableS s a = some (left a (bulkVS s)) := by
  unfold sh_laws_szVariableS
  exact sz_loop h0 h1 hb.1 fun x hx m hm hm2 => szVariable_eq hm hm2 (hb.2 x hx)
theorem toVariable_eq (v : XVariable) : sh_laws_toVariable v = some v := rfl
theorem toVariableS_eq {s : List XVariable} (h : bulkVS s ≤ 1048576) : sh_laws_toVariableS s = some s := by
  unfold sh_laws_toVariableS
  exact to_loop (by unfold bulkVS at h; omega) fun x _ => toVariable_eq x
theorem XVariable.ext' {a b : XVariable} (h1 : a.Name = b.Name) (h2 : a.Levels = b.Levels) : a = b := by cases a; cases b; simp_all
theorem eqVariable_eq (a b : XVariable) : sh_laws_eqVariable a b = some (decide (a = b)) := by
  unfold sh_laws_eqVariable
  by_cases h1 : a.Name = b.Name
  · by_cases h2 : a.Levels = b.Levels
    · simp [h1, h2, XVariable.ext' h1 h2]
    · simp [h1, h2, show ¬ a = b from fun e => h2 (by rw [e])]
  · simp [h1, show ¬ a = b from fun e => h1 (by rw [e])]
theorem eqVariableS_eq {a b : List XVariable} (h : bulkVS a ≤ 1048576) : sh_laws_eqVariableS a b = some (decide (a = b)) := by
  unfold sh_laws_eqVariableS
  exact eq_loop (by unfold bulkVS at h; omega) fun x _ y => eqVariable_eq x y
/-! ### Schemas -/
def lowB (n : List UInt8) : Bool := n.all fun c => decide ((97 : Int) ≤ (c.toNat : Int)) && decide ((c.toNat : Int) ≤ 122)
def wordB (n : List UInt8) : Bool := lowB n && (decide (1 ≤ n.length) && decide (n.length ≤ 8))
theorem sName_eq {n : List UInt8} (h : n.length ≤ 1099511627776) : sh_spec_sName n = some (wordB n) := by
  unfold sh_spec_sName
  refine (loop_up n.length (fun k => (k : Int)) (fun k => some (lowB (n.drop k) && (decide (1 ≤ n.length) && decide (n.length ≤ 8)))) (by omega) ?_ ?_).trans (by simp [wordB])
  · intro next k hk hn
    simp only [lt_dec hk, if_true]
    rw [getO_nat hk, List.drop_eq_getElem_cons hk]
    by_cases h1 : (n[k].toNat : Int) < 97
    · simp only [h1, decide_true, if_true, lowB, List.all_cons, show decide ((97 : Int) ≤ (n[k].toNat : Int)) = false by (simp only [decide_eq_false_iff_not]; omega), Bool.false_and]
    · by_cases h2 : (122 : Int) < (n[k].toNat : Int)
      · simp only [h1, h2, decide_true, decide_false, Bool.false_eq_true, if_false, if_true, lowB, List.all_cons, show decide ((n[k].toNat : Int) ≤ 122) = false by (simp only [decide_eq_false_iff_not]; omega), Bool.and_false, Bool.false_and]
      · simp only [h1, h2, decide_false, Bool.false_eq_true, if_false]
        rw [ckI_succ (by omega)]
        refine hn.trans ?_
        have : (decide ((97 : Int) ≤ (n[k].toNat : Int)) && decide ((n[k].toNat : Int) ≤ 122)) = true := by simp only [Bool.and_eq_true, decide_eq_true_eq]; omega
        simp only [lowB, List.all_cons, this, Bool.true_and]
  · intro next
    simp only [lt_self, Bool.false_eq_true, if_false, l1In_eq, Option.bind_some, List.drop_length, lowB, List.all_nil, Bool.true_and, Option.some.injEq]
    congr 1 <;> (congr 1; apply propext; omega)
theorem isWord_eq (n : List UInt8) : sh_impl_isWord n = some (wordB n) := by
  unfold sh_impl_isWord
  by_cases h1 : (n.length : Int) < 1
  · simp [h1, wordB, show ¬ (1 ≤ n.length) by omega]
  · by_cases h2 : (8 : Int) < (n.length : Int)
    · simp [h1, h2, wordB, show ¬ (n.length ≤ 8) by omega]
    · simp only [h1, h2, decide_false, Bool.false_eq_true, if_false]
      refine (range_all (G := fun l _ _ => some (lowB l)) (fun _ _ => rfl) ?_ 0 ()).trans (by simp only [wordB, show decide (1 ≤ n.length) = true by (simp; omega), show decide (n.length ≤ 8) = true by (simp; omega), Bool.and_true])
      intro x l k s next ih
      simp only [ih, lowB, List.all_cons]
      by_cases h3 : (x.toNat : Int) < 97
      · simp [h3, show ¬ (97 ≤ (x.toNat : Int)) by omega]
      · by_cases h4 : (122 : Int) < (x.toNat : Int)
        · simp [h3, h4, show ¬ ((x.toNat : Int) ≤ 122) by omega]
        · have : (decide ((97 : Int) ≤ (x.toNat : Int)) && decide ((x.toNat : Int) ≤ 122)) = true := by simp only [Bool.and_eq_true, decide_eq_true_eq]; omega
          simp only [h3, h4, decide_false, Bool.false_eq_true, if_false, this, Bool.true_and]
def hasName (l : List XVariable) (n : List UInt8) : Bool := l.any fun v => decide (v.Name = n)
def findI : List XVariable → List UInt8 → Nat → Int
  | [], _, _ => -1
  | v :: l, n, k => if v.Name = n then k else findI l n (k + 1)
theorem findI_nonneg : ∀ (l : List XVariable) (n : List UInt8) (k : Nat), decide (0 ≤ findI l n k) = hasName l n
  | [], _, _ => rfl
  | v :: l, n, k => by
    simp only [findI, hasName, List.any_cons]
    by_cases h : v.Name = n
    · simp [h]
    · simp only [h, if_false, decide_false, Bool.false_or]; exact findI_nonneg l n (k + 1)
theorem sFind_eq (l : List XVariable) (n : List UInt8) : sh_spec_sFind l n = some (findI l n 0) := by
  unfold sh_spec_sFind
  refine range_all (G := fun l k _ => some (findI l n k)) (fun _ _ => rfl) ?_ 0 ()
  intro x l k s next ih
  simp only [ih, findI]
  by_cases h : x.Name = n <;> simp [h]
def levB (v : XVariable) : Bool := decide (2 ≤ v.Levels) && decide (v.Levels ≤ 8)
def schFrom (s : List XVariable) : List XVariable → Nat → Bool
  | [], _ => true
  | v :: l, k => wordB v.Name && (levB v && (!(hasName (s.take k) v.Name) && schFrom s l (k + 1)))
def schB (s : List XVariable) : Bool := decide (1 ≤ s.length) && decide (s.length ≤ 6) && schFrom s s 0
theorem sGood_eq {s : List XVariable} (h : ∀ v ∈ s, v.Name.length ≤ 1099511627776) : sh_spec_sGood s = some (schB s) := by
  unfold sh_spec_sGood
  rw [l1In_eq, Option.bind_some]
  have e : (decide ((1 : Int) ≤ (s.length : Int)) && decide ((s.length : Int) ≤ 6)) = (decide (1 ≤ s.length) && decide (s.length ≤ 6)) := by
    congr 1 <;> (congr 1; apply propext; omega)
  rw [e]
  cases h1 : (decide (1 ≤ s.length) && decide (s.length ≤ 6)) with
  | false => simp [schB, h1]
  | true =>
    simp only [Bool.not_true, Bool.false_eq_true, if_false]
    refine (range_mem (I := fun _ _ => True) (G := fun l k _ => some (schFrom s l k)) (fun _ _ _ _ => rfl) ?_ () trivial).trans (by simp [schB, h1])
    intro x l' k u next hx _ _ hn
    have hk := (List.getElem?_eq_some_iff.1 hx).1
    rw [sName_eq (h x (List.mem_of_getElem? hx)), Option.bind_some, l1In_eq, Option.bind_some]
    have e2 : (decide ((2 : Int) ≤ x.Levels) && decide (x.Levels ≤ 8)) = levB x := rfl
    simp only [e2, schFrom]
    cases wordB x.Name with
    | false => rfl
    | true =>
      cases levB x with
      | false => rfl
      | true =>
        simp only [Bool.not_true, Bool.false_eq_true, if_false, Bool.true_and]
        rw [ck_pos (by simp; omega), sFind_eq, Option.bind_some, findI_nonneg]
        simp only [Int.toNat_natCast, List.drop_zero]
        cases hasName (s.take k) x.Name with
        | true => rfl
        | false => simp only [Bool.false_eq_true, if_false, Bool.not_false, Bool.true_and]; exact hn () trivial
theorem isSchema_eq (s : List XVariable) : sh_impl_IsSchema s = some (schB s) := by
  unfold sh_impl_IsSchema
  by_cases h1 : (s.length : Int) < 1
  · simp [h1, schB, show ¬ (1 ≤ s.length) by omega]
  · by_cases h2 : (6 : Int) < (s.length : Int)
    · simp [h1, h2, schB, show ¬ (s.length ≤ 6) by omega]
    · have e : (decide (1 ≤ s.length) && decide (s.length ≤ 6)) = true := by simp; omega
      simp only [h1, h2, decide_false, Bool.false_eq_true, if_false]
      refine (range_mem (I := fun _ _ => True) (G := fun l k _ => some (schFrom s l k)) (fun _ _ _ _ => rfl) ?_ () trivial).trans (by simp only [schB, e, Bool.true_and])
      intro x l' k u next hx _ _ hn
      have hk := (List.getElem?_eq_some_iff.1 hx).1
      rw [isWord_eq, Option.bind_some]
      simp only [schFrom]
      cases wordB x.Name with
      | false => rfl
      | true =>
        simp only [Bool.not_true, Bool.false_eq_true, if_false, Bool.true_and]
        by_cases h3 : x.Levels < 2
        · simp [h3, levB, show ¬ (2 ≤ x.Levels) by omega]
        · by_cases h4 : 8 < x.Levels
          · simp [h3, h4, levB, show ¬ (x.Levels ≤ 8) by omega]
          · have : levB x = true := by simp [levB]; omega
            simp only [h3, h4, decide_false, Bool.false_eq_true, if_false, this, Bool.true_and]
            rw [ck_pos (by simp; omega)]
            simp only [Int.toNat_natCast, List.drop_zero]
            have hn' := hn () trivial
            refine range_all (G := fun l _ _ => some (!(hasName l x.Name) && schFrom s l' (k + 1))) (fun _ _ => by simp only [hasName, List.any_nil, Bool.not_false, Bool.true_and]; exact hn'.symm) ?_ 0 ()
            intro y l2 j u2 next2 ih
            simp only [ih, hasName, List.any_cons]
            by_cases h5 : y.Name = x.Name <;> simp [h5]
theorem schFrom_lev {s : List XVariable} : ∀ {l : List XVariable} {k : Nat}, schFrom s l k = true → ∀ v ∈ l, 2 ≤ v.Levels ∧ v.Levels ≤ 8
  | [], _, _, v, hv => by simp at hv
  | x :: l, k, h, v, hv => by
    simp only [schFrom, Bool.and_eq_true] at h
    rcases List.mem_cons.1 hv with rfl | hv
    · have := h.2.1; simpa [levB] using this
    · exact schFrom_lev h.2.2.2 v hv
theorem schB_lev {s : List XVariable} (h : schB s = true) {v : XVariable} (hv : v ∈ s) : 2 ≤ v.Levels ∧ v.Levels ≤ 8 := by
  simp only [schB, Bool.and_eq_true] at h
  exact schFrom_lev h.2 v hv
theorem schB_len {s : List XVariable} (h : schB s = true) : 1 ≤ s.length ∧ s.length ≤ 6 := by
  simp only [schB, Bool.and_eq_true, decide_eq_true_eq] at h
  exact h.1
/-! ### Weights, values, costs -/
theorem names_of_bulk {s : List XVariable} (h : bulkVS s ≤ 1048576) : ∀ v ∈ s, v.Name.length ≤ 1099511627776 := by
  intro v hv
  have : v.Name.length ≤ sumL bulkV s := sumL_mem bulkV hv
  unfold bulkVS at h
  omega
end AS
namespace AS
theorem sz_end {a : Int} {n : Nat} : (if (decide (left a n < (0 : Int))) = true then some (-1 : Int) else some (left a n)) = some (left a n) := by
  by_cases h : (n : Int) ≤ a
  · rw [left_pos h]; simp [show ¬ (a - (n : Int) < 0) by omega]
  · rw [left_no h]; rfl
theorem getO_set {R α : Type} {l : List α} {k : Nat} {x : α} {f : α → Option R} (h : k < l.length) : getO (l.set k x) (k : Int) f = f x := getO_some (by rw [List.getElem?_set_self h])
theorem mark_loop2 {α : Type} {mk : α → Int → α} {sz : α → Nat} {body : ((List α × Int × Int) → Option (List α × Int)) → (List α × Int × Int) → Option (List α × Int)} {l : List α} {n : Int} (B : Int) (hB : B ≤ 4611686018427387904) (hl : l.length ≤ 1099511627776) (h0 : 0 ≤ n) (h : n + (sumL sz l : Nat) ≤ B)
    (hb : ∀ nx (s : List α) (m : Int) (k : Nat) (x : α), k < s.length → s.length = l.length → s[k]? = some x → 0 ≤ m → m + sz x ≤ B → body nx (s, m, (k : Int)) = nx (s.set k (mk x m), m + sz x, (k : Int) + 1))
    (he : ∀ nx (s : List α) (m : Int), body nx (s, m, (s.length : Int)) = some (s, m)) :
    loopF body FUEL (l, n, (0 : Int)) = some (mkL mk sz l n, n + (sumL sz l : Nat)) := by
  have e0 : ((l, n, (0 : Int)) : List α × Int × Int) = (fun k : Nat => (mixL (mkL mk sz l n) l k, n + (sumL sz (l.take k) : Nat), (k : Int))) 0 := by simp [mixL_zero, sumL]
  rw [e0]
  refine (loop_up l.length (fun k : Nat => (mixL (mkL mk sz l n) l k, n + (sumL sz (l.take k) : Nat), (k : Int))) (fun _ => some (mkL mk sz l n, n + (sumL sz l : Nat))) (by omega) ?_ ?_)
  · intro next k hk hn
    have hlen := mkL_len mk sz l n
    have hm : k < (mkL mk sz l n).length := by rw [hlen]; exact hk
    have h1 := sumL_take_le sz l (k + 1)
    rw [sumL_take sz hk] at h1 hn
    have hmix := mixL_len hlen k
    rw [hb next _ _ k l[k] (by rw [hmix]; exact hk) hmix (mixL_get hlen hk) (by omega) (by omega)]
    rw [← mkL_get mk sz l n k hk, mixL_set hlen hm, ← hn]
    simp only [cast_succ, Int.add_assoc, Int.natCast_add]
  · intro next
    have hlen := mkL_len mk sz l n
    have := mixL_end hlen
    rw [hlen] at this
    rw [this]
    have h2 := he next (mkL mk sz l n) (n + (sumL sz (l.take l.length) : Nat))
    rw [hlen] at h2
    rw [h2]; simp
theorem held_loop2 {α : Type} {mk : α → Int → α} {sz : α → Nat} {body : ((Int × Int) → Option Int) → (Int × Int) → Option Int} {l : List α} {n : Int} (B : Int) (hB : B ≤ 4611686018427387904) (hl : l.length ≤ 1099511627776) (h0 : 0 ≤ n) (h : n + (sumL sz l : Nat) ≤ B)
    (hb : ∀ nx (m : Int) (k : Nat) (x : α), k < l.length → (mkL mk sz l n)[k]? = some (mk x m) → x ∈ l → 0 ≤ m → m + sz x ≤ B → body nx (m, (k : Int)) = nx (m + sz x, (k : Int) + 1))
    (he : ∀ nx (m : Int), body nx (m, (l.length : Int)) = some m) :
    loopF body FUEL (n, (0 : Int)) = some (n + (sumL sz l : Nat)) := by
  have e0 : ((n, (0 : Int)) : Int × Int) = (fun k : Nat => (n + (sumL sz (l.take k) : Nat), (k : Int))) 0 := by simp [sumL]
  rw [e0]
  refine (loop_up l.length (fun k : Nat => (n + (sumL sz (l.take k) : Nat), (k : Int))) (fun _ => some (n + (sumL sz l : Nat))) (by omega) ?_ ?_)
  · intro next k hk hn
    have hlen := mkL_len mk sz l n
    have hm : k < (mkL mk sz l n).length := by rw [hlen]; exact hk
    have h1 := sumL_take_le sz l (k + 1)
    rw [sumL_take sz hk] at h1 hn
    rw [hb next _ k l[k] hk (by rw [List.getElem?_eq_getElem hm, mkL_get mk sz l n k hk]) (List.getElem_mem hk) (by omega) (by omega)]
    rw [← hn]
    simp only [cast_succ, Int.add_assoc, Int.natCast_add]
  · intro next
    rw [he next]; simp
/-! ### Geographies -/
def bulkG (g : XGeo) : Nat := g.Parents.length
theorem szGeo_eq {g : XGeo} {a : Int} (h0 : 0 ≤ a) (h1 : a ≤ 1048576) (hb : Bd.bd g) : sh_laws_szGeo g a = some (left a (bulkG g)) := by
  unfold sh_laws_szGeo
  have hl : Bd.bd g.Parents := hb
  rw [szIntS_eq h0 h1 hl.1, Option.bind_some]
  exact sz_end
theorem toGeo_eq {g : XGeo} (h : bulkG g ≤ 1048576) : sh_laws_toGeo g = some g := by
  unfold sh_laws_toGeo; unfold bulkG at h
  rw [toIntS_eq h, Option.bind_some]
theorem eqGeo_eq {a b : XGeo} (h : bulkG a ≤ 1048576) : sh_laws_eqGeo a b = some (decide (a = b)) := by
  unfold sh_laws_eqGeo; unfold bulkG at h
  rw [eqIntS_eq (by omega), Option.bind_some]
  cases a; cases b; simp only [XGeo.mk.injEq]
  split <;> simp_all
def mkGeo (g : XGeo) (n : Int) : XGeo := ⟨mks n g.Parents.length⟩
theorem markGeo_eq {g : XGeo} {n : Int} (h0 : 0 ≤ n) (h : n + bulkG g ≤ 4611686018427387904) : sh_laws_markGeo g n = some (mkGeo g n, n + bulkG g) := by
  unfold sh_laws_markGeo; unfold bulkG at h ⊢
  rw [markIntS_eq h0 (by omega), Option.bind_some]; rfl
/-! ### Tables -/
def bulkT (t : XTable) : Nat := t.Vars.length + t.Where.length
theorem eqTable_eq {a b : XTable} (h : bulkT a ≤ 1048576) : sh_laws_eqTable a b = some (decide (a = b)) := by
  unfold sh_laws_eqTable; unfold bulkT at h
  simp only [eqIntS_eq (a := a.Vars) (b := b.Vars) (by omega), eqIntS_eq (a := a.Where) (b := b.Where) (by omega), Option.bind_some]
  cases a; cases b; simp only [XTable.mk.injEq]
  rename_i l1 v1 w1 s1 l2 v2 w2 s2
  by_cases h1 : l1 = l2 <;> by_cases h2 : v1 = v2 <;> by_cases h3 : w1 = w2 <;> by_cases h4 : s1 = s2 <;> simp [h1, h2, h3, h4]
def bulkTS (l : List XTable) : Nat := l.length + sumL bulkT l
theorem bulkT_mem {l : List XTable} {t : XTable} (h : t ∈ l) : bulkT t ≤ bulkTS l := by
  have := sumL_mem bulkT h; unfold bulkTS; omega
theorem eqTableS_eq {a b : List XTable} (h : bulkTS a ≤ 1048576) : sh_laws_eqTableS a b = some (decide (a = b)) := by
  unfold sh_laws_eqTableS
  exact eq_loop (by unfold bulkTS at h; omega) fun x hx y => eqTable_eq (by have := bulkT_mem hx; omega)
def mkET (t : XTable) (n : Int) : XTable := ⟨n, mks (n + 1) t.Vars.length, mks (n + 1 + t.Vars.length) t.Where.length, n + 1 + t.Vars.length + t.Where.length⟩
def szET (t : XTable) : Nat := bulkT t + 2
def marksTS (l : List XTable) : Nat := sumL szET l
theorem marksTS_le : ∀ (l : List XTable), marksTS l ≤ 2 * bulkTS l
  | [] => by simp [marksTS, sumL, bulkTS]
  | t :: l => by
    have := marksTS_le l
    simp only [marksTS, bulkTS, sumL_cons, List.length_cons, szET] at this ⊢
    omega
theorem markTableS_eq {l : List XTable} {n : Int} (hl : l.length ≤ 1099511627776) (h0 : 0 ≤ n) (h : n + marksTS l ≤ 4611686018427387904) : sh_laws_markTableS l n = some (mkL mkET szET l n, n + marksTS l) := by
  unfold sh_laws_markTableS
  refine mark_loop2 (mk := mkET) (sz := szET) 4611686018427387904 (by omega) hl h0 h ?_ ?_
  · intro nx s m k x hk hs hx hm hB
    unfold szET bulkT at hB
    simp only [lt_dec hk, if_true, Int.toNat_natCast]
    rw [getO_some hx, ckI_pos (by omega) (by omega), getO_set hk]
    simp only [List.set_set]
    rw [markIntS_eq (by omega) (by omega), Option.bind_some, getO_set hk]
    simp only
    rw [markIntS_eq (by omega) (by omega), Option.bind_some, getO_set hk]
    simp only
    rw [ckI_pos (by omega) (by omega), ckI_succ (by omega)]
    congr 1
    simp only [mkET, szET, bulkT, Prod.mk.injEq, and_true, true_and]
    omega
  · intro nx s m
    simp only [lt_self, Bool.false_eq_true, if_false]
theorem heldTableS_eq {l : List XTable} {n : Int} (hl : l.length ≤ 1099511627776) (h0 : 0 ≤ n) (h : n + marksTS l ≤ 4611686018427387904) : sh_laws_heldTableS (mkL mkET szET l n) n = some (n + marksTS l) := by
  unfold sh_laws_heldTableS
  refine held_loop2 (mk := mkET) (sz := szET) (l := l) 4611686018427387904 (by omega) hl h0 h ?_ ?_
  · intro nx m k x hk hx _ hm hB
    unfold szET bulkT at hB
    simp only [mkL_len, lt_dec hk, if_true]
    rw [getO_some hx]
    simp only [mkET, ne_eq, not_true_eq_false, decide_false, Bool.false_eq_true, if_false]
    rw [ckI_pos (by omega) (by omega), heldIntS_eq (by omega) (by omega), Option.bind_some]
    simp only [show ¬ (m + 1 + (x.Vars.length : Int) < 0) by omega, decide_false, Bool.false_eq_true, if_false]
    rw [heldIntS_eq (by omega) (by omega), Option.bind_some]
    simp only [show ¬ (m + 1 + (x.Vars.length : Int) + (x.Where.length : Int) < 0) by omega, decide_false, Bool.false_eq_true, if_false, not_true_eq_false]
    rw [ckI_pos (by omega) (by omega), ckI_succ (by omega)]
    congr 1
    simp only [szET, bulkT, Prod.mk.injEq, and_true]
    omega
  · intro nx m
    simp only [mkL_len, lt_self, Bool.false_eq_true, if_false]
/-! ### Records -/
/-! ### Variables: marks -/
theorem markText_some {n : Int} (h0 : 0 ≤ n) (h1 : n ≤ 1000000000) : ∃ r, sh_laws_markText n = some r := by
  unfold sh_laws_markText
  by_cases hn : n ≤ 0
  · exact ⟨[109, 48], by simp [hn]⟩
  · simp only [hn, decide_false, Bool.false_eq_true, if_false]
    suffices H : ∀ (k : Nat) (m : Int) (t : List UInt8), 0 ≤ m → m < k → m + t.length ≤ 1000000000 → ∃ r, loopF (fun (nx : (Int × (List UInt8)) → Option (List UInt8)) (s : (Int × (List UInt8))) =>
        (if (decide ((0 : Int) < s.1)) = true then
          ck ((10 : Int) ≠ 0) <| ckI ((48 : Int) + (s.1.tmod (10 : Int))) <| ckU ((48 : Int) + (s.1.tmod (10 : Int))) <|
          ck ([((48 : Int) + (s.1.tmod (10 : Int)))] = (bytesOf [((48 : Int) + (s.1.tmod (10 : Int)))]).map fun b => ((b.toNat : Nat) : Int)) <|
          lnO ((bytesOf [((48 : Int) + (s.1.tmod (10 : Int)))]).length + s.2.length) <| ck ((10 : Int) ≠ 0) <| ckI (s.1.tdiv (10 : Int)) <|
          nx ((s.1.tdiv (10 : Int)), ((bytesOf [((48 : Int) + (s.1.tmod (10 : Int)))]) ++ s.2))
        else lnO (([109] : List UInt8).length + s.2.length) <| some (([109] : List UInt8) ++ s.2))) k (m, t) = some r by
      have hF : (1000000001 : Nat) ≤ FUEL := by decide +kernel
      obtain ⟨d, hd⟩ := Nat.exists_eq_add_of_le hF
      have := H FUEL n [] h0 (by omega) (by simpa using h1)
      exact this
    intro k
    induction k with
    | zero => intro m t h0 h1; omega
    | succ k ih =>
      intro m t h0 h1 h2
      simp only [loopF]
      by_cases hm : 0 < m
      · simp only [hm, decide_true, if_true]
        have e1 : m.tmod 10 = m % 10 := Int.tmod_eq_emod_of_nonneg h0
        have e2 : m.tdiv 10 = m / 10 := Int.tdiv_eq_ediv_of_nonneg h0
        rw [e1, e2, ck_pos (by decide), ckI_pos (by omega) (by omega), ckU_pos (by omega) (by omega), ck_pos, lnO_pos (by simp [bytesOf]; omega), ck_pos (by decide), ckI_pos (by omega) (by omega)]
        · exact ih _ _ (by omega) (by omega) (by simp [bytesOf]; omega)
        · simp only [bytesOf, List.map_cons, List.map_nil, UInt8.toNat_ofNat', List.cons.injEq, and_true]
          omega
      · simp only [hm, decide_false, Bool.false_eq_true, if_false]
        rw [lnO_pos (by simp; omega)]
        exact ⟨_, rfl⟩
def mt (n : Int) : List UInt8 := (sh_laws_markText n).getD []
theorem markText_eq {n : Int} (h0 : 0 ≤ n) (h1 : n ≤ 1000000000) : sh_laws_markText n = some (mt n) := by
  obtain ⟨r, hr⟩ := markText_some h0 h1
  unfold mt; rw [hr]; rfl
def mkEV (v : XVariable) (n : Int) : XVariable := ⟨mt n, n + 1⟩
def marksVS (l : List XVariable) : Nat := sumL (fun _ => 2) l
theorem marksVS_le : ∀ (l : List XVariable), marksVS l ≤ 2 * l.length
  | [] => by simp [marksVS, sumL]
  | t :: l => by
    have := marksVS_le l
    simp only [marksVS, sumL_cons, List.length_cons] at this ⊢
    omega
theorem markVariableS_eq {l : List XVariable} {n : Int} (hl : l.length ≤ 1099511627776) (h0 : 0 ≤ n) (h : n + marksVS l ≤ 1000000000) : sh_laws_markVariableS l n = some (mkL mkEV (fun _ => 2) l n, n + marksVS l) := by
  unfold sh_laws_markVariableS
  refine mark_loop2 (mk := mkEV) (sz := fun _ => 2) 1000000000 (by omega) hl h0 h ?_ ?_
  · intro nx s m k x hk hs hx hm hB
    simp only [lt_dec hk, if_true, Int.toNat_natCast]
    rw [markText_eq hm (by omega), Option.bind_some, getO_some hx, ckI_pos (by omega) (by omega), getO_set hk]
    simp only [List.set_set]
    rw [ckI_pos (by omega) (by omega), ckI_succ (by omega)]
    congr 1
    simp only [mkEV, Prod.mk.injEq, and_true, true_and]
    omega
  · intro nx s m
    simp only [lt_self, Bool.false_eq_true, if_false]
end AS
namespace AS
/-! ### Numerals -/
/-! ### The number of a string, as the reference reads it -/
theorem pow10 {i : Nat} (h : i ≤ 9) : (1 : Int) ≤ 10 ^ i ∧ (10 : Int) ^ i ≤ 1000000000 := by
  have : i = 0 ∨ i = 1 ∨ i = 2 ∨ i = 3 ∨ i = 4 ∨ i = 5 ∨ i = 6 ∨ i = 7 ∨ i = 8 ∨ i = 9 := by omega
  rcases this with rfl | rfl | rfl | rfl | rfl | rfl | rfl | rfl | rfl | rfl <;> decide
/-! ### Pieces -/
def splA (sep : UInt8) (cur : List UInt8) : List UInt8 → List (List UInt8)
  | [] => [cur]
  | c :: r => if c = sep then cur :: splA sep [] r else splA sep (cur ++ [c]) r
theorem splA_none {sep : UInt8} : ∀ {q cur : List UInt8}, (∀ c ∈ q, c ≠ sep) → splA sep cur q = [cur ++ q]
  | [], cur, _ => by simp [splA]
  | c :: q, cur, h => by
    simp only [splA]
    rw [if_neg (h c (by simp)), splA_none fun d hd => h d (by simp [hd])]; simp
theorem splA_app {sep : UInt8} {r : List UInt8} : ∀ {q cur : List UInt8}, (∀ c ∈ q, c ≠ sep) → splA sep cur (q ++ sep :: r) = (cur ++ q) :: splA sep [] r
  | [], cur, _ => by simp [splA]
  | c :: q, cur, h => by
    simp only [List.cons_append, splA]
    rw [if_neg (h c (by simp)), splA_app fun d hd => h d (by simp [hd])]; simp
theorem splA_len {sep : UInt8} : ∀ (x cur : List UInt8), 1 ≤ (splA sep cur x).length ∧ (splA sep cur x).length ≤ x.length + 1 ∧ ∀ y ∈ splA sep cur x, y.length ≤ cur.length + x.length
  | [], cur => by simp [splA]
  | c :: x, cur => by
    simp only [splA]
    by_cases h : c = sep
    · obtain ⟨h1, h2, h3⟩ := splA_len (sep := sep) x []
      rw [if_pos h]
      refine ⟨by simp, by simp only [List.length_cons]; omega, fun y hy => ?_⟩
      rcases List.mem_cons.1 hy with rfl | hy
      · omega
      · have := h3 y hy
        simp only [List.length_nil, List.length_cons] at this ⊢; omega
    · obtain ⟨h1, h2, h3⟩ := splA_len (sep := sep) x (cur ++ [c])
      rw [if_neg h]
      refine ⟨h1, by simp only [List.length_cons]; omega, fun y hy => ?_⟩
      have := h3 y hy
      simp only [List.length_append, List.length_cons, List.length_nil] at this ⊢; omega
theorem l1Split_eq {x : List UInt8} {sep : UInt8} {n : Int} (hn : n = (sep.toNat : Int)) (hx : x.length ≤ 1000000000) : sh_spec_l1Split x n = some (splA sep [] x) := by
  subst hn
  unfold sh_spec_l1Split
  refine (loopF_eq (I := fun s : List (List UInt8) × Int × Int => ∃ a i : Nat, s.2.1 = (a : Int) ∧ s.2.2 = (i : Int) ∧ a ≤ i ∧ i ≤ x.length ∧ s.1.length ≤ i) (mu := fun s => x.length - s.2.2.toNat)
    (F := fun s => some (s.1 ++ splA sep ((x.take s.2.2.toNat).drop s.2.1.toNat) (x.drop s.2.2.toNat))) ?_ FUEL ([], 0, 0) ⟨0, 0, rfl, rfl, by omega, by omega, by simp⟩ (FUEL_big (by simp; omega))).trans (by simp)
  rintro ⟨acc, a', i'⟩ next ⟨a, i, rfl, rfl, h1, h2, h3⟩ hnx
  simp only at h3 hnx
  simp only [Int.toNat_natCast]
  by_cases hi : i < x.length
  · simp only [lt_dec hi, if_true]
    rw [getO_nat hi, List.drop_eq_getElem_cons hi]
    simp only [splA]
    by_cases hc : x[i] = sep
    · have hd : decide (((x[i].toNat : Nat) : Int) = ((sep.toNat : Nat) : Int)) = true := by rw [hc]; simp
      rw [hd]
      simp only [if_true, hc]
      rw [ck_pos ⟨by omega, by omega, by omega, by omega⟩, lnO_pos (by simp only [List.length_cons, List.length_nil]; omega), ckI_succ (by omega), ckI_succ (by omega), ← cast_succ,
        hnx _ ⟨i + 1, i + 1, rfl, rfl, by omega, by omega, by simp only [List.length_append, List.length_cons, List.length_nil]; omega⟩ (by simp only [Int.toNat_natCast]; omega)]
      simp only [Int.toNat_natCast, List.append_assoc, List.cons_append, List.nil_append]
      rw [List.drop_of_length_le (show (x.take (i + 1)).length ≤ i + 1 by simp; omega)]
    · have hd : decide (((x[i].toNat : Nat) : Int) = ((sep.toNat : Nat) : Int)) = false := by
        simp only [decide_eq_false_iff_not, Int.natCast_inj]
        exact fun e => hc (UInt8.toNat_inj.1 e)
      rw [hd]
      simp only [Bool.false_eq_true, if_false, hc]
      rw [ckI_succ (by omega), ← cast_succ, hnx _ ⟨a, i + 1, rfl, rfl, by omega, by omega, by simp only; omega⟩ (by simp only [Int.toNat_natCast]; omega)]
      simp only [Int.toNat_natCast]
      rw [List.take_add_one, List.getElem?_eq_getElem hi, Option.toList_some, List.drop_append_of_le_length (by simp; omega)]
  · have e : i = x.length := by omega
    subst e
    simp only [lt_self, Bool.false_eq_true, if_false]
    rw [ck_pos ⟨by omega, by omega, by omega⟩, lnO_pos (by simp only [List.length_cons, List.length_nil]; omega)]
    simp [splA]
/-! ### Numbers, as the program reads them -/
def rdN (lim : Nat) : Nat → Nat → List UInt8 → Option (Nat × List UInt8)
  | n, i, [] => if i = 0 then none else some (n, [])
  | n, i, c :: r => if 48 ≤ c.toNat ∧ c.toNat ≤ 57 then (if 0 < i ∧ n = 0 then none else if lim < n * 10 + (c.toNat - 48) then none else rdN lim (n * 10 + (c.toNat - 48)) (i + 1) r) else (if i = 0 then none else some (n, c :: r))
def cvN : Option (Nat × List UInt8) → Int × List UInt8 × Bool
  | some p => ((p.1 : Int), p.2, true)
  | none => (0, [], false)
theorem readNatural_eq {x : List UInt8} {lim : Nat} (hl : lim ≤ 1000000000) (hx : x.length ≤ 1000000000) : sh_impl_readNatural x (lim : Int) = some (cvN (rdN lim 0 0 x)) := by
  unfold sh_impl_readNatural
  simp only [jn]
  refine (loopF_eq (I := fun s : Int × Int => ∃ n i : Nat, s = ((n : Int), (i : Int)) ∧ n ≤ lim ∧ i ≤ x.length) (mu := fun s => x.length - s.2.toNat)
    (F := fun s => some (cvN (rdN lim s.1.toNat s.2.toNat (x.drop s.2.toNat)))) ?_ FUEL (0, 0) ⟨0, 0, rfl, by omega, by omega⟩ (FUEL_big (by simp; omega))).trans (by simp)
  rintro s next ⟨n, i, rfl, h1, h2⟩ hnx
  simp only [Int.toNat_natCast]
  have fin : ∀ {r : List UInt8}, x.drop i = r → (if decide ((i : Int) = (0 : Int)) = true then some ((0 : Int), ([] : List UInt8), false) else ck (0 ≤ (i : Int) ∧ i ≤ x.length ∧ x.length ≤ x.length) <| some ((n : Int), ((x.take x.length).drop i), true)) = some (cvN (if i = 0 then none else some (n, r))) := by
    intro r hr
    by_cases h0 : i = 0
    · simp [h0, cvN]
    · rw [if_neg (by simpa using h0), if_neg h0, ck_pos ⟨by omega, by omega, by omega⟩, List.take_length, hr]; rfl
  by_cases hi : i < x.length
  · have hc := (x[i]).toNat_lt
    have hdr := List.drop_eq_getElem_cons hi
    simp only [lt_dec hi, if_true]
    rw [getO_nat hi, hdr]
    simp only [rdN]
    by_cases c1 : 48 ≤ x[i].toNat
    · by_cases c2 : x[i].toNat ≤ 57
      · have d1 : decide ((48 : Int) ≤ ((x[i].toNat : Nat) : Int)) = true := by simp; omega
        have d2 : decide (((x[i].toNat : Nat) : Int) ≤ (57 : Int)) = true := by simp; omega
        simp only [d1, d2, if_true]
        rw [if_pos (⟨c1, c2⟩ : 48 ≤ x[i].toNat ∧ x[i].toNat ≤ 57)]
        have e8 : ((x[i].toNat : Nat) : Int) - 48 = ((x[i].toNat - 48 : Nat) : Int) := by omega
        have tail : ¬ (0 < i ∧ n = 0) → (ckI ((n : Int) * (10 : Int)) <| ckU (((x[i].toNat : Nat) : Int) - (48 : Int)) <| ckI (((x[i].toNat : Nat) : Int) - (48 : Int)) <| ckI (((n : Int) * (10 : Int)) + (((x[i].toNat : Nat) : Int) - (48 : Int))) <|
            (if (decide ((lim : Int) < (((n : Int) * (10 : Int)) + (((x[i].toNat : Nat) : Int) - (48 : Int))))) = true then some ((0 : Int), ([] : List UInt8), false) else ckI ((i : Int) + (1 : Int)) <| next ((((n : Int) * (10 : Int)) + (((x[i].toNat : Nat) : Int) - (48 : Int))), ((i : Int) + (1 : Int)))))
            = some (cvN (if 0 < i ∧ n = 0 then none else if lim < n * 10 + (x[i].toNat - 48) then none else rdN lim (n * 10 + (x[i].toNat - 48)) (i + 1) (x.drop (i + 1)))) := by
          intro hno
          rw [if_neg hno, ckI_pos (by omega) (by omega), ckU_pos (by omega) (by omega), ckI_pos (by omega) (by omega), ckI_pos (by omega) (by omega)]
          by_cases c3 : lim < n * 10 + (x[i].toNat - 48)
          · have d5 : decide ((lim : Int) < (((n : Int) * (10 : Int)) + (((x[i].toNat : Nat) : Int) - (48 : Int)))) = true := by simp; omega
            simp only [d5, if_true]
            rw [if_pos c3]; rfl
          · have d5 : decide ((lim : Int) < (((n : Int) * (10 : Int)) + (((x[i].toNat : Nat) : Int) - (48 : Int)))) = false := by simp; omega
            simp only [d5, Bool.false_eq_true, if_false]
            rw [if_neg c3, ckI_succ (by omega), ← cast_succ, show ((n : Int) * 10 + (((x[i].toNat : Nat) : Int) - 48)) = ((n * 10 + (x[i].toNat - 48) : Nat) : Int) by omega,
              hnx _ ⟨n * 10 + (x[i].toNat - 48), i + 1, rfl, by omega, by omega⟩ (by simp only [Int.toNat_natCast]; omega)]
            simp only [Int.toNat_natCast]
        by_cases c4 : 0 < i
        · have d3 : decide ((0 : Int) < (i : Int)) = true := by simp; omega
          simp only [d3, if_true]
          by_cases c5 : n = 0
          · have d4 : decide ((n : Int) = (0 : Int)) = true := by simp; omega
            simp only [d4, if_true]
            rw [if_pos (⟨c4, c5⟩ : 0 < i ∧ n = 0)]; rfl
          · have d4 : decide ((n : Int) = (0 : Int)) = false := by simp; omega
            simp only [d4, Bool.false_eq_true, if_false]
            exact tail (fun h => c5 h.2)
        · have d3 : decide ((0 : Int) < (i : Int)) = false := by simp; omega
          simp only [d3, Bool.false_eq_true, if_false]
          exact tail (fun h => c4 h.1)
      · have d1 : decide ((48 : Int) ≤ ((x[i].toNat : Nat) : Int)) = true := by simp; omega
        have d2 : decide (((x[i].toNat : Nat) : Int) ≤ (57 : Int)) = false := by simp; omega
        simp only [d1, d2, if_true, Bool.false_eq_true, if_false]
        rw [if_neg (show ¬ (48 ≤ x[i].toNat ∧ x[i].toNat ≤ 57) from fun h => c2 h.2)]
        exact fin hdr
    · have d1 : decide ((48 : Int) ≤ ((x[i].toNat : Nat) : Int)) = false := by simp; omega
      simp only [d1, Bool.false_eq_true, if_false]
      rw [if_neg (show ¬ (48 ≤ x[i].toNat ∧ x[i].toNat ≤ 57) from fun h => c1 h.1)]
      exact fin hdr
  · have e : i = x.length := by omega
    have hdr : x.drop i = [] := List.drop_of_length_le (by omega)
    have d1 : decide ((i : Int) < (x.length : Int)) = false := by simp; omega
    simp only [d1, Bool.false_eq_true, if_false]
    rw [hdr]
    simp only [rdN]
    exact fin hdr
end AS
namespace AS
section
variable {R σ α β : Type}
/-- Some elements of a list, each with what is made of it. -/
def selF (c : Nat → α → Bool) (f : Nat → α → β) : List α → Nat → List β
  | [], _ => []
  | x :: l, k => if c k x = true then f k x :: selF c f l (k + 1) else selF c f l (k + 1)
theorem selF_len (c : Nat → α → Bool) (f : Nat → α → β) : ∀ (l : List α) (k : Nat), (selF c f l k).length ≤ l.length
  | [], _ => Nat.le_refl _
  | x :: l, k => by
    simp only [selF]
    have := selF_len c f l (k + 1)
    split <;> simp <;> omega
theorem selF_mem {c : Nat → α → Bool} {f : Nat → α → β} : ∀ {l : List α} {k : Nat} {y : β}, y ∈ selF c f l k → ∃ j x, l[j]? = some x ∧ c (k + j) x = true ∧ y = f (k + j) x
  | [], _, _, h => by simp [selF] at h
  | x :: l, k, y, h => by
    simp only [selF] at h
    have rec' : y ∈ selF c f l (k + 1) → ∃ j x', (x :: l)[j]? = some x' ∧ c (k + j) x' = true ∧ y = f (k + j) x' := fun h => by
      obtain ⟨j, x', h1, h2, h3⟩ := selF_mem h
      rw [show k + 1 + j = k + (j + 1) by omega] at h2 h3
      exact ⟨j + 1, x', by simpa using h1, h2, h3⟩
    split at h
    · rename_i hc
      rcases List.mem_cons.1 h with rfl | h
      · exact ⟨0, x, rfl, hc, rfl⟩
      · exact rec' h
    · exact rec' h
theorem mem_selF {c : Nat → α → Bool} {f : Nat → α → β} : ∀ {l : List α} {k j : Nat} {x : α}, l[j]? = some x → c (k + j) x = true → f (k + j) x ∈ selF c f l k
  | [], _, _, _, h, _ => by simp at h
  | y :: l, k, 0, x, h, hc => by
    simp only [List.getElem?_cons_zero, Option.some.injEq] at h
    subst h
    simp only [selF, Nat.add_zero] at hc ⊢
    rw [if_pos hc]; exact List.mem_cons_self
  | y :: l, k, j + 1, x, h, hc => by
    have := mem_selF (c := c) (f := f) (l := l) (k := k + 1) (j := j) (x := x) (by simpa using h) (by rw [show k + 1 + j = k + (j + 1) by omega]; exact hc)
    rw [show k + 1 + j = k + (j + 1) by omega] at this
    simp only [selF]
    split
    · exact List.mem_cons_of_mem _ this
    · exact this
theorem range_sel {body : Nat → α → List β → (List β → Option R) → Option R} {fin : List β → Option R} {l : List α} {init : List β} (c : Nat → α → Bool) (f : Nat → α → β)
    (hs : ∀ x k s next, l[k]? = some x → s.length ≤ init.length + k → body k x s next = next (if c k x = true then s ++ [f k x] else s)) : rangeF body fin l 0 init = fin (init ++ selF c f l 0) := by
  refine (range_mem (I := fun k s => s.length ≤ init.length + k) (G := fun l' k s => fin (s ++ selF c f l' k)) ?_ ?_ init (by omega))
  · intro k s _ _; simp [selF]
  · intro x l' k s next hx _ hI hn
    rw [hs x k s next hx hI]
    by_cases h : c k x = true
    · simp only [h, if_true, selF]
      rw [hn _ (by simp; omega)]; simp
    · simp only [h, Bool.false_eq_true, if_false, selF]
      exact hn _ (by omega)
/-- Is there an element? -/
def anyF (c : Nat → α → Bool) : List α → Nat → Bool
  | [], _ => false
  | x :: l, k => c k x || anyF c l (k + 1)
theorem anyF_iff {c : Nat → α → Bool} : ∀ {l : List α} {k : Nat}, anyF c l k = true ↔ ∃ j x, l[j]? = some x ∧ c (k + j) x = true
  | [], k => by simp [anyF]
  | x :: l, k => by
    simp only [anyF, Bool.or_eq_true, anyF_iff (l := l)]
    constructor
    · rintro (h | ⟨j, y, h1, h2⟩)
      · exact ⟨0, x, rfl, h⟩
      · exact ⟨j + 1, y, by simpa using h1, by rw [show k + (j + 1) = k + 1 + j by omega]; exact h2⟩
    · rintro ⟨j, y, h1, h2⟩
      cases j with
      | zero => simp only [List.getElem?_cons_zero, Option.some.injEq] at h1; subst h1; exact .inl h2
      | succ j => exact .inr ⟨j, y, by simpa using h1, by rw [show k + 1 + j = k + (j + 1) by omega]; exact h2⟩
theorem range_any {body : Nat → α → Unit → (Unit → Option R) → Option R} {fin : Unit → Option R} {l : List α} (c : Nat → α → Bool) (r : Option R)
    (hs : ∀ x k next, l[k]? = some x → body k x () next = (if c k x = true then r else next ())) : rangeF body fin l 0 () = (if anyF c l 0 = true then r else fin ()) := by
  refine (range_mem (I := fun _ _ => True) (G := fun l' k _ => if anyF c l' k = true then r else fin ()) ?_ ?_ () trivial)
  · intro k s _ _; simp [anyF]
  · intro x l' k s next hx _ _ hn
    rw [hs x k next hx]
    by_cases h : c k x = true
    · simp [h, anyF]
    · have h' : c k x = false := by simpa using h
      simp only [h', anyF, Bool.false_or, Bool.false_eq_true, if_false]; exact hn _ trivial
/-- A loop with all answers known: it adds up. -/
def foldF (f : Nat → α → σ → σ) : List α → Nat → σ → σ
  | [], _, s => s
  | x :: l, k, s => foldF f l (k + 1) (f k x s)
theorem range_fold {body : Nat → α → σ → (σ → Option R) → Option R} {fin : σ → Option R} {l : List α} {init : σ} (I : Nat → σ → Prop) (f : Nat → α → σ → σ) (h0 : I 0 init)
    (hI : ∀ x k s, l[k]? = some x → I k s → I (k + 1) (f k x s)) (hs : ∀ x k s next, l[k]? = some x → I k s → body k x s next = next (f k x s)) : rangeF body fin l 0 init = fin (foldF f l 0 init) := by
  refine (range_mem (I := I) (G := fun l' k s => fin (foldF f l' k s)) ?_ ?_ init h0)
  · intro k s _ _; rfl
  · intro x l' k s next hx _ hi hn
    rw [hs x k s next hx hi]
    exact hn _ (hI x k s hx hi)
end
end AS
namespace AS
/-! ### MarginOf -/
def risB (n : Int) : Int → List Int → Bool
  | _, [] => true
  | a, x :: l => decide (a < x) && (decide (x < n) && risB n x l)
theorem l1Rising_big (l : List Int) (n : Int) (hl : l.length ≤ 1125899906842624) : sh_spec_l1Rising l 0 (n - 1) = some (risB n (-1) l) := by
  unfold sh_spec_l1Rising
  refine (range_mem (I := fun k _ => ∀ j, j + 1 = k → ∃ x, l[j]? = some x ∧ 0 ≤ x) (G := fun l' k _ => some (risB n (if k = 0 then -1 else l.getD (k - 1) 0) l')) ?_ ?_ () (fun j hj => by omega)).trans (by simp)
  · intro k u _ _; simp [risB]
  · intro x l' k u next hx _ hI hn
    have hk := (List.getElem?_eq_some_iff.1 hx).1
    rw [l1In_eq, Option.bind_some]
    by_cases h0 : 0 ≤ x ∧ x ≤ n - 1
    · simp only [show decide (0 ≤ x) = true by simp [h0.1], show decide (x ≤ n - 1) = true by simp [h0.2], Bool.and_self, Bool.not_true, Bool.false_eq_true, if_false, risB, show decide (x < n) = true by (simp; omega), Bool.true_and]
      have hn' := hn () (fun j hj => ⟨x, by rw [show j = k by omega]; exact hx, h0.1⟩)
      have hgx : l.getD k 0 = x := by simp [List.getD_eq_getElem?_getD, hx]
      simp only [show ¬ (k + 1 = 0) by omega, if_false, Nat.add_sub_cancel, hgx] at hn'
      by_cases hk0 : k = 0
      · subst hk0
        simp only [show ¬ ((0 : Int) < ((0 : Nat) : Int)) by omega, decide_false, Bool.false_eq_true, if_false, if_true, show decide (-1 < x) = true by (simp; omega), Bool.true_and]
        exact hn'
      · obtain ⟨y, hy, hy0⟩ := hI (k - 1) (by omega)
        have hgy : l.getD (k - 1) 0 = y := by simp [List.getD_eq_getElem?_getD, hy]
        simp only [show ((0 : Int) < (k : Int)) by omega, decide_true, if_true, hk0, if_false, hgy]
        rw [ckI_pos (by omega) (by omega), getO_int (k := k - 1) (by omega) hy]
        by_cases h1 : x ≤ y
        · simp [h1, show ¬ (y < x) by omega]
        · simp only [h1, decide_false, Bool.false_eq_true, if_false, show decide (y < x) = true by (simp; omega), Bool.true_and]
          exact hn'
    · have e : (decide (0 ≤ x) && decide (x ≤ n - 1)) = false := by simp only [Bool.and_eq_false_iff, decide_eq_false_iff_not]; omega
      simp only [e, Bool.not_false, if_true, risB, Option.some.injEq]
      by_cases h1 : x < n
      · have : ¬ 0 ≤ x := by omega
        have hlast : ¬ ((if k = 0 then (-1 : Int) else l.getD (k - 1) 0) < x) := by
          by_cases hk0 : k = 0
          · simp only [hk0, if_true]; omega
          · obtain ⟨y, hy, hy0⟩ := hI (k - 1) (by omega)
            have hgy : l.getD (k - 1) 0 = y := by simp [List.getD_eq_getElem?_getD, hy]
            simp only [hk0, if_false, hgy]; omega
        simp only [hlast, decide_false, Bool.false_and]
      · simp only [h1, decide_false, Bool.false_and, Bool.and_false]
end AS
namespace AS
def upB (k : Nat) (x : Int) : Bool := decide (k = 0) || (decide (0 ≤ x) && decide (x < (k : Int)))
def geoB (g : XGeo) : Bool := decide (1 ≤ g.Parents.length) && (decide (g.Parents.length ≤ 30) && (decide (g.Parents[0]? = some (-1)) && !anyF (fun k x => !upB k x) g.Parents 0))
structure GeoOk (p : List Int) : Prop where
  n1 : 1 ≤ p.length
  n2 : p.length ≤ 30
  z : p[0]? = some (-1)
  up : ∀ (k : Nat) (x : Int), 0 < k → p[k]? = some x → 0 ≤ x ∧ x < k
theorem geoB_ok {g : XGeo} (h : geoB g = true) : GeoOk g.Parents := by
  simp only [geoB, Bool.and_eq_true, decide_eq_true_eq, Bool.not_eq_true'] at h
  obtain ⟨h1, h2, h3, h4⟩ := h
  refine ⟨h1, h2, h3, fun k x hk hx => ?_⟩
  cases hc : upB k x with
  | true =>
    simp only [upB, Bool.or_eq_true, Bool.and_eq_true, decide_eq_true_eq] at hc
    omega
  | false =>
    have : anyF (fun k x => !upB k x) g.Parents 0 = true := anyF_iff.2 ⟨k, x, hx, by simp [hc]⟩
    rw [h4] at this; cases this
theorem gGood_eq (g : XGeo) : sh_spec_gGood g = some (geoB g) := by
  unfold sh_spec_gGood
  rw [l1In_eq, Option.bind_some]
  have e1 : decide ((1 : Int) ≤ (g.Parents.length : Int)) = decide (1 ≤ g.Parents.length) := by congr 1; apply propext; omega
  have e2 : decide ((g.Parents.length : Int) ≤ 30) = decide (g.Parents.length ≤ 30) := by congr 1; apply propext; omega
  rw [e1, e2]
  unfold geoB
  cases h1 : decide (1 ≤ g.Parents.length) with
  | false => simp
  | true =>
    cases h2 : decide (g.Parents.length ≤ 30) with
    | false => simp
    | true =>
      simp only [decide_eq_true_eq] at h1 h2
      have hx := List.getElem?_eq_getElem (show 0 < g.Parents.length by omega)
      simp only [Bool.and_self, Bool.not_true, Bool.false_eq_true, if_false, Bool.true_and]
      rw [getO_int (i := 0) (k := 0) rfl hx]
      by_cases hz : g.Parents[0] = -1
      · simp only [hz, ne_eq, not_true_eq_false, decide_false, Bool.false_eq_true, if_false]
        rw [hx, hz]
        refine (range_any (c := fun k x => !upB k x) (some false) ?_).trans ?_
        · intro x k next hxk
          by_cases hk : k = 0
          · subst hk; simp [upB]
          · simp only [show ((0 : Int) < (k : Int)) by omega, decide_true, if_true]
            rw [ckI_pos (by have := (List.getElem?_eq_some_iff.1 hxk).1; omega) (by have := (List.getElem?_eq_some_iff.1 hxk).1; omega), l1In_eq, Option.bind_some]
            have e : decide (x ≤ (k : Int) - 1) = decide (x < (k : Int)) := by congr 1; apply propext; omega
            rw [e]
            simp only [upB, hk, decide_false, Bool.false_or]
        · cases anyF (fun k x => !upB k x) g.Parents 0 <;> simp
      · simp [hz, hx]
theorem isGeo_eq (g : XGeo) : sh_impl_IsGeo g = some (geoB g) := by
  unfold sh_impl_IsGeo geoB
  by_cases h1 : 1 ≤ g.Parents.length
  · by_cases h2 : g.Parents.length ≤ 30
    · have hx := List.getElem?_eq_getElem (show 0 < g.Parents.length by omega)
      simp only [show ¬ ((g.Parents.length : Int) < 1) by omega, show ¬ ((30 : Int) < (g.Parents.length : Int)) by omega, h1, h2, decide_false, decide_true, Bool.false_eq_true, if_false, Bool.true_and]
      rw [getO_int (i := 0) (k := 0) rfl hx]
      by_cases hz : g.Parents[0] = -1
      · simp only [hz, ne_eq, not_true_eq_false, decide_false, Bool.false_eq_true, if_false]
        rw [hx, hz]
        have key := loop_up (body := fun (nx : Int → Option Bool) (s : Int) => (if (decide (s < (g.Parents.length : Int))) = true then
            getO g.Parents s fun x => (if (decide (x < (0 : Int))) = true then some false else (if (decide (s ≤ x)) = true then some false else ckI (s + (1 : Int)) <| nx (s + (1 : Int))))
            else some true)) (g.Parents.length - 1) (fun k => ((k + 1 : Nat) : Int)) (fun k => some (!anyF (fun k x => !upB k x) (g.Parents.drop (k + 1)) (k + 1))) (by omega) (by
          intro next k hk hn
          have hk' : k + 1 < g.Parents.length := by omega
          simp only [lt_dec hk', if_true]
          rw [getO_nat hk', List.drop_eq_getElem_cons hk']
          simp only [anyF]
          by_cases c1 : g.Parents[k + 1] < 0
          · simp [c1, upB, show ¬ (0 ≤ g.Parents[k + 1]) by omega]
          · by_cases c2 : ((k + 1 : Nat) : Int) ≤ g.Parents[k + 1]
            · have : upB (k + 1) g.Parents[k + 1] = false := by
                simp only [upB, Bool.or_eq_false_iff, Bool.and_eq_false_iff, decide_eq_false_iff_not]; omega
              simp only [c1, c2, decide_false, decide_true, Bool.false_eq_true, if_false, if_true, this, Bool.not_false, Bool.true_or, Bool.not_true]
            · have : upB (k + 1) g.Parents[k + 1] = true := by
                simp only [upB, Bool.or_eq_true, Bool.and_eq_true, decide_eq_true_eq]; omega
              simp only [c1, c2, decide_false, Bool.false_eq_true, if_false, this, Bool.not_true, Bool.false_or]
              rw [ckI_succ (by omega)]
              exact hn) (by
          intro next
          have e : g.Parents.length - 1 + 1 = g.Parents.length := by omega
          rw [e]
          simp only [lt_self, Bool.false_eq_true, if_false, List.drop_length, anyF, Bool.not_false])
        have e0 : anyF (fun k x => !upB k x) g.Parents 0 = anyF (fun k x => !upB k x) (g.Parents.drop 1) 1 := by
          rw [← List.drop_zero (l := g.Parents), List.drop_eq_getElem_cons (show 0 < g.Parents.length by omega)]
          simp [anyF, upB]
        rw [e0]
        exact key
      · simp [hz, hx]
    · simp [h2, show ((30 : Int) < (g.Parents.length : Int)) by omega, show ¬ ((g.Parents.length : Int) < 1) by omega]
  · simp [h1, show ((g.Parents.length : Int) < 1) by omega]
/-! ### Depths -/
def par (p : List Int) (i : Nat) : Nat := (p.getD i 0).toNat
def depF (p : List Int) : Nat → Nat → Nat
  | 0, _ => 0
  | _ + 1, 0 => 0
  | f + 1, i + 1 => depF p f (par p (i + 1)) + 1
def dep (p : List Int) (i : Nat) : Nat := depF p i i
theorem GeoOk.par {p : List Int} (h : GeoOk p) {i : Nat} (h0 : 0 < i) (hi : i < p.length) : p[i]? = some ((par p i : Nat) : Int) ∧ AS.par p i < i := by
  have hx := List.getElem?_eq_getElem hi
  have := h.up i _ h0 hx
  have e : AS.par p i = (p[i]).toNat := by simp [AS.par, List.getD_eq_getElem?_getD, hx]
  rw [hx, e]
  exact ⟨by congr 1; omega, by omega⟩
theorem depF_eq {p : List Int} (h : GeoOk p) : ∀ (i f : Nat), i ≤ f → i < p.length → depF p f i = dep p i := by
  intro i
  induction i using Nat.strongRecOn with
  | _ i ih =>
    intro f hf hi
    cases i with
    | zero => cases f <;> rfl
    | succ i =>
      obtain ⟨f, rfl⟩ := Nat.exists_eq_succ_of_ne_zero (by omega : f ≠ 0)
      have hp : par p (i + 1) < i + 1 := (h.par (Nat.succ_pos i) hi).2
      simp only [dep, depF]
      rw [ih _ hp f (by omega) (by omega), ih _ hp i (by omega) (by omega)]
theorem dep_zero (p : List Int) : dep p 0 = 0 := rfl
theorem dep_step {p : List Int} (h : GeoOk p) {i : Nat} (h0 : 0 < i) (hi : i < p.length) : dep p i = dep p (par p i) + 1 := by
  obtain ⟨i, rfl⟩ := Nat.exists_eq_succ_of_ne_zero (by omega : i ≠ 0)
  have hp : par p (i + 1) < i + 1 := (h.par h0 hi).2
  have hi : i + 1 < p.length := hi
  show depF p i (par p (i + 1)) + 1 = _
  rw [depF_eq h _ i (by omega) (by omega)]
theorem dep_le {p : List Int} (h : GeoOk p) : ∀ (i : Nat), i < p.length → dep p i ≤ i := by
  intro i
  induction i using Nat.strongRecOn with
  | _ i ih =>
    intro hi
    by_cases h0 : i = 0
    · subst h0; exact Nat.le_refl _
    · rw [dep_step h (by omega) hi]
      have hp := (h.par (show 0 < i by omega) hi).2
      have := ih _ hp (by omega)
      omega
theorem gDepth_eq {g : XGeo} (h : GeoOk g.Parents) {i : Nat} (hi : i < g.Parents.length) : sh_spec_gDepth g (i : Int) = some ((dep g.Parents i : Nat) : Int) := by
  unfold sh_spec_gDepth
  refine loopF_eq (I := fun s : Int × Int => ∃ a n : Nat, a < g.Parents.length ∧ s = ((a : Int), (n : Int)) ∧ n + dep g.Parents a = dep g.Parents i) (mu := fun s => s.1.toNat) (F := fun _ => some ((dep g.Parents i : Nat) : Int)) ?_ FUEL _ ⟨i, 0, hi, rfl, by omega⟩ (FUEL_big (by have := h.n2; simp; omega))
  rintro s next ⟨a, n, ha, rfl, hd⟩ hn
  by_cases h0 : a = 0
  · subst h0
    rw [dep_zero] at hd
    rw [getO_some h.z]
    simp only [show ¬ ((0 : Int) ≤ -1) by omega, decide_false, Bool.false_eq_true, if_false]
    rw [← hd]; rfl
  · obtain ⟨hp, hlt⟩ := h.par (show 0 < a by omega) ha
    have hs := dep_step h (show 0 < a by omega) ha
    have hle := dep_le h i hi
    have := h.n2
    rw [getO_some hp]
    simp only [show ((0 : Int) ≤ ((par g.Parents a : Nat) : Int)) by omega, decide_true, if_true]
    rw [ckI_pos (by omega) (by omega)]
    exact hn _ ⟨par g.Parents a, n + 1, by omega, by simp, by omega⟩ (by simp; omega)
theorem depthOf_eq {g : XGeo} (h : GeoOk g.Parents) {i : Nat} (hi : i < g.Parents.length) : sh_impl_depthOf g (i : Int) = some ((dep g.Parents i : Nat) : Int) := by
  unfold sh_impl_depthOf
  refine loopF_eq (I := fun s : Int × Int => ∃ a n : Nat, a < g.Parents.length ∧ s = ((a : Int), (n : Int)) ∧ n + dep g.Parents a = dep g.Parents i) (mu := fun s => s.1.toNat) (F := fun _ => some ((dep g.Parents i : Nat) : Int)) ?_ FUEL _ ⟨i, 0, hi, rfl, by omega⟩ (FUEL_big (by have := h.n2; simp; omega))
  rintro s next ⟨a, n, ha, rfl, hd⟩ hn
  by_cases h0 : a = 0
  · subst h0
    rw [dep_zero] at hd
    simp only [show ¬ ((0 : Int) < ((0 : Nat) : Int)) by omega, decide_false, Bool.false_eq_true, if_false]
    rw [← hd]; rfl
  · obtain ⟨hp, hlt⟩ := h.par (show 0 < a by omega) ha
    have hs := dep_step h (show 0 < a by omega) ha
    have hle := dep_le h i hi
    have := h.n2
    simp only [show ((0 : Int) < (a : Int)) by omega, decide_true, if_true]
    rw [getO_some hp, ckI_pos (by omega) (by omega)]
    exact hn _ ⟨par g.Parents a, n + 1, by omega, by simp, by omega⟩ (by simp; omega)
/-! ### Levels -/
def levL (p : List Int) (L : Int) : List Int := selF (fun k _ => decide (((dep p k : Nat) : Int) = L)) (fun k _ => (k : Int)) p 0
theorem levL_len (p : List Int) (L : Int) : (levL p L).length ≤ p.length := selF_len _ _ _ _
theorem levL_mem {p : List Int} {L x : Int} : x ∈ levL p L ↔ ∃ i, i < p.length ∧ x = (i : Int) ∧ ((dep p i : Nat) : Int) = L := by
  constructor
  · intro h
    obtain ⟨j, y, h1, h2, h3⟩ := selF_mem h
    simp only [Nat.zero_add, decide_eq_true_eq] at h2 h3
    exact ⟨j, (List.getElem?_eq_some_iff.1 h1).1, h3, h2⟩
  · rintro ⟨i, hi, rfl, h⟩
    have := mem_selF (c := fun k (_ : Int) => decide (((dep p k : Nat) : Int) = L)) (f := fun k (_ : Int) => (k : Int)) (k := 0) (List.getElem?_eq_getElem hi) (by simpa using h)
    simpa [levL] using this
theorem gLevel_eq {g : XGeo} (h : GeoOk g.Parents) (L : Int) : sh_spec_gLevel g L = some (levL g.Parents L) := by
  unfold sh_spec_gLevel
  refine (range_sel (c := fun k _ => decide (((dep g.Parents k : Nat) : Int) = L)) (f := fun k _ => (k : Int)) ?_).trans (by simp [levL])
  intro x k s next hx hs
  have hk := (List.getElem?_eq_some_iff.1 hx).1
  have := h.n2
  simp only [List.length_nil, Nat.zero_add] at hs
  rw [gDepth_eq h hk, Option.bind_some]
  by_cases hL : ((dep g.Parents k : Nat) : Int) = L
  · simp only [hL, decide_true, if_true]
    rw [lnO_pos (by simp; omega)]
  · simp only [hL, decide_false, Bool.false_eq_true, if_false]
theorem areasAt_eq {g : XGeo} (h : GeoOk g.Parents) (L : Int) : sh_impl_areasAt g L = some (levL g.Parents L) := by
  unfold sh_impl_areasAt
  refine (range_sel (c := fun k _ => decide (((dep g.Parents k : Nat) : Int) = L)) (f := fun k _ => (k : Int)) ?_).trans (by simp [levL])
  intro x k s next hx hs
  have hk := (List.getElem?_eq_some_iff.1 hx).1
  have := h.n2
  simp only [List.length_nil, Nat.zero_add] at hs
  rw [depthOf_eq h hk, Option.bind_some]
  by_cases hL : ((dep g.Parents k : Nat) : Int) = L
  · simp only [hL, decide_true, if_true]
    rw [lnO_pos (by simp; omega)]
  · simp only [hL, decide_false, Bool.false_eq_true, if_false]
/-! ### Leaves -/
/-! ### Ancestors -/
end AS
namespace AS
theorem ckK_u64 {R : Type} {n : Int} {f : Option R} (h0 : 0 ≤ n) (h1 : n ≤ 18446744073709551615) : ckK .u64 n f = f := if_pos ⟨h0, h1⟩
theorem getD_get {α : Type} {l : List α} {k : Nat} {d : α} (h : k < l.length) : l.getD k d = l[k] := by simp [List.getD_eq_getElem?_getD, h]
theorem getD_some {α : Type} {l : List α} {k : Nat} {d x : α} (h : l[k]? = some x) : l.getD k d = x := by simp [List.getD_eq_getElem?_getD, h]
theorem anyF_swap {α β : Type} {P : α → β → Bool} {s : List α} {w : List β} {d : β} {d' : α} (h : w.length = s.length) : anyF (fun k v => P v (w.getD k d)) s 0 = anyF (fun k x => P (s.getD k d') x) w 0 := by
  rw [Bool.eq_iff_iff, anyF_iff, anyF_iff]
  constructor
  · rintro ⟨j, v, h1, h2⟩
    have hj := (List.getElem?_eq_some_iff.1 h1).1
    refine ⟨j, w[j]'(by omega), List.getElem?_eq_getElem _, ?_⟩
    simp only [Nat.zero_add] at h2 ⊢
    rw [getD_get (by omega)] at h2
    rw [getD_some h1]; exact h2
  · rintro ⟨j, x, h1, h2⟩
    have hj := (List.getElem?_eq_some_iff.1 h1).1
    refine ⟨j, s[j]'(by omega), List.getElem?_eq_getElem _, ?_⟩
    simp only [Nat.zero_add] at h2 ⊢
    rw [getD_get (by omega)] at h2
    rw [getD_some h1]; exact h2
theorem not_anyF {α : Type} {c : Nat → α → Bool} {l : List α} (h : (!anyF c l 0) = true) {k : Nat} {x : α} (hx : l[k]? = some x) : c k x = false := by
  cases hc : c k x with
  | false => rfl
  | true =>
    have : anyF c l 0 = true := anyF_iff.2 ⟨k, x, hx, by simpa using hc⟩
    rw [this] at h; cases h
theorem if_not {b : Bool} : (if b = true then some false else some true) = some (!b) := by cases b <;> rfl
/-! ### Sets of levels -/
def full (v : XVariable) : Int := 2 ^ v.Levels.toNat - 1
theorem pow_bd {v : XVariable} (h : 2 ≤ v.Levels ∧ v.Levels ≤ 8) : (4 : Int) ≤ 2 ^ v.Levels.toNat ∧ (2 : Int) ^ v.Levels.toNat ≤ 256 := by
  have : v.Levels.toNat = 2 ∨ v.Levels.toNat = 3 ∨ v.Levels.toNat = 4 ∨ v.Levels.toNat = 5 ∨ v.Levels.toNat = 6 ∨ v.Levels.toNat = 7 ∨ v.Levels.toNat = 8 := by omega
  rcases this with h | h | h | h | h | h | h <;> rw [h] <;> decide
theorem full_bd {v : XVariable} (h : 2 ≤ v.Levels ∧ v.Levels ≤ 8) : 3 ≤ full v ∧ full v ≤ 255 := by
  have := pow_bd h; unfold full; omega
theorem fullSet_eq {v : XVariable} (h : 2 ≤ v.Levels ∧ v.Levels ≤ 8) : sh_impl_fullSet v = some (full v) := by
  unfold sh_impl_fullSet
  have := pow_bd h
  simp only [Int.one_mul]
  rw [ck_pos (by omega), ckI_pos (by omega) (by omega), ckI_pos (by omega) (by omega)]; rfl
def whB (s : List XVariable) (w : List Int) : Bool := decide (w.length = s.length) && !anyF (fun k x => !(decide (0 ≤ x) && decide (x ≤ full (s.getD k default)))) w 0
theorem whB_len {s : List XVariable} {w : List Int} (h : whB s w = true) : w.length = s.length := by
  simp only [whB, Bool.and_eq_true, decide_eq_true_eq] at h; exact h.1
theorem whB_get {s : List XVariable} {w : List Int} (h : whB s w = true) {k : Nat} {x : Int} (hx : w[k]? = some x) : ∃ v, s[k]? = some v ∧ 0 ≤ x ∧ x ≤ full v := by
  have hl := whB_len h
  simp only [whB, Bool.and_eq_true, decide_eq_true_eq] at h
  have hk := (List.getElem?_eq_some_iff.1 hx).1
  have := not_anyF h.2 hx
  simp only [Bool.not_eq_false', Bool.and_eq_true, decide_eq_true_eq] at this
  rw [getD_get (show k < s.length by omega)] at this
  exact ⟨_, List.getElem?_eq_getElem (by omega), this⟩
theorem uWhere_eq {s : List XVariable} {w : List Int} (hs : schB s = true) : sh_spec_uWhere s w = some (whB s w) := by
  unfold sh_spec_uWhere whB
  by_cases h : w.length = s.length
  · simp only [h, ne_eq, not_true_eq_false, decide_false, Bool.false_eq_true, if_false, decide_true, Bool.true_and]
    refine (range_any (c := fun k v => !(decide (0 ≤ w.getD k 0) && decide (w.getD k 0 ≤ full v))) (some false) ?_).trans ?_
    · intro v k next hx
      have hk := (List.getElem?_eq_some_iff.1 hx).1
      have hb := pow_bd (schB_lev hs (List.mem_of_getElem? hx))
      have hl := schB_lev hs (List.mem_of_getElem? hx)
      simp only [Int.one_mul]
      rw [getO_nat (show k < w.length by omega), ckK_u64 (by omega) (by omega), ck_pos (by omega), ckI_pos (by omega) (by omega), ckI_pos (by omega) (by omega), l1In_eq, Option.bind_some, getD_get (show k < w.length by omega)]
      rfl
    · rw [anyF_swap (P := fun v x => !(decide (0 ≤ x) && decide (x ≤ full v))) (d' := default) h]; exact if_not
  · simp [h, show ¬ ((w.length : Int) = (s.length : Int)) by omega]
theorem isWhere_eq {s : List XVariable} {w : List Int} (hs : schB s = true) : sh_impl_isWhere s w = some (whB s w) := by
  unfold sh_impl_isWhere whB
  by_cases h : w.length = s.length
  · simp only [h, ne_eq, not_true_eq_false, decide_false, Bool.false_eq_true, if_false, decide_true, Bool.true_and]
    refine (range_any (c := fun k x => !(decide (0 ≤ x) && decide (x ≤ full (s.getD k default)))) (some false) ?_).trans (show (if anyF _ _ 0 = true then some false else some true) = _ from if_not)
    intro x k next hx
    have hk := (List.getElem?_eq_some_iff.1 hx).1
    have hks : k < s.length := by omega
    have hl := schB_lev hs (List.getElem_mem hks)
    rw [getO_nat hks, fullSet_eq hl, Option.bind_some, getD_get hks]
    by_cases h1 : x < 0
    · simp [h1, show ¬ (0 ≤ x) by omega]
    · by_cases h2 : full s[k] < x
      · simp [h1, h2, show ¬ (x ≤ full s[k]) by omega]
      · simp [h1, h2, show (0 ≤ x) by omega, show x ≤ full s[k] by omega]
  · simp [h, show ¬ ((w.length : Int) = (s.length : Int)) by omega]
/-! ### Records and conditions -/
/-! ### Variables of a table -/
theorem risB_rng {n : Int} : ∀ {l : List Int} {a : Int}, risB n a l = true → ∀ d ∈ l, a < d ∧ d < n
  | [], _, _, d, hd => by simp at hd
  | x :: l, a, h, d, hd => by
    simp only [risB, Bool.and_eq_true, decide_eq_true_eq] at h
    rcases List.mem_cons.1 hd with rfl | hd
    · exact ⟨h.1, h.2.1⟩
    · have := risB_rng h.2.2 d hd; omega
theorem risB_len {n : Int} : ∀ {l : List Int} {a : Int}, a < n → risB n a l = true → (l.length : Int) ≤ n - 1 - a
  | [], _, ha, _ => by simp; omega
  | x :: l, a, _, h => by
    simp only [risB, Bool.and_eq_true, decide_eq_true_eq] at h
    have := risB_len (a := x) h.2.1 h.2.2
    simp only [List.length_cons]; omega
theorem areVars_eq (s : List XVariable) (l : List Int) : sh_impl_areVars s l = some (risB s.length (-1) l) := by
  unfold sh_impl_areVars
  refine range_mem (I := fun _ _ => True) (G := fun l _ a => some (risB s.length a l)) (fun _ _ _ _ => rfl) ?_ (-1) trivial
  intro x l' k a next _ _ _ hn
  simp only [risB]
  by_cases h1 : x ≤ a
  · simp [h1, show ¬ (a < x) by omega]
  · by_cases h2 : (s.length : Int) ≤ x
    · simp [h1, h2, show ¬ (x < (s.length : Int)) by omega]
    · simp only [h1, h2, decide_false, Bool.false_eq_true, if_false, show decide (a < x) = true by (simp; omega), show decide (x < (s.length : Int)) = true by (simp; omega), Bool.true_and]
      exact hn _ trivial
def partV (s : List XVariable) (l : List Int) : List XVariable := l.map fun v => s.getD v.toNat default
theorem partV_len (s : List XVariable) (l : List Int) : (partV s l).length = l.length := by simp [partV]
theorem selF_map {α β : Type} (f : α → β) : ∀ (l : List α) (k : Nat), selF (fun _ _ => true) (fun _ x => f x) l k = l.map f
  | [], _ => rfl
  | x :: l, k => by simp only [selF, if_true, List.map_cons, selF_map f l]
theorem sPart_eq {s : List XVariable} {l : List Int} (h : ∀ d ∈ l, 0 ≤ d ∧ d < (s.length : Int)) (hl : l.length ≤ 1099511627776) : sh_spec_sPart s l = some (partV s l) := by
  unfold sh_spec_sPart
  refine (range_sel (c := fun _ _ => true) (f := fun _ v => s.getD v.toNat default) ?_).trans (by rw [selF_map]; rfl)
  intro x k a next hx ha
  have hk := (List.getElem?_eq_some_iff.1 hx).1
  have hxb := h x (List.mem_of_getElem? hx)
  have hlt : x.toNat < s.length := by omega
  simp only [List.length_nil, Nat.zero_add] at ha
  rw [getO_pos hxb.1 hlt, lnO_pos (by simp; omega), getD_get hlt]
  rfl
theorem crossed_eq {s : List XVariable} {t : XTable} (h : ∀ d ∈ t.Vars, 0 ≤ d ∧ d < (s.length : Int)) (hl : t.Vars.length ≤ 1099511627776) : sh_impl_crossed s t = some (partV s t.Vars) := by
  unfold sh_impl_crossed
  rw [mkO_pos (by omega) (by omega), Int.toNat_natCast]
  have hz : (partV s t.Vars).length = (List.replicate t.Vars.length (⟨([] : List UInt8), (0 : Int)⟩ : XVariable)).length := by simp [partV_len]
  refine range_mem (I := fun k a => a = mixL (partV s t.Vars) (List.replicate t.Vars.length (⟨([] : List UInt8), (0 : Int)⟩ : XVariable)) k) (G := fun _ _ _ => some (partV s t.Vars)) ?_ ?_ _ (mixL_zero _ _).symm
  · intro k a ha hk
    subst ha
    have := mixL_end hz
    rw [partV_len] at this
    rw [hk, this]
  · intro x l' k a next hx _ ha hn
    subst ha
    have hk := (List.getElem?_eq_some_iff.1 hx).1
    have hxb := h x (List.mem_of_getElem? hx)
    have hlt : x.toNat < s.length := by omega
    rw [getO_pos hxb.1 hlt, getO_some (mixL_get hz (by simpa using hk))]
    refine hn _ ?_
    rw [Int.toNat_natCast, ← mixL_set hz (by rw [partV_len]; exact hk)]
    congr 1
    have hxe := (List.getElem?_eq_some_iff.1 hx).2
    simp only [partV, List.getElem_map, hxe, getD_get hlt]
/-! ### How many cells -/
def prodV : List XVariable → Int
  | [] => 1
  | v :: l => v.Levels * prodV l
theorem mul_pow_bd {a x : Int} {k : Nat} (hk : k ≤ 5) (h1 : 1 ≤ a) (h2 : a ≤ 8 ^ k) (h3 : 2 ≤ x) (h4 : x ≤ 8) : 1 ≤ a * x ∧ a * x ≤ 8 ^ (k + 1) ∧ (8 : Int) ^ (k + 1) ≤ 262144 := by
  have a1 : 1 * 1 ≤ a * x := Int.mul_le_mul h1 (by omega) (by omega) (by omega)
  have a2 : a * x ≤ 8 ^ k * 8 := Int.mul_le_mul h2 (by omega) (by omega) (by omega)
  refine ⟨by omega, by rw [Int.pow_succ]; exact a2, ?_⟩
  have : k = 0 ∨ k = 1 ∨ k = 2 ∨ k = 3 ∨ k = 4 ∨ k = 5 := by omega
  rcases this with rfl | rfl | rfl | rfl | rfl | rfl <;> decide
theorem foldF_prod : ∀ (l : List XVariable) (k : Nat) (a : Int), foldF (fun _ v a => a * v.Levels) l k a = a * prodV l
  | [], _, a => by simp [foldF, prodV]
  | v :: l, k, a => by simp only [foldF, prodV, foldF_prod l, Int.mul_assoc]
theorem sCount_eq {l : List XVariable} (hl : l.length ≤ 6) (h : ∀ v ∈ l, 2 ≤ v.Levels ∧ v.Levels ≤ 8) : sh_spec_sCount l = some (prodV l) := by
  unfold sh_spec_sCount
  refine (range_fold (I := fun k a => 1 ≤ a ∧ a ≤ 8 ^ k) (f := fun _ v a => a * v.Levels) (by simp) ?_ ?_).trans (by rw [foldF_prod, Int.one_mul])
  · intro x k a hx hI
    have hk := (List.getElem?_eq_some_iff.1 hx).1
    have := h x (List.mem_of_getElem? hx)
    have := mul_pow_bd (show k ≤ 5 by omega) hI.1 hI.2 this.1 this.2
    exact ⟨this.1, this.2.1⟩
  · intro x k a next hx hI
    have hk := (List.getElem?_eq_some_iff.1 hx).1
    have := h x (List.mem_of_getElem? hx)
    have := mul_pow_bd (show k ≤ 5 by omega) hI.1 hI.2 this.1 this.2
    rw [ckI_pos (by omega) (by omega)]
theorem combinations_eq {l : List XVariable} (hl : l.length ≤ 6) (h : ∀ v ∈ l, 2 ≤ v.Levels ∧ v.Levels ≤ 8) : sh_impl_combinations l = some (prodV l) := by
  unfold sh_impl_combinations
  refine (range_fold (I := fun k a => 1 ≤ a ∧ a ≤ 8 ^ k) (f := fun _ v a => a * v.Levels) (by simp) ?_ ?_).trans (by rw [foldF_prod, Int.one_mul])
  · intro x k a hx hI
    have hk := (List.getElem?_eq_some_iff.1 hx).1
    have := h x (List.mem_of_getElem? hx)
    have := mul_pow_bd (show k ≤ 5 by omega) hI.1 hI.2 this.1 this.2
    exact ⟨this.1, this.2.1⟩
  · intro x k a next hx hI
    have hk := (List.getElem?_eq_some_iff.1 hx).1
    have := h x (List.mem_of_getElem? hx)
    have := mul_pow_bd (show k ≤ 5 by omega) hI.1 hI.2 this.1 this.2
    rw [ckI_pos (by omega) (by omega)]
theorem prodV_bd : ∀ {l : List XVariable}, l.length ≤ 6 → (∀ v ∈ l, 2 ≤ v.Levels ∧ v.Levels ≤ 8) → 1 ≤ prodV l ∧ prodV l ≤ 8 ^ l.length ∧ (8 : Int) ^ l.length ≤ 262144
  | [], _, _ => by simp [prodV]
  | v :: l, hl, h => by
    simp only [List.length_cons] at hl
    have := prodV_bd (l := l) (by omega) (fun u hu => h u (List.mem_cons_of_mem _ hu))
    have hv := h v List.mem_cons_self
    have := mul_pow_bd (show l.length ≤ 5 by omega) this.1 this.2.1 hv.1 hv.2
    simp only [prodV, List.length_cons]
    rw [Int.mul_comm]; exact this
/-- A list of variables of a schema. -/
structure Part (s : List XVariable) (l : List Int) : Prop where
  sch : schB s = true
  ris : risB s.length (-1) l = true
theorem Part.rng {s : List XVariable} {l : List Int} (h : Part s l) : ∀ d ∈ l, 0 ≤ d ∧ d < (s.length : Int) := fun d hd => by
  have := risB_rng h.ris d hd; omega
theorem Part.len {s : List XVariable} {l : List Int} (h : Part s l) : l.length ≤ 6 := by
  have := risB_len (by omega) h.ris
  have := schB_len h.sch
  omega
theorem Part.lev {s : List XVariable} {l : List Int} (h : Part s l) : ∀ v ∈ partV s l, 2 ≤ v.Levels ∧ v.Levels ≤ 8 := by
  intro v hv
  simp only [partV, List.mem_map] at hv
  obtain ⟨d, hd, rfl⟩ := hv
  have := h.rng d hd
  rw [getD_get (show d.toNat < s.length by omega)]
  exact schB_lev h.sch (List.getElem_mem _)
theorem Part.bd {s : List XVariable} {l : List Int} (h : Part s l) : 1 ≤ prodV (partV s l) ∧ prodV (partV s l) ≤ 262144 := by
  have := prodV_bd (l := partV s l) (by rw [partV_len]; exact h.len) h.lev
  omega
theorem Part.part {s : List XVariable} {l : List Int} (h : Part s l) : sh_spec_sPart s l = some (partV s l) := sPart_eq h.rng (by have := h.len; omega)
theorem Part.count {s : List XVariable} {l : List Int} (h : Part s l) : sh_spec_sCount (partV s l) = some (prodV (partV s l)) := sCount_eq (by rw [partV_len]; exact h.len) h.lev
theorem Part.cross {s : List XVariable} {t : XTable} (h : Part s t.Vars) : sh_impl_crossed s t = some (partV s t.Vars) := crossed_eq h.rng (by have := h.len; omega)
theorem Part.comb {s : List XVariable} {l : List Int} (h : Part s l) : sh_impl_combinations (partV s l) = some (prodV (partV s l)) := combinations_eq (by rw [partV_len]; exact h.len) h.lev
def cntT (g : XGeo) (s : List XVariable) (t : XTable) : Int := ((levL g.Parents t.Level).length : Int) * prodV (partV s t.Vars)
theorem cntT_bd {g : XGeo} {s : List XVariable} {t : XTable} (hg : geoB g = true) (h : Part s t.Vars) : 0 ≤ cntT g s t ∧ cntT g s t ≤ 7864320 := by
  have h1 := levL_len g.Parents t.Level
  have h2 := (geoB_ok hg).n2
  have h3 := h.bd
  constructor
  · exact Int.mul_nonneg (by omega) (by omega)
  · have : cntT g s t ≤ 30 * 262144 := Int.mul_le_mul (by omega) h3.2 (by omega) (by omega)
    omega
theorem uCount_eq {g : XGeo} {s : List XVariable} {t : XTable} (hg : geoB g = true) (h : Part s t.Vars) : sh_spec_uCount g s t = some (cntT g s t) := by
  unfold sh_spec_uCount
  have hb := cntT_bd hg h
  have h1 := levL_len g.Parents t.Level
  have h2 := (geoB_ok hg).n2
  unfold cntT at hb ⊢
  rw [gLevel_eq (geoB_ok hg), Option.bind_some, lmO_pos (by omega), h.part, Option.bind_some, h.count, Option.bind_some, ckI_pos (by omega) (by omega)]
theorem cellCount_eq {g : XGeo} {s : List XVariable} {t : XTable} (hg : geoB g = true) (h : Part s t.Vars) : sh_impl_cellCount g s t = some (cntT g s t) := by
  unfold sh_impl_cellCount
  have hb := cntT_bd hg h
  have h1 := levL_len g.Parents t.Level
  have h2 := (geoB_ok hg).n2
  unfold cntT at hb ⊢
  rw [areasAt_eq (geoB_ok hg), Option.bind_some, lmO_pos (by omega), h.cross, Option.bind_some, h.comb, Option.bind_some, ckI_pos (by omega) (by omega)]
/-! ### Tables -/
def tabB (g : XGeo) (s : List XVariable) (t : XTable) : Bool :=
  !(levL g.Parents t.Level).isEmpty && (risB s.length (-1) t.Vars && (whB s t.Where && (decide (-1 ≤ t.Sum) && (decide (t.Sum < (s.length : Int)) && decide (cntT g s t ≤ 600)))))
def allB (g : XGeo) (s : List XVariable) (t : XTable) : Bool := geoB g && (schB s && tabB g s t)
theorem uGood_big {g : XGeo} {s : List XVariable} {t : XTable} (hn : bulkVS s ≤ 1048576) (ht : t.Vars.length ≤ 1125899906842624) : sh_spec_uGood g s t = some (allB g s t) := by
  unfold sh_spec_uGood allB
  rw [gGood_eq, Option.bind_some]
  cases hg : geoB g with
  | false => rfl
  | true =>
    rw [sGood_eq (names_of_bulk hn), Option.bind_some]
    cases hs : schB s with
    | false => rfl
    | true =>
      have hl := schB_len hs
      unfold tabB
      rw [gLevel_eq (geoB_ok hg), Option.bind_some]
      cases he : levL g.Parents t.Level with
      | nil => rfl
      | cons y l =>
        have e : decide (((y :: l).length : Int) = 0) = false := by simp; omega
        simp only [e, Bool.not_true, Bool.false_eq_true, if_false, List.isEmpty_cons, Bool.not_false, Bool.true_and]
        rw [ckI_pos (by omega) (by omega), l1Rising_big _ _ ht, Option.bind_some]
        cases hr : risB s.length (-1) t.Vars with
        | false => rfl
        | true =>
          have hp : Part s t.Vars := ⟨hs, hr⟩
          rw [uWhere_eq hs, Option.bind_some]
          cases hw : whB s t.Where with
          | false => rfl
          | true =>
            simp only [Bool.not_true, Bool.false_eq_true, if_false, Bool.true_and]
            rw [ckI_pos (by omega) (by omega), l1In_eq, Option.bind_some, Option.bind_some]
            have e2 : decide (t.Sum ≤ (s.length : Int) - 1) = decide (t.Sum < (s.length : Int)) := by congr 1; apply propext; omega
            rw [e2, uCount_eq hg hp, Option.bind_some]
            cases decide (-1 ≤ t.Sum) <;> cases decide (t.Sum < (s.length : Int)) <;> simp
theorem isTable_eq {g : XGeo} {s : List XVariable} {t : XTable} (hg : geoB g = true) (hs : schB s = true) : sh_impl_isTable g s t = some (tabB g s t) := by
  unfold sh_impl_isTable tabB
  rw [areVars_eq, Option.bind_some]
  cases hr : risB s.length (-1) t.Vars with
  | false => cases (levL g.Parents t.Level).isEmpty <;> rfl
  | true =>
    have hp : Part s t.Vars := ⟨hs, hr⟩
    have hpb := hp.bd
    rw [isWhere_eq hs, Option.bind_some]
    cases hw : whB s t.Where with
    | false => cases (levL g.Parents t.Level).isEmpty <;> rfl
    | true =>
      simp only [Bool.not_true, Bool.false_eq_true, if_false, Bool.true_and]
      rw [cellCount_eq hg hp]
      by_cases h1 : t.Sum < -1
      · simp [h1, show ¬ (-1 ≤ t.Sum) by omega]
      · by_cases h2 : (s.length : Int) ≤ t.Sum
        · simp [h1, h2, show ¬ (t.Sum < (s.length : Int)) by omega]
        · simp only [h1, h2, decide_false, Bool.false_eq_true, if_false, Option.bind_some, show decide (-1 ≤ t.Sum) = true by (simp; omega), show decide (t.Sum < (s.length : Int)) = true by (simp; omega), Bool.true_and]
          cases he : levL g.Parents t.Level with
          | nil => simp [cntT, he]
          | cons y l =>
            have : 0 < cntT g s t := by
              unfold cntT; rw [he]
              exact Int.mul_pos (by simp) (by omega)
            simp [this]
/-- All that is known of a valid table. -/
structure Tab (g : XGeo) (s : List XVariable) (t : XTable) : Prop where
  geo : geoB g = true
  p : Part s t.Vars
  w : whB s t.Where = true
  s0 : -1 ≤ t.Sum
  s1 : t.Sum < (s.length : Int)
  ne : levL g.Parents t.Level ≠ []
  le : cntT g s t ≤ 600
theorem allB_tab {g : XGeo} {s : List XVariable} {t : XTable} (h : allB g s t = true) : Tab g s t := by
  simp only [allB, tabB, Bool.and_eq_true, decide_eq_true_eq, Bool.not_eq_true', List.isEmpty_eq_false_iff] at h
  obtain ⟨h1, h2, h3, h4, h5, h6, h7, h8⟩ := h
  exact ⟨h1, ⟨h2, h4⟩, h5, h6, h7, h3, h8⟩
theorem Tab.ok {g : XGeo} {s : List XVariable} {t : XTable} (h : Tab g s t) : GeoOk g.Parents := geoB_ok h.geo
theorem Tab.sch {g : XGeo} {s : List XVariable} {t : XTable} (h : Tab g s t) : schB s = true := h.p.sch
end AS
namespace AS
/-! ### Names -/
theorem schFrom_word {s : List XVariable} : ∀ {l : List XVariable} {k : Nat}, schFrom s l k = true → ∀ v ∈ l, wordB v.Name = true
  | [], _, _, v, hv => by simp at hv
  | x :: l, k, h, v, hv => by
    simp only [schFrom, Bool.and_eq_true] at h
    rcases List.mem_cons.1 hv with rfl | hv
    · exact h.1
    · exact schFrom_word h.2.2.2 v hv
theorem schB_word {s : List XVariable} (h : schB s = true) {v : XVariable} (hv : v ∈ s) : wordB v.Name = true := by
  simp only [schB, Bool.and_eq_true] at h
  exact schFrom_word h.2 v hv
theorem schB_name {s : List XVariable} (h : schB s = true) {v : XVariable} (hv : v ∈ s) : 1 ≤ v.Name.length ∧ v.Name.length ≤ 8 := by
  have := schB_word h hv
  simp only [wordB, Bool.and_eq_true, decide_eq_true_eq] at this
  exact this.2
/-! ### Joined parts -/
abbrev itc (sep : List UInt8) (l : List (List UInt8)) : List UInt8 := sep.intercalate l
theorem itc_succ {sep : List UInt8} {P : List (List UInt8)} {k : Nat} {y : List UInt8} (h : P[k]? = some y) : itc sep (P.take (k + 1)) = (if k = 0 then y else itc sep (P.take k) ++ sep ++ y) := by
  cases P with
  | nil => simp at h
  | cons x r =>
    cases k with
    | zero =>
      simp only [List.getElem?_cons_zero, Option.some.injEq] at h
      subst h
      simp [itc, List.intercalate]
    | succ j =>
      simp only [List.getElem?_cons_succ] at h
      rw [if_neg (by omega), List.take_succ_cons, List.take_succ_cons]
      have e1 : itc sep (x :: r.take (j + 1)) = x ++ Go.Lib.joinTail sep (r.take (j + 1)) := Go.Lib.join_cons x (r.take (j + 1)) sep
      have e2 : itc sep (x :: r.take j) = x ++ Go.Lib.joinTail sep (r.take j) := Go.Lib.join_cons x (r.take j) sep
      rw [e1, e2, Go.Lib.joinTail_take_succ sep r j y h]
      simp
theorem itc_len {sep : List UInt8} {c : Nat} : ∀ {P : List (List UInt8)}, (∀ y ∈ P, y.length ≤ c) → (itc sep P).length ≤ P.length * (c + sep.length)
  | [], _ => by simp [itc, List.intercalate]
  | x :: r, h => by
    have e : itc sep (x :: r) = x ++ Go.Lib.joinTail sep r := Go.Lib.join_cons x r sep
    have hx := h x (by simp)
    have key : ∀ r : List (List UInt8), (∀ y ∈ r, y.length ≤ c) → (Go.Lib.joinTail sep r).length ≤ r.length * (c + sep.length) := by
      intro r
      induction r with
      | nil => intro _; simp [Go.Lib.joinTail]
      | cons y r ih =>
        intro hr
        have h1 := ih fun z hz => hr z (by simp [hz])
        have h2 := hr y (by simp)
        simp only [Go.Lib.joinTail, List.map_cons, List.flatten_cons, List.length_append, List.length_cons, Nat.succ_mul] at h1 ⊢
        omega
    have h3 := key r fun y hy => h y (by simp [hy])
    rw [e]
    simp only [List.length_append, List.length_cons, Nat.succ_mul]
    omega
theorem range_text {R α : Type} {body : Nat → α → List UInt8 → (List UInt8 → Option R) → Option R} {fin : List UInt8 → Option R} {l : List α} {sep s0 : List UInt8} {f : α → List UInt8}
    (hs : ∀ x k next, l[k]? = some x → body k x (s0 ++ itc sep ((l.map f).take k)) next = next ((if k = 0 then s0 ++ itc sep ((l.map f).take k) else (s0 ++ itc sep ((l.map f).take k)) ++ sep) ++ f x)) : rangeF body fin l 0 s0 = fin (s0 ++ itc sep (l.map f)) := by
  refine range_mem (I := fun k s => s = s0 ++ itc sep ((l.map f).take k)) (G := fun _ _ _ => fin (s0 ++ itc sep (l.map f))) ?_ ?_ s0 (by simp [itc, List.intercalate])
  · intro k s hI hk
    subst hI
    rw [List.take_of_length_le (by simp; omega)]
  · intro x l' k s next hx _ hI hn
    subst hI
    rw [hs x k next hx]
    refine hn _ ?_
    have := itc_succ (sep := sep) (P := l.map f) (k := k) (y := f x) (by simp [hx])
    rw [this]
    by_cases e : k = 0
    · subst e; simp [itc, List.intercalate]
    · simp [e]
/-! ### Numerals and sets -/
def dgT (n : Nat) : List UInt8 := if n < 10 then [UInt8.ofNat (48 + n)] else [UInt8.ofNat (48 + n / 10), UInt8.ofNat (48 + n % 10)]
theorem l1Num_all : ∀ n : Nat, n < 100 → sh_spec_l1Num (n : Int) = some (dgT n) := by decide +kernel
theorem l1Num_eq {n : Int} (h0 : 0 ≤ n) (h1 : n < 100) : sh_spec_l1Num n = some (dgT n.toNat) := by
  have := l1Num_all n.toNat (by omega)
  rwa [Int.toNat_of_nonneg h0] at this
theorem dgT_len (n : Nat) : (dgT n).length ≤ 2 := by unfold dgT; split <;> simp
def lev8 (m : Nat) : List Int := ((List.range 8).filter fun (i : Nat) => m.testBit i).map fun (i : Nat) => (i : Int)
theorem lev8_len (m : Nat) : (lev8 m).length ≤ 8 := by
  have := List.length_filter_le (fun (i : Nat) => m.testBit i) (List.range 8)
  simp only [lev8, List.length_map]
  simpa using this
theorem lev8_mem {m : Nat} {x : Int} : x ∈ lev8 m ↔ ∃ i : Nat, i < 8 ∧ m.testBit i = true ∧ x = (i : Int) := by
  simp only [lev8, List.mem_map, List.mem_filter, List.mem_range]
  constructor
  · rintro ⟨i, ⟨h1, h2⟩, h3⟩; exact ⟨i, h1, h2, h3.symm⟩
  · rintro ⟨i, h1, h2, h3⟩; exact ⟨i, ⟨h1, h2⟩, h3.symm⟩
theorem eLevels_all : ∀ m : Nat, m < 256 → sh_spec_eLevels (m : Int) = some (lev8 m) := by decide +kernel
theorem eLevels_eq {m : Int} (h0 : 0 ≤ m) (h1 : m < 256) : sh_spec_eLevels m = some (lev8 m.toNat) := by
  have := eLevels_all m.toNat (by omega)
  rwa [Int.toNat_of_nonneg h0] at this
def setT (m : Nat) : List UInt8 := itc [44] ((lev8 m).map fun x => dgT x.toNat)
theorem setT_len (m : Nat) : (setT m).length ≤ 24 := by
  unfold setT
  have h1 := itc_len (sep := [44]) (c := 2) (P := (lev8 m).map fun x => dgT x.toNat) (fun y hy => by
    obtain ⟨x, _, rfl⟩ := List.mem_map.1 hy
    exact dgT_len _)
  have h2 := lev8_len m
  simp only [List.length_map, List.length_cons, List.length_nil] at h1
  omega
theorem setText_all : ∀ m : Nat, m < 256 → sh_impl_setText (m : Int) = some (setT m) := by decide +kernel
theorem setText_eq {m : Int} (h0 : 0 ≤ m) (h1 : m < 256) : sh_impl_setText m = some (setT m.toNat) := by
  have := setText_all m.toNat (by omega)
  rwa [Int.toNat_of_nonneg h0] at this
theorem spec_setT {R : Type} {m : Nat} {fin : List UInt8 → Option R} {s0 : List UInt8} (hs : s0.length ≤ 1000000000) :
    rangeF (fun (k1048 : Nat) (x1049 : Int) (s1047 : (List UInt8)) (nx1088 : (List UInt8) → Option R) =>
      (((if (decide ((0 : Int) < (k1048 : Int))) = true then lnO (s1047.length + ([44] : List UInt8).length) <| some (s1047 ++ ([44] : List UInt8)) else some s1047) : Option (List UInt8)).bind fun (s1102 : (List UInt8)) =>
      (sh_spec_l1Num x1049).bind fun x1104 => lnO (s1102.length + x1104.length) <| nx1088 (s1102 ++ x1104))) fin (lev8 m) 0 s0 = fin (s0 ++ setT m) := by
  refine range_text (sep := [44]) (f := fun (x : Int) => dgT x.toNat) ?_
  intro x k next hx
  obtain ⟨i, hi, _, rfl⟩ := lev8_mem.1 (List.mem_of_getElem? hx)
  have hl := itc_len (sep := [44]) (c := 2) (P := ((lev8 m).map fun x => dgT x.toNat).take k) (fun y hy => by
    obtain ⟨x, _, rfl⟩ := List.mem_map.1 (List.mem_of_mem_take hy)
    exact dgT_len _)
  have h8 := lev8_len m
  have hd := dgT_len i
  simp only [List.length_take, List.length_map, List.length_cons, List.length_nil] at hl
  rw [l1Num_eq (by omega) (by omega), Int.toNat_natCast]
  by_cases e : k = 0
  · subst e
    simp only [Int.natCast_zero, Int.lt_irrefl, decide_false, Bool.false_eq_true, if_false, Option.bind_some, if_true]
    rw [lnO_pos (by simp only [List.length_append]; omega)]
  · simp only [show ((0 : Int) < (k : Int)) by omega, decide_true, if_true, e, if_false]
    rw [lnO_pos (by simp only [List.length_append, List.length_cons, List.length_nil]; omega), Option.bind_some, Option.bind_some, lnO_pos (by simp only [List.length_append, List.length_cons, List.length_nil]; omega)]
/-! ### Edits -/
theorem full_256 {v : XVariable} (h : 2 ≤ v.Levels ∧ v.Levels ≤ 8) : 0 ≤ full v ∧ full v < 256 := by
  unfold full
  have : v.Levels = 2 ∨ v.Levels = 3 ∨ v.Levels = 4 ∨ v.Levels = 5 ∨ v.Levels = 6 ∨ v.Levels = 7 ∨ v.Levels = 8 := by omega
  rcases this with h | h | h | h | h | h | h <;> rw [h] <;> decide
theorem Itoa_eq {n : Int} (h0 : 0 ≤ n) (h1 : n < 100) : sh_strconv_Itoa n = some (dgT n.toNat) := by
  unfold sh_strconv_Itoa dgT
  rw [if_pos ⟨h0, h1⟩]
  by_cases h : n < 10
  · rw [if_pos h, if_pos (by omega)]
  · rw [if_neg h, if_neg (by omega)]
theorem Join_eq {l : List (List UInt8)} {sep : List UInt8} (h1 : l.length ≤ 1048576) (h2 : (itc sep l).length ≤ 140737488355328) : sh_strings_Join l sep = some (itc sep l) := by
  unfold sh_strings_Join
  rw [if_pos ⟨h1, h2⟩]
end AS
namespace AS
/-! ### Leaves below an area -/
theorem Tab.lev {g : XGeo} {s : List XVariable} {t : XTable} (h : Tab g s t) : ∃ i, i < g.Parents.length ∧ ((dep g.Parents i : Nat) : Int) = t.Level := by
  cases hl : levL g.Parents t.Level with
  | nil => exact absurd hl h.ne
  | cons x l =>
    obtain ⟨i, h1, _, h2⟩ := levL_mem.1 (show x ∈ levL g.Parents t.Level by rw [hl]; exact List.mem_cons_self)
    exact ⟨i, h1, h2⟩
/-! ### What a table takes of a variable -/
/-! ### The greatest amount -/
theorem Tab.sum {g : XGeo} {s : List XVariable} {t : XTable} (ht : Tab g s t) (h : ¬ t.Sum < 0) : t.Sum.toNat < s.length ∧ ((t.Sum.toNat : Nat) : Int) = t.Sum ∧ t.Sum.toNat < t.Where.length := by
  have h1 := ht.s1
  have h2 := whB_len ht.w
  omega
end AS
