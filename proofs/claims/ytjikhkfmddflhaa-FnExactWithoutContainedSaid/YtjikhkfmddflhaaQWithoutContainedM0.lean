/- Plain lemmas, and the law. No condition. -/
import Derived.Test.YtjikhkfmddflhaaQWithoutContainedS
set_option linter.unusedVariables false
set_option linter.unusedSimpArgs false
namespace AS
section
variable {R σ α β : Type}
theorem FUEL_big {n : Nat} (h : n ≤ 4611686018427387904) : n < FUEL := Nat.lt_of_le_of_lt h (by decide +kernel)
/-- A loop that counts. -/
theorem loop_up {body : (σ → Option R) → σ → Option R} (n : Nat) (S : Nat → σ) (G : Nat → Option R) (hn : n ≤ 4611686018427387904)
    (hs : ∀ next k, k < n → next (S (k + 1)) = G (k + 1) → body next (S k) = G k) (he : ∀ next, body next (S n) = G n) : loopF body FUEL (S 0) = G 0 := by
  have key : ∀ d k, k + d = n → ∀ m, d < m → loopF body m (S k) = G k := by
    intro d
    induction d with
    | zero => intro k hk m hm; obtain ⟨m, rfl⟩ := Nat.exists_eq_succ_of_ne_zero (by omega : m ≠ 0); simp only [loopF]; rw [show k = n by omega]; exact he _
    | succ d ih =>
      intro k hk m hm
      obtain ⟨m, rfl⟩ := Nat.exists_eq_succ_of_ne_zero (by omega : m ≠ 0)
      simp only [loopF]
      exact hs _ k (by omega) (ih (k + 1) (by omega) m (by omega))
  exact key n 0 (by omega) FUEL (FUEL_big hn)
/-- A range that only goes on. -/
theorem range_all {body : Nat → α → σ → (σ → Option R) → Option R} {fin : σ → Option R} {l : List α} {G : List α → Nat → σ → Option R}
    (h0 : ∀ k s, G [] k s = fin s) (hs : ∀ x l k s next, (∀ s', next s' = G l (k + 1) s') → body k x s next = G (x :: l) k s) : ∀ k s, rangeF body fin l k s = G l k s := by
  induction l with
  | nil => intro k s; simp only [rangeF, h0]
  | cons x l ih => intro k s; simp only [rangeF]; exact hs x l k s _ fun s' => ih (k + 1) s'
/-- A range with what is known of the elements. -/
theorem range_mem {body : Nat → α → σ → (σ → Option R) → Option R} {fin : σ → Option R} {l : List α} (I : Nat → σ → Prop) {G : List α → Nat → σ → Option R}
    (h0 : ∀ k s, I k s → k = l.length → fin s = G [] k s) (hs : ∀ x l' k s next, l[k]? = some x → l.drop k = x :: l' → I k s → (∀ s', I (k + 1) s' → next s' = G l' (k + 1) s') → body k x s next = G (x :: l') k s) :
    ∀ s, I 0 s → rangeF body fin l 0 s = G l 0 s := by
  have key : ∀ d k s, k + d = l.length → I k s → rangeF body fin (l.drop k) k s = G (l.drop k) k s := by
    intro d
    induction d with
    | zero =>
      intro k s hk hi
      rw [List.drop_of_length_le (by omega)]
      exact h0 k s hi (by omega)
    | succ d ih =>
      intro k s hk hi
      have hlt : k < l.length := by omega
      rw [List.drop_eq_getElem_cons hlt]
      simp only [rangeF]
      refine hs _ _ k s _ (List.getElem?_eq_getElem hlt) (List.drop_eq_getElem_cons hlt) hi fun s' hs' => ih (k + 1) s' (by omega) hs'
  intro s hi
  have := key l.length 0 s (by omega) hi
  simpa using this
theorem getO_some {l : List α} {k : Nat} {x : α} {f : α → Option R} (h : l[k]? = some x) : getO l (k : Int) f = f x := by simp [getO, h]
theorem ckI_succ {n : Nat} {f : Option R} (h : n ≤ 4611686018427387904) : ckI ((n : Int) + 1) f = f := ckI_pos (by omega) (by omega)
theorem lt_dec {k n : Nat} (h : k < n) : decide ((k : Int) < (n : Int)) = true := by simp [h]
theorem lt_self (n : Nat) : decide ((n : Int) < (n : Int)) = false := by simp
theorem cast_succ (k : Nat) : ((k + 1 : Nat) : Int) = (k : Int) + 1 := rfl
/-! ### One list into another, cell by cell -/
def mixL (a b : List α) (k : Nat) : List α := a.take k ++ b.drop k
theorem mixL_zero (a b : List α) : mixL a b 0 = b := by simp [mixL]
theorem mixL_end {a b : List α} (h : a.length = b.length) : mixL a b a.length = a := by simp [mixL, ← h]
theorem mixL_len {a b : List α} (h : a.length = b.length) (k : Nat) : (mixL a b k).length = b.length := by simp [mixL]; omega
theorem mixL_get {a b : List α} (h : a.length = b.length) {k : Nat} (hk : k < b.length) : (mixL a b k)[k]? = some b[k] := by
  simp only [mixL]
  rw [List.getElem?_append_right (by simp; omega)]
  simp [show min k a.length = k by omega, hk]
theorem mixL_set {a b : List α} (h : a.length = b.length) {k : Nat} (hk : k < a.length) : (mixL a b k).set k a[k] = mixL a b (k + 1) := by
  apply List.ext_getElem?
  intro i
  simp only [mixL]
  by_cases hi : i = k
  · subst hi
    rw [List.getElem?_set_self (by simp; omega), List.getElem?_append_left (by simp; omega), List.getElem?_take_of_lt (by omega)]
    rw [List.getElem?_eq_getElem (by omega)]
  · rw [List.getElem?_set_ne (Ne.symm hi)]
    simp only [List.getElem?_append, List.length_take, List.getElem?_take, List.getElem?_drop]
    by_cases h1 : i < k
    · simp [show i < min k a.length by omega, show i < min (k+1) a.length by omega, h1, show i < k + 1 by omega]
    · simp only [show ¬ i < min k a.length by omega, show ¬ i < min (k+1) a.length by omega, if_false]
      congr 1; omega
/-! ### The marks -/
def mks (n : Int) (m : Nat) : List Int := (List.range m).map fun (i : Nat) => n + (i : Int)
theorem mks_len (n : Int) (m : Nat) : (mks n m).length = m := by simp [mks]
theorem mks_get (n : Int) {m k : Nat} (h : k < m) : (mks n m)[k]'(by rw [mks_len]; exact h) = n + k := by simp [mks]
end
end AS
namespace AS
theorem toIntS_eq {l : List Int} (h : l.length ≤ 1048576) : sh_laws_toIntS l = some l := by
  unfold sh_laws_toIntS
  rw [mkO_pos (by omega) (by omega)]
  refine (loop_up l.length (fun k => (mixL l (List.replicate l.length 0) k, (k : Int))) (fun _ => some l) (by omega) ?_ ?_)
  · intro next k hk hn
    simp only [lt_dec hk, if_true]
    rw [getO_nat hk, getO_some (mixL_get (by simp) (by simpa using hk)), ckI_succ (by omega)]
    simp only [Int.toNat_natCast, mixL_set (b := List.replicate l.length 0) (by simp) hk]
    exact hn
  · intro next
    simp only [lt_self]
    simp [mixL_end (a := l) (b := List.replicate l.length 0) (by simp)]
theorem eqIntS_eq {a b : List Int} (h : a.length ≤ 1099511627776) : sh_laws_eqIntS a b = some (decide (a = b)) := by
  unfold sh_laws_eqIntS
  by_cases hl : a.length = b.length
  · simp only [hl, ne_eq, not_true_eq_false, decide_false, Bool.false_eq_true, if_false]
    refine (loop_up b.length (fun k => (k : Int)) (fun k => some (decide (a.drop k = b.drop k))) (by omega) ?_ ?_).trans (by simp)
    · intro next k hk hn
      have hk' : k < a.length := by omega
      simp only [lt_dec hk, if_true]
      rw [getO_nat hk', getO_nat hk, ckI_succ (by omega)]
      rw [List.drop_eq_getElem_cons hk', List.drop_eq_getElem_cons hk]
      by_cases e : a[k] = b[k]
      · simp only [e, not_true_eq_false, decide_false, Bool.false_eq_true, if_false, List.cons.injEq, true_and]
        exact hn
      · simp only [ne_eq, e, not_false_eq_true, decide_true, if_true, List.cons.injEq, false_and, decide_false]
    · intro next
      simp only [lt_self]
      simp [List.drop_of_length_le (Nat.le_refl _), List.drop_of_length_le (show a.length ≤ b.length by omega)]
  · have : ¬ (a = b) := fun e => hl (by rw [e])
    have h2 : ¬ ((a.length : Int) = (b.length : Int)) := by omega
    simp [this, h2]
theorem markIntS_eq {l : List Int} {n : Int} (h0 : 0 ≤ n) (h : n + l.length ≤ 4611686018427387904) : sh_laws_markIntS l n = some (mks n l.length, n + l.length) := by
  unfold sh_laws_markIntS
  have e0 : ((l, n, (0 : Int)) : List Int × Int × Int) = (fun k : Nat => (mixL (mks n l.length) l k, n + (k : Int), (k : Int))) 0 := by simp [mixL_zero]
  rw [e0]
  refine (loop_up l.length (fun k : Nat => (mixL (mks n l.length) l k, n + (k : Int), (k : Int))) (fun _ => some (mks n l.length, n + l.length)) (by omega) ?_ ?_)
  · intro next k hk hn
    have hm : k < (mks n l.length).length := by rw [mks_len]; exact hk
    simp only [mixL_len (mks_len n l.length), lt_dec hk, if_true]
    rw [getO_some (mixL_get (mks_len n l.length) hk), ckI_pos (by omega) (by omega), ckI_succ (by omega)]
    simp only [Int.toNat_natCast]
    rw [← mks_get n hk, mixL_set (mks_len n l.length) hm, ← hn, mks_get n hk]
    simp only [cast_succ, Int.add_assoc]
  · intro next
    simp only [mixL_len (mks_len n l.length), lt_self]
    have := mixL_end (mks_len n l.length)
    rw [mks_len] at this
    simp [this]
theorem heldIntS_eq {m : Nat} {n : Int} (h0 : 0 ≤ n) (h : n + m ≤ 4611686018427387904) : sh_laws_heldIntS (mks n m) n = some (n + m) := by
  unfold sh_laws_heldIntS
  have e0 : ((n, (0 : Int)) : Int × Int) = (fun k : Nat => (n + (k : Int), (k : Int))) 0 := by simp
  rw [e0]
  refine (loop_up m (fun k : Nat => (n + (k : Int), (k : Int))) (fun _ => some (n + m)) (by omega) ?_ ?_)
  · intro next k hk hn
    have hm : k < (mks n m).length := by rw [mks_len]; exact hk
    simp only [mks_len, lt_dec hk, if_true]
    rw [getO_nat hm, mks_get n hk, ckI_pos (by omega) (by omega), ckI_succ (by omega)]
    simp only [ne_eq, not_true_eq_false, decide_false, Bool.false_eq_true, if_false]
    rw [← hn]; simp only [cast_succ, Int.add_assoc]
  · intro next
    simp only [mks_len, lt_self]
    simp
theorem l1In_eq (x lo hi : Int) : sh_spec_l1In x lo hi = some (decide (lo ≤ x) && decide (x ≤ hi)) := by
  unfold sh_spec_l1In
  by_cases h : lo ≤ x <;> simp [h]
theorem l1Own_eq {l : List Int} (h : l.length ≤ 1099511627776) : sh_spec_l1Own l = some l := by
  unfold sh_spec_l1Own
  rw [lnO_pos (by simpa using h)]; rfl
theorem Clone_eq {l : List Int} (h : l.length ≤ 1099511627776) : sh_slices_Clone_int l = some l := by
  unfold sh_slices_Clone_int
  cases l with
  | nil => rfl
  | cons x l => simp [nilO]; exact lnO_pos h
/-! ### AddCells -/
end AS
namespace AS
def valid (s : List Int) : Prop := s.length ≤ 4 ∧ ∀ x ∈ s, 1 ≤ x ∧ x ≤ 30
theorem valid.drop {s : List Int} (h : valid s) (k : Nat) : valid (s.drop k) := ⟨by have := h.1; simp; omega, fun y hy => h.2 y (List.mem_of_mem_drop hy)⟩
/-! ### How many cells -/
/-! ### Strides -/
/-! ### Indices -/
/-! ### Cells -/
/-- Indices that fit sizes. -/
def fits (s ix : List Int) : Prop := ix.length = s.length ∧ ∀ (k : Nat) (x y : Int), s[k]? = some x → ix[k]? = some y → 0 ≤ y ∧ y ≤ x
theorem fits.set {s ix : List Int} (h : fits s ix) {d : Nat} {x y : Int} (hx : s[d]? = some x) (h0 : 0 ≤ y) (h1 : y ≤ x) : fits s (ix.set d y) := by
  refine ⟨by rw [List.length_set]; exact h.1, fun k x' y' hx' hy' => ?_⟩
  by_cases e : d = k
  · subst e
    rw [hx] at hx'; cases hx'
    have hk : d < ix.length := by rw [h.1]; exact (List.getElem?_eq_some_iff.1 hx).1
    rw [List.getElem?_set_self hk] at hy'; cases hy'
    exact ⟨h0, h1⟩
  · rw [List.getElem?_set_ne e] at hy'
    exact h.2 k x' y' hx' hy'
end AS
namespace AS
section
variable {α : Type}
theorem to_loop {f : α → Option α} {z : α} {l : List α} (hl : l.length ≤ 1099511627776) (hf : ∀ x ∈ l, f x = some x) :
    mkO (l.length : Int) (loopF (fun (nx : (List α × Int) → Option (List α)) (s : List α × Int) =>
      (if (decide (s.2 < (l.length : Int))) = true then
        getO l s.2 fun x => (f x).bind fun y => getO s.1 s.2 fun _ => ckI (s.2 + (1 : Int)) <| nx ((s.1.set (s.2).toNat y), (s.2 + (1 : Int)))
      else some s.1)) FUEL ((List.replicate ((l.length : Int)).toNat z), (0 : Int))) = some l := by
  rw [mkO_pos (by omega) (by omega)]
  refine (loop_up l.length (fun k => (mixL l (List.replicate l.length z) k, (k : Int))) (fun _ => some l) (by omega) ?_ ?_)
  · intro next k hk hn
    simp only [lt_dec hk, if_true]
    rw [getO_nat hk, hf _ (List.getElem_mem hk), Option.bind_some, getO_some (mixL_get (by simp) (by simpa using hk)), ckI_succ (by omega)]
    simp only [Int.toNat_natCast, mixL_set (b := List.replicate l.length z) (by simp) hk]
    exact hn
  · intro next
    simp only [lt_self]
    simp [mixL_end (a := l) (b := List.replicate l.length z) (by simp)]
theorem eq_loop [DecidableEq α] {f : α → α → Option Bool} {a b : List α} (h : a.length ≤ 1099511627776) (hf : ∀ x ∈ a, ∀ y, f x y = some (decide (x = y))) :
    (if (decide ((a.length : Int) ≠ (b.length : Int))) = true then some false else
      loopF (fun (nx : Int → Option Bool) (s : Int) =>
        (if (decide (s < (a.length : Int))) = true then
          getO a s fun x => getO b s fun y => (f x y).bind fun r => (if (!r) = true then some false else ckI (s + (1 : Int)) <| nx (s + (1 : Int)))
        else some true)) FUEL (0 : Int)) = some (decide (a = b)) := by
  by_cases hl : a.length = b.length
  · simp only [hl, ne_eq, not_true_eq_false, decide_false, Bool.false_eq_true, if_false]
    refine (loop_up b.length (fun k => (k : Int)) (fun k => some (decide (a.drop k = b.drop k))) (by omega) ?_ ?_).trans (by simp)
    · intro next k hk hn
      have hk' : k < a.length := by omega
      simp only [lt_dec hk, if_true]
      rw [getO_nat hk', getO_nat hk, ckI_succ (by omega), hf _ (List.getElem_mem hk'), Option.bind_some]
      rw [List.drop_eq_getElem_cons hk', List.drop_eq_getElem_cons hk]
      by_cases e : a[k] = b[k]
      · simp only [e, decide_true, Bool.not_true, Bool.false_eq_true, if_false, List.cons.injEq, true_and]
        exact hn
      · simp only [e, decide_false, Bool.not_false, if_true, List.cons.injEq, false_and]
    · intro next
      simp only [lt_self]
      simp [List.drop_of_length_le (Nat.le_refl _), List.drop_of_length_le (show a.length ≤ b.length by omega)]
  · have : ¬ (a = b) := fun e => hl (by rw [e])
    have h2 : ¬ ((a.length : Int) = (b.length : Int)) := by omega
    simp [this, h2]
/-- The sum of a measure. -/
def sumL (sz : α → Nat) (l : List α) : Nat := (l.map sz).sum
theorem sumL_cons (sz : α → Nat) (x : α) (l : List α) : sumL sz (x :: l) = sz x + sumL sz l := by simp [sumL]
theorem sumL_take (sz : α → Nat) {l : List α} {k : Nat} (h : k < l.length) : sumL sz (l.take (k + 1)) = sumL sz (l.take k) + sz l[k] := by
  simp only [sumL, List.take_add_one, List.map_append, List.sum_append, List.getElem?_eq_getElem h, Option.toList, List.map_cons, List.map_nil, List.sum_cons, List.sum_nil, Nat.add_zero]
theorem sumL_take_le (sz : α → Nat) (l : List α) (k : Nat) : sumL sz (l.take k) ≤ sumL sz l := by
  have h := congrArg (fun l => (l.map sz).sum) (List.take_append_drop k l)
  simp only [List.map_append, List.sum_append] at h
  simp only [sumL]; omega
theorem sumL_mem (sz : α → Nat) {l : List α} {x : α} (h : x ∈ l) : sz x ≤ sumL sz l := by
  induction l with
  | nil => cases h
  | cons y l ih =>
    rw [sumL_cons]
    rcases List.mem_cons.1 h with rfl | h
    · omega
    · have := ih h; omega
/-- The marks on a list, element by element. -/
def mkL (mk : α → Int → α) (sz : α → Nat) : List α → Int → List α
  | [], _ => []
  | x :: l, n => mk x n :: mkL mk sz l (n + sz x)
theorem mkL_len (mk : α → Int → α) (sz : α → Nat) : ∀ (l : List α) (n : Int), (mkL mk sz l n).length = l.length
  | [], _ => rfl
  | x :: l, n => by simp [mkL, mkL_len mk sz l]
theorem mkL_get (mk : α → Int → α) (sz : α → Nat) : ∀ (l : List α) (n : Int) (k : Nat) (h : k < l.length), (mkL mk sz l n)[k]'(by rw [mkL_len]; exact h) = mk l[k] (n + (sumL sz (l.take k) : Nat))
  | x :: l, n, 0, _ => by simp [mkL, sumL]
  | x :: l, n, k + 1, h => by
    simp only [mkL, List.getElem_cons_succ, List.take_succ_cons, sumL_cons]
    rw [mkL_get mk sz l (n + sz x) k (by simpa using h)]
    congr 1
    omega
theorem held_loop {mk : α → Int → α} {sz : α → Nat} {f : α → Int → Option Int} {l : List α} {n : Int} (hl : l.length ≤ 1099511627776) (h0 : 0 ≤ n) (h : n + (sumL sz l : Nat) ≤ 4611686018427387904)
    (hf : ∀ x ∈ l, ∀ m : Int, 0 ≤ m → m + sz x ≤ 4611686018427387904 → f (mk x m) m = some (m + sz x)) :
    loopF (fun (nx : (Int × Int) → Option Int) (s : Int × Int) =>
      (if (decide (s.2 < ((mkL mk sz l n).length : Int))) = true then
        getO (mkL mk sz l n) s.2 fun x => (f x s.1).bind fun r => (if (decide (r < (0 : Int))) = true then some (-1 : Int) else ckI (s.2 + (1 : Int)) <| nx (r, (s.2 + (1 : Int))))
      else some s.1)) FUEL (n, (0 : Int)) = some (n + (sumL sz l : Nat)) := by
  have e0 : ((n, (0 : Int)) : Int × Int) = (fun k : Nat => (n + (sumL sz (l.take k) : Nat), (k : Int))) 0 := by simp [sumL]
  rw [e0]
  refine (loop_up l.length (fun k : Nat => (n + (sumL sz (l.take k) : Nat), (k : Int))) (fun _ => some (n + (sumL sz l : Nat))) (by omega) ?_ ?_)
  · intro next k hk hn
    have hlen := mkL_len mk sz l n
    have hm : k < (mkL mk sz l n).length := by rw [hlen]; exact hk
    have h1 := sumL_take_le sz l (k + 1)
    rw [sumL_take sz hk] at h1 hn
    simp only [hlen, lt_dec hk, if_true]
    rw [getO_nat hm, mkL_get mk sz l n k hk, hf _ (List.getElem_mem hk) _ (by omega) (by omega), Option.bind_some, ckI_succ (by omega)]
    rw [← hn]
    simp only [show ¬ (n + (sumL sz (l.take k) : Nat) + (sz l[k] : Nat) < (0 : Int)) by omega, decide_false, Bool.false_eq_true, if_false]
    simp only [cast_succ, Int.add_assoc, Int.natCast_add]
  · intro next
    simp only [mkL_len, lt_self]
    simp
/-- What is left of an allowance. -/
def left (a : Int) (n : Nat) : Int := if (n : Int) ≤ a then a - n else -1
theorem left_pos {a : Int} {n : Nat} (h : (n : Int) ≤ a) : left a n = a - n := if_pos h
theorem sz_loop {sz : α → Nat} {f : α → Int → Option Int} {l : List α} {a : Int} (h0 : 0 ≤ a) (h1 : a ≤ 1048576) (hl : l.length ≤ 9223372036854775807)
    (hf : ∀ x ∈ l, ∀ m : Int, 0 ≤ m → m ≤ 1048576 → f x m = some (left m (sz x))) :
    (ckI (a - (l.length : Int)) <| (if (decide ((a - (l.length : Int)) < (0 : Int))) = true then some (-1 : Int) else
      loopF (fun (nx : (Int × Int) → Option Int) (s : Int × Int) =>
        (if (decide (s.2 < (l.length : Int))) = true then
          getO l s.2 fun x => (f x s.1).bind fun r => (if (decide (r < (0 : Int))) = true then some (-1 : Int) else ckI (s.2 + (1 : Int)) <| nx (r, (s.2 + (1 : Int))))
        else some s.1)) FUEL ((a - (l.length : Int)), (0 : Int)))) = some (left a (l.length + sumL sz l)) := by
  · rw [ckI_pos (by omega) (by omega)]
    by_cases hn : a - (l.length : Int) < 0
    · simp only [hn, decide_true, if_true, left, show ¬ (((l.length + sumL sz l : Nat) : Int) ≤ a) by omega, if_false]
    · have hbig : l.length ≤ 4611686018427387904 := by omega
      simp only [hn, decide_false, Bool.false_eq_true, if_false]
      -- the first element too large decides
      have key : ∀ d k, k + d = l.length → ∀ m, d < m → ((l.length + sumL sz (l.take k) : Nat) : Int) ≤ a →
          loopF (fun (nx : (Int × Int) → Option Int) (s : Int × Int) =>
            (if (decide (s.2 < (l.length : Int))) = true then
              getO l s.2 fun x => (f x s.1).bind fun r => (if (decide (r < (0 : Int))) = true then some (-1 : Int) else ckI (s.2 + (1 : Int)) <| nx (r, (s.2 + (1 : Int))))
            else some s.1)) m ((a - (l.length : Int) - (sumL sz (l.take k) : Nat)), (k : Int)) = some (AS.left a (l.length + sumL sz l)) := by
        intro d
        induction d with
        | zero =>
          intro k hk m hm hle
          obtain ⟨m, rfl⟩ := Nat.exists_eq_succ_of_ne_zero (by omega : m ≠ 0)
          have e : k = l.length := by omega
          subst e
          simp only [loopF, lt_self, Bool.false_eq_true, if_false, List.take_length] at hle ⊢
          rw [left_pos hle]
          congr 1; omega
        | succ d ih =>
          intro k hk m hm hle
          obtain ⟨m, rfl⟩ := Nat.exists_eq_succ_of_ne_zero (by omega : m ≠ 0)
          have hlt : k < l.length := by omega
          simp only [loopF, lt_dec hlt, if_true]
          rw [getO_nat hlt, hf _ (List.getElem_mem hlt) _ (by omega) (by omega), Option.bind_some]
          by_cases hs : ((sz l[k] : Nat) : Int) ≤ a - (l.length : Int) - (sumL sz (l.take k) : Nat)
          · rw [left_pos hs, ckI_succ (by omega)]
            simp only [show ¬ (a - (l.length : Int) - (sumL sz (l.take k) : Nat) - (sz l[k] : Nat) < 0) by omega, decide_false, Bool.false_eq_true, if_false]
            have := ih (k + 1) (by omega) m (by omega) (by rw [sumL_take sz hlt]; omega)
            rw [sumL_take sz hlt] at this
            rw [← this]
            congr 2
            omega
          · have h2 : AS.left (a - (l.length : Int) - (sumL sz (l.take k) : Nat)) (sz l[k]) = -1 := if_neg hs
            rw [h2]
            have h3 := sumL_take_le sz l (k + 1)
            rw [sumL_take sz hlt] at h3
            simp only [show ((-1 : Int) < 0) = True by simp, decide_true, if_true, AS.left, show ¬ (((l.length + sumL sz l : Nat) : Int) ≤ a) by omega, if_false]
      have := key l.length 0 (by omega) FUEL (FUEL_big hbig) (by simp [sumL]; omega)
      simpa [sumL] using this
end
end AS
namespace AS
theorem szIntS_eq {l : List Int} {a : Int} (h0 : 0 ≤ a) (h1 : a ≤ 1048576) (hl : l.length ≤ 9223372036854775807) : sh_laws_szIntS l a = some (left a l.length) := by
  unfold sh_laws_szIntS
  rw [ckI_pos (by omega) (by omega)]
  unfold left
  by_cases h : a - (l.length : Int) < 0
  · simp [h, show ¬ ((l.length : Int) ≤ a) by omega]
  · simp [h, show ((l.length : Int) ≤ a) by omega]
theorem left_no {a : Int} {m : Nat} (h : ¬ (m : Int) ≤ a) : left a m = -1 := if_neg h
theorem XCube.ext' {a b : XCube} (h1 : a.Sizes = b.Sizes) (h2 : a.Cells = b.Cells) : a = b := by cases a; cases b; simp_all
/-! ### Right form -/
/-! ### The first break -/
end AS
namespace AS
/-! ### The law's own functions on variables -/
def bulkV (v : XVariable) : Nat := v.Name.length
theorem szVariable_eq {v : XVariable} {a : Int} (h0 : 0 ≤ a) (h1 : a ≤ 1048576) (hb : Bd.bd v) : sh_laws_szVariable v a = some (left a (bulkV v)) := by
  unfold sh_laws_szVariable
  have hl : v.Name.length ≤ 9223372036854775807 := hb.1.1
  rw [ckI_pos (by omega) (by omega)]
  unfold left bulkV
  by_cases h : a - (v.Name.length : Int) < 0
  · simp [h, show ¬ ((v.Name.length : Int) ≤ a) by omega]
  · simp [h, show ((v.Name.length : Int) ≤ a) by omega]
def bulkVS (s : List XVariable) : Nat := s.length + sumL bulkV s
theorem szVariableS_eq {s : List XVariable} {a : Int} (h0 : 0 ≤ a) (h1 : a ≤ 1048576) (hb : Bd.bd s) : sh_laws_szVariableS s a = some (left a (bulkVS s)) := by
  unfold sh_laws_szVariableS
  exact sz_loop h0 h1 hb.1 fun x hx m hm hm2 => szVariable_eq hm hm2 (hb.2 x hx)
theorem toVariable_eq (v : XVariable) : sh_laws_toVariable v = some v := rfl
theorem toVariableS_eq {s : List XVariable} (h : bulkVS s ≤ 1048576) : sh_laws_toVariableS s = some s := by
  unfold sh_laws_toVariableS
  exact to_loop (by unfold bulkVS at h; omega) fun x _ => toVariable_eq x
theorem XVariable.ext' {a b : XVariable} (h1 : a.Name = b.Name) (h2 : a.Levels = b.Levels) : a = b := by cases a; cases b; simp_all
theorem eqVariable_eq (a b : XVariable) : sh_laws_eqVariable a b = some (decide (a = b)) := by
  unfold sh_laws_eqVariable
  by_cases h1 : a.Name = b.Name
  · by_cases h2 : a.Levels = b.Levels
    · simp [h1, h2, XVariable.ext' h1 h2]
    · simp [h1, h2, show ¬ a = b from fun e => h2 (by rw [e])]
  · simp [h1, show ¬ a = b from fun e => h1 (by rw [e])]
theorem eqVariableS_eq {a b : List XVariable} (h : bulkVS a ≤ 1048576) : sh_laws_eqVariableS a b = some (decide (a = b)) := by
  unfold sh_laws_eqVariableS
  exact eq_loop (by unfold bulkVS at h; omega) fun x _ y => eqVariable_eq x y
/-! ### Schemas -/
def lowB (n : List UInt8) : Bool := n.all fun c => decide ((97 : Int) ≤ (c.toNat : Int)) && decide ((c.toNat : Int) ≤ 122)
def wordB (n : List UInt8) : Bool := lowB n && (decide (1 ≤ n.length) && decide (n.length ≤ 8))
theorem sName_eq {n : List UInt8} (h : n.length ≤ 1099511627776) : sh_spec_sName n = some (wordB n) := by
  unfold sh_spec_sName
  refine (loop_up n.length (fun k => (k : Int)) (fun k => some (lowB (n.drop k) && (decide (1 ≤ n.length) && decide (n.length ≤ 8)))) (by omega) ?_ ?_).trans (by simp [wordB])
  · intro next k hk hn
    simp only [lt_dec hk, if_true]
    rw [getO_nat hk, List.drop_eq_getElem_cons hk]
    by_cases h1 : (n[k].toNat : Int) < 97
    · simp only [h1, decide_true, if_true, lowB, List.all_cons, show decide ((97 : Int) ≤ (n[k].toNat : Int)) = false by (simp only [decide_eq_false_iff_not]; omega), Bool.false_and]
    · by_cases h2 : (122 : Int) < (n[k].toNat : Int)
      · simp only [h1, h2, decide_true, decide_false, Bool.false_eq_true, if_false, if_true, lowB, List.all_cons, show decide ((n[k].toNat : Int) ≤ 122) = false by (simp only [decide_eq_false_iff_not]; omega), Bool.and_false, Bool.false_and]
      · simp only [h1, h2, decide_false, Bool.false_eq_true, if_false]
        rw [ckI_succ (by omega)]
        refine hn.trans ?_
        have : (decide ((97 : Int) ≤ (n[k].toNat : Int)) && decide ((n[k].toNat : Int) ≤ 122)) = true := by simp only [Bool.and_eq_true, decide_eq_true_eq]; omega
        simp only [lowB, List.all_cons, this, Bool.true_and]
  · intro next
    simp only [lt_self, Bool.false_eq_true, if_false, l1In_eq, Option.bind_some, List.drop_length, lowB, List.all_nil, Bool.true_and, Option.some.injEq]
    congr 1 <;> (congr 1; apply propext; omega)
theorem isWord_eq (n : List UInt8) : sh_impl_isWord n = some (wordB n) := by
  unfold sh_impl_isWord
  by_cases h1 : (n.length : Int) < 1
  · simp [h1, wordB, show ¬ (1 ≤ n.length) by omega]
  · by_cases h2 : (8 : Int) < (n.length : Int)
    · simp [h1, h2, wordB, show ¬ (n.length ≤ 8) by omega]
    · simp only [h1, h2, decide_false, Bool.false_eq_true, if_false]
      refine (range_all (G := fun l _ _ => some (lowB l)) (fun _ _ => rfl) ?_ 0 ()).trans (by simp only [wordB, show decide (1 ≤ n.length) = true by (simp; omega), show decide (n.length ≤ 8) = true by (simp; omega), Bool.and_true])
      intro x l k s next ih
      simp only [ih, lowB, List.all_cons]
      by_cases h3 : (x.toNat : Int) < 97
      · simp [h3, show ¬ (97 ≤ (x.toNat : Int)) by omega]
      · by_cases h4 : (122 : Int) < (x.toNat : Int)
        · simp [h3, h4, show ¬ ((x.toNat : Int) ≤ 122) by omega]
        · have : (decide ((97 : Int) ≤ (x.toNat : Int)) && decide ((x.toNat : Int) ≤ 122)) = true := by simp only [Bool.and_eq_true, decide_eq_true_eq]; omega
          simp only [h3, h4, decide_false, Bool.false_eq_true, if_false, this, Bool.true_and]
def hasName (l : List XVariable) (n : List UInt8) : Bool := l.any fun v => decide (v.Name = n)
def findI : List XVariable → List UInt8 → Nat → Int
  | [], _, _ => -1
  | v :: l, n, k => if v.Name = n then k else findI l n (k + 1)
theorem findI_nonneg : ∀ (l : List XVariable) (n : List UInt8) (k : Nat), decide (0 ≤ findI l n k) = hasName l n
  | [], _, _ => rfl
  | v :: l, n, k => by
    simp only [findI, hasName, List.any_cons]
    by_cases h : v.Name = n
    · simp [h]
    · simp only [h, if_false, decide_false, Bool.false_or]; exact findI_nonneg l n (k + 1)
theorem sFind_eq (l : List XVariable) (n : List UInt8) : sh_spec_sFind l n = some (findI l n 0) := by
  unfold sh_spec_sFind
  refine range_all (G := fun l k _ => some (findI l n k)) (fun _ _ => rfl) ?_ 0 ()
  intro x l k s next ih
  simp only [ih, findI]
  by_cases h : x.Name = n <;> simp [h]
def levB (v : XVariable) : Bool := decide (2 ≤ v.Levels) && decide (v.Levels ≤ 8)
def schFrom (s : List XVariable) : List XVariable → Nat → Bool
  | [], _ => true
  | v :: l, k => wordB v.Name && (levB v && (!(hasName (s.take k) v.Name) && schFrom s l (k + 1)))
def schB (s : List XVariable) : Bool := decide (1 ≤ s.length) && decide (s.length ≤ 6) && schFrom s s 0
theorem sGood_eq {s : List XVariable} (h : ∀ v ∈ s, v.Name.length ≤ 1099511627776) : sh_spec_sGood s = some (schB s) := by
  unfold sh_spec_sGood
  rw [l1In_eq, Option.bind_some]
  have e : (decide ((1 : Int) ≤ (s.length : Int)) && decide ((s.length : Int) ≤ 6)) = (decide (1 ≤ s.length) && decide (s.length ≤ 6)) := by
    congr 1 <;> (congr 1; apply propext; omega)
  rw [e]
  cases h1 : (decide (1 ≤ s.length) && decide (s.length ≤ 6)) with
  | false => simp [schB, h1]
  | true =>
    simp only [Bool.not_true, Bool.false_eq_true, if_false]
    refine (range_mem (I := fun _ _ => True) (G := fun l k _ => some (schFrom s l k)) (fun _ _ _ _ => rfl) ?_ () trivial).trans (by simp [schB, h1])
    intro x l' k u next hx _ _ hn
    have hk := (List.getElem?_eq_some_iff.1 hx).1
    rw [sName_eq (h x (List.mem_of_getElem? hx)), Option.bind_some, l1In_eq, Option.bind_some]
    have e2 : (decide ((2 : Int) ≤ x.Levels) && decide (x.Levels ≤ 8)) = levB x := rfl
    simp only [e2, schFrom]
    cases wordB x.Name with
    | false => rfl
    | true =>
      cases levB x with
      | false => rfl
      | true =>
        simp only [Bool.not_true, Bool.false_eq_true, if_false, Bool.true_and]
        rw [ck_pos (by simp; omega), sFind_eq, Option.bind_some, findI_nonneg]
        simp only [Int.toNat_natCast, List.drop_zero]
        cases hasName (s.take k) x.Name with
        | true => rfl
        | false => simp only [Bool.false_eq_true, if_false, Bool.not_false, Bool.true_and]; exact hn () trivial
theorem isSchema_eq (s : List XVariable) : sh_impl_IsSchema s = some (schB s) := by
  unfold sh_impl_IsSchema
  by_cases h1 : (s.length : Int) < 1
  · simp [h1, schB, show ¬ (1 ≤ s.length) by omega]
  · by_cases h2 : (6 : Int) < (s.length : Int)
    · simp [h1, h2, schB, show ¬ (s.length ≤ 6) by omega]
    · have e : (decide (1 ≤ s.length) && decide (s.length ≤ 6)) = true := by simp; omega
      simp only [h1, h2, decide_false, Bool.false_eq_true, if_false]
      refine (range_mem (I := fun _ _ => True) (G := fun l k _ => some (schFrom s l k)) (fun _ _ _ _ => rfl) ?_ () trivial).trans (by simp only [schB, e, Bool.true_and])
      intro x l' k u next hx _ _ hn
      have hk := (List.getElem?_eq_some_iff.1 hx).1
      rw [isWord_eq, Option.bind_some]
      simp only [schFrom]
      cases wordB x.Name with
      | false => rfl
      | true =>
        simp only [Bool.not_true, Bool.false_eq_true, if_false, Bool.true_and]
        by_cases h3 : x.Levels < 2
        · simp [h3, levB, show ¬ (2 ≤ x.Levels) by omega]
        · by_cases h4 : 8 < x.Levels
          · simp [h3, h4, levB, show ¬ (x.Levels ≤ 8) by omega]
          · have : levB x = true := by simp [levB]; omega
            simp only [h3, h4, decide_false, Bool.false_eq_true, if_false, this, Bool.true_and]
            rw [ck_pos (by simp; omega)]
            simp only [Int.toNat_natCast, List.drop_zero]
            have hn' := hn () trivial
            refine range_all (G := fun l _ _ => some (!(hasName l x.Name) && schFrom s l' (k + 1))) (fun _ _ => by simp only [hasName, List.any_nil, Bool.not_false, Bool.true_and]; exact hn'.symm) ?_ 0 ()
            intro y l2 j u2 next2 ih
            simp only [ih, hasName, List.any_cons]
            by_cases h5 : y.Name = x.Name <;> simp [h5]
theorem schFrom_lev {s : List XVariable} : ∀ {l : List XVariable} {k : Nat}, schFrom s l k = true → ∀ v ∈ l, 2 ≤ v.Levels ∧ v.Levels ≤ 8
  | [], _, _, v, hv => by simp at hv
  | x :: l, k, h, v, hv => by
    simp only [schFrom, Bool.and_eq_true] at h
    rcases List.mem_cons.1 hv with rfl | hv
    · have := h.2.1; simpa [levB] using this
    · exact schFrom_lev h.2.2.2 v hv
theorem schB_lev {s : List XVariable} (h : schB s = true) {v : XVariable} (hv : v ∈ s) : 2 ≤ v.Levels ∧ v.Levels ≤ 8 := by
  simp only [schB, Bool.and_eq_true] at h
  exact schFrom_lev h.2 v hv
theorem schB_len {s : List XVariable} (h : schB s = true) : 1 ≤ s.length ∧ s.length ≤ 6 := by
  simp only [schB, Bool.and_eq_true, decide_eq_true_eq] at h
  exact h.1
/-! ### Weights, values, costs -/
theorem names_of_bulk {s : List XVariable} (h : bulkVS s ≤ 1048576) : ∀ v ∈ s, v.Name.length ≤ 1099511627776 := by
  intro v hv
  have : v.Name.length ≤ sumL bulkV s := sumL_mem bulkV hv
  unfold bulkVS at h
  omega
end AS
namespace AS
section
variable {R σ α β : Type}
/-- Is there an element? -/
def anyF (c : Nat → α → Bool) : List α → Nat → Bool
  | [], _ => false
  | x :: l, k => c k x || anyF c l (k + 1)
theorem anyF_iff {c : Nat → α → Bool} : ∀ {l : List α} {k : Nat}, anyF c l k = true ↔ ∃ j x, l[j]? = some x ∧ c (k + j) x = true
  | [], k => by simp [anyF]
  | x :: l, k => by
    simp only [anyF, Bool.or_eq_true, anyF_iff (l := l)]
    constructor
    · rintro (h | ⟨j, y, h1, h2⟩)
      · exact ⟨0, x, rfl, h⟩
      · exact ⟨j + 1, y, by simpa using h1, by rw [show k + (j + 1) = k + 1 + j by omega]; exact h2⟩
    · rintro ⟨j, y, h1, h2⟩
      cases j with
      | zero => simp only [List.getElem?_cons_zero, Option.some.injEq] at h1; subst h1; exact .inl h2
      | succ j => exact .inr ⟨j, y, by simpa using h1, by rw [show k + 1 + j = k + (j + 1) by omega]; exact h2⟩
theorem range_any {body : Nat → α → Unit → (Unit → Option R) → Option R} {fin : Unit → Option R} {l : List α} (c : Nat → α → Bool) (r : Option R)
    (hs : ∀ x k next, l[k]? = some x → body k x () next = (if c k x = true then r else next ())) : rangeF body fin l 0 () = (if anyF c l 0 = true then r else fin ()) := by
  refine (range_mem (I := fun _ _ => True) (G := fun l' k _ => if anyF c l' k = true then r else fin ()) ?_ ?_ () trivial)
  · intro k s _ _; simp [anyF]
  · intro x l' k s next hx _ _ hn
    rw [hs x k next hx]
    by_cases h : c k x = true
    · simp [h, anyF]
    · have h' : c k x = false := by simpa using h
      simp only [h', anyF, Bool.false_or, Bool.false_eq_true, if_false]; exact hn _ trivial
/-- A loop with all answers known: it adds up. -/
def foldF (f : Nat → α → σ → σ) : List α → Nat → σ → σ
  | [], _, s => s
  | x :: l, k, s => foldF f l (k + 1) (f k x s)
theorem range_fold {body : Nat → α → σ → (σ → Option R) → Option R} {fin : σ → Option R} {l : List α} {init : σ} (I : Nat → σ → Prop) (f : Nat → α → σ → σ) (h0 : I 0 init)
    (hI : ∀ x k s, l[k]? = some x → I k s → I (k + 1) (f k x s)) (hs : ∀ x k s next, l[k]? = some x → I k s → body k x s next = next (f k x s)) : rangeF body fin l 0 init = fin (foldF f l 0 init) := by
  refine (range_mem (I := I) (G := fun l' k s => fin (foldF f l' k s)) ?_ ?_ init h0)
  · intro k s _ _; rfl
  · intro x l' k s next hx _ hi hn
    rw [hs x k s next hx hi]
    exact hn _ (hI x k s hx hi)
end
end AS
namespace AS
theorem sz_end {a : Int} {n : Nat} : (if (decide (left a n < (0 : Int))) = true then some (-1 : Int) else some (left a n)) = some (left a n) := by
  by_cases h : (n : Int) ≤ a
  · rw [left_pos h]; simp [show ¬ (a - (n : Int) < 0) by omega]
  · rw [left_no h]; rfl
theorem getO_set {R α : Type} {l : List α} {k : Nat} {x : α} {f : α → Option R} (h : k < l.length) : getO (l.set k x) (k : Int) f = f x := getO_some (by rw [List.getElem?_set_self h])
theorem mark_loop2 {α : Type} {mk : α → Int → α} {sz : α → Nat} {body : ((List α × Int × Int) → Option (List α × Int)) → (List α × Int × Int) → Option (List α × Int)} {l : List α} {n : Int} (B : Int) (hB : B ≤ 4611686018427387904) (hl : l.length ≤ 1099511627776) (h0 : 0 ≤ n) (h : n + (sumL sz l : Nat) ≤ B)
    (hb : ∀ nx (s : List α) (m : Int) (k : Nat) (x : α), k < s.length → s.length = l.length → s[k]? = some x → 0 ≤ m → m + sz x ≤ B → body nx (s, m, (k : Int)) = nx (s.set k (mk x m), m + sz x, (k : Int) + 1))
    (he : ∀ nx (s : List α) (m : Int), body nx (s, m, (s.length : Int)) = some (s, m)) :
    loopF body FUEL (l, n, (0 : Int)) = some (mkL mk sz l n, n + (sumL sz l : Nat)) := by
  have e0 : ((l, n, (0 : Int)) : List α × Int × Int) = (fun k : Nat => (mixL (mkL mk sz l n) l k, n + (sumL sz (l.take k) : Nat), (k : Int))) 0 := by simp [mixL_zero, sumL]
  rw [e0]
  refine (loop_up l.length (fun k : Nat => (mixL (mkL mk sz l n) l k, n + (sumL sz (l.take k) : Nat), (k : Int))) (fun _ => some (mkL mk sz l n, n + (sumL sz l : Nat))) (by omega) ?_ ?_)
  · intro next k hk hn
    have hlen := mkL_len mk sz l n
    have hm : k < (mkL mk sz l n).length := by rw [hlen]; exact hk
    have h1 := sumL_take_le sz l (k + 1)
    rw [sumL_take sz hk] at h1 hn
    have hmix := mixL_len hlen k
    rw [hb next _ _ k l[k] (by rw [hmix]; exact hk) hmix (mixL_get hlen hk) (by omega) (by omega)]
    rw [← mkL_get mk sz l n k hk, mixL_set hlen hm, ← hn]
    simp only [cast_succ, Int.add_assoc, Int.natCast_add]
  · intro next
    have hlen := mkL_len mk sz l n
    have := mixL_end hlen
    rw [hlen] at this
    rw [this]
    have h2 := he next (mkL mk sz l n) (n + (sumL sz (l.take l.length) : Nat))
    rw [hlen] at h2
    rw [h2]; simp
/-! ### Geographies -/
/-! ### Tables -/
/-! ### Records -/
/-! ### Variables: marks -/
theorem markText_some {n : Int} (h0 : 0 ≤ n) (h1 : n ≤ 1000000000) : ∃ r, sh_laws_markText n = some r := by
  unfold sh_laws_markText
  by_cases hn : n ≤ 0
  · exact ⟨[109, 48], by simp [hn]⟩
  · simp only [hn, decide_false, Bool.false_eq_true, if_false]
    suffices H : ∀ (k : Nat) (m : Int) (t : List UInt8), 0 ≤ m → m < k → m + t.length ≤ 1000000000 → ∃ r, loopF (fun (nx : (Int × (List UInt8)) → Option (List UInt8)) (s : (Int × (List UInt8))) =>
        (if (decide ((0 : Int) < s.1)) = true then
          ck ((10 : Int) ≠ 0) <| ckI ((48 : Int) + (s.1.tmod (10 : Int))) <| ckU ((48 : Int) + (s.1.tmod (10 : Int))) <|
          ck ([((48 : Int) + (s.1.tmod (10 : Int)))] = (bytesOf [((48 : Int) + (s.1.tmod (10 : Int)))]).map fun b => ((b.toNat : Nat) : Int)) <|
          lnO ((bytesOf [((48 : Int) + (s.1.tmod (10 : Int)))]).length + s.2.length) <| ck ((10 : Int) ≠ 0) <| ckI (s.1.tdiv (10 : Int)) <|
          nx ((s.1.tdiv (10 : Int)), ((bytesOf [((48 : Int) + (s.1.tmod (10 : Int)))]) ++ s.2))
        else lnO (([109] : List UInt8).length + s.2.length) <| some (([109] : List UInt8) ++ s.2))) k (m, t) = some r by
      have hF : (1000000001 : Nat) ≤ FUEL := by decide +kernel
      obtain ⟨d, hd⟩ := Nat.exists_eq_add_of_le hF
      have := H FUEL n [] h0 (by omega) (by simpa using h1)
      exact this
    intro k
    induction k with
    | zero => intro m t h0 h1; omega
    | succ k ih =>
      intro m t h0 h1 h2
      simp only [loopF]
      by_cases hm : 0 < m
      · simp only [hm, decide_true, if_true]
        have e1 : m.tmod 10 = m % 10 := Int.tmod_eq_emod_of_nonneg h0
        have e2 : m.tdiv 10 = m / 10 := Int.tdiv_eq_ediv_of_nonneg h0
        rw [e1, e2, ck_pos (by decide), ckI_pos (by omega) (by omega), ckU_pos (by omega) (by omega), ck_pos, lnO_pos (by simp [bytesOf]; omega), ck_pos (by decide), ckI_pos (by omega) (by omega)]
        · exact ih _ _ (by omega) (by omega) (by simp [bytesOf]; omega)
        · simp only [bytesOf, List.map_cons, List.map_nil, UInt8.toNat_ofNat', List.cons.injEq, and_true]
          omega
      · simp only [hm, decide_false, Bool.false_eq_true, if_false]
        rw [lnO_pos (by simp; omega)]
        exact ⟨_, rfl⟩
def mt (n : Int) : List UInt8 := (sh_laws_markText n).getD []
theorem markText_eq {n : Int} (h0 : 0 ≤ n) (h1 : n ≤ 1000000000) : sh_laws_markText n = some (mt n) := by
  obtain ⟨r, hr⟩ := markText_some h0 h1
  unfold mt; rw [hr]; rfl
def mkEV (v : XVariable) (n : Int) : XVariable := ⟨mt n, n + 1⟩
def marksVS (l : List XVariable) : Nat := sumL (fun _ => 2) l
theorem marksVS_le : ∀ (l : List XVariable), marksVS l ≤ 2 * l.length
  | [] => by simp [marksVS, sumL]
  | t :: l => by
    have := marksVS_le l
    simp only [marksVS, sumL_cons, List.length_cons] at this ⊢
    omega
theorem markVariableS_eq {l : List XVariable} {n : Int} (hl : l.length ≤ 1099511627776) (h0 : 0 ≤ n) (h : n + marksVS l ≤ 1000000000) : sh_laws_markVariableS l n = some (mkL mkEV (fun _ => 2) l n, n + marksVS l) := by
  unfold sh_laws_markVariableS
  refine mark_loop2 (mk := mkEV) (sz := fun _ => 2) 1000000000 (by omega) hl h0 h ?_ ?_
  · intro nx s m k x hk hs hx hm hB
    simp only [lt_dec hk, if_true, Int.toNat_natCast]
    rw [markText_eq hm (by omega), Option.bind_some, getO_some hx, ckI_pos (by omega) (by omega), getO_set hk]
    simp only [List.set_set]
    rw [ckI_pos (by omega) (by omega), ckI_succ (by omega)]
    congr 1
    simp only [mkEV, Prod.mk.injEq, and_true, true_and]
    omega
  · intro nx s m
    simp only [lt_self, Bool.false_eq_true, if_false]
end AS
namespace AS
/-! ### MarginOf -/
def risB (n : Int) : Int → List Int → Bool
  | _, [] => true
  | a, x :: l => decide (a < x) && (decide (x < n) && risB n x l)
end AS
namespace AS
theorem ckK_u64 {R : Type} {n : Int} {f : Option R} (h0 : 0 ≤ n) (h1 : n ≤ 18446744073709551615) : ckK .u64 n f = f := if_pos ⟨h0, h1⟩
theorem getD_get {α : Type} {l : List α} {k : Nat} {d : α} (h : k < l.length) : l.getD k d = l[k] := by simp [List.getD_eq_getElem?_getD, h]
theorem not_anyF {α : Type} {c : Nat → α → Bool} {l : List α} (h : (!anyF c l 0) = true) {k : Nat} {x : α} (hx : l[k]? = some x) : c k x = false := by
  cases hc : c k x with
  | false => rfl
  | true =>
    have : anyF c l 0 = true := anyF_iff.2 ⟨k, x, hx, by simpa using hc⟩
    rw [this] at h; cases h
theorem if_not {b : Bool} : (if b = true then some false else some true) = some (!b) := by cases b <;> rfl
/-! ### Sets of levels -/
def full (v : XVariable) : Int := 2 ^ v.Levels.toNat - 1
theorem pow_bd {v : XVariable} (h : 2 ≤ v.Levels ∧ v.Levels ≤ 8) : (4 : Int) ≤ 2 ^ v.Levels.toNat ∧ (2 : Int) ^ v.Levels.toNat ≤ 256 := by
  have : v.Levels.toNat = 2 ∨ v.Levels.toNat = 3 ∨ v.Levels.toNat = 4 ∨ v.Levels.toNat = 5 ∨ v.Levels.toNat = 6 ∨ v.Levels.toNat = 7 ∨ v.Levels.toNat = 8 := by omega
  rcases this with h | h | h | h | h | h | h <;> rw [h] <;> decide
theorem fullSet_eq {v : XVariable} (h : 2 ≤ v.Levels ∧ v.Levels ≤ 8) : sh_impl_fullSet v = some (full v) := by
  unfold sh_impl_fullSet
  have := pow_bd h
  simp only [Int.one_mul]
  rw [ck_pos (by omega), ckI_pos (by omega) (by omega), ckI_pos (by omega) (by omega)]; rfl
theorem eFull_eq {s : List XVariable} (hs : schB s = true) {k : Nat} (hk : k < s.length) : sh_spec_eFull s (k : Int) = some (full s[k]) := by
  unfold sh_spec_eFull
  have hl := schB_lev hs (List.getElem_mem hk)
  have := pow_bd hl
  simp only [Int.one_mul]
  rw [getO_nat hk, ckK_u64 (by omega) (by omega), ck_pos (by omega), ckI_pos (by omega) (by omega), ckI_pos (by omega) (by omega)]; rfl
/-! ### Records and conditions -/
/-! ### Variables of a table -/
theorem risB_rng {n : Int} : ∀ {l : List Int} {a : Int}, risB n a l = true → ∀ d ∈ l, a < d ∧ d < n
  | [], _, _, d, hd => by simp at hd
  | x :: l, a, h, d, hd => by
    simp only [risB, Bool.and_eq_true, decide_eq_true_eq] at h
    rcases List.mem_cons.1 hd with rfl | hd
    · exact ⟨h.1, h.2.1⟩
    · have := risB_rng h.2.2 d hd; omega
theorem risB_len {n : Int} : ∀ {l : List Int} {a : Int}, a < n → risB n a l = true → (l.length : Int) ≤ n - 1 - a
  | [], _, ha, _ => by simp; omega
  | x :: l, a, _, h => by
    simp only [risB, Bool.and_eq_true, decide_eq_true_eq] at h
    have := risB_len (a := x) h.2.1 h.2.2
    simp only [List.length_cons]; omega
def partV (s : List XVariable) (l : List Int) : List XVariable := l.map fun v => s.getD v.toNat default
theorem partV_len (s : List XVariable) (l : List Int) : (partV s l).length = l.length := by simp [partV]
/-! ### How many cells -/
def prodV : List XVariable → Int
  | [] => 1
  | v :: l => v.Levels * prodV l
theorem mul_pow_bd {a x : Int} {k : Nat} (hk : k ≤ 5) (h1 : 1 ≤ a) (h2 : a ≤ 8 ^ k) (h3 : 2 ≤ x) (h4 : x ≤ 8) : 1 ≤ a * x ∧ a * x ≤ 8 ^ (k + 1) ∧ (8 : Int) ^ (k + 1) ≤ 262144 := by
  have a1 : 1 * 1 ≤ a * x := Int.mul_le_mul h1 (by omega) (by omega) (by omega)
  have a2 : a * x ≤ 8 ^ k * 8 := Int.mul_le_mul h2 (by omega) (by omega) (by omega)
  refine ⟨by omega, by rw [Int.pow_succ]; exact a2, ?_⟩
  have : k = 0 ∨ k = 1 ∨ k = 2 ∨ k = 3 ∨ k = 4 ∨ k = 5 := by omega
  rcases this with rfl | rfl | rfl | rfl | rfl | rfl <;> decide
theorem foldF_prod : ∀ (l : List XVariable) (k : Nat) (a : Int), foldF (fun _ v a => a * v.Levels) l k a = a * prodV l
  | [], _, a => by simp [foldF, prodV]
  | v :: l, k, a => by simp only [foldF, prodV, foldF_prod l, Int.mul_assoc]
theorem sCount_eq {l : List XVariable} (hl : l.length ≤ 6) (h : ∀ v ∈ l, 2 ≤ v.Levels ∧ v.Levels ≤ 8) : sh_spec_sCount l = some (prodV l) := by
  unfold sh_spec_sCount
  refine (range_fold (I := fun k a => 1 ≤ a ∧ a ≤ 8 ^ k) (f := fun _ v a => a * v.Levels) (by simp) ?_ ?_).trans (by rw [foldF_prod, Int.one_mul])
  · intro x k a hx hI
    have hk := (List.getElem?_eq_some_iff.1 hx).1
    have := h x (List.mem_of_getElem? hx)
    have := mul_pow_bd (show k ≤ 5 by omega) hI.1 hI.2 this.1 this.2
    exact ⟨this.1, this.2.1⟩
  · intro x k a next hx hI
    have hk := (List.getElem?_eq_some_iff.1 hx).1
    have := h x (List.mem_of_getElem? hx)
    have := mul_pow_bd (show k ≤ 5 by omega) hI.1 hI.2 this.1 this.2
    rw [ckI_pos (by omega) (by omega)]
theorem combinations_eq {l : List XVariable} (hl : l.length ≤ 6) (h : ∀ v ∈ l, 2 ≤ v.Levels ∧ v.Levels ≤ 8) : sh_impl_combinations l = some (prodV l) := by
  unfold sh_impl_combinations
  refine (range_fold (I := fun k a => 1 ≤ a ∧ a ≤ 8 ^ k) (f := fun _ v a => a * v.Levels) (by simp) ?_ ?_).trans (by rw [foldF_prod, Int.one_mul])
  · intro x k a hx hI
    have hk := (List.getElem?_eq_some_iff.1 hx).1
    have := h x (List.mem_of_getElem? hx)
    have := mul_pow_bd (show k ≤ 5 by omega) hI.1 hI.2 this.1 this.2
    exact ⟨this.1, this.2.1⟩
  · intro x k a next hx hI
    have hk := (List.getElem?_eq_some_iff.1 hx).1
    have := h x (List.mem_of_getElem? hx)
    have := mul_pow_bd (show k ≤ 5 by omega) hI.1 hI.2 this.1 this.2
    rw [ckI_pos (by omega) (by omega)]
theorem prodV_bd : ∀ {l : List XVariable}, l.length ≤ 6 → (∀ v ∈ l, 2 ≤ v.Levels ∧ v.Levels ≤ 8) → 1 ≤ prodV l ∧ prodV l ≤ 8 ^ l.length ∧ (8 : Int) ^ l.length ≤ 262144
  | [], _, _ => by simp [prodV]
  | v :: l, hl, h => by
    simp only [List.length_cons] at hl
    have := prodV_bd (l := l) (by omega) (fun u hu => h u (List.mem_cons_of_mem _ hu))
    have hv := h v List.mem_cons_self
    have := mul_pow_bd (show l.length ≤ 5 by omega) this.1 this.2.1 hv.1 hv.2
    simp only [prodV, List.length_cons]
    rw [Int.mul_comm]; exact this
/-- A list of variables of a schema. -/
structure Part (s : List XVariable) (l : List Int) : Prop where
  sch : schB s = true
  ris : risB s.length (-1) l = true
theorem Part.rng {s : List XVariable} {l : List Int} (h : Part s l) : ∀ d ∈ l, 0 ≤ d ∧ d < (s.length : Int) := fun d hd => by
  have := risB_rng h.ris d hd; omega
theorem Part.len {s : List XVariable} {l : List Int} (h : Part s l) : l.length ≤ 6 := by
  have := risB_len (by omega) h.ris
  have := schB_len h.sch
  omega
theorem Part.lev {s : List XVariable} {l : List Int} (h : Part s l) : ∀ v ∈ partV s l, 2 ≤ v.Levels ∧ v.Levels ≤ 8 := by
  intro v hv
  simp only [partV, List.mem_map] at hv
  obtain ⟨d, hd, rfl⟩ := hv
  have := h.rng d hd
  rw [getD_get (show d.toNat < s.length by omega)]
  exact schB_lev h.sch (List.getElem_mem _)
theorem Part.bd {s : List XVariable} {l : List Int} (h : Part s l) : 1 ≤ prodV (partV s l) ∧ prodV (partV s l) ≤ 262144 := by
  have := prodV_bd (l := partV s l) (by rw [partV_len]; exact h.len) h.lev
  omega
/-! ### Tables -/
end AS
namespace AS
/-! ### Mixed radix -/
/-- A list of variables that can be counted. -/
structure Vs (s : List XVariable) : Prop where
  len : s.length ≤ 6
  lev : ∀ v ∈ s, 2 ≤ v.Levels ∧ v.Levels ≤ 8
theorem Vs.drop {s : List XVariable} (h : Vs s) (k : Nat) : Vs (s.drop k) := ⟨by simp; have := h.len; omega, fun v hv => h.lev v (List.mem_of_mem_drop hv)⟩
theorem Vs.bd {s : List XVariable} (h : Vs s) : 1 ≤ prodV s ∧ prodV s ≤ 262144 := by
  have := prodV_bd h.len h.lev
  omega
/-! ### Positions -/
end AS
namespace AS
/-! ### Surveys -/
/-! ### Normal tables -/
theorem l1Same_eq (a b : List Int) : sh_spec_l1Same a b = some (decide (a = b)) := by
  unfold sh_spec_l1Same
  by_cases hl : a.length = b.length
  · simp only [hl, ne_eq, not_true_eq_false, decide_false, Bool.false_eq_true, if_false]
    refine (range_mem (I := fun _ _ => True) (G := fun l k _ => some (decide (l = b.drop k))) ?_ ?_ () trivial).trans (by simp)
    · intro k _ _ hk; rw [hk, hl, List.drop_length]; simp
    · intro x l' k _ next hx _ _ hn
      have hk := (List.getElem?_eq_some_iff.1 hx).1
      have hkb : k < b.length := by omega
      rw [getO_nat hkb, List.drop_eq_getElem_cons hkb]
      by_cases e : x = b[k]
      · simp only [e, not_true_eq_false, decide_false, Bool.false_eq_true, if_false, List.cons.injEq, true_and]
        exact hn () trivial
      · have e2 : ¬ (x :: l' = b[k] :: List.drop (k + 1) b) := fun h => e (List.cons.inj h).1
        simp only [e, ne_eq, not_false_eq_true, decide_true, if_true, e2, decide_false]
  · have : ¬ (a = b) := fun e => hl (by rw [e])
    have h2 : ¬ ((a.length : Int) = (b.length : Int)) := by omega
    simp [this, h2]
end AS
namespace AS
/-! ### The law's own functions on edits -/
def bulkE (e : XEdit) : Nat := e.Sets.length
theorem szEdit_eq {e : XEdit} {a : Int} (h0 : 0 ≤ a) (h1 : a ≤ 1048576) (hb : Bd.bd e) : sh_laws_szEdit e a = some (left a (bulkE e)) := by
  unfold sh_laws_szEdit
  have hl : Bd.bd e.Sets := hb
  rw [szIntS_eq h0 h1 hl.1, Option.bind_some]
  exact sz_end
theorem toEdit_eq {e : XEdit} (h : bulkE e ≤ 1048576) : sh_laws_toEdit e = some e := by
  unfold sh_laws_toEdit; unfold bulkE at h
  rw [toIntS_eq h, Option.bind_some]
theorem eqEdit_eq {a b : XEdit} (h : bulkE a ≤ 1048576) : sh_laws_eqEdit a b = some (decide (a = b)) := by
  unfold sh_laws_eqEdit; unfold bulkE at h
  rw [eqIntS_eq (by omega), Option.bind_some]
  cases a; cases b; simp only [XEdit.mk.injEq]
  split <;> simp_all
def mkEdit (e : XEdit) (n : Int) : XEdit := ⟨mks n e.Sets.length⟩
def bulkES (l : List XEdit) : Nat := l.length + sumL bulkE l
theorem szEditS_eq {l : List XEdit} {a : Int} (h0 : 0 ≤ a) (h1 : a ≤ 1048576) (hb : Bd.bd l) : sh_laws_szEditS l a = some (left a (bulkES l)) := by
  unfold sh_laws_szEditS
  exact sz_loop h0 h1 hb.1 fun x hx m hm hm2 => szEdit_eq hm hm2 (hb.2 x hx)
theorem bulkE_mem {l : List XEdit} {t : XEdit} (h : t ∈ l) : bulkE t ≤ bulkES l := by
  have := sumL_mem bulkE h; unfold bulkES; omega
theorem toEditS_eq {l : List XEdit} (h : bulkES l ≤ 1048576) : sh_laws_toEditS l = some l := by
  unfold sh_laws_toEditS
  exact to_loop (by unfold bulkES at h; omega) fun x hx => toEdit_eq (by have := bulkE_mem hx; omega)
theorem eqEditS_eq {a b : List XEdit} (h : bulkES a ≤ 1048576) : sh_laws_eqEditS a b = some (decide (a = b)) := by
  unfold sh_laws_eqEditS
  exact eq_loop (by unfold bulkES at h; omega) fun x hx y => eqEdit_eq (by have := bulkE_mem hx; omega)
def marksES (l : List XEdit) : Nat := sumL bulkE l
theorem marksES_le (l : List XEdit) : marksES l ≤ 2 * bulkES l := by unfold marksES bulkES; omega
theorem markEditS_eq {l : List XEdit} {n : Int} (hl : l.length ≤ 1099511627776) (h0 : 0 ≤ n) (h : n + marksES l ≤ 4611686018427387904) : sh_laws_markEditS l n = some (mkL mkEdit bulkE l n, n + marksES l) := by
  unfold sh_laws_markEditS
  refine mark_loop2 (mk := mkEdit) (sz := bulkE) 4611686018427387904 (by omega) hl h0 h ?_ ?_
  · intro nx s m k x hk hs hx hm hB
    unfold bulkE at hB
    simp only [lt_dec hk, if_true, Int.toNat_natCast]
    rw [getO_some hx, markIntS_eq (by omega) (by omega), Option.bind_some, ckI_succ (by omega)]
    rfl
  · intro nx s m
    simp only [lt_self, Bool.false_eq_true, if_false]
/-! ### Validity -/
def edB (s : List XVariable) (w : List Int) : Bool := decide (w.length = s.length) && !anyF (fun k x => !(decide (1 ≤ x) && decide (x ≤ full (s.getD k default)))) w 0
theorem edB_len {s : List XVariable} {w : List Int} (h : edB s w = true) : w.length = s.length := by
  simp only [edB, Bool.and_eq_true, decide_eq_true_eq] at h; exact h.1
theorem edB_get {s : List XVariable} {w : List Int} (h : edB s w = true) {k : Nat} {x : Int} (hx : w[k]? = some x) : ∃ v, s[k]? = some v ∧ 1 ≤ x ∧ x ≤ full v := by
  have hl := edB_len h
  simp only [edB, Bool.and_eq_true, decide_eq_true_eq] at h
  have hk := (List.getElem?_eq_some_iff.1 hx).1
  have := not_anyF h.2 hx
  simp only [Bool.not_eq_false', Bool.and_eq_true, decide_eq_true_eq] at this
  rw [getD_get (show k < s.length by omega)] at this
  exact ⟨_, List.getElem?_eq_getElem (by omega), this⟩
theorem eGood_eq {s : List XVariable} {e : XEdit} (hs : schB s = true) : sh_spec_eGood s e = some (edB s e.Sets) := by
  unfold sh_spec_eGood edB
  by_cases h : e.Sets.length = s.length
  · simp only [h, ne_eq, not_true_eq_false, decide_false, Bool.false_eq_true, if_false, decide_true, Bool.true_and]
    refine (range_any (c := fun k x => !(decide (1 ≤ x) && decide (x ≤ full (s.getD k default)))) (some false) ?_).trans (show (if anyF _ _ 0 = true then some false else some true) = _ from if_not)
    intro x k next hx
    have hk := (List.getElem?_eq_some_iff.1 hx).1
    have hks : k < s.length := by omega
    rw [eFull_eq hs hks, Option.bind_some, l1In_eq, Option.bind_some, getD_get hks]
  · simp [h, show ¬ ((e.Sets.length : Int) = (s.length : Int)) by omega]
theorem isEdit_eq {s : List XVariable} {e : XEdit} (hs : schB s = true) : sh_impl_isEdit s e = some (edB s e.Sets) := by
  unfold sh_impl_isEdit edB
  by_cases h : e.Sets.length = s.length
  · simp only [h, ne_eq, not_true_eq_false, decide_false, Bool.false_eq_true, if_false, decide_true, Bool.true_and]
    refine (range_any (c := fun k x => !(decide (1 ≤ x) && decide (x ≤ full (s.getD k default)))) (some false) ?_).trans (show (if anyF _ _ 0 = true then some false else some true) = _ from if_not)
    intro x k next hx
    have hk := (List.getElem?_eq_some_iff.1 hx).1
    have hks : k < s.length := by omega
    have hl := schB_lev hs (List.getElem_mem hks)
    rw [getD_get hks]
    by_cases h1 : x < 1
    · simp [h1, show ¬ (1 ≤ x) by omega]
    · simp only [h1, decide_false, Bool.false_eq_true, if_false]
      rw [getO_nat hks, fullSet_eq hl, Option.bind_some]
      by_cases h2 : full s[k] < x
      · simp [h2, show ¬ (x ≤ full s[k]) by omega]
      · simp [h2, show (1 ≤ x) by omega, show x ≤ full s[k] by omega]
  · simp [h, show ¬ ((e.Sets.length : Int) = (s.length : Int)) by omega]
def edsB (s : List XVariable) (l : List XEdit) : Bool := decide (l.length ≤ 40) && !anyF (fun _ e => !edB s e.Sets) l 0
theorem edsB_len {s : List XVariable} {l : List XEdit} (h : edsB s l = true) : l.length ≤ 40 := by
  simp only [edsB, Bool.and_eq_true, decide_eq_true_eq] at h; exact h.1
theorem edsB_get {s : List XVariable} {l : List XEdit} (h : edsB s l = true) {e : XEdit} (he : e ∈ l) : edB s e.Sets = true := by
  simp only [edsB, Bool.and_eq_true] at h
  obtain ⟨k, hk⟩ := List.getElem?_of_mem he
  have := not_anyF h.2 hk
  simpa using this
theorem eList_eq {s : List XVariable} {l : List XEdit} (hn : bulkVS s ≤ 1048576) : sh_spec_eList s l = some (schB s && edsB s l) := by
  unfold sh_spec_eList edsB
  rw [sGood_eq (names_of_bulk hn), Option.bind_some]
  cases hs : schB s with
  | false => rfl
  | true =>
    simp only [Bool.not_true, Bool.false_eq_true, if_false, Bool.true_and]
    by_cases hl : l.length ≤ 40
    · simp only [show ¬ ((40 : Int) < (l.length : Int)) by omega, decide_false, Bool.false_eq_true, if_false, hl, decide_true, Bool.true_and]
      refine (range_any (c := fun _ e => !edB s e.Sets) (some false) ?_).trans (show (if anyF _ _ 0 = true then some false else some true) = _ from if_not)
      intro e k next hx
      rw [eGood_eq hs, Option.bind_some]
    · simp [hl, show ((40 : Int) < (l.length : Int)) by omega]
theorem areEdits_eq {s : List XVariable} {l : List XEdit} (hs : schB s = true) : sh_impl_areEdits s l = some (edsB s l) := by
  unfold sh_impl_areEdits edsB
  by_cases hl : l.length ≤ 40
  · simp only [show ¬ ((40 : Int) < (l.length : Int)) by omega, decide_false, Bool.false_eq_true, if_false, hl, decide_true, Bool.true_and]
    refine (range_any (c := fun _ e => !edB s e.Sets) (some false) ?_).trans (show (if anyF _ _ 0 = true then some false else some true) = _ from if_not)
    intro e k next hx
    rw [isEdit_eq hs, Option.bind_some]
  · simp [hl, show ((40 : Int) < (l.length : Int)) by omega]
theorem schB_vs {s : List XVariable} (h : schB s = true) : Vs s := ⟨(schB_len h).2, fun v hv => schB_lev h hv⟩
def smlB (s : List XVariable) : Bool := schB s && decide (prodV s ≤ 100)
theorem smlB_sch {s : List XVariable} (h : smlB s = true) : schB s = true := by
  simp only [smlB, Bool.and_eq_true] at h; exact h.1
theorem eSmall_eq {s : List XVariable} {l : List XEdit} (hn : bulkVS s ≤ 1048576) : sh_spec_eSmall s l = some (smlB s && edsB s l) := by
  unfold sh_spec_eSmall smlB
  rw [eList_eq hn, Option.bind_some]
  cases hs : schB s with
  | false => rfl
  | true =>
    cases edsB s l with
    | false => simp
    | true =>
      have hv := schB_vs hs
      simp only [Bool.and_self, if_true, Bool.true_and, Bool.and_true]
      rw [sCount_eq hv.len hv.lev, Option.bind_some]
theorem isSmall_eq (s : List XVariable) : sh_impl_isSmall s = some (smlB s) := by
  unfold sh_impl_isSmall smlB
  rw [isSchema_eq, Option.bind_some]
  cases hs : schB s with
  | false => rfl
  | true =>
    have hv := schB_vs hs
    simp only [if_true, Bool.true_and]
    rw [combinations_eq hv.len hv.lev, Option.bind_some]
/-! ### Failing -/
/-! ### All lists of values -/
end AS
namespace AS
theorem jn_eq {R : Type} {f : Unit → Option R} {k : (Unit → Option R) → Option R} {r X : Option R} (hf : f () = r) (hk : ∀ af : Unit → Option R, af () = r → k af = X) : jn f k = X := hk f hf
/-! ### Levels -/
/-! ### Variables, conditions, sums -/
/-! ### The cheapest source -/
end AS
namespace AS
/-! ### Bits of a mask -/
/-! ### Comparing -/
def cmpI (a b : Int) : Int := if a < b then -1 else if b < a then 1 else 0
def lexC : List Int → List Int → Int
  | [], [] => 0
  | [], _ :: _ => -1
  | _ :: _, [] => 1
  | x :: a, y :: b => if cmpI x y ≠ 0 then cmpI x y else lexC a b
theorem cmpI_eq (a b : Int) : sh_cmp_Compare_int a b = some (cmpI a b) := by
  unfold sh_cmp_Compare_int sh_cmp_isNaN_int cmpI
  by_cases h1 : a < b
  · simp [h1]
  · by_cases h2 : b < a <;> simp [h1, h2]
theorem lexC_eq (a b : List Int) : sh_slices_Compare_int a b = some (lexC a b) := by
  unfold sh_slices_Compare_int
  refine (range_mem (I := fun k _ => k ≤ b.length) (G := fun l' k _ => some (lexC l' (b.drop k))) ?_ ?_ () (Nat.zero_le _)).trans (by simp)
  · intro k _ hk he
    rw [← he]
    by_cases h : k < b.length
    · rw [List.drop_eq_getElem_cons h]
      simp [lexC, show ((k : Int) < (b.length : Int)) by omega]
    · rw [List.drop_of_length_le (by omega)]
      simp [lexC, show ¬ ((k : Int) < (b.length : Int)) by omega]
  · intro x l' k _ next hx _ hk hn
    by_cases h : k < b.length
    · rw [List.drop_eq_getElem_cons h]
      simp only [show ¬ ((b.length : Int) ≤ (k : Int)) by omega, decide_false, Bool.false_eq_true, if_false, lexC]
      rw [getO_nat h, cmpI_eq, Option.bind_some]
      by_cases e : cmpI x b[k] = 0
      · simp only [e, ne_eq, not_true_eq_false, decide_false, Bool.false_eq_true, if_false]
        exact hn _ (by omega)
      · simp [e]
    · rw [List.drop_of_length_le (by omega)]
      simp [lexC, show ((b.length : Int) ≤ (k : Int)) by omega]
theorem l1Less_eq {a b : List Int} (ha : a.length ≤ 1048576) (hb : b.length ≤ 1048576) : sh_spec_l1Less a b = some (lexC a b) := by
  unfold sh_spec_l1Less
  simp only [jn]
  have hend : ∀ k, (k = a.length ∧ k ≤ b.length ∨ k = b.length ∧ k ≤ a.length) → (ckI ((a.length : Int) - (b.length : Int)) <| (sh_spec_l1Sign ((a.length : Int) - (b.length : Int))).bind fun x155 => some x155) = some (lexC (a.drop k) (b.drop k)) := by
    intro k hk
    rw [ckI_pos (by omega) (by omega)]
    unfold sh_spec_l1Sign
    by_cases h1 : k < a.length
    · have h2 : ¬ k < b.length := by omega
      rw [List.drop_eq_getElem_cons h1, List.drop_of_length_le (show b.length ≤ k by omega)]
      have e1 : decide ((a.length : Int) - (b.length : Int) < 0) = false := by rw [decide_eq_false_iff_not]; omega
      have e2 : decide ((0 : Int) < (a.length : Int) - (b.length : Int)) = true := by rw [decide_eq_true_eq]; omega
      simp only [e1, e2, Bool.false_eq_true, if_false, if_true, Option.bind_some, lexC]
    · rw [List.drop_of_length_le (show a.length ≤ k by omega)]
      by_cases h2 : k < b.length
      · rw [List.drop_eq_getElem_cons h2]
        have e1 : decide ((a.length : Int) - (b.length : Int) < 0) = true := by rw [decide_eq_true_eq]; omega
        simp only [e1, if_true, Option.bind_some, lexC]
      · rw [List.drop_of_length_le (show b.length ≤ k by omega)]
        have e : (a.length : Int) - (b.length : Int) = 0 := by omega
        rw [e]; simp [lexC]
  refine (loop_up (min a.length b.length) (fun k => (k : Int)) (fun k => some (lexC (a.drop k) (b.drop k))) (by omega) ?_ ?_).trans (by simp)
  · intro next k hk hn
    have hka : k < a.length := by omega
    have hkb : k < b.length := by omega
    simp only [lt_dec hka, lt_dec hkb, if_true]
    rw [getO_nat hka, getO_nat hkb, List.drop_eq_getElem_cons hka, List.drop_eq_getElem_cons hkb, ckI_succ (by omega)]
    simp only [lexC]
    rcases Int.lt_trichotomy a[k] b[k] with h | h | h
    · simp [cmpI, h, show a[k] ≠ b[k] by omega]
    · simp only [h, ne_eq, not_true_eq_false, decide_false, Bool.false_eq_true, if_false, cmpI, Int.lt_irrefl]
      exact hn
    · simp [cmpI, h, show ¬ a[k] < b[k] by omega, show a[k] ≠ b[k] by omega]
  · intro next
    by_cases h1 : a.length ≤ b.length
    · rw [show min a.length b.length = a.length by omega]
      simp only [lt_self, Bool.false_eq_true, if_false]
      exact hend _ (by omega)
    · rw [show min a.length b.length = b.length by omega]
      simp only [lt_dec (show b.length < a.length by omega), lt_self, Bool.false_eq_true, if_false, if_true]
      exact hend _ (by omega)
/-! ### The search -/
/-! ### Weights -/
section
variable {s : List XVariable} {l : List XEdit} {w v : List Int}
end
/-! ### Mended values -/
/-! ### A donor's values -/
end AS
namespace AS
theorem ckK64 {R : Type} {n : Int} {f : Option R} (h1 : -9223372036854775808 ≤ n) (h2 : n ≤ 9223372036854775807) : ckK .i64 n f = f := if_pos ⟨h1, h2⟩
theorem full_b256 {v : XVariable} (h : 2 ≤ v.Levels ∧ v.Levels ≤ 8) : 0 ≤ full v ∧ full v < 256 := by
  unfold full
  have : v.Levels = 2 ∨ v.Levels = 3 ∨ v.Levels = 4 ∨ v.Levels = 5 ∨ v.Levels = 6 ∨ v.Levels = 7 ∨ v.Levels = 8 := by omega
  rcases this with h | h | h | h | h | h | h <;> rw [h] <;> decide
theorem xor0 {a b : Nat} (h : a ^^^ b = 0) : a = b := by
  apply Nat.eq_of_testBit_eq
  intro i
  have := congrArg (fun n => Nat.testBit n i) h
  simp only [Nat.testBit_xor, Nat.zero_testBit] at this
  cases ha : a.testBit i <;> cases hb : b.testBit i <;> simp_all
/-! ### The order of edits -/
theorem lexI_C : ∀ a b : List Int, sh_lexI a b = lexC a b
  | [], [] => rfl
  | [], _ :: _ => rfl
  | _ :: _, [] => rfl
  | x :: a, y :: b => by
    simp only [sh_lexI, lexC, cmpI, lexI_C a b]
    by_cases h1 : x < y
    · simp [h1]
    · by_cases h2 : y < x <;> simp [h1, h2]
theorem lexC_self : ∀ a : List Int, lexC a a = 0
  | [] => rfl
  | x :: a => by simp [lexC, cmpI, lexC_self a]
theorem lexC_zero : ∀ {a b : List Int}, lexC a b = 0 → a = b
  | [], [], _ => rfl
  | [], _ :: _, h => by simp [lexC] at h
  | _ :: _, [], h => by simp [lexC] at h
  | x :: a, y :: b, h => by
    simp only [lexC, cmpI] at h
    by_cases h1 : x < y
    · simp [h1] at h
    · by_cases h2 : y < x
      · simp [h1, h2] at h
      · simp only [h1, h2, if_false, ne_eq, not_true_eq_false] at h
        rw [show x = y by omega, lexC_zero h]
theorem lexC_anti : ∀ a b : List Int, lexC b a = -lexC a b
  | [], [] => rfl
  | [], _ :: _ => rfl
  | _ :: _, [] => rfl
  | x :: a, y :: b => by
    simp only [lexC, cmpI]
    by_cases h1 : x < y
    · simp [h1, show ¬ y < x by omega]
    · by_cases h2 : y < x
      · simp [h1, h2]
      · simp only [h1, h2, if_false, ne_eq, not_true_eq_false]
        exact lexC_anti a b
theorem lexC_trans : ∀ {a b c : List Int}, lexC a b < 0 → lexC b c < 0 → lexC a c < 0
  | [], [], _, h, _ => by simp [lexC] at h
  | [], _ :: _, [], _, h => by simp [lexC] at h
  | [], _ :: _, _ :: _, _, _ => by simp [lexC]
  | _ :: _, [], _, h, _ => by simp [lexC] at h
  | _ :: _, _ :: _, [], _, h => by simp [lexC] at h
  | x :: a, y :: b, z :: c, h1, h2 => by
    simp only [lexC, cmpI] at h1 h2 ⊢
    by_cases p : x < y
    · by_cases q : y < z
      · simp [show x < z by omega]
      · by_cases q' : z < y
        · simp [q, q'] at h2
        · simp [show x < z by omega]
    · by_cases p' : y < x
      · simp [p, p'] at h1
      · simp only [p, p', if_false, ne_eq, not_true_eq_false] at h1
        have e : x = y := by omega
        subst e
        by_cases q : x < z
        · simp [q]
        · by_cases q' : z < x
          · simp [q, q'] at h2
          · simp only [q, q', if_false, ne_eq, not_true_eq_false] at h2 ⊢
            exact lexC_trans h1 h2
def ltS (x y : XEdit) : Prop := lexC x.Sets y.Sets < 0
theorem XEdit.ext' {a b : XEdit} (h : a.Sets = b.Sets) : a = b := by cases a; cases b; simp_all
theorem ltS_trans {x y z : XEdit} (h1 : ltS x y) (h2 : ltS y z) : ltS x z := lexC_trans h1 h2
theorem ltS_irr {x : XEdit} : ¬ ltS x x := by simp [ltS, lexC_self]
theorem ltS_tri {x y : XEdit} (h1 : ¬ ltS x y) (h2 : x ≠ y) : ltS y x := by
  unfold ltS at *
  rw [lexC_anti x.Sets y.Sets]
  have : lexC x.Sets y.Sets ≠ 0 := fun e => h2 (XEdit.ext' (lexC_zero e))
  omega
theorem up_ext : ∀ {a b : List XEdit}, a.Pairwise ltS → b.Pairwise ltS → (∀ x, x ∈ a ↔ x ∈ b) → a = b
  | [], [], _, _, _ => rfl
  | [], y :: b, _, _, h => by have := (h y).2 List.mem_cons_self; cases this
  | x :: a, [], _, _, h => by have := (h x).1 List.mem_cons_self; cases this
  | x :: a, y :: b, ha, hb, h => by
    have a1 := List.pairwise_cons.1 ha
    have b1 := List.pairwise_cons.1 hb
    have hxy : x = y := by
      have h1 := (h x).1 List.mem_cons_self
      have h2 := (h y).2 List.mem_cons_self
      rcases List.mem_cons.1 h1 with e | h1
      · exact e
      · rcases List.mem_cons.1 h2 with e | h2
        · exact e.symm
        · exact absurd (ltS_trans (a1.1 y h2) (b1.1 x h1)) ltS_irr
    subst hxy
    congr 1
    refine up_ext a1.2 b1.2 fun z => ?_
    have hz := h z
    simp only [List.mem_cons] at hz
    constructor
    · intro hza
      rcases hz.1 (.inr hza) with e | e
      · subst e; exact absurd (a1.1 z hza) ltS_irr
      · exact e
    · intro hzb
      rcases hz.2 (.inr hzb) with e | e
      · subst e; exact absurd (b1.1 z hzb) ltS_irr
      · exact e
/-! ### Insertion -/
def addE : List XEdit → XEdit → List XEdit
  | [], x => [x]
  | y :: l, x => if lexC y.Sets x.Sets < 0 then y :: addE l x else if y.Sets = x.Sets then y :: l else x :: y :: l
theorem addE_len : ∀ (l : List XEdit) (x : XEdit), (addE l x).length ≤ l.length + 1
  | [], _ => by simp [addE]
  | y :: l, x => by
    have := addE_len l x
    simp only [addE]
    split
    · simp; omega
    · split <;> simp
theorem addE_mem : ∀ {l : List XEdit} {x y : XEdit}, y ∈ addE l x ↔ y = x ∨ y ∈ l
  | [], x, y => by simp [addE]
  | z :: l, x, y => by
    simp only [addE]
    split
    · simp only [List.mem_cons, addE_mem (l := l)]
      constructor
      · rintro (h | h | h)
        · exact .inr (.inl h)
        · exact .inl h
        · exact .inr (.inr h)
      · rintro (h | h | h)
        · exact .inr (.inl h)
        · exact .inl h
        · exact .inr (.inr h)
    · split
      · rename_i h
        obtain rfl := XEdit.ext' h
        simp only [List.mem_cons]
        constructor
        · exact .inr
        · rintro (h | h)
          · exact .inl h
          · exact h
      · simp only [List.mem_cons]
theorem addE_rise : ∀ {l : List XEdit} {x : XEdit}, l.Pairwise ltS → (addE l x).Pairwise ltS
  | [], _, _ => by simp [addE]
  | y :: l, x, h => by
    have h1 := List.pairwise_cons.1 h
    simp only [addE]
    split
    · rename_i hlt
      refine List.pairwise_cons.2 ⟨fun z hz => ?_, addE_rise h1.2⟩
      rcases addE_mem.1 hz with rfl | hz
      · exact hlt
      · exact h1.1 z hz
    · split
      · exact h
      · rename_i h2 h3
        have hxy : ltS x y := ltS_tri h2 (fun e => h3 (by rw [e]))
        refine List.pairwise_cons.2 ⟨fun z hz => ?_, h⟩
        rcases List.mem_cons.1 hz with rfl | hz
        · exact hxy
        · exact ltS_trans hxy (h1.1 z hz)
theorem addE_split (l : List XEdit) (x : XEdit) : ∃ k, k ≤ l.length ∧ (∀ j (hj : j < k) (hl : j < l.length), lexC l[j].Sets x.Sets < 0) ∧ (∀ (hk : k < l.length), ¬ lexC l[k].Sets x.Sets < 0) ∧
    addE l x = (if ∃ h : k < l.length, l[k].Sets = x.Sets then l else l.take k ++ [x] ++ l.drop k) := by
  induction l with
  | nil => exact ⟨0, Nat.le_refl _, fun j hj => absurd hj (Nat.not_lt_zero _), fun h => absurd h (Nat.not_lt_zero _), by simp [addE]⟩
  | cons y l ih =>
    by_cases h : lexC y.Sets x.Sets < 0
    · obtain ⟨k, h1, h2, h3, h4⟩ := ih
      refine ⟨k + 1, by simpa using h1, fun j hj hl => ?_, fun hk => ?_, ?_⟩
      · cases j with
        | zero => exact h
        | succ j => exact h2 j (by omega) (by simpa using hl)
      · simpa using h3 (by simpa using hk)
      · simp only [addE, h, if_true, h4]
        by_cases hc : ∃ h : k < l.length, l[k].Sets = x.Sets
        · have hc' : ∃ h : k + 1 < (y :: l).length, (y :: l)[k + 1].Sets = x.Sets := ⟨by simpa using hc.1, by simpa using hc.2⟩
          rw [if_pos hc, if_pos hc']
        · have hc' : ¬ ∃ h : k + 1 < (y :: l).length, (y :: l)[k + 1].Sets = x.Sets := fun ⟨a, b⟩ => hc ⟨by simpa using a, by simpa using b⟩
          rw [if_neg hc, if_neg hc']; simp
    · refine ⟨0, Nat.zero_le _, fun j hj => absurd hj (Nat.not_lt_zero _), fun _ => h, ?_⟩
      simp only [addE, h, if_false]
      by_cases he : y.Sets = x.Sets
      · simp [he]
      · simp [he]
theorem eAdd_eq {l : List XEdit} {x : XEdit} (hl : l.length ≤ 1048576) (h1 : ∀ e ∈ l, e.Sets.length ≤ 1048576) (h2 : x.Sets.length ≤ 1048576) : sh_spec_eAdd l x = some (addE l x) := by
  unfold sh_spec_eAdd
  obtain ⟨k, k1, k2, k3, k4⟩ := addE_split l x
  rw [loopF_eq (I := fun s : Int => ∃ j : Nat, s = (j : Int) ∧ j ≤ k) (mu := fun s => (k - s.toNat)) (F := fun _ => some (k : Int)) (by
    rintro s next ⟨j, rfl, hj⟩ hn
    rw [lmO_pos (by omega)]
    by_cases hjl : j < l.length
    · simp only [lt_dec hjl, if_true]
      rw [getO_nat hjl, l1Less_eq (h1 _ (List.getElem_mem hjl)) h2, Option.bind_some]
      by_cases hjk : j < k
      · have := k2 j hjk hjl
        simp only [this, decide_true, if_true]
        rw [ckI_succ (by omega)]
        exact hn _ ⟨j + 1, by simp, by omega⟩ (by simp; omega)
      · obtain rfl : j = k := by omega
        have := k3 hjl
        simp only [this, decide_false, Bool.false_eq_true, if_false]
    · obtain rfl : j = k := by omega
      have : j = l.length := by omega
      subst this
      simp only [lt_self, Bool.false_eq_true, if_false]) FUEL 0 ⟨0, rfl, Nat.zero_le _⟩ (FUEL_big (by simp; omega)), Option.bind_some]
  refine jn_eq (r := some (l.take k ++ [x] ++ l.drop k)) ?_ ?_
  · rw [ck_pos ⟨by omega, by omega, by omega⟩, lnO_pos (by simp; omega), l1Own_eq (by omega), Option.bind_some, lnO_pos (by simp; omega), ck_pos ⟨by omega, by omega, Nat.le_refl _⟩, lnO_pos (by simp; omega)]
    simp
  · intro af haf
    rw [lmO_pos (by omega)]
    by_cases hk : k < l.length
    · simp only [lt_dec hk, if_true]
      rw [getO_nat hk, l1Same_eq, Option.bind_some]
      by_cases he : l[k].Sets = x.Sets
      · have e4 : addE l x = l := by rw [k4, if_pos ⟨hk, he⟩]
        rw [e4]; simp [he]
      · have hc : ¬ ∃ h : k < l.length, l[k].Sets = x.Sets := fun ⟨a, b⟩ => he b
        rw [k4, if_neg hc]
        simp only [he, decide_false, Bool.false_eq_true, if_false]; exact haf
    · have hc : ¬ ∃ h : k < l.length, l[k].Sets = x.Sets := fun ⟨a, b⟩ => hk a
      rw [k4, if_neg hc]
      simp only [show decide ((k : Int) < (l.length : Int)) = false by simp; omega, Bool.false_eq_true, if_false]; exact haf
/-! ### Containing -/
def conL : List Int → List Int → Bool
  | [], _ => true
  | x :: l, y :: m => decide (x.toNat &&& y.toNat = x.toNat) && conL l m
  | _ :: _, [] => false
/-- Sets of edits of a list: as many in each, none below zero. -/
def okE (n : Nat) (e : XEdit) : Prop := e.Sets.length = n ∧ n ≤ 1048576 ∧ ∀ x ∈ e.Sets, 0 ≤ x ∧ x < 256
theorem specCon_eq {n : Nat} {f e : XEdit} (hf : okE n f) (he : okE n e) : sh_spec_eContains f e = some (conL e.Sets f.Sets) := by
  unfold sh_spec_eContains
  refine (range_mem (I := fun _ _ => True) (G := fun l' k _ => some (conL l' (f.Sets.drop k))) ?_ ?_ () trivial).trans (by simp)
  · intro k _ _ _; simp [conL]
  · intro x l' k _ next hx _ _ hn
    have hk := (List.getElem?_eq_some_iff.1 hx).1
    have hkf : k < f.Sets.length := by have := hf.1; have := he.1; omega
    have h1 := he.2.2 x (List.mem_of_getElem? hx)
    have h2 := hf.2.2 _ (List.getElem_mem hkf)
    rw [getO_nat hkf, ck_pos h1.1, ckK64 (by omega) (by omega), ck_pos h2.1, ckK64 (by omega) (by omega), List.drop_eq_getElem_cons hkf]
    simp only [conL]
    by_cases h : x.toNat &&& (f.Sets[k]).toNat = x.toNat
    · have e1 : decide (((x.toNat &&& (f.Sets[k]).toNat : Nat) : Int) ≠ x) = false := by rw [h]; simp; omega
      rw [e1]
      simp only [Bool.false_eq_true, if_false, h, decide_true, Bool.true_and]
      exact hn _ trivial
    · have e1 : decide (((x.toNat &&& (f.Sets[k]).toNat : Nat) : Int) ≠ x) = true := by
        simp only [ne_eq, decide_not, Bool.not_eq_true', decide_eq_false_iff_not]; intro e; apply h; omega
      rw [e1]
      simp [h]
theorem implCon_eq {n : Nat} {f e : XEdit} (hf : okE n f) (he : okE n e) : sh_impl_contains f e = some (conL e.Sets f.Sets) := by
  unfold sh_impl_contains
  refine (range_mem (I := fun _ _ => True) (G := fun l' k _ => some (conL l' (f.Sets.drop k))) ?_ ?_ () trivial).trans (by simp)
  · intro k _ _ _; simp [conL]
  · intro x l' k _ next hx _ _ hn
    have hk := (List.getElem?_eq_some_iff.1 hx).1
    have hkf : k < f.Sets.length := by have := hf.1; have := he.1; omega
    have h1 := he.2.2 x (List.mem_of_getElem? hx)
    have h2 := hf.2.2 _ (List.getElem_mem hkf)
    rw [getO_nat hkf, ck_pos h1.1, ckK64 (by omega) (by omega), ck_pos h2.1, ckK64 (by omega) (by omega), List.drop_eq_getElem_cons hkf]
    simp only [conL]
    by_cases h : x.toNat &&& (f.Sets[k]).toNat = x.toNat
    · have e1 : decide ((((x.toNat &&& (f.Sets[k]).toNat) ^^^ x.toNat : Nat) : Int) ≠ 0) = false := by rw [h]; simp
      rw [e1]
      simp only [Bool.false_eq_true, if_false, h, decide_true, Bool.true_and]
      exact hn _ trivial
    · have e1 : decide ((((x.toNat &&& (f.Sets[k]).toNat) ^^^ x.toNat : Nat) : Int) ≠ 0) = true := by
        simp only [ne_eq, decide_not, Bool.not_eq_true', decide_eq_false_iff_not]
        intro e
        apply h
        have : (x.toNat &&& (f.Sets[k]).toNat) ^^^ x.toNat = 0 := by omega
        exact xor0 this
      rw [e1]
      simp [h]
/-! ### Those that no other one contains -/
def insE (l : List XEdit) (e : XEdit) : Bool := l.any fun f => !decide (e.Sets = f.Sets) && conL e.Sets f.Sets
def outE (l : List XEdit) : List XEdit := (l.filter fun e => !insE l e).foldl addE []
theorem fold_mem : ∀ {l V : List XEdit} {y : XEdit}, y ∈ l.foldl addE V ↔ y ∈ V ∨ y ∈ l
  | [], V, y => by simp
  | x :: l, V, y => by
    rw [List.foldl_cons, fold_mem, addE_mem, List.mem_cons]
    constructor
    · rintro ((h | h) | h)
      · exact .inr (.inl h)
      · exact .inl h
      · exact .inr (.inr h)
    · rintro (h | h | h)
      · exact .inl (.inr h)
      · exact .inl (.inl h)
      · exact .inr h
theorem fold_rise : ∀ {l V : List XEdit}, V.Pairwise ltS → (l.foldl addE V).Pairwise ltS
  | [], V, h => h
  | x :: l, V, h => fold_rise (l := l) (addE_rise h)
theorem outE_mem {l : List XEdit} {y : XEdit} : y ∈ outE l ↔ y ∈ l ∧ insE l y = false := by
  unfold outE
  rw [fold_mem]; simp
theorem eWithout_eq {l : List XEdit} {n : Nat} (hl : l.length ≤ 40) (ho : ∀ e ∈ l, okE n e) : sh_spec_eWithout l = some (outE l) := by
  unfold sh_spec_eWithout
  refine (range_mem (I := fun k (V : List XEdit) => V.length ≤ k ∧ ∀ e ∈ V, e ∈ l) (G := fun l' k V => some ((l'.filter fun e => !insE l e).foldl addE V)) ?_ ?_ [] ⟨by simp, by simp⟩).trans rfl
  · intro k V _ _; rfl
  · intro e l' k V next hx _ ⟨hV, hm⟩ hn
    have hk := (List.getElem?_eq_some_iff.1 hx).1
    have hme := List.mem_of_getElem? hx
    have hoe := ho e hme
    have inner : ∀ {R : Type} {fin : Bool → Option R}, rangeF (fun (k1069 : Nat) (x1070 : XEdit) (s1068 : Bool) (nx1095 : Bool → Option R) =>
        (if s1068 = true then nx1095 true else (sh_spec_l1Same e.Sets x1070.Sets).bind fun x1108 => (if (!x1108) = true then (sh_spec_eContains x1070 e).bind fun x1111 => nx1095 x1111 else nx1095 false))) fin l 0 false = fin (insE l e) := by
      intro R fin
      refine (range_mem (I := fun _ _ => True) (G := fun l' _ b => fin (b || l'.any fun f => !decide (e.Sets = f.Sets) && conL e.Sets f.Sets)) ?_ ?_ false trivial).trans (by simp [insE])
      · intro k b _ _; simp
      · intro f l' k b next hx _ _ hn
        have hof := ho f (List.mem_of_getElem? hx)
        cases b with
        | true => simp only [if_true]; rw [hn _ trivial]; simp
        | false =>
          simp only [Bool.false_eq_true, if_false]
          rw [l1Same_eq, Option.bind_some]
          by_cases h : e.Sets = f.Sets
          · simp only [h, decide_true, Bool.not_true, Bool.false_eq_true, if_false]
            rw [hn _ trivial]; simp [h]
          · simp only [h, decide_false, Bool.not_false, if_true]
            rw [specCon_eq hof hoe, Option.bind_some, hn _ trivial]; simp [h]
    rw [inner]
    cases hb : insE l e with
    | true => simp only [Bool.not_true, Bool.false_eq_true, if_false]; rw [hn V ⟨by omega, hm⟩]; simp [hb]
    | false =>
      simp only [Bool.not_false, if_true]
      have hal := addE_len V e
      rw [eAdd_eq (by omega) (fun e' he' => by have hq := ho e' (hm e' he'); have := hq.1; have := hq.2.1; omega) (by have := hoe.1; have := hoe.2.1; omega), Option.bind_some, hn (addE V e) ⟨by omega, fun e' he' => ?_⟩]
      · simp [hb]
      · rcases addE_mem.1 he' with rfl | h
        · exact hme
        · exact hm e' h
/-- First ones, of which no other one contains them. -/
def keptB (l : List XEdit) (i : Nat) (e : XEdit) : Bool := !(insE l e) && !((l.take i).any fun f => decide (e.Sets = f.Sets))
def keptL (l : List XEdit) : Nat → List XEdit → List XEdit
  | _, [] => []
  | i, e :: r => if keptB l i e then e :: keptL l (i + 1) r else keptL l (i + 1) r
theorem keptL_sub (l : List XEdit) : ∀ (i : Nat) (r : List XEdit), (keptL l i r).Sublist r
  | _, [] => List.Sublist.slnil
  | i, e :: r => by
    simp only [keptL]
    split
    · exact (keptL_sub l (i + 1) r).cons_cons e
    · exact (keptL_sub l (i + 1) r).cons e
theorem keptL_mem {l : List XEdit} : ∀ {i : Nat} {r : List XEdit}, l.drop i = r → ∀ {y : XEdit}, y ∈ keptL l i r ↔ (y ∈ r ∧ insE l y = false ∧ y ∉ l.take i)
  | i, [], _, y => by simp [keptL]
  | i, e :: r, h, y => by
    have hi : l[i]? = some e := by
      have := congrArg List.head? h
      rw [List.head?_drop] at this
      simpa using this
    have hr : l.drop (i + 1) = r := by rw [← List.tail_drop, h]; rfl
    have ih := keptL_mem (i := i + 1) hr (y := y)
    have htk : ∀ z, z ∈ l.take (i + 1) ↔ z ∈ l.take i ∨ z = e := by
      intro z; rw [List.take_add_one, hi]; simp
    have hany : ((l.take i).any fun f => decide (e.Sets = f.Sets)) = true ↔ e ∈ l.take i := by
      rw [List.any_eq_true]
      constructor
      · rintro ⟨f, h1, h2⟩
        have := XEdit.ext' (by simpa using h2)
        rw [this]; exact h1
      · intro h1; exact ⟨e, h1, by simp⟩
    simp only [keptL]
    by_cases hk : keptB l i e = true
    · rw [if_pos hk, List.mem_cons, ih]
      simp only [keptB, Bool.and_eq_true, Bool.not_eq_true'] at hk
      have hne : e ∉ l.take i := fun h1 => by rw [hany.2 h1] at hk; cases hk.2
      constructor
      · rintro (rfl | ⟨h1, h2, h3⟩)
        · exact ⟨by simp, hk.1, hne⟩
        · exact ⟨by simp [h1], h2, fun h4 => h3 ((htk y).2 (.inl h4))⟩
      · rintro ⟨h1, h2, h3⟩
        by_cases e1 : y = e
        · exact .inl e1
        · refine .inr ⟨(List.mem_cons.1 h1).resolve_left e1, h2, fun h4 => ?_⟩
          rcases (htk y).1 h4 with h4 | h4
          · exact h3 h4
          · exact e1 h4
    · rw [if_neg hk, ih]
      constructor
      · rintro ⟨h1, h2, h3⟩
        exact ⟨by simp [h1], h2, fun h4 => h3 ((htk y).2 (.inl h4))⟩
      · rintro ⟨h1, h2, h3⟩
        have e1 : y ≠ e := by
          rintro rfl
          apply hk
          simp only [keptB, h2, Bool.not_false, Bool.true_and, Bool.not_eq_true']
          rw [Bool.eq_false_iff]
          intro h4
          exact h3 (hany.1 h4)
        refine ⟨(List.mem_cons.1 h1).resolve_left e1, h2, fun h4 => ?_⟩
        rcases (htk y).1 h4 with h4 | h4
        · exact h3 h4
        · exact e1 h4
theorem keptL_nodup {l : List XEdit} : ∀ {i : Nat} {r : List XEdit}, l.drop i = r → ((keptL l i r).map (·.Sets)).Nodup
  | i, [], _ => by simp [keptL]
  | i, e :: r, h => by
    have hi : l[i]? = some e := by
      have := congrArg List.head? h
      rw [List.head?_drop] at this
      simpa using this
    have hr : l.drop (i + 1) = r := by rw [← List.tail_drop, h]; rfl
    have ih := keptL_nodup (i := i + 1) hr
    simp only [keptL]
    split
    · rw [List.map_cons, List.nodup_cons]
      refine ⟨fun hm => ?_, ih⟩
      obtain ⟨f, h1, h2⟩ := List.mem_map.1 hm
      obtain rfl := XEdit.ext' h2
      refine ((keptL_mem hr).1 h1).2.2 ?_
      rw [List.take_add_one, hi]; simp
    · exact ih
theorem compareEdits_eq (x y : XEdit) : sh_impl_compareEdits x y = some (lexC x.Sets y.Sets) := by
  unfold sh_impl_compareEdits
  rw [lexC_eq]; rfl
theorem SortFunc_eq {v : List XEdit} (h1 : v.length ≤ 1048576) (h2 : (v.map (·.Sets)).Nodup) : sh_slices_SortFunc_impl_Edit_impl_Edit_impl_compareEdits v () = some (v.mergeSort fun x y => !decide (lexC y.Sets x.Sets < 0), ()) := by
  unfold sh_slices_SortFunc_impl_Edit_impl_Edit_impl_compareEdits
  rw [if_pos ⟨h1, h2, fun x _ y _ => by rw [compareEdits_eq, lexI_C]⟩]
  simp only [lexI_C]
theorem sort_rise {v : List XEdit} (h2 : (v.map (·.Sets)).Nodup) : (v.mergeSort fun x y => !decide (lexC y.Sets x.Sets < 0)).Pairwise ltS := by
  have hp := List.mergeSort_perm v (fun x y => !decide (lexC y.Sets x.Sets < 0))
  have hs := List.pairwise_mergeSort (le := fun (x y : XEdit) => !decide (lexC y.Sets x.Sets < 0)) (fun a b c h1 h2 => by
      simp only [Bool.not_eq_true', decide_eq_false_iff_not] at h1 h2 ⊢
      intro h3
      by_cases e : lexC b.Sets a.Sets = 0
      · rw [lexC_zero e] at h2; exact h2 h3
      · have h4 : lexC a.Sets b.Sets < 0 := by rw [lexC_anti b.Sets a.Sets]; omega
        exact h2 (lexC_trans h3 h4)) (fun a b => by
      simp only [Bool.or_eq_true, Bool.not_eq_true', decide_eq_false_iff_not]
      have := lexC_anti a.Sets b.Sets
      omega) v
  have hn : (v.mergeSort fun x y => !decide (lexC y.Sets x.Sets < 0)).Nodup := by
    have : v.Nodup := List.Pairwise.of_map (·.Sets) (fun a b h e => h (by rw [e])) h2
    exact hp.symm.nodup this
  refine (hs.and hn).imp ?_
  rintro a b ⟨h3, h4⟩
  simp only [Bool.not_eq_true', decide_eq_false_iff_not] at h3
  exact ltS_tri h3 (Ne.symm h4)
theorem sort_out {l : List XEdit} : ((keptL l 0 l).mergeSort fun x y => !decide (lexC y.Sets x.Sets < 0)) = outE l := by
  refine up_ext (sort_rise (keptL_nodup (i := 0) (r := l) rfl)) (fold_rise List.Pairwise.nil) fun x => ?_
  rw [List.mem_mergeSort, keptL_mem (i := 0) (r := l) rfl]
  show _ ↔ x ∈ outE l
  rw [outE_mem]; simp
theorem heldEditS_eq {l : List XEdit} {n : Int} (hl : l.length ≤ 1099511627776) (h0 : 0 ≤ n) (h : n + marksES l ≤ 4611686018427387904) : sh_laws_heldEditS (mkL mkEdit bulkE l n) n = some (n + marksES l) := by
  unfold sh_laws_heldEditS
  exact held_loop (mk := mkEdit) (sz := bulkE) (f := fun x m => sh_laws_heldIntS x.Sets m) hl h0 h fun x _ m hm hb => by
    unfold bulkE at hb ⊢
    simp only [mkEdit]
    exact heldIntS_eq hm hb
theorem core_WithoutContained (s : List XVariable) (l : List XEdit) (h0 : bulkVS s ≤ 1048576) (h1 : bulkES l ≤ 1048576) : ∃ x, sh_spec_WithoutContained s l = some x ∧ sh_impl_WithoutContained s l = some x ∧ bulkES x.1 ≤ 1048576 := by
  refine ⟨if smlB s && edsB s l then (outE l, true) else ([], false), ?_, ?_, ?_⟩
  · unfold sh_spec_WithoutContained
    rw [eSmall_eq h0, Option.bind_some]
    cases hb : (smlB s && edsB s l) with
    | false => rfl
    | true =>
      simp only [Bool.and_eq_true] at hb
      have hl := edsB_len hb.2
      have ho : ∀ e ∈ l, okE s.length e := fun e he => by
        have h2 := edsB_get hb.2 he
        have h3 := schB_len (smlB_sch hb.1)
        refine ⟨edB_len h2, by omega, fun x hx => ?_⟩
        obtain ⟨k, hk⟩ := List.getElem?_of_mem hx
        obtain ⟨v, hv, h4, h5⟩ := edB_get h2 hk
        have := full_b256 (schB_lev (smlB_sch hb.1) (List.mem_of_getElem? hv))
        omega
      simp only [Bool.not_true, Bool.false_eq_true, if_false, if_true]
      rw [eWithout_eq hl ho, Option.bind_some]
  · unfold sh_impl_WithoutContained
    rw [isSmall_eq, Option.bind_some]
    cases hs : smlB s with
    | false => rfl
    | true =>
      simp only [Bool.not_true, Bool.false_eq_true, if_false, Bool.true_and]
      rw [areEdits_eq (smlB_sch hs), Option.bind_some]
      cases hb : edsB s l with
      | false => rfl
      | true =>
        have hl := edsB_len hb
        have ho : ∀ e ∈ l, okE s.length e := fun e he => by
          have h2 := edsB_get hb he
          have h3 := schB_len (smlB_sch hs)
          refine ⟨edB_len h2, by omega, fun x hx => ?_⟩
          obtain ⟨k, hk⟩ := List.getElem?_of_mem hx
          obtain ⟨v, hv, h4, h5⟩ := edB_get h2 hk
          have := full_b256 (schB_lev (smlB_sch hs) (List.mem_of_getElem? hv))
          omega
        simp only [Bool.not_true, Bool.false_eq_true, if_false, if_true]
        refine range_mem (I := fun k (V : List XEdit) => V.length ≤ k ∧ V ++ keptL l k (l.drop k) = keptL l 0 l) (G := fun _ _ _ => some (outE l, true)) ?_ ?_ [] ⟨by simp, by simp⟩
        · rintro k V ⟨hV, hVe⟩ hk
          subst hk
          rw [List.drop_length] at hVe
          simp only [keptL, List.append_nil] at hVe
          subst hVe
          rw [SortFunc_eq (by omega) (keptL_nodup (i := 0) (r := l) rfl), Option.bind_some]
          simp only [sort_out]
        · rintro e l' k V next hx hdr ⟨hV, hVe⟩ hn
          have hk := (List.getElem?_eq_some_iff.1 hx).1
          have hoe := ho e (List.mem_of_getElem? hx)
          have inner : ∀ {R : Type} {fin : Bool → Option R}, rangeF (fun (k2256 : Nat) (x2257 : XEdit) (s2255 : Bool) (nx2316 : Bool → Option R) =>
              (((sh_impl_compareEdits e x2257).bind fun x2340 =>
                (if (decide (x2340 = (0 : Int))) = true then (if (decide ((k2256 : Int) < (k : Int))) = true then some false else some s2255)
                else (sh_impl_contains x2257 e).bind fun x2348 => (if x2348 = true then some false else some s2255)) : Option Bool).bind fun (s2336 : Bool) => nx2316 s2336)) fin l 0 true = fin (keptB l k e) := by
            intro R fin
            refine (range_mem (I := fun j b => b = !(((l.take j).any fun f => !decide (e.Sets = f.Sets) && conL e.Sets f.Sets) || (((l.take j).take k).any fun f => decide (e.Sets = f.Sets)))) (G := fun _ _ _ => fin (keptB l k e)) ?_ ?_ true (by simp))
            · rintro j b rfl hj
              rw [List.take_of_length_le (by omega)]
              congr 1
              unfold keptB insE
              rw [Bool.not_or]
            · rintro f l'' j b next hf _ rfl hn
              have hof := ho f (List.mem_of_getElem? hf)
              have hjl := (List.getElem?_eq_some_iff.1 hf).1
              have et : l.take (j + 1) = l.take j ++ [f] := by rw [List.take_add_one, hf]; rfl
              rw [compareEdits_eq, Option.bind_some]
              by_cases h : e.Sets = f.Sets
              · have e1 : decide (lexC e.Sets f.Sets = 0) = true := by rw [h]; simp [lexC_self]
                rw [e1]
                simp only [if_true]
                by_cases hjk : j < k
                · rw [if_pos (by simp; omega), Option.bind_some]
                  refine hn _ ?_
                  have e2 : (l.take (j + 1)).take k = l.take j ++ [f] := by rw [List.take_of_length_le (by simp; omega), et]
                  rw [e2, et]; simp [h]
                · rw [if_neg (by simp; omega), Option.bind_some]
                  refine hn _ ?_
                  have e2 : (l.take (j + 1)).take k = (l.take j).take k := by
                    rw [List.take_take, List.take_take]; congr 1; omega
                  rw [e2, et]; simp [h]
              · have e1 : decide (lexC e.Sets f.Sets = 0) = false := by
                  rw [decide_eq_false_iff_not]; exact fun q => h (lexC_zero q)
                rw [e1]
                simp only [Bool.false_eq_true, if_false]
                rw [implCon_eq hof hoe, Option.bind_some]
                have e3 : ∀ x : Bool, ((l.take (j + 1)).take k).any (fun f => decide (e.Sets = f.Sets)) = ((l.take j).take k).any (fun f => decide (e.Sets = f.Sets)) := by
                  intro _
                  by_cases hjk : j < k
                  · rw [List.take_of_length_le (show (l.take (j + 1)).length ≤ k by simp; omega), List.take_of_length_le (show (l.take j).length ≤ k by simp; omega), et]; simp [h]
                  · have e2 : (l.take (j + 1)).take k = (l.take j).take k := by
                      rw [List.take_take, List.take_take]; congr 1; omega
                    rw [e2]
                cases hc : conL e.Sets f.Sets with
                | true =>
                  simp only [if_true, Option.bind_some]
                  refine hn _ ?_
                  rw [e3 true, et]; simp [h, hc]
                | false =>
                  simp only [Bool.false_eq_true, if_false, Option.bind_some]
                  refine hn _ ?_
                  rw [e3 true, et]; simp [h, hc]
          rw [inner]
          have hdr2 : l.drop (k + 1) = l' := by rw [← List.tail_drop, hdr]; rfl
          rw [hdr] at hVe
          simp only [keptL] at hVe
          cases hb : keptB l k e with
          | true =>
            simp only [if_true]
            rw [Clone_eq (by have := hoe.1; have := hoe.2.1; omega), Option.bind_some, lnO_pos (by simp only [List.length_cons, List.length_nil]; omega)]
            refine hn _ ⟨by simp only [List.length_append, List.length_cons, List.length_nil]; omega, ?_⟩
            rw [hdr2, ← hVe, if_pos hb]; simp
          | false =>
            simp only [Bool.false_eq_true, if_false]
            refine hn _ ⟨by omega, ?_⟩
            rw [hdr2, ← hVe, if_neg (by rw [hb]; simp)]
  · split
    · rename_i hb
      show bulkES (outE l) ≤ 1048576
      rw [← sort_out]
      have hp := List.mergeSort_perm (keptL l 0 l) (fun x y => !decide (lexC y.Sets x.Sets < 0))
      have hsub := keptL_sub l 0 l
      have e1 : sumL bulkE ((keptL l 0 l).mergeSort fun x y => !decide (lexC y.Sets x.Sets < 0)) = sumL bulkE (keptL l 0 l) := by
        unfold sumL
        exact (hp.map bulkE).sum_nat
      have e2 : sumL bulkE (keptL l 0 l) ≤ sumL bulkE l := by
        have key : ∀ {a b : List XEdit}, a.Sublist b → sumL bulkE a ≤ sumL bulkE b := by
          intro a b h
          induction h with
          | slnil => exact Nat.le_refl _
          | cons x _ ih => rw [sumL_cons]; omega
          | cons_cons x _ ih => rw [sumL_cons, sumL_cons]; omega
        exact key hsub
      have e3 := hsub.length_le
      unfold bulkES at h1 ⊢
      rw [List.length_mergeSort, e1]; omega
    · simp [bulkES, sumL]
end AS
namespace AS
theorem law_WithoutContained (v0 : List XVariable) (v1 : List XEdit) (b0 : Bd.bd v0) (b1 : Bd.bd v1) : sh_laws_FnExactWithoutContained v0 v1 = some true := by
  unfold sh_laws_FnExactWithoutContained
  rw [szVariableS_eq (by omega) (by omega) b0, Option.bind_some]
  by_cases h0 : ((bulkVS v0 : Nat) : Int) ≤ 1048576
  · rw [left_pos h0]
    simp only [show ¬ ((1048576 : Int) - ((bulkVS v0 : Nat) : Int) < 0) by omega, decide_false, Bool.false_eq_true, if_false]
    rw [szEditS_eq (by omega) (by omega) b1, Option.bind_some]
    by_cases h1 : ((bulkES v1 : Nat) : Int) ≤ 1048576 - ((bulkVS v0 : Nat) : Int)
    · rw [left_pos h1]
      simp only [show ¬ (1048576 - ((bulkVS v0 : Nat) : Int) - ((bulkES v1 : Nat) : Int) < 0) by omega, decide_false, Bool.false_eq_true, if_false]
      obtain ⟨r, e1, e2, q0⟩ := core_WithoutContained v0 v1 (by omega) (by omega)
      have q0' := q0
      have n0 : v0.length ≤ bulkVS v0 := Nat.le_add_right _ _
      have m0 := marksVS_le v0
      have n1 : v1.length ≤ bulkES v1 := Nat.le_add_right _ _
      have m1 := marksES_le v1
      have p0 : (r.1).length ≤ bulkES (r.1) := Nat.le_add_right _ _
      have o0 := marksES_le (r.1)
      simp [e1, e2, toVariableS_eq (s := v0) (by omega),
      eqVariableS_eq (a := v0) (b := v0) (by omega),
      toEditS_eq (l := v1) (by omega),
      eqEditS_eq (a := v1) (b := v1) (by omega),
      markVariableS_eq (l := v0) (n := 1) (by omega) (by omega) (by omega),
      markEditS_eq (l := v1) (n := 1 + ((marksVS v0 : Nat) : Int)) (by omega) (by omega) (by omega),
      show ¬ ((1 : Int) + ((marksVS v0 : Nat) : Int) + ((marksES v1 : Nat) : Int) < 0) by omega,
      eqEditS_eq (a := r.1) (b := r.1) (by omega),
      markEditS_eq (l := r.1) (n := 1) (by omega) (by omega) (by omega),
      heldEditS_eq (l := r.1) (n := 1) (by omega) (by omega) (by omega),
      show ¬ ((1 : Int) + ((marksES (r.1) : Nat) : Int) < 0) by omega]
    · rw [left_no h1]; simp
  · rw [left_no h0]; simp
end AS
