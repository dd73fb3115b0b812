/- Plain lemmas. No condition. -/
import Derived.Test.YtahffpadaffmdaaKc
import Derived.Test.YtahffpadaffmdaaMa
import Derived.Test.YtahffpadaffmdaaSda
import Derived.Test.YtahffpadaffmdaaSde
import Derived.Test.YtahffpadaffmdaaSdf
set_option linter.unusedVariables false
set_option linter.unusedSimpArgs false
namespace AS
theorem toIntS_eq {l : List Int} (h : l.length ≤ 1048576) : sh_laws_toIntS l = some l := by
  unfold sh_laws_toIntS
  rw [mkO_pos (by omega) (by omega)]
  refine (loop_up l.length (fun k => (mixL l (List.replicate l.length 0) k, (k : Int))) (fun _ => some l) (by omega) ?_ ?_)
  · intro next k hk hn
    simp only [lt_dec hk, if_true]
    rw [getO_nat hk, getO_some (mixL_get (by simp) (by simpa using hk)), ckI_succ (by omega)]
    simp only [Int.toNat_natCast, mixL_set (b := List.replicate l.length 0) (by simp) hk]
    exact hn
  · intro next
    simp only [lt_self]
    simp [mixL_end (a := l) (b := List.replicate l.length 0) (by simp)]
theorem eqIntS_eq {a b : List Int} (h : a.length ≤ 1099511627776) : sh_laws_eqIntS a b = some (decide (a = b)) := by
  unfold sh_laws_eqIntS
  by_cases hl : a.length = b.length
  · simp only [hl, ne_eq, not_true_eq_false, decide_false, Bool.false_eq_true, if_false]
    refine (loop_up b.length (fun k => (k : Int)) (fun k => some (decide (a.drop k = b.drop k))) (by omega) ?_ ?_).trans (by simp)
    · intro next k hk hn
      have hk' : k < a.length := by omega
      simp only [lt_dec hk, if_true]
      rw [getO_nat hk', getO_nat hk, ckI_succ (by omega)]
      rw [List.drop_eq_getElem_cons hk', List.drop_eq_getElem_cons hk]
      by_cases e : a[k] = b[k]
      · simp only [e, not_true_eq_false, decide_false, Bool.false_eq_true, if_false, List.cons.injEq, true_and]
        exact hn
      · simp only [ne_eq, e, not_false_eq_true, decide_true, if_true, List.cons.injEq, false_and, decide_false]
    · intro next
      simp only [lt_self]
      simp [List.drop_of_length_le (Nat.le_refl _), List.drop_of_length_le (show a.length ≤ b.length by omega)]
  · have : ¬ (a = b) := fun e => hl (by rw [e])
    have h2 : ¬ ((a.length : Int) = (b.length : Int)) := by omega
    simp [this, h2]
theorem markIntS_eq {l : List Int} {n : Int} (h0 : 0 ≤ n) (h : n + l.length ≤ 4611686018427387904) : sh_laws_markIntS l n = some (mks n l.length, n + l.length) := by
  unfold sh_laws_markIntS
  have e0 : ((l, n, (0 : Int)) : List Int × Int × Int) = (fun k : Nat => (mixL (mks n l.length) l k, n + (k : Int), (k : Int))) 0 := by simp [mixL_zero]
  rw [e0]
  refine (loop_up l.length (fun k : Nat => (mixL (mks n l.length) l k, n + (k : Int), (k : Int))) (fun _ => some (mks n l.length, n + l.length)) (by omega) ?_ ?_)
  · intro next k hk hn
    have hm : k < (mks n l.length).length := by rw [mks_len]; exact hk
    simp only [mixL_len (mks_len n l.length), lt_dec hk, if_true]
    rw [getO_some (mixL_get (mks_len n l.length) hk), ckI_pos (by omega) (by omega), ckI_succ (by omega)]
    simp only [Int.toNat_natCast]
    rw [← mks_get n hk, mixL_set (mks_len n l.length) hm, ← hn, mks_get n hk]
    simp only [cast_succ, Int.add_assoc]
  · intro next
    simp only [mixL_len (mks_len n l.length), lt_self]
    have := mixL_end (mks_len n l.length)
    rw [mks_len] at this
    simp [this]
theorem heldIntS_eq {m : Nat} {n : Int} (h0 : 0 ≤ n) (h : n + m ≤ 4611686018427387904) : sh_laws_heldIntS (mks n m) n = some (n + m) := by
  unfold sh_laws_heldIntS
  have e0 : ((n, (0 : Int)) : Int × Int) = (fun k : Nat => (n + (k : Int), (k : Int))) 0 := by simp
  rw [e0]
  refine (loop_up m (fun k : Nat => (n + (k : Int), (k : Int))) (fun _ => some (n + m)) (by omega) ?_ ?_)
  · intro next k hk hn
    have hm : k < (mks n m).length := by rw [mks_len]; exact hk
    simp only [mks_len, lt_dec hk, if_true]
    rw [getO_nat hm, mks_get n hk, ckI_pos (by omega) (by omega), ckI_succ (by omega)]
    simp only [ne_eq, not_true_eq_false, decide_false, Bool.false_eq_true, if_false]
    rw [← hn]; simp only [cast_succ, Int.add_assoc]
  · intro next
    simp only [mks_len, lt_self]
    simp
theorem l1In_eq (x lo hi : Int) : sh_spec_l1In x lo hi = some (decide (lo ≤ x) && decide (x ≤ hi)) := by
  unfold sh_spec_l1In
  by_cases h : lo ≤ x <;> simp [h]
theorem l1Own_eq {l : List Int} (h : l.length ≤ 1099511627776) : sh_spec_l1Own l = some l := by
  unfold sh_spec_l1Own
  rw [lnO_pos (by simpa using h)]; rfl
theorem Clone_eq {l : List Int} (h : l.length ≤ 1099511627776) : sh_slices_Clone_int l = some l := by
  unfold sh_slices_Clone_int
  cases l with
  | nil => rfl
  | cons x l => simp [nilO]; exact lnO_pos h

/-! ### AddCells -/
def smallL (l : List Int) : Bool := l.all fun x => decide (-1000000 ≤ x) && decide (x ≤ 1000000)
theorem smallL_get {l : List Int} (h : smallL l = true) {k : Nat} {x : Int} (hk : l[k]? = some x) : -1000000 ≤ x ∧ x ≤ 1000000 := by
  have := List.all_eq_true.1 h x (List.mem_of_getElem? hk)
  simpa using this
def addOk (a b : List Int) : Bool := decide (a.length = b.length) && decide (a.length ≤ 600) && smallL a && smallL b
def addR (a b : List Int) : List Int × Bool := if addOk a b then (List.zipWith (· + ·) a b, true) else ([], false)
theorem addLoop {a b : List Int} (h : addOk a b = true) : rangeF (fun (k78 : Nat) (x79 : Int) (s77 : (List Int)) (nx98 : (List Int) → Option ((List Int) × Bool)) =>
    getO s77 (k78 : Int) fun x105 =>
    ckI (x105 + x79) <|
    nx98 (s77.set ((k78 : Int)).toNat (x105 + x79)))
    (fun (s77 : (List Int)) =>
    some (s77, true)) b 0 a = some (List.zipWith (· + ·) a b, true) := by
  simp only [addOk, Bool.and_eq_true, decide_eq_true_eq] at h
  obtain ⟨⟨⟨h1, h2⟩, h3⟩, h4⟩ := h
  have hz : (List.zipWith (· + ·) a b).length = a.length := by simp; omega
  refine range_mem (I := fun k s => s = mixL (List.zipWith (· + ·) a b) a k) (G := fun _ _ _ => some (List.zipWith (· + ·) a b, true)) ?_ ?_ a (mixL_zero _ _).symm
  · intro k s hs hk
    subst hs
    have := mixL_end hz
    rw [show k = (List.zipWith (· + ·) a b).length by omega, this]
  · intro x l' k s next hx _ hs hn
    subst hs
    have hk : k < b.length := (List.getElem?_eq_some_iff.1 hx).1
    have hka : k < a.length := by omega
    have ia := smallL_get h3 (List.getElem?_eq_getElem hka)
    have ib := smallL_get h4 hx
    rw [getO_some (mixL_get hz hka), ckI_pos (by omega) (by omega)]
    refine hn _ ?_
    rw [Int.toNat_natCast, ← mixL_set hz (by omega)]
    congr 1
    simp only [List.getElem_zipWith]
    rw [List.getElem?_eq_getElem hk] at hx; cases hx; rfl
theorem addR_len (a b : List Int) : (addR a b).1.length ≤ 600 := by
  unfold addR
  split
  · rename_i h
    simp only [addOk, Bool.and_eq_true, decide_eq_true_eq] at h
    simp only [List.length_zipWith]; omega
  · simp
end AS

