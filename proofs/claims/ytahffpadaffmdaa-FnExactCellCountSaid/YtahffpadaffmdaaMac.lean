/- Plain lemmas. No condition. -/
import Derived.Test.YtahffpadaffmdaaKc
import Derived.Test.YtahffpadaffmdaaMa
import Derived.Test.YtahffpadaffmdaaMab
import Derived.Test.YtahffpadaffmdaaMb
set_option linter.unusedVariables false
set_option linter.unusedSimpArgs false
namespace AS
def mkSS (l : List (List Int)) (n : Int) : List (List Int) := mkL (fun x m => mks m x.length) List.length l n
/-- The cells that a total is the sum of. -/
def partF (s : List Int) (i : Int) (d : Nat) (x : Int) (k : Nat) : Int := i - (x - k) * vol (s.drop (d + 1))
def partL (s : List Int) (i : Int) (d : Nat) (x : Int) : List Int := (List.range x.toNat).map (partF s i d x)
theorem partL_len (s : List Int) (i : Int) (d : Nat) (x : Int) : (partL s i d x).length = x.toNat := by simp [partL]
theorem range_map_succ {α : Type} (f : Nat → α) (k : Nat) : (List.range (k + 1)).map f = (List.range k).map f ++ [f k] := by
  rw [List.range_succ, List.map_append]; rfl
def idxAt (ix : List Int) (d : Nat) : Nat → List Int
  | 0 => ix
  | k + 1 => ix.set d (k : Int)
theorem partF_bd {s : List Int} {i : Int} {d : Nat} {x : Int} (h : valid s) (h0 : 0 ≤ i) (h1 : i < vol s) (hd : s[d]? = some x) (hx : (idxL s i)[d]? = some x) {k : Nat} (hk : (k : Int) ≤ x) : 0 ≤ partF s i d x k ∧ partF s i d x k ≤ i := by
  have hdl := (List.getElem?_eq_some_iff.1 hd).1
  have hil : (idxL s i).length = s.length := idxL_len s i
  have hfit := (idxL_fits h h0).set hd (show (0 : Int) ≤ k by omega) hk
  have := atL_bd h.2 hfit
  have hat : atL s ((idxL s i).set d (k : Int)) = partF s i d x k := by
    rw [atL_set hil hdl (by omega), atL_idxL h.2 h0, Int.emod_eq_of_lt h0 h1]
    have : (idxL s i)[d]'(by omega) = x := by
      have := List.getElem?_eq_getElem (show d < (idxL s i).length by omega)
      rw [hx] at this; exact (Option.some.inj this).symm
    rw [this, partF, show (k : Int) - x = -(x - k) by omega, Int.neg_mul]; omega
  have hb := vol_bd (h.drop (d + 1))
  have : 0 ≤ (x - k) * vol (s.drop (d + 1)) := Int.mul_nonneg (by omega) (by omega)
  constructor
  · omega
  · rw [partF]; omega
def partsFrom (s : List Int) (i : Int) : List Int → Nat → List (List Int)
  | [], _ => []
  | x :: l, k => if s[k]? = some x then partL s i k x :: partsFrom s i l (k + 1) else partsFrom s i l (k + 1)
theorem partsFrom_len (s : List Int) (i : Int) : ∀ (l : List Int) (k : Nat), (partsFrom s i l k).length ≤ l.length
  | [], _ => by simp [partsFrom]
  | x :: l, k => by
    simp only [partsFrom]
    have := partsFrom_len s i l (k + 1)
    split <;> simp <;> omega
theorem partsFrom_mem {s : List Int} {i : Int} (h : valid s) : ∀ (l : List Int) (k : Nat), ∀ x ∈ partsFrom s i l k, x.length ≤ 30
  | [], _, x, hx => by simp [partsFrom] at hx
  | y :: l, k, x, hx => by
    simp only [partsFrom] at hx
    split at hx
    · rename_i e
      rcases List.mem_cons.1 hx with rfl | hx
      · rw [partL_len]; have := h.get e; omega
      · exact partsFrom_mem h l _ x hx
    · exact partsFrom_mem h l _ x hx
def partsR (s : List Int) (i : Int) : List (List Int) × Bool := if 0 ≤ i ∧ i < cntB s then (partsFrom s i (idxL s i) 0, true) else ([], false)
theorem sumL_bd {α : Type} {sz : α → Nat} {b : Nat} : ∀ {l : List α}, (∀ x ∈ l, sz x ≤ b) → sumL sz l ≤ l.length * b
  | [], _ => by simp [sumL]
  | x :: l, h => by
    rw [sumL_cons, List.length_cons, Nat.succ_mul]
    have := h x (by simp)
    have := sumL_bd (l := l) (b := b) (fun y hy => h y (by simp [hy]))
    omega
theorem partsR_bd (s : List Int) (i : Int) : (partsR s i).1.length ≤ 4 ∧ ∀ x ∈ (partsR s i).1, x.length ≤ 30 := by
  unfold partsR
  split
  · rename_i hi
    obtain ⟨hv, _⟩ := cntB_pos (show 0 < cntB s by omega)
    have := partsFrom_len s i (idxL s i) 0
    rw [idxL_len] at this
    exact ⟨by have := hv.1; show (partsFrom s i (idxL s i) 0).length ≤ 4; omega, partsFrom_mem hv _ _⟩
  · simp
end AS

