/- Plain lemmas. No condition. -/
import Derived.Test.YtahffpadaffmdaaKc
import Derived.Test.YtahffpadaffmdaaMab
set_option linter.unusedVariables false
set_option linter.unusedSimpArgs false
namespace AS
def inB : List Int → List Int → Bool
  | [], _ => true
  | x :: l, s :: t => decide (0 ≤ x) && decide (x ≤ s) && inB l t
  | _ :: _, [] => false
theorem inB_fits : ∀ {ix s : List Int}, ix.length = s.length → inB ix s = true → fits s ix
  | [], [], _, _ => ⟨rfl, fun k x y hx _ => by simp at hx⟩
  | a :: as, b :: bs, hl, h => by
    simp only [inB, Bool.and_eq_true, decide_eq_true_eq] at h
    have := inB_fits (ix := as) (s := bs) (by simpa using hl) h.2
    refine ⟨hl, fun k x y hx hy => ?_⟩
    cases k with
    | zero => simp at hx hy; subst hx; subst hy; exact h.1
    | succ k => exact this.2 k x y (by simpa using hx) (by simpa using hy)
end AS

