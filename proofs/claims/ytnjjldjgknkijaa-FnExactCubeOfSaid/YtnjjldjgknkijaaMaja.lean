/- CubeOf. No condition. -/
import Derived.Test.YtnjjldjgknkijaaSaj
import Derived.Test.YtnjjldjgknkijaaMai
set_option linter.unusedVariables false
set_option linter.unusedSimpArgs false
namespace AS
/-! ### Indices and cells, to and fro -/
theorem idxL_add : ∀ {s : List Int} {i k : Int}, (∀ x ∈ s, 1 ≤ x ∧ x ≤ 30) → idxL s (i + k * vol s) = idxL s i
  | [], _, _, _ => rfl
  | x :: l, i, k, h => by
    have hl := vol_pow (s := l) (fun y hy => h y (by simp [hy]))
    have hx := h x (by simp)
    have e : i + k * vol (x :: l) = i + (k * (x + 1)) * vol l := by simp only [vol, Int.mul_assoc]
    simp only [idxL]
    rw [e, idxL_add (fun y hy => h y (by simp [hy])), Int.add_mul_ediv_right _ _ (by omega), Int.add_mul_emod_self_right]
theorem idxL_atL : ∀ {s ix : List Int}, (∀ x ∈ s, 1 ≤ x ∧ x ≤ 30) → fits s ix → idxL s (atL s ix) = ix
  | [], ix, _, hf => by have := hf.1; simp at this; subst this; rfl
  | x :: l, [], _, hf => by have := hf.1; simp at this
  | x :: l, a :: as, h, hf => by
    have hl := vol_pow (s := l) (fun y hy => h y (by simp [hy]))
    have hf2 : fits l as := ⟨by have := hf.1; simpa using this, fun k x y hx hy => hf.2 (k + 1) x y (by simpa using hx) (by simpa using hy)⟩
    have hb := atL_bd (fun y hy => h y (by simp [hy])) hf2
    have ha := hf.2 0 x a rfl rfl
    simp only [atL, idxL]
    rw [Int.add_comm, idxL_add (fun y hy => h y (by simp [hy])), idxL_atL (fun y hy => h y (by simp [hy])) hf2, Int.add_mul_ediv_right _ _ (by omega), Int.ediv_eq_zero_of_lt hb.1 hb.2, Int.zero_add, Int.emod_eq_of_lt ha.1 (by omega)]

/-! ### Totals -/
def compat : List Int → List Int → List Int → Bool
  | x :: s, b :: bs, a :: as => (decide (a = x) || decide (a = b)) && compat s bs as
  | _, _, _ => true
theorem compat_set : ∀ {s b ix : List Int} {d : Nat} {x y : Int} {k : Int}, ix.length = s.length → b.length = s.length → s[d]? = some x → ix[d]? = some x → b[d]? = some y → k ≠ x → compat s b (ix.set d k) = (decide (k = y) && compat s b ix)
  | x :: s, b :: bs, a :: as, 0, x', y, k, _, _, hx, ha, hb, hk => by
    simp at hx ha hb; subst hx; subst ha; subst hb
    simp [compat, hk]
  | x :: s, b :: bs, a :: as, d + 1, x', y, k, h1, h2, hx, ha, hb, hk => by
    simp only [List.set_cons_succ, compat]
    rw [compat_set (d := d) (by simpa using h1) (by simpa using h2) (by simpa using hx) (by simpa using ha) (by simpa using hb) hk]
    cases (decide (a = x) || decide (a = b)) <;> simp
  | [], _, _, _, _, _, _, _, _, hx, _, _, _ => by simp at hx
  | _ :: _, [], _, _, _, _, _, _, h2, _, _, _, _ => by simp at h2
  | _ :: _, _ :: _, [], _, _, _, _, h1, _, _, _, _, _ => by simp at h1
/-- The value of a cell: the sum of the base cells that it covers. -/
def tot (s : List Int) (bs : List (List Int × Int)) (ix : List Int) : Int := sumI (bs.map fun p => if compat s p.1 ix then p.2 else 0)
theorem sumI_map_add {α : Type} (f g : α → Int) : ∀ (l : List α), sumI (l.map fun x => f x + g x) = sumI (l.map f) + sumI (l.map g)
  | [] => rfl
  | x :: l => by simp only [List.map_cons, sumI, sumI_map_add f g l]; omega
theorem sumI_zero {α : Type} {f : α → Int} : ∀ {l : List α}, (∀ x ∈ l, f x = 0) → sumI (l.map f) = 0
  | [], _ => rfl
  | x :: l, h => by simp only [List.map_cons, sumI, h x (by simp), sumI_zero (l := l) (fun y hy => h y (by simp [hy]))]; omega
theorem sumI_one (n : Nat) (j : Nat) (hj : j < n) (v : Int) : sumI ((List.range n).map fun k => if k = j then v else 0) = v := by
  induction n with
  | zero => omega
  | succ n ih =>
    rw [range_map_succ, sumI_append]
    by_cases h : j = n
    · subst h
      rw [sumI_zero (fun k hk => by simp at hk; simp; omega)]
      simp [sumI]
    · rw [ih (by omega)]; simp [sumI]; omega
theorem tot_part {s : List Int} (hv : ∀ x ∈ s, 1 ≤ x ∧ x ≤ 30) : ∀ {bs : List (List Int × Int)} {ix : List Int} {d : Nat} {x : Int}, (∀ p ∈ bs, p.1.length = s.length ∧ ∀ (k : Nat) (x y : Int), s[k]? = some x → p.1[k]? = some y → 0 ≤ y ∧ y < x) → ix.length = s.length → s[d]? = some x → ix[d]? = some x →
    sumI ((List.range x.toNat).map fun (k : Nat) => tot s bs (ix.set d (k : Int))) = tot s bs ix
  | [], ix, d, x, _, _, _, _ => by
    simp only [tot, List.map_nil, sumI]
    exact sumI_zero (fun _ _ => rfl)
  | p :: bs, ix, d, x, hb, hl, hs, hi => by
    have ih := tot_part hv (bs := bs) (ix := ix) (d := d) (x := x) (fun q hq => hb q (by simp [hq])) hl hs hi
    have hp := hb p (by simp)
    have hd : d < s.length := (List.getElem?_eq_some_iff.1 hs).1
    have hpd : d < p.1.length := by omega
    have hy := hp.2 d x p.1[d] hs (List.getElem?_eq_getElem hpd)
    have e : ∀ jx, tot s (p :: bs) jx = (if compat s p.1 jx then p.2 else 0) + tot s bs jx := fun jx => rfl
    have e2 : ((List.range x.toNat).map fun (k : Nat) => tot s (p :: bs) (ix.set d (k : Int))) = (List.range x.toNat).map fun (k : Nat) => (if compat s p.1 (ix.set d (k : Int)) then p.2 else 0) + tot s bs (ix.set d (k : Int)) := by
      apply List.map_congr_left; intro k _; exact e _
    rw [e2, sumI_map_add, ih, e]
    congr 1
    have e3 : ((List.range x.toNat).map fun (k : Nat) => if compat s p.1 (ix.set d (k : Int)) then p.2 else 0) = (List.range x.toNat).map fun (k : Nat) => if k = p.1[d].toNat then (if compat s p.1 ix then p.2 else 0) else 0 := by
      apply List.map_congr_left
      intro k hk
      simp only [List.mem_range] at hk
      rw [compat_set hl hp.1 hs hi (List.getElem?_eq_getElem hpd) (by omega)]
      by_cases h : (k : Int) = p.1[d]
      · have hk2 : k = p.1[d].toNat := by omega
        simp only [h, decide_true, Bool.true_and]
        exact (if_pos hk2).symm
      · simp only [h, decide_false, Bool.false_and, Bool.false_eq_true, if_false, show ¬ k = p.1[d].toNat by omega]
    rw [e3, sumI_one _ _ (by omega)]
theorem tot_bd {s : List Int} {bs : List (List Int × Int)} (hb : ∀ p ∈ bs, -1000000 ≤ p.2 ∧ p.2 ≤ 1000000) (hl : bs.length ≤ 2000) (ix : List Int) : -2000000000 ≤ tot s bs ix ∧ tot s bs ix ≤ 2000000000 := by
  have := sumI_bd (b := 1000000) (by omega) (l := bs.map fun p => if compat s p.1 ix then p.2 else 0) (fun y hy => by
    obtain ⟨p, hp, rfl⟩ := List.mem_map.1 hy
    have := hb p hp
    split <;> omega)
  simp only [List.length_map] at this
  show -2000000000 ≤ sumI _ ∧ sumI _ ≤ 2000000000
  omega
/-- At a cell without totals only that very cell counts. -/
theorem compat_base : ∀ {s b ix : List Int}, ix.length = s.length → b.length = s.length → baseB ix s = true → compat s b ix = decide (ix = b)
  | [], b, ix, h1, h2, _ => by
    have e1 : ix = [] := by simpa using h1
    have e2 : b = [] := by simpa using h2
    subst e1; subst e2; rfl
  | x :: s, b :: bs, a :: as, h1, h2, hb => by
    simp only [baseB, Bool.and_eq_true, decide_eq_true_eq] at hb
    simp only [compat, compat_base (by simpa using h1) (by simpa using h2) hb.2, hb.1, decide_false, Bool.false_or]
    by_cases h : a = b <;> simp [h]
  | x :: s, [], ix, _, h2, _ => by simp at h2
  | x :: s, b :: bs, [], h1, _, _ => by simp at h1

/-! ### Base cells and their values -/
def pairs (s : List Int) (n : Nat) (base : List Int) : List (List Int × Int) := List.zip ((basesL s n).map fun (i : Nat) => idxL s (i : Int)) base
theorem basesL_get_inj {s : List Int} (hv : valid s) {n : Nat} (hn : (n : Int) ≤ vol s) {i : Nat} (hi : i ∈ basesL s n) {j : Nat} (hj : j ∈ basesL s n) (h : idxL s (i : Int) = idxL s (j : Int)) : i = j := by
  have h1 := basesL_mem hi
  have h2 := basesL_mem hj
  have e1 := atL_idxL hv.2 (show (0 : Int) ≤ i by omega)
  have e2 := atL_idxL hv.2 (show (0 : Int) ≤ j by omega)
  rw [h, e2, Int.emod_eq_of_lt (by omega) (by omega), Int.emod_eq_of_lt (by omega) (by omega)] at e1
  omega
theorem basesL_sorted (s : List Int) : ∀ n, (basesL s n).Pairwise (· < ·) := by
  intro n
  exact (List.pairwise_lt_range (n := n)).filter _
theorem basesL_take {s : List Int} : ∀ {n i : Nat}, i ≤ n → basesL s i <+: basesL s n := by
  intro n i h
  induction n with
  | zero => rw [show i = 0 by omega]; exact List.prefix_refl _
  | succ n ih =>
    by_cases e : i = n + 1
    · subst e; exact List.prefix_refl _
    · exact (ih (by omega)).trans (by rw [basesL_succ]; exact List.prefix_append _ _)
theorem basesL_rank {s : List Int} {n i : Nat} (hi : i < n) (hb : baseB (idxL s (i : Int)) s = true) : (basesL s n)[(basesL s i).length]? = some i := by
  have h1 : basesL s (i + 1) <+: basesL s n := basesL_take (by omega)
  obtain ⟨t, ht⟩ := h1
  rw [← ht, basesL_succ, if_pos hb, List.append_assoc, List.getElem?_append_right (Nat.le_refl _)]
  simp
/-- The value of a base cell, found again in the sum. -/
theorem tot_base {s : List Int} (hv : valid s) {n : Nat} (hn : (n : Int) ≤ vol s) {base : List Int} (hlen : base.length = (basesL s n).length) {i : Nat} (hi : i < n) (hb : baseB (idxL s (i : Int)) s = true) {v : Int} (hx : base[(basesL s i).length]? = some v) : tot s (pairs s n base) (idxL s (i : Int)) = v := by
  have hr := basesL_rank hi hb
  have hk := (List.getElem?_eq_some_iff.1 hr).1
  have hidx : (idxL s (i : Int)).length = s.length := idxL_len _ _
  -- the sum over the list as a sum over its places
  have e : tot s (pairs s n base) (idxL s (i : Int)) = sumI ((List.range (basesL s n).length).map fun k => if k = (basesL s i).length then v else 0) := by
    unfold tot
    congr 1
    apply List.ext_getElem
    · simp [pairs, hlen]
    · intro m h1 h2
      simp only [List.length_map, List.length_range] at h2
      simp only [List.getElem_map, List.getElem_range, pairs, List.getElem_zip]
      rw [compat_base hidx (by rw [idxL_len]) hb]
      by_cases hm : m = (basesL s i).length
      · subst hm
        have : (basesL s n)[(basesL s i).length] = i := (List.getElem?_eq_some_iff.1 hr).2
        have hv2 : base[(basesL s i).length] = v := (List.getElem?_eq_some_iff.1 hx).2
        simp [this, hv2]
      · have hne : ¬ (idxL s (i : Int) = idxL s ((basesL s n)[m] : Int)) := by
          intro he
          have hmem : i ∈ basesL s n := List.mem_of_getElem? hr
          have := basesL_get_inj hv hn hmem (List.getElem_mem h2) he
          have hp := basesL_sorted s n
          rw [List.pairwise_iff_getElem] at hp
          have hrv : (basesL s n)[(basesL s i).length] = i := (List.getElem?_eq_some_iff.1 hr).2
          rcases Nat.lt_or_gt_of_ne hm with hlt | hlt
          · have := hp m _ h2 hk hlt; omega
          · have := hp _ m hk h2 hlt; omega
        simp [hne, hm]
  rw [e, sumI_one _ _ hk]
theorem pairs_ok {s : List Int} (hv : valid s) {n : Nat} {base : List Int} : ∀ p ∈ pairs s n base, p.1.length = s.length ∧ ∀ (k : Nat) (x y : Int), s[k]? = some x → p.1[k]? = some y → 0 ≤ y ∧ y < x := by
  intro p hp
  have h1 := (List.of_mem_zip hp).1
  obtain ⟨i, hi, he⟩ := List.mem_map.1 h1
  rw [← he]
  refine ⟨idxL_len _ _, fun k x y hx hy => ?_⟩
  have hf := (idxL_fits hv (show (0 : Int) ≤ i by omega)).2 k x y hx hy
  have hbase : baseB (idxL s (i : Int)) s = true := by simp only [basesL, List.mem_filter] at hi; exact hi.2
  have hne : ∀ {ix s : List Int}, baseB ix s = true → ∀ (k : Nat) (x y : Int), s[k]? = some x → ix[k]? = some y → y ≠ x := by
    intro ix
    induction ix with
    | nil => intro s _ k x y _ hy; simp at hy
    | cons a as ih =>
      intro s hb k x y hx hy
      cases s with
      | nil => simp at hx
      | cons z zs =>
        simp only [baseB, Bool.and_eq_true, decide_eq_true_eq] at hb
        cases k with
        | zero => simp at hx hy; subst hx; subst hy; exact hb.1
        | succ k => exact ih hb.2 k x y (by simpa using hx) (by simpa using hy)
  have := hne hbase k x y hx hy
  omega
theorem pairs_small {s : List Int} {n : Nat} {base : List Int} (h : smallL base = true) : ∀ p ∈ pairs s n base, -1000000 ≤ p.2 ∧ p.2 ≤ 1000000 := by
  intro p hp
  have h1 := (List.of_mem_zip hp).2
  obtain ⟨k, hk⟩ := List.getElem?_of_mem h1
  exact smallL_get h hk
theorem pairs_len {s : List Int} {n : Nat} {base : List Int} : (pairs s n base).length ≤ n := by
  have := basesL_len s n
  simp only [pairs, List.length_zip, List.length_map]; omega
/-- All cells. -/
def totL (s : List Int) (n : Nat) (base : List Int) : List Int := (List.range n).map fun (i : Nat) => tot s (pairs s n base) (idxL s (i : Int))
end AS
