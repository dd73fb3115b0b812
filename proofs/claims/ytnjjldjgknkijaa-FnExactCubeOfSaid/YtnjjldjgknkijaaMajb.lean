/- CubeOf: the program's way. No condition. -/
import Derived.Test.YtnjjldjgknkijaaMaja
set_option linter.unusedVariables false
set_option linter.unusedSimpArgs false
namespace AS
theorem mixL_skip {α : Type} {a b : List α} (h : a.length = b.length) {k : Nat} (hk : k < a.length) (e : a[k] = b[k]'(by omega)) : mixL a b (k + 1) = mixL a b k := by
  rw [← mixL_set h hk]
  apply List.ext_getElem?
  intro i
  by_cases hi : i = k
  · subst hi
    rw [List.getElem?_set_self (by rw [mixL_len h]; omega), mixL_get h (by omega), e]
  · rw [List.getElem?_set_ne (Ne.symm hi)]
def noTot (d : Nat) (s ix : List Int) : Bool := baseB (ix.drop d) (s.drop d)
theorem noTot_step {d : Nat} {s ix : List Int} {x y : Int} (hx : s[d]? = some x) (hy : ix[d]? = some y) : noTot d s ix = (decide (y ≠ x) && noTot (d + 1) s ix) := by
  obtain ⟨h1, rfl⟩ := List.getElem?_eq_some_iff.1 hx
  obtain ⟨h2, rfl⟩ := List.getElem?_eq_some_iff.1 hy
  unfold noTot
  rw [List.drop_eq_getElem_cons h1, List.drop_eq_getElem_cons h2]
  rfl
theorem noTot_set {d : Nat} {s ix : List Int} {y : Int} : noTot (d + 1) s (ix.set d y) = noTot (d + 1) s ix := by
  unfold noTot
  rw [List.drop_set_of_lt (by omega)]
/-- The cells behind d steps. -/
def stA (s : List Int) (n : Nat) (base : List Int) (d : Nat) (i : Nat) : Int := if noTot d s (idxL s (i : Int)) then tot s (pairs s n base) (idxL s (i : Int)) else 0
def stL (s : List Int) (n : Nat) (base : List Int) (d : Nat) : List Int := (List.range n).map (stA s n base d)
theorem stL_len (s : List Int) (n : Nat) (base : List Int) (d : Nat) : (stL s n base d).length = n := by simp [stL]
theorem stL_get {s : List Int} {n : Nat} {base : List Int} {d i : Nat} (h : i < n) : (stL s n base d)[i]'(by rw [stL_len]; exact h) = stA s n base d i := by simp [stL]
theorem stL_end (s : List Int) (n : Nat) (base : List Int) : stL s n base s.length = totL s n base := by
  unfold stL totL
  apply List.map_congr_left
  intro i _
  have : noTot s.length s (idxL s (i : Int)) = true := by
    unfold noTot
    rw [List.drop_of_length_le (by rw [idxL_len]; exact Nat.le_refl _)]; rfl
  simp [stA, this]
def cubeR (s base : List Int) : XCube × Bool :=
  if decide (base.length = (basesL s (vol s).toNat).length) && smallL base && smallL (totL s (vol s).toNat base) then (⟨s, totL s (vol s).toNat base⟩, true) else (⟨[], []⟩, false)

theorem implCubeOf_eq {s base : List Int} (hv : valid s) (hc : cntB s = vol s) (hN : vol s ≤ 2000) : sh_impl_cubeOf s base = some (cubeR s base) := by
  unfold sh_impl_cubeOf
  have hvb := vol_bd hv
  have hsl := hv.1
  obtain ⟨n, hn⟩ : ∃ n : Nat, vol s = (n : Int) := ⟨(vol s).toNat, by omega⟩
  have hnt : (vol s).toNat = n := by omega
  rw [Clone_eq (by omega), Option.bind_some, cubeCells_eq, Option.bind_some, hc, mkO_pos (by omega) (by omega), hnt]
  have hidx : ∀ i : Nat, i < n → sh_impl_indexOf s (i : Int) = some (idxL s (i : Int)) := fun i hi => indexOf_eq hv (by omega) (by omega)
  have hbase : ∀ i : Nat, sh_impl_isBase s (idxL s (i : Int)) = some (baseB (idxL s (i : Int)) s) := fun i => isBase_eq (by rw [idxL_len]; exact Nat.le_refl _)
  have hz : (List.replicate n (0 : Int)).length = n := by simp
  -- first: how many
  refine (range_mem (I := fun (k : Nat) (a : Int) => a = ((basesL s k).length : Int) ∧ k ≤ n) (G := fun _ _ _ => some (cubeR s base)) ?_ ?_ 0 ⟨by simp [basesL], by omega⟩)
  rotate_left
  · intro x l' k a next hx _ hI hnx
    obtain ⟨rfl, _⟩ := hI
    have hk : k < n := by have := (List.getElem?_eq_some_iff.1 hx).1; simpa using this
    have hlen := basesL_len s k
    rw [hidx k hk, Option.bind_some, hbase, Option.bind_some]
    by_cases hb : baseB (idxL s (k : Int)) s = true
    · simp only [hb, if_true]
      rw [ckI_pos (by omega) (by omega)]
      exact hnx _ ⟨by rw [basesL_succ, if_pos hb]; simp, by omega⟩
    · simp only [hb, if_false]
      exact hnx _ ⟨by rw [basesL_succ, if_neg hb]; simp, by omega⟩
  intro k a hI hk
  obtain ⟨rfl, _⟩ := hI
  rw [hz] at hk
  subst hk
  by_cases hlen : base.length = (basesL s k).length
  rotate_left
  · have : ¬ (((basesL s k).length : Int) = (base.length : Int)) := by omega
    simp [this, cubeR, hnt, hlen]
  simp only [hlen, ne_eq, not_true_eq_false, decide_false, Bool.false_eq_true, if_false]
  rw [areCubeValues_eq, Option.bind_some]
  cases hsm : smallL base with
  | false => simp [cubeR, hsm]
  | true =>
  simp only [Bool.not_true, Bool.false_eq_true, if_false]
  have hbl := basesL_len s k
  have hp1 := pairs_ok hv (n := k) (base := base)
  have hp2 := pairs_small (s := s) (n := k) hsm
  have hp3 := pairs_len (s := s) (n := k) (base := base)
  have htb : ∀ ix, -2000000000 ≤ tot s (pairs s k base) ix ∧ tot s (pairs s k base) ix ≤ 2000000000 := fun ix => tot_bd hp2 (by omega) ix
  have h0l : (stL s k base 0).length = (List.replicate k (0 : Int)).length := by rw [stL_len, hz]
  -- second: the base cells are laid
  refine (range_mem (I := fun (i : Nat) (st : XCube × Int) => st = (⟨s, mixL (stL s k base 0) (List.replicate k (0 : Int)) i⟩, ((basesL s i).length : Int)) ∧ i ≤ k) (G := fun _ _ _ => some (cubeR s base)) ?_ ?_ _ ⟨by simp [mixL_zero, basesL], by omega⟩)
  rotate_left
  · intro x l' i st next hx _ hI hnx
    obtain ⟨rfl, _⟩ := hI
    have hi : i < k := by have := (List.getElem?_eq_some_iff.1 hx).1; simpa using this
    have hil := basesL_len s i
    have hi2 : i < (stL s k base 0).length := by rw [stL_len]; exact hi
    rw [hidx i hi, Option.bind_some, hbase, Option.bind_some]
    have hst : (stL s k base 0)[i] = stA s k base 0 i := stL_get hi
    by_cases hb : baseB (idxL s (i : Int)) s = true
    · simp only [hb, if_true]
      have hr := basesL_rank hi hb
      have hrl := (List.getElem?_eq_some_iff.1 hr).1
      have hbv : base[(basesL s i).length]? = some (base[(basesL s i).length]'(by omega)) := List.getElem?_eq_getElem (by omega)
      rw [getO_some hbv, getO_some (mixL_get h0l (by rw [hz]; exact hi)), ckI_pos (by omega) (by omega)]
      refine hnx _ ⟨?_, by omega⟩
      have hval : stA s k base 0 i = base[(basesL s i).length]'(by omega) := by
        have : noTot 0 s (idxL s (i : Int)) = true := by simpa [noTot] using hb
        simp only [stA, this, if_true]
        exact tot_base hv (by omega) hlen hi hb hbv
      rw [Int.toNat_natCast, ← hval, ← hst, mixL_set h0l hi2, basesL_succ, if_pos hb]
      simp
    · simp only [hb, if_false]
      refine hnx _ ⟨?_, by omega⟩
      have hval : stA s k base 0 i = 0 := by
        have : noTot 0 s (idxL s (i : Int)) = false := by simpa [noTot] using hb
        simp [stA, this]
      rw [mixL_skip h0l hi2 (by rw [hst, hval]; simp), basesL_succ, if_neg hb]
      simp
  intro i st hI hi
  obtain ⟨rfl, _⟩ := hI
  rw [hz] at hi
  subst hi
  have hend := mixL_end h0l
  rw [stL_len] at hend
  simp only [hend]
  rw [strides_eq hv, Option.bind_some]
  -- third: one dimension after the other
  refine (range_mem (I := fun (d : Nat) (c : XCube) => c = ⟨s, stL s i base d⟩ ∧ d ≤ s.length) (G := fun _ _ _ => some (cubeR s base)) ?_ ?_ _ ⟨rfl, by omega⟩)
  · intro d c hI hd
    obtain ⟨rfl, _⟩ := hI
    rw [strL_len] at hd
    subst hd
    simp only [stL_end]
    rw [areCubeValues_eq, Option.bind_some]
    cases h2 : smallL (totL s i base) with
    | false => simp [cubeR, hnt, hsm, h2]
    | true => simp [cubeR, hnt, hsm, h2, hlen]
  · intro st l' d c next hx _ hI hnx
    obtain ⟨rfl, _⟩ := hI
    have hd : d < s.length := by have := (List.getElem?_eq_some_iff.1 hx).1; rwa [strL_len] at this
    have hste : st = vol (s.drop (d + 1)) := by
      have := (List.getElem?_eq_some_iff.1 hx).2
      rw [← this]; exact strL_get s d hd
    subst hste
    have hsd : s[d]? = some s[d] := List.getElem?_eq_getElem hd
    have hxb := hv.get hsd
    have hvd := vol_bd (hv.drop (d + 1))
    have hnext := hnx _ ⟨rfl, by omega⟩
    rw [← hnext]
    have hll : (stL s i base (d + 1)).length = (stL s i base d).length := by rw [stL_len, stL_len]
    refine (range_mem (I := fun (j : Nat) (c : XCube) => c = ⟨s, mixL (stL s i base (d + 1)) (stL s i base d) j⟩ ∧ j ≤ i) (G := fun _ _ _ => next ⟨s, stL s i base (d + 1)⟩) ?_ ?_ _ ⟨by simp [mixL_zero], by omega⟩)
    · intro j c hI hj
      obtain ⟨rfl, _⟩ := hI
      have := mixL_end hll
      rw [stL_len] at this hj
      rw [hj, this]
    · intro y l2 j c nx2 hy _ hI hn2
      obtain ⟨rfl, _⟩ := hI
      have hj : j < i := by have := (List.getElem?_eq_some_iff.1 hy).1; rwa [stL_len] at this
      have hj2 : j < (stL s i base (d + 1)).length := by rw [stL_len]; exact hj
      have hjl : (idxL s (j : Int)).length = s.length := idxL_len _ _
      have hjd : (idxL s (j : Int))[d]? = some ((idxL s (j : Int))[d]'(by omega)) := List.getElem?_eq_getElem (by omega)
      have hnt2 := noTot_step hsd hjd
      rw [hidx j hj, Option.bind_some, getO_some hjd, getO_nat hd]
      have hg1 : (stL s i base (d + 1))[j] = stA s i base (d + 1) j := stL_get hj
      have hg0 : (stL s i base d)[j]'(by rw [stL_len]; exact hj) = stA s i base d j := stL_get hj
      by_cases hne : (idxL s (j : Int))[d]'(by omega) = s[d]
      rotate_left
      · simp only [ne_eq, hne, not_false_eq_true, decide_true, if_true]
        refine hn2 _ ⟨?_, by omega⟩
        rw [mixL_skip hll hj2]
        rw [hg1, hg0]
        simp only [stA, hnt2, ne_eq, hne, not_false_eq_true, decide_true, Bool.true_and]
      have h0 : stA s i base d j = 0 := by simp [stA, hnt2, hne]
      simp only [ne_eq, hne, not_true_eq_false, decide_false, Bool.false_eq_true, if_false]
      rw [ckI_pos (by omega) (by omega), ck_pos (by omega), ckI_pos (by omega) (by omega), ck_pos (by omega)]
      simp only [List.take_length, show ((d : Int) + 1).toNat = d + 1 by omega]
      rw [isBase_eq (by simp; omega), Option.bind_some]
      have hnoT : baseB (List.drop (d + 1) (idxL s (j : Int))) (List.drop (d + 1) s) = noTot (d + 1) s (idxL s (j : Int)) := rfl
      rw [hnoT]
      cases hb : noTot (d + 1) s (idxL s (j : Int)) with
      | false =>
        simp only [Bool.not_false, if_true]
        refine hn2 _ ⟨?_, by omega⟩
        rw [mixL_skip hll hj2]
        rw [hg1, hg0, h0]
        simp [stA, hb]
      | true =>
        simp only [Bool.not_true, Bool.false_eq_true, if_false]
        have hfit := idxL_fits hv (show (0 : Int) ≤ j by omega)
        have hjx : (idxL s (j : Int))[d]? = some s[d] := by rw [hjd, hne]
        -- the cells below
        let g : Nat → Int := fun q => tot s (pairs s i base) ((idxL s (j : Int)).set d (s[d] - ((q : Int) + 1)))
        have hgc : ∀ q : Nat, (q : Int) < s[d] → 0 ≤ (j : Int) - ((q : Int) + 1) * vol (s.drop (d + 1)) ∧ (j : Int) - ((q : Int) + 1) * vol (s.drop (d + 1)) < j ∧
            (mixL (stL s i base (d + 1)) (stL s i base d) j)[((j : Int) - ((q : Int) + 1) * vol (s.drop (d + 1))).toNat]? = some (g q) := fun q hq => by
          have hf2 := hfit.set hsd (show 0 ≤ s[d] - ((q : Int) + 1) by omega) (show s[d] - ((q : Int) + 1) ≤ s[d] by omega)
          have hat := atL_set (y := s[d] - ((q : Int) + 1)) hjl hd (show d < (idxL s (j : Int)).length by omega)
          rw [atL_idxL hv.2 (by omega), Int.emod_eq_of_lt (by omega) (by omega), hne] at hat
          have e1 : (s[d] - ((q : Int) + 1) - s[d]) * vol (s.drop (d + 1)) = -(((q : Int) + 1) * vol (s.drop (d + 1))) := by
            rw [show s[d] - ((q : Int) + 1) - s[d] = -((q : Int) + 1) by omega, Int.neg_mul]
          have hab := atL_bd hv.2 hf2
          have hpos : 1 * 1 ≤ ((q : Int) + 1) * vol (s.drop (d + 1)) := Int.mul_le_mul (by omega) hvd.1 (by omega) (by omega)
          rw [e1] at hat
          have hj' : (j : Int) - ((q : Int) + 1) * vol (s.drop (d + 1)) = atL s ((idxL s (j : Int)).set d (s[d] - ((q : Int) + 1))) := by rw [hat]; omega
          refine ⟨by omega, by omega, ?_⟩
          have hlt : ((j : Int) - ((q : Int) + 1) * vol (s.drop (d + 1))).toNat < j := by omega
          simp only [mixL]
          rw [List.getElem?_append_left (by simp [stL_len]; omega), List.getElem?_take_of_lt hlt, List.getElem?_eq_getElem (by rw [stL_len]; omega), stL_get (by omega)]
          have e2 : idxL s ((((j : Int) - ((q : Int) + 1) * vol (s.drop (d + 1))).toNat : Nat) : Int) = (idxL s (j : Int)).set d (s[d] - ((q : Int) + 1)) := by
            rw [Int.toNat_of_nonneg (by omega), hj', idxL_atL hv.2 hf2]
          simp only [stA, e2, noTot_set, hb, if_true]
          rfl
        have htot : sumI ((List.range s[d].toNat).map g) = tot s (pairs s i base) (idxL s (j : Int)) := by
          rw [← tot_part hv.2 hp1 hjl hsd hjx, ← sumI_reverse ((List.range s[d].toNat).map fun (k : Nat) => tot s (pairs s i base) ((idxL s (j : Int)).set d (k : Int)))]
          congr 1
          apply List.ext_getElem
          · simp
          · intro m h1 h2
            simp only [List.length_map, List.length_range] at h1
            simp only [List.getElem_map, List.getElem_range, List.getElem_reverse, List.length_map, List.length_range]
            show tot s (pairs s i base) ((idxL s (j : Int)).set d (s[d] - ((m : Int) + 1))) = _
            congr 2
            omega
        have hsum : ∀ (m : Nat), (m : Int) ≤ s[d] → -(2000000000 * (m : Int)) ≤ sumI ((List.range m).map g) ∧ sumI ((List.range m).map g) ≤ 2000000000 * (m : Int) := by
          intro m hm
          have := sumI_bd (b := 2000000000) (by omega) (l := (List.range m).map g) (fun y hy => by
            simp only [List.mem_map, List.mem_range] at hy
            obtain ⟨z, hz, rfl⟩ := hy
            exact htb _)
          simpa using this
        have hmg : (mixL (stL s i base (d + 1)) (stL s i base d) j)[j]? = some 0 := by rw [mixL_get hll (by rw [stL_len]; exact hj), hg0, h0]
        have hml : (mixL (stL s i base (d + 1)) (stL s i base d) j).length = i := by rw [mixL_len hll, stL_len]
        have e0 : (((⟨s, mixL (stL s i base (d + 1)) (stL s i base d) j⟩ : XCube), (1 : Int)) : XCube × Int) = (fun m : Nat => ((⟨s, (mixL (stL s i base (d + 1)) (stL s i base d) j).set j (sumI ((List.range m).map g))⟩ : XCube), (m : Int) + 1)) 0 := by
          have : (mixL (stL s i base (d + 1)) (stL s i base d) j).set j 0 = mixL (stL s i base (d + 1)) (stL s i base d) j := by
            apply List.ext_getElem?
            intro q
            by_cases hq : q = j
            · subst hq; rw [List.getElem?_set_self (by rw [hml]; exact hj), hmg]
            · rw [List.getElem?_set_ne (Ne.symm hq)]
          simp [sumI, this]
        rw [e0]
        have hgoal := hn2 ⟨s, mixL (stL s i base (d + 1)) (stL s i base d) (j + 1)⟩ ⟨rfl, by omega⟩
        rw [← hgoal]
        refine (loop_up s[d].toNat (fun m : Nat => ((⟨s, (mixL (stL s i base (d + 1)) (stL s i base d) j).set j (sumI ((List.range m).map g))⟩ : XCube), (m : Int) + 1)) (fun _ => nx2 ⟨s, mixL (stL s i base (d + 1)) (stL s i base d) (j + 1)⟩) (by omega) ?_ ?_)
        · intro nx m hm hnx3
          have hmx : (m : Int) + 1 ≤ s[d] := by omega
          obtain ⟨q1, q2, q3⟩ := hgc m (by omega)
          have hs1 := hsum m (by omega)
          have hgb := htb ((idxL s (j : Int)).set d (s[d] - ((m : Int) + 1)))
          have hgb2 : -2000000000 ≤ g m ∧ g m ≤ 2000000000 := hgb
          have hm1 : ((m : Int) + 1) * vol (s.drop (d + 1)) ≤ 30 * 923521 := Int.mul_le_mul (by omega) hvd.2 (by omega) (by omega)
          have hm0 : 0 ≤ ((m : Int) + 1) * vol (s.drop (d + 1)) := Int.mul_nonneg (by omega) (by omega)
          simp only [hmx, decide_true, if_true]
          rw [getO_some (List.getElem?_set_self (by rw [hml]; exact hj)), ckI_pos (by omega) (by omega), ckI_pos (by omega) (by omega)]
          rw [getO_int (k := ((j : Int) - ((m : Int) + 1) * vol (s.drop (d + 1))).toNat) (x := g m) (by omega) (by rw [List.getElem?_set_ne (by omega)]; exact q3)]
          rw [ckI_pos (by omega) (by omega), ckI_pos (by omega) (by omega), ← hnx3, range_map_succ, sumI_append]
          simp only [sumI, Int.add_zero, cast_succ, Int.toNat_natCast, List.set_set]
        · intro nx
          simp only [show ¬ (((s[d].toNat : Nat) : Int) + 1 ≤ s[d]) by omega, decide_false, Bool.false_eq_true, if_false, htot]
          congr 2
          have : stA s i base (d + 1) j = tot s (pairs s i base) (idxL s (j : Int)) := by simp [stA, hb]
          rw [← this, ← hg1, mixL_set hll hj2]
end AS
