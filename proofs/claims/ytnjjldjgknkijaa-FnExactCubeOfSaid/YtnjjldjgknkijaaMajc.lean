/- CubeOf: the reference's way. No condition. -/
import Derived.Test.YtnjjldjgknkijaaMajb
set_option linter.unusedVariables false
set_option linter.unusedSimpArgs false
namespace AS
/-- Base indices with the dimensions of a mask turned to totals. -/
def mset : List Int → List Int → Nat → List Int
  | x :: s, b :: bs, m => (if m % 2 = 1 then x else b) :: mset s bs (m / 2)
  | _, _, _ => []
theorem mset_len : ∀ {s b : List Int} (m : Nat), b.length = s.length → (mset s b m).length = s.length
  | [], [], _, _ => rfl
  | [], _ :: _, _, h => by simp at h
  | _ :: _, [], _, h => by simp at h
  | x :: s, b :: bs, m, h => by simp [mset, mset_len (s := s) (b := bs) (m / 2) (by simpa using h)]
theorem mset_get : ∀ {s b : List Int} (m d : Nat) (h : b.length = s.length) (hd : d < s.length), (mset s b m)[d]'(by rw [mset_len m h]; exact hd) = if m / 2 ^ d % 2 = 1 then s[d] else b[d]
  | x :: s, b :: bs, m, 0, _, _ => by simp [mset]
  | x :: s, b :: bs, m, d + 1, h, hd => by
    simp only [mset, List.getElem_cons_succ]
    rw [mset_get (m / 2) d (by simpa using h) (by simpa using hd), Nat.div_div_eq_div_mul, Nat.pow_succ, Nat.mul_comm 2]
  | _ :: _, [], _, _, h, _ => by simp at h
theorem mset_fits : ∀ {s b : List Int} (m : Nat), fits s b → (∀ x ∈ s, 1 ≤ x ∧ x ≤ 30) → fits s (mset s b m) := by
  intro s b m hf hv
  refine ⟨mset_len m hf.1, fun k x y hx hy => ?_⟩
  obtain ⟨hk, rfl⟩ := List.getElem?_eq_some_iff.1 hx
  obtain ⟨hk2, rfl⟩ := List.getElem?_eq_some_iff.1 hy
  rw [mset_get m k hf.1 hk]
  have h1 := hf.2 k s[k] (b[k]'(by rw [hf.1]; exact hk)) hx (List.getElem?_eq_getElem _)
  have h2 := hv s[k] (List.getElem_mem hk)
  split <;> omega
theorem sumI_pairs (f : Nat → Int) : ∀ n, sumI ((List.range (2 * n)).map f) = sumI ((List.range n).map fun q => f (2 * q) + f (2 * q + 1))
  | 0 => rfl
  | n + 1 => by
    rw [show 2 * (n + 1) = 2 * n + 1 + 1 by omega, range_map_succ, range_map_succ, sumI_append, sumI_append, sumI_pairs f n, range_map_succ, sumI_append]
    simp only [sumI]; omega
theorem sumI_ite {α : Type} (c : Bool) (f : α → Int) (l : List α) : sumI (l.map fun q => if c then f q else 0) = if c then sumI (l.map f) else 0 := by
  cases c with
  | false => simp only [Bool.false_eq_true, if_false]; exact sumI_zero (fun _ _ => rfl)
  | true => simp
/-- Every cell is met once, or never. -/
theorem mset_sum (v : Int) : ∀ {s b ix : List Int}, b.length = s.length → ix.length = s.length → (∀ (k : Nat) (x y : Int), s[k]? = some x → b[k]? = some y → y ≠ x) →
    sumI ((List.range (2 ^ s.length)).map fun m => if mset s b m = ix then v else 0) = if compat s b ix then v else 0
  | [], b, ix, h1, h2, _ => by
    have e1 : b = [] := by simpa using h1
    have e2 : ix = [] := by simpa using h2
    subst e1; subst e2
    simp [mset, compat, sumI]
  | x :: s, [], ix, h1, _, _ => by simp at h1
  | x :: s, b :: bs, [], _, h2, _ => by simp at h2
  | x :: s, b :: bs, a :: as, h1, h2, hne => by
    have ih := mset_sum v (s := s) (b := bs) (ix := as) (by simpa using h1) (by simpa using h2) (fun k x y hx hy => hne (k + 1) x y (by simpa using hx) (by simpa using hy))
    have hbx := hne 0 x b rfl rfl
    rw [List.length_cons, Nat.pow_succ, Nat.mul_comm, sumI_pairs]
    have e : ((List.range (2 ^ s.length)).map fun q => (if mset (x :: s) (b :: bs) (2 * q) = a :: as then v else 0) + (if mset (x :: s) (b :: bs) (2 * q + 1) = a :: as then v else 0)) =
        (List.range (2 ^ s.length)).map fun q => if (decide (a = x) || decide (a = b)) then (if mset s bs q = as then v else 0) else 0 := by
      apply List.map_congr_left
      intro q _
      simp only [mset, show 2 * q % 2 = 0 by omega, show (2 * q + 1) % 2 = 1 by omega, show 2 * q / 2 = q by omega, show (2 * q + 1) / 2 = q by omega, if_true, List.cons.injEq, show ¬ ((0 : Nat) = 1) by omega, if_false]
      by_cases ha : a = x
      · have : ¬ b = a := fun e => hbx (by rw [e, ha])
        simp [ha, this, show ¬ b = x from hbx]
      · by_cases hb : a = b
        · subst hb
          simp [show ¬ x = a from fun e => ha e.symm]
        · simp [ha, hb, show ¬ x = a from fun e => ha e.symm, show ¬ b = a from fun e => hb e.symm]
    rw [e, sumI_ite, ih]
    simp only [compat]
    by_cases hq : (decide (a = x) || decide (a = b)) = true
    · simp only [hq, if_true, Bool.true_and]
    · simp only [Bool.not_eq_true] at hq
      simp only [hq, Bool.false_eq_true, if_false, Bool.false_and]
theorem tot_snoc (s : List Int) (bs : List (List Int × Int)) (p : List Int × Int) (ix : List Int) : tot s (bs ++ [p]) ix = tot s bs ix + (if compat s p.1 ix then p.2 else 0) := by
  unfold tot
  rw [List.map_append, sumI_append]; simp [sumI]
theorem map_set_add {n a : Nat} {f f' : Nat → Int} {w : Int} (ha : a < n) (h1 : f' a = f a + w) (h2 : ∀ i, i < n → i ≠ a → f' i = f i) : ((List.range n).map f).set a (f a + w) = (List.range n).map f' := by
  apply List.ext_getElem
  · simp
  · intro i h3 h4
    simp only [List.length_map, List.length_range] at h4
    by_cases e : i = a
    · subst e; simp [h1]
    · rw [List.getElem_set_ne (Ne.symm e)]
      simp [h2 i (by simpa using h3) e]
theorem cbOf_eq {s base : List Int} (hv : valid s) (hc : cntB s = vol s) (hN : vol s ≤ 2000) (hlen : base.length = (basesL s (vol s).toNat).length) (hsm : smallL base = true) : sh_spec_cbOf s base = some ⟨s, totL s (vol s).toNat base⟩ := by
  unfold sh_spec_cbOf
  have hvb := vol_bd hv
  have hsl := hv.1
  obtain ⟨n, hn⟩ : ∃ n : Nat, vol s = (n : Int) := ⟨(vol s).toNat, by omega⟩
  have hnt : (vol s).toNat = n := by omega
  rw [l1Own_eq (by omega), Option.bind_some, cbCount_eq, Option.bind_some, hc, mkO_pos (by omega) (by omega), cbBase_eq hv hc, Option.bind_some, hnt]
  rw [hnt] at hlen
  have hbl := basesL_len s n
  have hp2 := pairs_small (s := s) (n := n) hsm
  have hpl : (pairs s n base).length = (basesL s n).length := by simp [pairs, hlen]
  have hpow : 2 ^ s.length ≤ 16 := by
    have : s.length = 0 ∨ s.length = 1 ∨ s.length = 2 ∨ s.length = 3 ∨ s.length = 4 := by omega
    rcases this with e | e | e | e | e <;> rw [e] <;> decide
  have htb : ∀ (k : Nat) (ix : List Int), -2000000000 ≤ tot s ((pairs s n base).take k) ix ∧ tot s ((pairs s n base).take k) ix ≤ 2000000000 := fun k ix => tot_bd (fun p hp => hp2 p (List.mem_of_mem_take hp)) (by simp; omega) ix
  have z0 : List.replicate n (0 : Int) = (List.range n).map fun (i : Nat) => tot s ((pairs s n base).take 0) (idxL s (i : Int)) := by
    apply List.ext_getElem
    · simp
    · intro i h1 h2; simp [tot, sumI]
  rw [z0]
  refine (range_mem (I := fun (k : Nat) (c : XCube) => c = ⟨s, (List.range n).map fun (i : Nat) => tot s ((pairs s n base).take k) (idxL s (i : Int))⟩) (G := fun _ _ _ => some (⟨s, totL s n base⟩ : XCube)) ?_ ?_ _ rfl)
  · intro k c hI hk
    subst hI
    simp only [List.length_map] at hk
    rw [List.take_of_length_le (by omega)]
    rfl
  intro xb l' k c next hx _ hI hnx
  subst hI
  obtain ⟨hk, hxe⟩ := List.getElem?_eq_some_iff.1 hx
  simp only [List.length_map] at hk
  simp only [List.getElem_map] at hxe
  subst hxe
  have hbm := basesL_mem (List.getElem_mem hk)
  generalize hbk : (basesL s n)[k] = bk at hbm
  have hbmem : bk ∈ basesL s n := by rw [← hbk]; exact List.getElem_mem hk
  have hbase : baseB (idxL s (bk : Int)) s = true := by simp only [basesL, List.mem_filter] at hbmem; exact hbmem.2
  have hfit := idxL_fits hv (show (0 : Int) ≤ bk by omega)
  have hkb : k < base.length := by omega
  have hvk := smallL_get hsm (List.getElem?_eq_getElem hkb)
  have hil : (idxL s (bk : Int)).length = s.length := idxL_len _ _
  have hpk : (pairs s n base)[k]? = some (idxL s (bk : Int), base[k]) := by
    rw [List.getElem?_eq_getElem (by omega)]
    simp [pairs, hbk]
  have hpok := pairs_ok hv (n := n) (base := base) _ (List.mem_of_getElem? hpk)
  have hsnoc : ∀ ix, tot s ((pairs s n base).take (k + 1)) ix = tot s ((pairs s n base).take k) ix + (if compat s (idxL s (bk : Int)) ix then base[k] else 0) := fun ix => by
    rw [List.take_add_one, hpk]; exact tot_snoc _ _ _ _
  rw [cbIndices_eq hv (by omega) (by omega), Option.bind_some]
  have hnext := hnx _ rfl
  rw [← hnext]
  let F : Nat → Nat → Int := fun m i => tot s ((pairs s n base).take k) (idxL s (i : Int)) + sumI ((List.range m).map fun q => if mset s (idxL s (bk : Int)) q = idxL s (i : Int) then base[k] else 0)
  have hFb : ∀ m i, m ≤ 16 → -2016000000 ≤ F m i ∧ F m i ≤ 2016000000 := fun m i hm => by
    have h1 := htb k (idxL s (i : Int))
    have h2 := sumI_bd (b := 1000000) (by omega) (l := (List.range m).map fun q => if mset s (idxL s (bk : Int)) q = idxL s (i : Int) then base[k] else 0) (fun y hy => by
      simp only [List.mem_map, List.mem_range] at hy
      obtain ⟨q, _, rfl⟩ := hy
      split <;> omega)
    simp only [List.length_map, List.length_range] at h2
    have e : F m i = tot s ((pairs s n base).take k) (idxL s (i : Int)) + sumI ((List.range m).map fun q => if mset s (idxL s (bk : Int)) q = idxL s (i : Int) then base[k] else 0) := rfl
    rw [e]
    omega
  have e0 : (((⟨s, (List.range n).map fun (i : Nat) => tot s ((pairs s n base).take k) (idxL s (i : Int))⟩ : XCube), (0 : Int)) : XCube × Int) = (fun m : Nat => ((⟨s, (List.range n).map (F m)⟩ : XCube), (m : Int))) 0 := by
    simp [F, sumI]
  rw [e0]
  refine (loop_up (2 ^ s.length) (fun m : Nat => ((⟨s, (List.range n).map (F m)⟩ : XCube), (m : Int))) (fun _ => next ⟨s, (List.range n).map fun (i : Nat) => tot s ((pairs s n base).take (k + 1)) (idxL s (i : Int))⟩) (by omega) ?_ ?_)
  · intro nx m hm hn3
    have hp2c : ((2 : Int) ^ s.length) = ((2 ^ s.length : Nat) : Int) := by norm_cast
    have hck : ckK .u64 (s.length : Int) = fun f : Option XCube => f := by funext f; exact if_pos ⟨by omega, by omega⟩
    simp only [hck, Int.toNat_natCast, Int.one_mul, hp2c]
    rw [ck_pos (by omega), ckI_pos (by omega) (by omega)]
    simp only [show ((m : Int) < ((2 ^ s.length : Nat) : Int)) by omega, decide_true, if_true]
    rw [l1Own_eq (by omega), Option.bind_some]
    have hml : (mset s (idxL s (bk : Int)) m).length = (idxL s (bk : Int)).length := by rw [mset_len m hil, hil]
    have hfm := mset_fits m hfit hv.2
    have hab := atL_bd hv.2 hfm
    have hfin : (fun (st : List Int) => (sh_spec_cbAt s st).bind fun x22197 => getO ((List.range n).map (F m)) x22197 fun x22199 => getO base (k : Int) fun x22202 => ckI (x22199 + x22202) <| ckI ((m : Int) + (1 : Int)) <| nx ((⟨s, (((List.range n).map (F m)).set (x22197).toNat (x22199 + x22202))⟩ : XCube), ((m : Int) + (1 : Int)))) (mset s (idxL s (bk : Int)) m) = next ⟨s, (List.range n).map fun (i : Nat) => tot s ((pairs s n base).take (k + 1)) (idxL s (i : Int))⟩ := by
      have hat : ∃ a : Nat, atL s (mset s (idxL s (bk : Int)) m) = (a : Int) ∧ a < n := ⟨(atL s (mset s (idxL s (bk : Int)) m)).toNat, by omega, by omega⟩
      obtain ⟨a, ha, han⟩ := hat
      have hFa := hFb m a (by omega)
      simp only []
      rw [cbAt_eq hv hfm, Option.bind_some, ha, getO_some (x := F m a) (by simp [han]), getO_nat hkb, ckI_pos (by omega) (by omega), ckI_succ (by omega), ← hn3]
      congr 3
      rw [Int.toNat_natCast]
      refine map_set_add han ?_ ?_
      · have : mset s (idxL s (bk : Int)) m = idxL s (a : Int) := by rw [← ha, idxL_atL hv.2 hfm]
        show tot s ((pairs s n base).take k) (idxL s (a : Int)) + sumI ((List.range (m + 1)).map _) = _
        rw [range_map_succ, sumI_append]
        simp only [this, if_true, sumI, F]
        omega
      · intro i hin hi
        have : ¬ mset s (idxL s (bk : Int)) m = idxL s (i : Int) := by
          intro he
          rw [he, atL_idxL hv.2 (by omega), Int.emod_eq_of_lt (by omega) (by omega)] at ha
          omega
        show tot s ((pairs s n base).take k) (idxL s (i : Int)) + sumI ((List.range (m + 1)).map _) = _
        rw [range_map_succ, sumI_append]
        simp [this, sumI, F]
    rw [← hfin]
    refine (range_mem (I := fun (d : Nat) (st : List Int) => st = mixL (mset s (idxL s (bk : Int)) m) (idxL s (bk : Int)) d ∧ d ≤ s.length) (G := fun _ _ _ => _) ?_ ?_ _ ⟨by simp [mixL_zero], by omega⟩)
    · intro d st hI hd
      obtain ⟨rfl, _⟩ := hI
      have := mixL_end hml
      rw [hml] at this
      rw [hd, this]
    · intro y l2 d st nx2 hy _ hI hn4
      obtain ⟨rfl, _⟩ := hI
      have hd : d < s.length := by have := (List.getElem?_eq_some_iff.1 hy).1; rwa [hil] at this
      have hd2 : d < (mset s (idxL s (bk : Int)) m).length := by rw [hml, hil]; exact hd
      have hmg := mset_get m d hil hd
      have hckd : ckK .u64 (d : Int) = fun f : Option XCube => f := by funext f; exact if_pos ⟨by omega, by omega⟩
      have hdiv : (m : Int) / 2 ^ d = ((m / 2 ^ d : Nat) : Int) := by norm_cast
      have hdle : m / 2 ^ d ≤ m := Nat.div_le_self _ _
      obtain ⟨q, hq⟩ : ∃ q, m / 2 ^ d = q := ⟨_, rfl⟩
      rw [hq] at hdiv hdle hmg
      have hcki : ∀ z : Int, 0 ≤ z → z ≤ 1000 → ckK .i64 z = fun f : Option XCube => f := fun z h1 h2 => by funext f; exact if_pos ⟨by omega, by omega⟩
      simp only [hckd, Int.toNat_natCast, hdiv]
      rw [ck_pos (by omega), ck_pos (by omega), hcki _ (by omega) (by omega), ck_pos (by omega), hcki 1 (by omega) (by omega)]
      simp only [Int.toNat_natCast, show ((1 : Int).toNat) = 1 by rfl, Nat.and_one_is_mod]
      by_cases hbit : q % 2 = 1
      · simp only [hbit, show ((1 : Nat) : Int) = 1 by rfl, decide_true, if_true]
        rw [getO_nat hd, getO_some (mixL_get hml (by rw [hil]; exact hd))]
        refine hn4 _ ⟨?_, by omega⟩
        rw [if_pos hbit] at hmg
        rw [← hmg, mixL_set hml hd2]
      · have : ¬ (((q % 2 : Nat) : Int) = 1) := by omega
        simp only [this, decide_false, Bool.false_eq_true, if_false]
        refine hn4 _ ⟨?_, by omega⟩
        rw [if_neg hbit] at hmg
        rw [mixL_skip hml hd2 hmg]
  · intro nx
    have hp2c : ((2 : Int) ^ s.length) = ((2 ^ s.length : Nat) : Int) := by norm_cast
    have hck : ckK .u64 (s.length : Int) = fun f : Option XCube => f := by funext f; exact if_pos ⟨by omega, by omega⟩
    simp only [hck, Int.toNat_natCast, Int.one_mul, hp2c]
    have hp0 : (0 : Int) ≤ ((2 ^ s.length : Nat) : Int) := Int.natCast_nonneg _
    rw [ck_pos (by omega), ckI_pos (by omega) (by omega)]
    simp only [show ¬ (((2 ^ s.length : Nat) : Int) < ((2 ^ s.length : Nat) : Int)) by omega, decide_false, Bool.false_eq_true, if_false]
    congr 2
    apply List.map_congr_left
    intro i _
    show tot s ((pairs s n base).take k) (idxL s (i : Int)) + _ = _
    rw [mset_sum _ hil (idxL_len _ _) (fun k x y hx hy => by have := hpok.2 k x y hx hy; omega), hsnoc]
end AS
