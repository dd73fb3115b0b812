/- Plain lemmas, and the law. No condition. -/
import Derived.Test.YtiohllblkcjafaaGreatQCubeOfTableS
import Derived.Test.YtiohllblkcjafaaGreatQCubeOfTableM0
set_option linter.unusedVariables false
set_option linter.unusedSimpArgs false
namespace AS
/-- Base indices with the dimensions of a mask turned to totals. -/
def mset : List Int → List Int → Nat → List Int
  | x :: s, b :: bs, m => (if m % 2 = 1 then x else b) :: mset s bs (m / 2)
  | _, _, _ => []
theorem mset_len : ∀ {s b : List Int} (m : Nat), b.length = s.length → (mset s b m).length = s.length
  | [], [], _, _ => rfl
  | [], _ :: _, _, h => by simp at h
  | _ :: _, [], _, h => by simp at h
  | x :: s, b :: bs, m, h => by simp [mset, mset_len (s := s) (b := bs) (m / 2) (by simpa using h)]
theorem mset_get : ∀ {s b : List Int} (m d : Nat) (h : b.length = s.length) (hd : d < s.length), (mset s b m)[d]'(by rw [mset_len m h]; exact hd) = if m / 2 ^ d % 2 = 1 then s[d] else b[d]
  | x :: s, b :: bs, m, 0, _, _ => by simp [mset]
  | x :: s, b :: bs, m, d + 1, h, hd => by
    simp only [mset, List.getElem_cons_succ]
    rw [mset_get (m / 2) d (by simpa using h) (by simpa using hd), Nat.div_div_eq_div_mul, Nat.pow_succ, Nat.mul_comm 2]
  | _ :: _, [], _, _, h, _ => by simp at h
theorem mset_fits : ∀ {s b : List Int} (m : Nat), fits s b → (∀ x ∈ s, 1 ≤ x ∧ x ≤ 30) → fits s (mset s b m) := by
  intro s b m hf hv
  refine ⟨mset_len m hf.1, fun k x y hx hy => ?_⟩
  obtain ⟨hk, rfl⟩ := List.getElem?_eq_some_iff.1 hx
  obtain ⟨hk2, rfl⟩ := List.getElem?_eq_some_iff.1 hy
  rw [mset_get m k hf.1 hk]
  have h1 := hf.2 k s[k] (b[k]'(by rw [hf.1]; exact hk)) hx (List.getElem?_eq_getElem _)
  have h2 := hv s[k] (List.getElem_mem hk)
  split <;> omega
theorem sumI_pairs (f : Nat → Int) : ∀ n, sumI ((List.range (2 * n)).map f) = sumI ((List.range n).map fun q => f (2 * q) + f (2 * q + 1))
  | 0 => rfl
  | n + 1 => by
    rw [show 2 * (n + 1) = 2 * n + 1 + 1 by omega, range_map_succ, range_map_succ, sumI_append, sumI_append, sumI_pairs f n, range_map_succ, sumI_append]
    simp only [sumI]; omega
theorem sumI_ite {α : Type} (c : Bool) (f : α → Int) (l : List α) : sumI (l.map fun q => if c then f q else 0) = if c then sumI (l.map f) else 0 := by
  cases c with
  | false => simp only [Bool.false_eq_true, if_false]; exact sumI_zero (fun _ _ => rfl)
  | true => simp
/-- Every cell is met once, or never. -/
theorem mset_sum (v : Int) : ∀ {s b ix : List Int}, b.length = s.length → ix.length = s.length → (∀ (k : Nat) (x y : Int), s[k]? = some x → b[k]? = some y → y ≠ x) →
    sumI ((List.range (2 ^ s.length)).map fun m => if mset s b m = ix then v else 0) = if compat s b ix then v else 0
  | [], b, ix, h1, h2, _ => by
    have e1 : b = [] := by simpa using h1
    have e2 : ix = [] := by simpa using h2
    subst e1; subst e2
    simp [mset, compat, sumI]
  | x :: s, [], ix, h1, _, _ => by simp at h1
  | x :: s, b :: bs, [], _, h2, _ => by simp at h2
  | x :: s, b :: bs, a :: as, h1, h2, hne => by
    have ih := mset_sum v (s := s) (b := bs) (ix := as) (by simpa using h1) (by simpa using h2) (fun k x y hx hy => hne (k + 1) x y (by simpa using hx) (by simpa using hy))
    have hbx := hne 0 x b rfl rfl
    rw [List.length_cons, Nat.pow_succ, Nat.mul_comm, sumI_pairs]
    have e : ((List.range (2 ^ s.length)).map fun q => (if mset (x :: s) (b :: bs) (2 * q) = a :: as then v else 0) + (if mset (x :: s) (b :: bs) (2 * q + 1) = a :: as then v else 0)) =
        (List.range (2 ^ s.length)).map fun q => if (decide (a = x) || decide (a = b)) then (if mset s bs q = as then v else 0) else 0 := by
      apply List.map_congr_left
      intro q _
      simp only [mset, show 2 * q % 2 = 0 by omega, show (2 * q + 1) % 2 = 1 by omega, show 2 * q / 2 = q by omega, show (2 * q + 1) / 2 = q by omega, if_true, List.cons.injEq, show ¬ ((0 : Nat) = 1) by omega, if_false]
      by_cases ha : a = x
      · have : ¬ b = a := fun e => hbx (by rw [e, ha])
        simp [ha, this, show ¬ b = x from hbx]
      · by_cases hb : a = b
        · subst hb
          simp [show ¬ x = a from fun e => ha e.symm]
        · simp [ha, hb, show ¬ x = a from fun e => ha e.symm, show ¬ b = a from fun e => hb e.symm]
    rw [e, sumI_ite, ih]
    simp only [compat]
    by_cases hq : (decide (a = x) || decide (a = b)) = true
    · simp only [hq, if_true, Bool.true_and]
    · simp only [Bool.not_eq_true] at hq
      simp only [hq, Bool.false_eq_true, if_false, Bool.false_and]
theorem tot_snoc (s : List Int) (bs : List (List Int × Int)) (p : List Int × Int) (ix : List Int) : tot s (bs ++ [p]) ix = tot s bs ix + (if compat s p.1 ix then p.2 else 0) := by
  unfold tot
  rw [List.map_append, sumI_append]; simp [sumI]
theorem map_set_add {n a : Nat} {f f' : Nat → Int} {w : Int} (ha : a < n) (h1 : f' a = f a + w) (h2 : ∀ i, i < n → i ≠ a → f' i = f i) : ((List.range n).map f).set a (f a + w) = (List.range n).map f' := by
  apply List.ext_getElem
  · simp
  · intro i h3 h4
    simp only [List.length_map, List.length_range] at h4
    by_cases e : i = a
    · subst e; simp [h1]
    · rw [List.getElem_set_ne (Ne.symm e)]
      simp [h2 i (by simpa using h3) e]
theorem cbOf_eq {s base : List Int} (hv : valid s) (hc : cntB s = vol s) (hN : vol s ≤ 2000) (hlen : base.length = (basesL s (vol s).toNat).length) (hsm : smallL base = true) : sh_spec_cbOf s base = some ⟨s, totL s (vol s).toNat base⟩ := by
  unfold sh_spec_cbOf
  have hvb := vol_bd hv
  have hsl := hv.1
  obtain ⟨n, hn⟩ : ∃ n : Nat, vol s = (n : Int) := ⟨(vol s).toNat, by omega⟩
  have hnt : (vol s).toNat = n := by omega
  rw [l1Own_eq (by omega), Option.bind_some, cbCount_eq, Option.bind_some, hc, mkO_pos (by omega) (by omega), cbBase_eq hv hc, Option.bind_some, hnt]
  rw [hnt] at hlen
  have hbl := basesL_len s n
  have hp2 := pairs_small (s := s) (n := n) hsm
  have hpl : (pairs s n base).length = (basesL s n).length := by simp [pairs, hlen]
  have hpow : 2 ^ s.length ≤ 16 := by
    have : s.length = 0 ∨ s.length = 1 ∨ s.length = 2 ∨ s.length = 3 ∨ s.length = 4 := by omega
    rcases this with e | e | e | e | e <;> rw [e] <;> decide
  have htb : ∀ (k : Nat) (ix : List Int), -2000000000 ≤ tot s ((pairs s n base).take k) ix ∧ tot s ((pairs s n base).take k) ix ≤ 2000000000 := fun k ix => tot_bd (fun p hp => hp2 p (List.mem_of_mem_take hp)) (by simp; omega) ix
  have z0 : List.replicate n (0 : Int) = (List.range n).map fun (i : Nat) => tot s ((pairs s n base).take 0) (idxL s (i : Int)) := by
    apply List.ext_getElem
    · simp
    · intro i h1 h2; simp [tot, sumI]
  rw [z0]
  refine (range_mem (I := fun (k : Nat) (c : XCube) => c = ⟨s, (List.range n).map fun (i : Nat) => tot s ((pairs s n base).take k) (idxL s (i : Int))⟩) (G := fun _ _ _ => some (⟨s, totL s n base⟩ : XCube)) ?_ ?_ _ rfl)
  · intro k c hI hk
    subst hI
    simp only [List.length_map] at hk
    rw [List.take_of_length_le (by omega)]
    rfl
  intro xb l' k c next hx _ hI hnx
  subst hI
  obtain ⟨hk, hxe⟩ := List.getElem?_eq_some_iff.1 hx
  simp only [List.length_map] at hk
  simp only [List.getElem_map] at hxe
  subst hxe
  have hbm := basesL_mem (List.getElem_mem hk)
  generalize hbk : (basesL s n)[k] = bk at hbm
  have hbmem : bk ∈ basesL s n := by rw [← hbk]; exact List.getElem_mem hk
  have hbase : baseB (idxL s (bk : Int)) s = true := by simp only [basesL, List.mem_filter] at hbmem; exact hbmem.2
  have hfit := idxL_fits hv (show (0 : Int) ≤ bk by omega)
  have hkb : k < base.length := by omega
  have hvk := smallL_get hsm (List.getElem?_eq_getElem hkb)
  have hil : (idxL s (bk : Int)).length = s.length := idxL_len _ _
  have hpk : (pairs s n base)[k]? = some (idxL s (bk : Int), base[k]) := by
    rw [List.getElem?_eq_getElem (by omega)]
    simp [pairs, hbk]
  have hpok := pairs_ok hv (n := n) (base := base) _ (List.mem_of_getElem? hpk)
  have hsnoc : ∀ ix, tot s ((pairs s n base).take (k + 1)) ix = tot s ((pairs s n base).take k) ix + (if compat s (idxL s (bk : Int)) ix then base[k] else 0) := fun ix => by
    rw [List.take_add_one, hpk]; exact tot_snoc _ _ _ _
  rw [cbIndices_eq hv (by omega) (by omega), Option.bind_some]
  have hnext := hnx _ rfl
  rw [← hnext]
  let F : Nat → Nat → Int := fun m i => tot s ((pairs s n base).take k) (idxL s (i : Int)) + sumI ((List.range m).map fun q => if mset s (idxL s (bk : Int)) q = idxL s (i : Int) then base[k] else 0)
  have hFb : ∀ m i, m ≤ 16 → -2016000000 ≤ F m i ∧ F m i ≤ 2016000000 := fun m i hm => by
    have h1 := htb k (idxL s (i : Int))
    have h2 := sumI_bd (b := 1000000) (by omega) (l := (List.range m).map fun q => if mset s (idxL s (bk : Int)) q = idxL s (i : Int) then base[k] else 0) (fun y hy => by
      simp only [List.mem_map, List.mem_range] at hy
      obtain ⟨q, _, rfl⟩ := hy
      split <;> omega)
    simp only [List.length_map, List.length_range] at h2
    have e : F m i = tot s ((pairs s n base).take k) (idxL s (i : Int)) + sumI ((List.range m).map fun q => if mset s (idxL s (bk : Int)) q = idxL s (i : Int) then base[k] else 0) := rfl
    rw [e]
    omega
  have e0 : (((⟨s, (List.range n).map fun (i : Nat) => tot s ((pairs s n base).take k) (idxL s (i : Int))⟩ : XCube), (0 : Int)) : XCube × Int) = (fun m : Nat => ((⟨s, (List.range n).map (F m)⟩ : XCube), (m : Int))) 0 := by
    simp [F, sumI]
  rw [e0]
  refine (loop_up (2 ^ s.length) (fun m : Nat => ((⟨s, (List.range n).map (F m)⟩ : XCube), (m : Int))) (fun _ => next ⟨s, (List.range n).map fun (i : Nat) => tot s ((pairs s n base).take (k + 1)) (idxL s (i : Int))⟩) (by omega) ?_ ?_)
  · intro nx m hm hn3
    have hp2c : ((2 : Int) ^ s.length) = ((2 ^ s.length : Nat) : Int) := by norm_cast
    have hck : ckK .u64 (s.length : Int) = fun f : Option XCube => f := by funext f; exact if_pos ⟨by omega, by omega⟩
    simp only [hck, Int.toNat_natCast, Int.one_mul, hp2c]
    rw [ck_pos (by omega), ckI_pos (by omega) (by omega)]
    simp only [show ((m : Int) < ((2 ^ s.length : Nat) : Int)) by omega, decide_true, if_true]
    rw [l1Own_eq (by omega), Option.bind_some]
    have hml : (mset s (idxL s (bk : Int)) m).length = (idxL s (bk : Int)).length := by rw [mset_len m hil, hil]
    have hfm := mset_fits m hfit hv.2
    have hab := atL_bd hv.2 hfm
    have hfin : (fun (st : List Int) => (sh_spec_cbAt s st).bind fun x22197 => getO ((List.range n).map (F m)) x22197 fun x22199 => getO base (k : Int) fun x22202 => ckI (x22199 + x22202) <| ckI ((m : Int) + (1 : Int)) <| nx ((⟨s, (((List.range n).map (F m)).set (x22197).toNat (x22199 + x22202))⟩ : XCube), ((m : Int) + (1 : Int)))) (mset s (idxL s (bk : Int)) m) = next ⟨s, (List.range n).map fun (i : Nat) => tot s ((pairs s n base).take (k + 1)) (idxL s (i : Int))⟩ := by
      have hat : ∃ a : Nat, atL s (mset s (idxL s (bk : Int)) m) = (a : Int) ∧ a < n := ⟨(atL s (mset s (idxL s (bk : Int)) m)).toNat, by omega, by omega⟩
      obtain ⟨a, ha, han⟩ := hat
      have hFa := hFb m a (by omega)
      simp only []
      rw [cbAt_eq hv hfm, Option.bind_some, ha, getO_some (x := F m a) (by simp [han]), getO_nat hkb, ckI_pos (by omega) (by omega), ckI_succ (by omega), ← hn3]
      congr 3
      rw [Int.toNat_natCast]
      refine map_set_add han ?_ ?_
      · have : mset s (idxL s (bk : Int)) m = idxL s (a : Int) := by rw [← ha, idxL_atL hv.2 hfm]
        show tot s ((pairs s n base).take k) (idxL s (a : Int)) + sumI ((List.range (m + 1)).map _) = _
        rw [range_map_succ, sumI_append]
        simp only [this, if_true, sumI, F]
        omega
      · intro i hin hi
        have : ¬ mset s (idxL s (bk : Int)) m = idxL s (i : Int) := by
          intro he
          rw [he, atL_idxL hv.2 (by omega), Int.emod_eq_of_lt (by omega) (by omega)] at ha
          omega
        show tot s ((pairs s n base).take k) (idxL s (i : Int)) + sumI ((List.range (m + 1)).map _) = _
        rw [range_map_succ, sumI_append]
        simp [this, sumI, F]
    rw [← hfin]
    refine (range_mem (I := fun (d : Nat) (st : List Int) => st = mixL (mset s (idxL s (bk : Int)) m) (idxL s (bk : Int)) d ∧ d ≤ s.length) (G := fun _ _ _ => _) ?_ ?_ _ ⟨by simp [mixL_zero], by omega⟩)
    · intro d st hI hd
      obtain ⟨rfl, _⟩ := hI
      have := mixL_end hml
      rw [hml] at this
      rw [hd, this]
    · intro y l2 d st nx2 hy _ hI hn4
      obtain ⟨rfl, _⟩ := hI
      have hd : d < s.length := by have := (List.getElem?_eq_some_iff.1 hy).1; rwa [hil] at this
      have hd2 : d < (mset s (idxL s (bk : Int)) m).length := by rw [hml, hil]; exact hd
      have hmg := mset_get m d hil hd
      have hckd : ckK .u64 (d : Int) = fun f : Option XCube => f := by funext f; exact if_pos ⟨by omega, by omega⟩
      have hdiv : (m : Int) / 2 ^ d = ((m / 2 ^ d : Nat) : Int) := by norm_cast
      have hdle : m / 2 ^ d ≤ m := Nat.div_le_self _ _
      obtain ⟨q, hq⟩ : ∃ q, m / 2 ^ d = q := ⟨_, rfl⟩
      rw [hq] at hdiv hdle hmg
      have hcki : ∀ z : Int, 0 ≤ z → z ≤ 1000 → ckK .i64 z = fun f : Option XCube => f := fun z h1 h2 => by funext f; exact if_pos ⟨by omega, by omega⟩
      simp only [hckd, Int.toNat_natCast, hdiv]
      rw [ck_pos (by omega), ck_pos (by omega), hcki _ (by omega) (by omega), ck_pos (by omega), hcki 1 (by omega) (by omega)]
      simp only [Int.toNat_natCast, show ((1 : Int).toNat) = 1 by rfl, Nat.and_one_is_mod]
      by_cases hbit : q % 2 = 1
      · simp only [hbit, show ((1 : Nat) : Int) = 1 by rfl, decide_true, if_true]
        rw [getO_nat hd, getO_some (mixL_get hml (by rw [hil]; exact hd))]
        refine hn4 _ ⟨?_, by omega⟩
        rw [if_pos hbit] at hmg
        rw [← hmg, mixL_set hml hd2]
      · have : ¬ (((q % 2 : Nat) : Int) = 1) := by omega
        simp only [this, decide_false, Bool.false_eq_true, if_false]
        refine hn4 _ ⟨?_, by omega⟩
        rw [if_neg hbit] at hmg
        rw [mixL_skip hml hd2 hmg]
  · intro nx
    have hp2c : ((2 : Int) ^ s.length) = ((2 ^ s.length : Nat) : Int) := by norm_cast
    have hck : ckK .u64 (s.length : Int) = fun f : Option XCube => f := by funext f; exact if_pos ⟨by omega, by omega⟩
    simp only [hck, Int.toNat_natCast, Int.one_mul, hp2c]
    have hp0 : (0 : Int) ≤ ((2 ^ s.length : Nat) : Int) := Int.natCast_nonneg _
    rw [ck_pos (by omega), ckI_pos (by omega) (by omega)]
    simp only [show ¬ (((2 ^ s.length : Nat) : Int) < ((2 ^ s.length : Nat) : Int)) by omega, decide_false, Bool.false_eq_true, if_false]
    congr 2
    apply List.map_congr_left
    intro i _
    show tot s ((pairs s n base).take k) (idxL s (i : Int)) + _ = _
    rw [mset_sum _ hil (idxL_len _ _) (fun k x y hx hy => by have := hpok.2 k x y hx hy; omega), hsnoc]
end AS
namespace AS
theorem tot_psum {s base : List Int} (hv : valid s) {i : Nat} (hi : (i : Int) < vol s) {k : Nat} {x : Int} (hs : s[k]? = some x) (hx : (idxL s (i : Int))[k]? = some x) :
    psum ⟨s, totL s (vol s).toNat base⟩ (i : Int) k x = cellAt ⟨s, totL s (vol s).toNat base⟩ (i : Int) := by
  have hc : ∀ j : Int, 0 ≤ j → j < vol s → cellAt ⟨s, totL s (vol s).toNat base⟩ j = tot s (pairs s (vol s).toNat base) (idxL s j) := by
    intro j h0 h1
    have hl : j.toNat < (vol s).toNat := by omega
    simp only [cellAt, totL]
    rw [List.getD_eq_getElem?_getD, List.getElem?_map, List.getElem?_range hl]
    simp only [Option.map_some, Option.getD_some, Int.toNat_of_nonneg h0]
  have hil : (idxL s (i : Int)).length = s.length := idxL_len _ _
  rw [hc _ (by omega) hi, psum, ← tot_part hv.2 (pairs_ok hv) hil hs hx]
  congr 1
  rw [partL, List.map_map]
  apply List.map_congr_left
  intro q hq
  simp only [List.mem_range] at hq
  have hb := partF_bd hv (show (0 : Int) ≤ i by omega) hi hs hx (show (q : Int) ≤ x by omega)
  show cellAt _ (partF s (i : Int) k x q) = _
  rw [hc _ hb.1 (by omega)]
  have hdl := (List.getElem?_eq_some_iff.1 hs).1
  have hfit := (idxL_fits hv (show (0 : Int) ≤ i by omega)).set hs (show (0 : Int) ≤ q by omega) (show (q : Int) ≤ x by omega)
  have hat : atL s ((idxL s (i : Int)).set k (q : Int)) = partF s (i : Int) k x q := by
    have : (idxL s (i : Int))[k]'(by omega) = x := (List.getElem?_eq_some_iff.1 hx).2
    rw [atL_set hil hdl (by omega), atL_idxL hv.2 (by omega), Int.emod_eq_of_lt (by omega) hi, this, partF, show (q : Int) - x = -(x - q) by omega, Int.neg_mul]; omega
  rw [← hat, idxL_atL hv.2 hfit]
theorem brk_no {s base : List Int} (hv : valid s) {i : Nat} (hi : (i : Int) < vol s) : ∀ (l : List Int) (k : Nat), (idxL s (i : Int)).drop k = l → brk ⟨s, totL s (vol s).toNat base⟩ (i : Int) l k = false
  | [], _, _ => rfl
  | x :: l, k, h => by
    have hx : (idxL s (i : Int))[k]? = some x := by
      have := congrArg (fun t => t[0]?) h
      simpa using this
    have ih := brk_no (base := base) hv hi l (k + 1) (by have := congrArg List.tail h; simpa using this)
    simp only [brk]
    split
    · rename_i hs
      rw [if_neg (by simp [tot_psum hv hi hs hx])]
      exact ih
    · exact ih
theorem fst_no {s base : List Int} (hv : valid s) : ∀ (l : List Int) (k : Nat), (k : Int) + l.length = vol s → fstB ⟨s, totL s (vol s).toNat base⟩ l k = ((totL s (vol s).toNat base).length : Int)
  | [], _, _ => rfl
  | x :: l, k, h => by
    simp only [List.length_cons] at h
    simp only [fstB]
    rw [brk_no hv (by omega) _ 0 (by simp), if_neg (by simp)]
    exact fst_no hv l (k + 1) (by omega)
theorem totL_len (s : List Int) (n : Nat) (base : List Int) : (totL s n base).length = n := by simp [totL]
theorem good_tot {s base : List Int} (hv : valid s) (hc : cntB s = vol s) : goodB ⟨s, totL s (vol s).toNat base⟩ = smallL (totL s (vol s).toNat base) := by
  have hvb := vol_bd hv
  have h1 := fst_no (base := base) hv (totL s (vol s).toNat base) 0 (by rw [totL_len]; omega)
  have h2 : ((totL s (vol s).toNat base).length : Int) = cntB s := by rw [totL_len]; omega
  unfold goodB formB
  simp only [h1, h2, show (0 < cntB s) by omega, decide_true, Bool.and_true, Bool.true_and]
def cubeOfR (s base : List Int) : XCube × Bool := if cntB s = 0 then (⟨[], []⟩, false) else cubeR s base
theorem implCubeOfX_eq {s base : List Int} : sh_impl_CubeOf s base = some (cubeOfR s base) := by
  unfold sh_impl_CubeOf
  rw [cubeCells_eq, Option.bind_some]
  by_cases h : cntB s = 0
  · simp [h, cubeOfR]
  · have hn := cntB_nonneg s
    obtain ⟨hv, hc, hN⟩ := cntB_pos (show 0 < cntB s by omega)
    simp only [h, decide_false, Bool.false_eq_true, if_false]
    rw [implCubeOf_eq hv hc hN]
    simp [cubeOfR, h]
theorem cubeOfR_bulk {s base : List Int} : bulkC (cubeOfR s base).1 ≤ 1048576 := by
  unfold cubeOfR
  split
  · simp [bulkC]
  · rename_i h
    have hn := cntB_nonneg s
    obtain ⟨hv, hc, hN⟩ := cntB_pos (show 0 < cntB s by omega)
    have := hv.1
    unfold cubeR
    split
    · simp only [bulkC, totL_len]; omega
    · simp [bulkC]
end AS
namespace AS
section
variable {R σ α β : Type}
/-- Some elements of a list, each with what is made of it. -/
def selF (c : Nat → α → Bool) (f : Nat → α → β) : List α → Nat → List β
  | [], _ => []
  | x :: l, k => if c k x = true then f k x :: selF c f l (k + 1) else selF c f l (k + 1)
theorem selF_len (c : Nat → α → Bool) (f : Nat → α → β) : ∀ (l : List α) (k : Nat), (selF c f l k).length ≤ l.length
  | [], _ => Nat.le_refl _
  | x :: l, k => by
    simp only [selF]
    have := selF_len c f l (k + 1)
    split <;> simp <;> omega
theorem selF_mem {c : Nat → α → Bool} {f : Nat → α → β} : ∀ {l : List α} {k : Nat} {y : β}, y ∈ selF c f l k → ∃ j x, l[j]? = some x ∧ c (k + j) x = true ∧ y = f (k + j) x
  | [], _, _, h => by simp [selF] at h
  | x :: l, k, y, h => by
    simp only [selF] at h
    have rec' : y ∈ selF c f l (k + 1) → ∃ j x', (x :: l)[j]? = some x' ∧ c (k + j) x' = true ∧ y = f (k + j) x' := fun h => by
      obtain ⟨j, x', h1, h2, h3⟩ := selF_mem h
      rw [show k + 1 + j = k + (j + 1) by omega] at h2 h3
      exact ⟨j + 1, x', by simpa using h1, h2, h3⟩
    split at h
    · rename_i hc
      rcases List.mem_cons.1 h with rfl | h
      · exact ⟨0, x, rfl, hc, rfl⟩
      · exact rec' h
    · exact rec' h
theorem mem_selF {c : Nat → α → Bool} {f : Nat → α → β} : ∀ {l : List α} {k j : Nat} {x : α}, l[j]? = some x → c (k + j) x = true → f (k + j) x ∈ selF c f l k
  | [], _, _, _, h, _ => by simp at h
  | y :: l, k, 0, x, h, hc => by
    simp only [List.getElem?_cons_zero, Option.some.injEq] at h
    subst h
    simp only [selF, Nat.add_zero] at hc ⊢
    rw [if_pos hc]; exact List.mem_cons_self
  | y :: l, k, j + 1, x, h, hc => by
    have := mem_selF (c := c) (f := f) (l := l) (k := k + 1) (j := j) (x := x) (by simpa using h) (by rw [show k + 1 + j = k + (j + 1) by omega]; exact hc)
    rw [show k + 1 + j = k + (j + 1) by omega] at this
    simp only [selF]
    split
    · exact List.mem_cons_of_mem _ this
    · exact this
theorem range_sel {body : Nat → α → List β → (List β → Option R) → Option R} {fin : List β → Option R} {l : List α} {init : List β} (c : Nat → α → Bool) (f : Nat → α → β)
    (hs : ∀ x k s next, l[k]? = some x → s.length ≤ init.length + k → body k x s next = next (if c k x = true then s ++ [f k x] else s)) : rangeF body fin l 0 init = fin (init ++ selF c f l 0) := by
  refine (range_mem (I := fun k s => s.length ≤ init.length + k) (G := fun l' k s => fin (s ++ selF c f l' k)) ?_ ?_ init (by omega))
  · intro k s _ _; simp [selF]
  · intro x l' k s next hx _ hI hn
    rw [hs x k s next hx hI]
    by_cases h : c k x = true
    · simp only [h, if_true, selF]
      rw [hn _ (by simp; omega)]; simp
    · simp only [h, Bool.false_eq_true, if_false, selF]
      exact hn _ (by omega)
/-- Is there an element? -/
def anyF (c : Nat → α → Bool) : List α → Nat → Bool
  | [], _ => false
  | x :: l, k => c k x || anyF c l (k + 1)
theorem anyF_iff {c : Nat → α → Bool} : ∀ {l : List α} {k : Nat}, anyF c l k = true ↔ ∃ j x, l[j]? = some x ∧ c (k + j) x = true
  | [], k => by simp [anyF]
  | x :: l, k => by
    simp only [anyF, Bool.or_eq_true, anyF_iff (l := l)]
    constructor
    · rintro (h | ⟨j, y, h1, h2⟩)
      · exact ⟨0, x, rfl, h⟩
      · exact ⟨j + 1, y, by simpa using h1, by rw [show k + (j + 1) = k + 1 + j by omega]; exact h2⟩
    · rintro ⟨j, y, h1, h2⟩
      cases j with
      | zero => simp only [List.getElem?_cons_zero, Option.some.injEq] at h1; subst h1; exact .inl h2
      | succ j => exact .inr ⟨j, y, by simpa using h1, by rw [show k + 1 + j = k + (j + 1) by omega]; exact h2⟩
theorem range_any {body : Nat → α → Unit → (Unit → Option R) → Option R} {fin : Unit → Option R} {l : List α} (c : Nat → α → Bool) (r : Option R)
    (hs : ∀ x k next, l[k]? = some x → body k x () next = (if c k x = true then r else next ())) : rangeF body fin l 0 () = (if anyF c l 0 = true then r else fin ()) := by
  refine (range_mem (I := fun _ _ => True) (G := fun l' k _ => if anyF c l' k = true then r else fin ()) ?_ ?_ () trivial)
  · intro k s _ _; simp [anyF]
  · intro x l' k s next hx _ _ hn
    rw [hs x k next hx]
    by_cases h : c k x = true
    · simp [h, anyF]
    · have h' : c k x = false := by simpa using h
      simp only [h', anyF, Bool.false_or, Bool.false_eq_true, if_false]; exact hn _ trivial
/-- A loop with all answers known: it adds up. -/
def foldF (f : Nat → α → σ → σ) : List α → Nat → σ → σ
  | [], _, s => s
  | x :: l, k, s => foldF f l (k + 1) (f k x s)
theorem range_fold {body : Nat → α → σ → (σ → Option R) → Option R} {fin : σ → Option R} {l : List α} {init : σ} (I : Nat → σ → Prop) (f : Nat → α → σ → σ) (h0 : I 0 init)
    (hI : ∀ x k s, l[k]? = some x → I k s → I (k + 1) (f k x s)) (hs : ∀ x k s next, l[k]? = some x → I k s → body k x s next = next (f k x s)) : rangeF body fin l 0 init = fin (foldF f l 0 init) := by
  refine (range_mem (I := I) (G := fun l' k s => fin (foldF f l' k s)) ?_ ?_ init h0)
  · intro k s _ _; rfl
  · intro x l' k s next hx _ hi hn
    rw [hs x k s next hx hi]
    exact hn _ (hI x k s hx hi)
theorem foldF_inv {f : Nat → α → σ → σ} (I : Nat → σ → Prop) : ∀ {l : List α} {k : Nat} {s : σ}, I k s → (∀ j x s, l[j]? = some x → I (k + j) s → I (k + j + 1) (f (k + j) x s)) → I (k + l.length) (foldF f l k s)
  | [], k, s, h, _ => h
  | x :: l, k, s, h, hs => by
    have := foldF_inv I (f := f) (l := l) (k := k + 1) (s := f k x s) (hs 0 x s rfl h) fun j y t hy ht => by
      have := hs (j + 1) y t (by simpa using hy) (by rw [show k + (j + 1) = k + 1 + j by omega]; exact ht)
      rw [show k + (j + 1) = k + 1 + j by omega] at this
      exact this
    simp only [foldF, List.length_cons]
    rw [show k + (l.length + 1) = k + 1 + l.length by omega]
    exact this
end
end AS
namespace AS
def upB (k : Nat) (x : Int) : Bool := decide (k = 0) || (decide (0 ≤ x) && decide (x < (k : Int)))
def geoB (g : XGeo) : Bool := decide (1 ≤ g.Parents.length) && (decide (g.Parents.length ≤ 30) && (decide (g.Parents[0]? = some (-1)) && !anyF (fun k x => !upB k x) g.Parents 0))
structure GeoOk (p : List Int) : Prop where
  n1 : 1 ≤ p.length
  n2 : p.length ≤ 30
  z : p[0]? = some (-1)
  up : ∀ (k : Nat) (x : Int), 0 < k → p[k]? = some x → 0 ≤ x ∧ x < k
theorem geoB_ok {g : XGeo} (h : geoB g = true) : GeoOk g.Parents := by
  simp only [geoB, Bool.and_eq_true, decide_eq_true_eq, Bool.not_eq_true'] at h
  obtain ⟨h1, h2, h3, h4⟩ := h
  refine ⟨h1, h2, h3, fun k x hk hx => ?_⟩
  cases hc : upB k x with
  | true =>
    simp only [upB, Bool.or_eq_true, Bool.and_eq_true, decide_eq_true_eq] at hc
    omega
  | false =>
    have : anyF (fun k x => !upB k x) g.Parents 0 = true := anyF_iff.2 ⟨k, x, hx, by simp [hc]⟩
    rw [h4] at this; cases this
theorem gGood_eq (g : XGeo) : sh_spec_gGood g = some (geoB g) := by
  unfold sh_spec_gGood
  rw [l1In_eq, Option.bind_some]
  have e1 : decide ((1 : Int) ≤ (g.Parents.length : Int)) = decide (1 ≤ g.Parents.length) := by congr 1; apply propext; omega
  have e2 : decide ((g.Parents.length : Int) ≤ 30) = decide (g.Parents.length ≤ 30) := by congr 1; apply propext; omega
  rw [e1, e2]
  unfold geoB
  cases h1 : decide (1 ≤ g.Parents.length) with
  | false => simp
  | true =>
    cases h2 : decide (g.Parents.length ≤ 30) with
    | false => simp
    | true =>
      simp only [decide_eq_true_eq] at h1 h2
      have hx := List.getElem?_eq_getElem (show 0 < g.Parents.length by omega)
      simp only [Bool.and_self, Bool.not_true, Bool.false_eq_true, if_false, Bool.true_and]
      rw [getO_int (i := 0) (k := 0) rfl hx]
      by_cases hz : g.Parents[0] = -1
      · simp only [hz, ne_eq, not_true_eq_false, decide_false, Bool.false_eq_true, if_false]
        rw [hx, hz]
        refine (range_any (c := fun k x => !upB k x) (some false) ?_).trans ?_
        · intro x k next hxk
          by_cases hk : k = 0
          · subst hk; simp [upB]
          · simp only [show ((0 : Int) < (k : Int)) by omega, decide_true, if_true]
            rw [ckI_pos (by have := (List.getElem?_eq_some_iff.1 hxk).1; omega) (by have := (List.getElem?_eq_some_iff.1 hxk).1; omega), l1In_eq, Option.bind_some]
            have e : decide (x ≤ (k : Int) - 1) = decide (x < (k : Int)) := by congr 1; apply propext; omega
            rw [e]
            simp only [upB, hk, decide_false, Bool.false_or]
        · cases anyF (fun k x => !upB k x) g.Parents 0 <;> simp
      · simp [hz, hx]
theorem isGeo_eq (g : XGeo) : sh_impl_IsGeo g = some (geoB g) := by
  unfold sh_impl_IsGeo geoB
  by_cases h1 : 1 ≤ g.Parents.length
  · by_cases h2 : g.Parents.length ≤ 30
    · have hx := List.getElem?_eq_getElem (show 0 < g.Parents.length by omega)
      simp only [show ¬ ((g.Parents.length : Int) < 1) by omega, show ¬ ((30 : Int) < (g.Parents.length : Int)) by omega, h1, h2, decide_false, decide_true, Bool.false_eq_true, if_false, Bool.true_and]
      rw [getO_int (i := 0) (k := 0) rfl hx]
      by_cases hz : g.Parents[0] = -1
      · simp only [hz, ne_eq, not_true_eq_false, decide_false, Bool.false_eq_true, if_false]
        rw [hx, hz]
        have key := loop_up (body := fun (nx : Int → Option Bool) (s : Int) => (if (decide (s < (g.Parents.length : Int))) = true then
            getO g.Parents s fun x => (if (decide (x < (0 : Int))) = true then some false else (if (decide (s ≤ x)) = true then some false else ckI (s + (1 : Int)) <| nx (s + (1 : Int))))
            else some true)) (g.Parents.length - 1) (fun k => ((k + 1 : Nat) : Int)) (fun k => some (!anyF (fun k x => !upB k x) (g.Parents.drop (k + 1)) (k + 1))) (by omega) (by
          intro next k hk hn
          have hk' : k + 1 < g.Parents.length := by omega
          simp only [lt_dec hk', if_true]
          rw [getO_nat hk', List.drop_eq_getElem_cons hk']
          simp only [anyF]
          by_cases c1 : g.Parents[k + 1] < 0
          · simp [c1, upB, show ¬ (0 ≤ g.Parents[k + 1]) by omega]
          · by_cases c2 : ((k + 1 : Nat) : Int) ≤ g.Parents[k + 1]
            · have : upB (k + 1) g.Parents[k + 1] = false := by
                simp only [upB, Bool.or_eq_false_iff, Bool.and_eq_false_iff, decide_eq_false_iff_not]; omega
              simp only [c1, c2, decide_false, decide_true, Bool.false_eq_true, if_false, if_true, this, Bool.not_false, Bool.true_or, Bool.not_true]
            · have : upB (k + 1) g.Parents[k + 1] = true := by
                simp only [upB, Bool.or_eq_true, Bool.and_eq_true, decide_eq_true_eq]; omega
              simp only [c1, c2, decide_false, Bool.false_eq_true, if_false, this, Bool.not_true, Bool.false_or]
              rw [ckI_succ (by omega)]
              exact hn) (by
          intro next
          have e : g.Parents.length - 1 + 1 = g.Parents.length := by omega
          rw [e]
          simp only [lt_self, Bool.false_eq_true, if_false, List.drop_length, anyF, Bool.not_false])
        have e0 : anyF (fun k x => !upB k x) g.Parents 0 = anyF (fun k x => !upB k x) (g.Parents.drop 1) 1 := by
          rw [← List.drop_zero (l := g.Parents), List.drop_eq_getElem_cons (show 0 < g.Parents.length by omega)]
          simp [anyF, upB]
        rw [e0]
        exact key
      · simp [hz, hx]
    · simp [h2, show ((30 : Int) < (g.Parents.length : Int)) by omega, show ¬ ((g.Parents.length : Int) < 1) by omega]
  · simp [h1, show ((g.Parents.length : Int) < 1) by omega]
/-! ### Depths -/
def par (p : List Int) (i : Nat) : Nat := (p.getD i 0).toNat
def depF (p : List Int) : Nat → Nat → Nat
  | 0, _ => 0
  | _ + 1, 0 => 0
  | f + 1, i + 1 => depF p f (par p (i + 1)) + 1
def dep (p : List Int) (i : Nat) : Nat := depF p i i
theorem GeoOk.par {p : List Int} (h : GeoOk p) {i : Nat} (h0 : 0 < i) (hi : i < p.length) : p[i]? = some ((par p i : Nat) : Int) ∧ AS.par p i < i := by
  have hx := List.getElem?_eq_getElem hi
  have := h.up i _ h0 hx
  have e : AS.par p i = (p[i]).toNat := by simp [AS.par, List.getD_eq_getElem?_getD, hx]
  rw [hx, e]
  exact ⟨by congr 1; omega, by omega⟩
theorem depF_eq {p : List Int} (h : GeoOk p) : ∀ (i f : Nat), i ≤ f → i < p.length → depF p f i = dep p i := by
  intro i
  induction i using Nat.strongRecOn with
  | _ i ih =>
    intro f hf hi
    cases i with
    | zero => cases f <;> rfl
    | succ i =>
      obtain ⟨f, rfl⟩ := Nat.exists_eq_succ_of_ne_zero (by omega : f ≠ 0)
      have hp : par p (i + 1) < i + 1 := (h.par (Nat.succ_pos i) hi).2
      simp only [dep, depF]
      rw [ih _ hp f (by omega) (by omega), ih _ hp i (by omega) (by omega)]
theorem dep_zero (p : List Int) : dep p 0 = 0 := rfl
theorem dep_step {p : List Int} (h : GeoOk p) {i : Nat} (h0 : 0 < i) (hi : i < p.length) : dep p i = dep p (par p i) + 1 := by
  obtain ⟨i, rfl⟩ := Nat.exists_eq_succ_of_ne_zero (by omega : i ≠ 0)
  have hp : par p (i + 1) < i + 1 := (h.par h0 hi).2
  have hi : i + 1 < p.length := hi
  show depF p i (par p (i + 1)) + 1 = _
  rw [depF_eq h _ i (by omega) (by omega)]
theorem dep_le {p : List Int} (h : GeoOk p) : ∀ (i : Nat), i < p.length → dep p i ≤ i := by
  intro i
  induction i using Nat.strongRecOn with
  | _ i ih =>
    intro hi
    by_cases h0 : i = 0
    · subst h0; exact Nat.le_refl _
    · rw [dep_step h (by omega) hi]
      have hp := (h.par (show 0 < i by omega) hi).2
      have := ih _ hp (by omega)
      omega
theorem gDepth_eq {g : XGeo} (h : GeoOk g.Parents) {i : Nat} (hi : i < g.Parents.length) : sh_spec_gDepth g (i : Int) = some ((dep g.Parents i : Nat) : Int) := by
  unfold sh_spec_gDepth
  refine loopF_eq (I := fun s : Int × Int => ∃ a n : Nat, a < g.Parents.length ∧ s = ((a : Int), (n : Int)) ∧ n + dep g.Parents a = dep g.Parents i) (mu := fun s => s.1.toNat) (F := fun _ => some ((dep g.Parents i : Nat) : Int)) ?_ FUEL _ ⟨i, 0, hi, rfl, by omega⟩ (FUEL_big (by have := h.n2; simp; omega))
  rintro s next ⟨a, n, ha, rfl, hd⟩ hn
  by_cases h0 : a = 0
  · subst h0
    rw [dep_zero] at hd
    rw [getO_some h.z]
    simp only [show ¬ ((0 : Int) ≤ -1) by omega, decide_false, Bool.false_eq_true, if_false]
    rw [← hd]; rfl
  · obtain ⟨hp, hlt⟩ := h.par (show 0 < a by omega) ha
    have hs := dep_step h (show 0 < a by omega) ha
    have hle := dep_le h i hi
    have := h.n2
    rw [getO_some hp]
    simp only [show ((0 : Int) ≤ ((par g.Parents a : Nat) : Int)) by omega, decide_true, if_true]
    rw [ckI_pos (by omega) (by omega)]
    exact hn _ ⟨par g.Parents a, n + 1, by omega, by simp, by omega⟩ (by simp; omega)
theorem depthOf_eq {g : XGeo} (h : GeoOk g.Parents) {i : Nat} (hi : i < g.Parents.length) : sh_impl_depthOf g (i : Int) = some ((dep g.Parents i : Nat) : Int) := by
  unfold sh_impl_depthOf
  refine loopF_eq (I := fun s : Int × Int => ∃ a n : Nat, a < g.Parents.length ∧ s = ((a : Int), (n : Int)) ∧ n + dep g.Parents a = dep g.Parents i) (mu := fun s => s.1.toNat) (F := fun _ => some ((dep g.Parents i : Nat) : Int)) ?_ FUEL _ ⟨i, 0, hi, rfl, by omega⟩ (FUEL_big (by have := h.n2; simp; omega))
  rintro s next ⟨a, n, ha, rfl, hd⟩ hn
  by_cases h0 : a = 0
  · subst h0
    rw [dep_zero] at hd
    simp only [show ¬ ((0 : Int) < ((0 : Nat) : Int)) by omega, decide_false, Bool.false_eq_true, if_false]
    rw [← hd]; rfl
  · obtain ⟨hp, hlt⟩ := h.par (show 0 < a by omega) ha
    have hs := dep_step h (show 0 < a by omega) ha
    have hle := dep_le h i hi
    have := h.n2
    simp only [show ((0 : Int) < (a : Int)) by omega, decide_true, if_true]
    rw [getO_some hp, ckI_pos (by omega) (by omega)]
    exact hn _ ⟨par g.Parents a, n + 1, by omega, by simp, by omega⟩ (by simp; omega)
/-! ### Levels -/
def levL (p : List Int) (L : Int) : List Int := selF (fun k _ => decide (((dep p k : Nat) : Int) = L)) (fun k _ => (k : Int)) p 0
theorem levL_len (p : List Int) (L : Int) : (levL p L).length ≤ p.length := selF_len _ _ _ _
theorem levL_mem {p : List Int} {L x : Int} : x ∈ levL p L ↔ ∃ i, i < p.length ∧ x = (i : Int) ∧ ((dep p i : Nat) : Int) = L := by
  constructor
  · intro h
    obtain ⟨j, y, h1, h2, h3⟩ := selF_mem h
    simp only [Nat.zero_add, decide_eq_true_eq] at h2 h3
    exact ⟨j, (List.getElem?_eq_some_iff.1 h1).1, h3, h2⟩
  · rintro ⟨i, hi, rfl, h⟩
    have := mem_selF (c := fun k (_ : Int) => decide (((dep p k : Nat) : Int) = L)) (f := fun k (_ : Int) => (k : Int)) (k := 0) (List.getElem?_eq_getElem hi) (by simpa using h)
    simpa [levL] using this
theorem gLevel_eq {g : XGeo} (h : GeoOk g.Parents) (L : Int) : sh_spec_gLevel g L = some (levL g.Parents L) := by
  unfold sh_spec_gLevel
  refine (range_sel (c := fun k _ => decide (((dep g.Parents k : Nat) : Int) = L)) (f := fun k _ => (k : Int)) ?_).trans (by simp [levL])
  intro x k s next hx hs
  have hk := (List.getElem?_eq_some_iff.1 hx).1
  have := h.n2
  simp only [List.length_nil, Nat.zero_add] at hs
  rw [gDepth_eq h hk, Option.bind_some]
  by_cases hL : ((dep g.Parents k : Nat) : Int) = L
  · simp only [hL, decide_true, if_true]
    rw [lnO_pos (by simp; omega)]
  · simp only [hL, decide_false, Bool.false_eq_true, if_false]
theorem areasAt_eq {g : XGeo} (h : GeoOk g.Parents) (L : Int) : sh_impl_areasAt g L = some (levL g.Parents L) := by
  unfold sh_impl_areasAt
  refine (range_sel (c := fun k _ => decide (((dep g.Parents k : Nat) : Int) = L)) (f := fun k _ => (k : Int)) ?_).trans (by simp [levL])
  intro x k s next hx hs
  have hk := (List.getElem?_eq_some_iff.1 hx).1
  have := h.n2
  simp only [List.length_nil, Nat.zero_add] at hs
  rw [depthOf_eq h hk, Option.bind_some]
  by_cases hL : ((dep g.Parents k : Nat) : Int) = L
  · simp only [hL, decide_true, if_true]
    rw [lnO_pos (by simp; omega)]
  · simp only [hL, decide_false, Bool.false_eq_true, if_false]
/-! ### Leaves -/
def hasB (l : List Int) (n : Int) : Bool := anyF (fun _ x => decide (x = n)) l 0
theorem hasB_iff {l : List Int} {n : Int} : hasB l n = true ↔ n ∈ l := by
  unfold hasB
  rw [anyF_iff]
  constructor
  · rintro ⟨j, x, h1, h2⟩
    simp only [decide_eq_true_eq] at h2
    subst h2; exact List.mem_of_getElem? h1
  · intro h
    obtain ⟨j, hj⟩ := List.getElem?_of_mem h
    exact ⟨j, n, hj, by simp⟩
theorem l1Has_eq (l : List Int) (n : Int) : sh_spec_l1Has l n = some (hasB l n) := by
  unfold sh_spec_l1Has
  refine (range_any (c := fun _ x => decide (x = n)) (some true) fun x k next _ => rfl).trans ?_
  unfold hasB
  cases anyF (fun _ x => decide (x = n)) l 0 <;> rfl
theorem index_has {l : List Int} {n : Int} : ∀ (k : Nat), ∃ r, rangeF (fun (k18 : Nat) (x19 : Int) (s17 : Unit) (nx24 : Unit → Option Int) => (if (decide (n = x19)) = true then some (k18 : Int) else nx24 ())) (fun (s17 : Unit) => some (-1 : Int)) l k () = some r ∧ decide (0 ≤ r) = hasB l n := by
  unfold hasB
  induction l with
  | nil => intro k; exact ⟨-1, rfl, rfl⟩
  | cons x l ih =>
    intro k
    simp only [rangeF]
    by_cases h : n = x
    · exact ⟨k, by simp [h], by simp [anyF, h]⟩
    · obtain ⟨r, h1, h2⟩ := ih (k + 1)
      refine ⟨r, by simpa [h] using h1, ?_⟩
      rw [h2]
      simp only [anyF, show ¬ (x = n) from fun e => h e.symm, decide_false, Bool.false_or]
      have : ∀ (l : List Int) (a b : Nat), anyF (fun _ x => decide (x = n)) l a = anyF (fun _ x => decide (x = n)) l b := by
        intro l
        induction l with
        | nil => intro a b; rfl
        | cons y l ih => intro a b; simp only [anyF]; rw [ih (a + 1) (b + 1)]
      exact this _ _ _
theorem Contains_eq (l : List Int) (n : Int) : sh_slices_Contains_int l n = some (hasB l n) := by
  unfold sh_slices_Contains_int sh_slices_Index_int
  obtain ⟨r, h1, h2⟩ := index_has (l := l) (n := n) 0
  rw [h1, Option.bind_some, h2]
theorem isLeaf_eq (g : XGeo) (i : Int) : sh_impl_isLeaf g i = some (!hasB g.Parents i) := by
  unfold sh_impl_isLeaf
  rw [Contains_eq, Option.bind_some]
def leafL (p : List Int) : List Int := selF (fun k _ => !hasB p (k : Int)) (fun k _ => (k : Int)) p 0
theorem leafL_mem {p : List Int} {x : Int} : x ∈ leafL p ↔ ∃ i, i < p.length ∧ x = (i : Int) ∧ ¬ ((i : Int) ∈ p) := by
  constructor
  · intro h
    obtain ⟨j, y, h1, h2, h3⟩ := selF_mem h
    simp only [Nat.zero_add, Bool.not_eq_true'] at h2 h3
    exact ⟨j, (List.getElem?_eq_some_iff.1 h1).1, h3, fun hm => by rw [hasB_iff.2 hm] at h2; cases h2⟩
  · rintro ⟨i, hi, rfl, h⟩
    have := mem_selF (c := fun k (_ : Int) => !hasB p (k : Int)) (f := fun k (_ : Int) => (k : Int)) (k := 0) (List.getElem?_eq_getElem hi) (by
      simp only [Nat.zero_add, Bool.not_eq_true']
      cases hc : hasB p (i : Int) with
      | false => rfl
      | true => exact absurd (hasB_iff.1 hc) h)
    simpa [leafL] using this
def kidsL (p : List Int) (i : Int) : List Int := selF (fun _ x => decide (x = i)) (fun k _ => (k : Int)) p 0
theorem gChildren_eq {g : XGeo} (h : GeoOk g.Parents) (i : Int) : sh_spec_gChildren g i = some (kidsL g.Parents i) := by
  unfold sh_spec_gChildren
  refine (range_sel (c := fun _ x => decide (x = i)) (f := fun k _ => (k : Int)) ?_).trans (by simp [kidsL])
  intro x k s next hx hs
  have hk := (List.getElem?_eq_some_iff.1 hx).1
  have := h.n2
  simp only [List.length_nil, Nat.zero_add] at hs
  by_cases hL : x = i
  · simp only [hL, decide_true, if_true]
    rw [lnO_pos (by simp; omega)]
  · simp only [hL, decide_false, Bool.false_eq_true, if_false]
theorem kidsL_nil {p : List Int} {i : Int} : ((kidsL p i).length : Int) = 0 ↔ ¬ (hasB p i = true) := by
  constructor
  · intro h hm
    have hm := hasB_iff.1 hm
    obtain ⟨j, hj⟩ := List.getElem?_of_mem hm
    have := mem_selF (c := fun _ (x : Int) => decide (x = i)) (f := fun k (_ : Int) => (k : Int)) (k := 0) hj (by simp)
    have h2 : kidsL p i = [] := List.length_eq_zero_iff.1 (by omega)
    unfold kidsL at h2
    rw [h2] at this; cases this
  · intro h
    cases hk : kidsL p i with
    | nil => rfl
    | cons y l =>
      exfalso
      have : y ∈ kidsL p i := by rw [hk]; simp
      obtain ⟨j, x, h1, h2, _⟩ := selF_mem this
      simp only [decide_eq_true_eq] at h2
      subst h2
      exact h (hasB_iff.2 (List.mem_of_getElem? h1))
theorem gLeaves_eq {g : XGeo} (h : GeoOk g.Parents) : sh_spec_gLeaves g = some (leafL g.Parents) := by
  unfold sh_spec_gLeaves
  refine (range_sel (c := fun k _ => !hasB g.Parents (k : Int)) (f := fun k _ => (k : Int)) ?_).trans (by simp [leafL])
  intro x k s next hx hs
  have hk := (List.getElem?_eq_some_iff.1 hx).1
  have := h.n2
  simp only [List.length_nil, Nat.zero_add] at hs
  rw [gChildren_eq h, Option.bind_some]
  cases hL : hasB g.Parents (k : Int) with
  | false =>
    have e : ((kidsL g.Parents (k : Int)).length : Int) = 0 := kidsL_nil.2 (by rw [hL]; decide)
    simp only [e, decide_true, if_true, Bool.not_false]; rw [lnO_pos (by simp; omega)]
  | true =>
    have : ¬ (((kidsL g.Parents (k : Int)).length : Int) = 0) := fun e => kidsL_nil.1 e hL
    simp only [this, decide_false, Bool.false_eq_true, if_false, Bool.not_true]
/-! ### Ancestors -/
def ancF (p : List Int) : Nat → Nat → Nat
  | 0, i => i
  | d + 1, i => ancF p d (par p i)
/-- The ancestor at a level, or -1. -/
def upR (p : List Int) (i : Nat) (L : Int) : Int := if 0 ≤ L ∧ L ≤ ((dep p i : Nat) : Int) then ((ancF p (dep p i - L.toNat) i : Nat) : Int) else -1
theorem anc_dep {p : List Int} (h : GeoOk p) : ∀ (d i : Nat), i < p.length → d ≤ dep p i → ancF p d i < p.length ∧ dep p (ancF p d i) = dep p i - d
  | 0, i, hi, _ => ⟨hi, rfl⟩
  | d + 1, i, hi, hd => by
    have h0 : 0 < i := by
      rcases Nat.eq_zero_or_pos i with rfl | h0
      · rw [dep_zero] at hd; omega
      · exact h0
    have hs := dep_step h h0 hi
    have hp := (h.par h0 hi).2
    have := anc_dep h d (par p i) (by omega) (by omega)
    exact ⟨this.1, by show dep p (ancF p d (par p i)) = _; rw [this.2]; omega⟩
theorem gUp_eq {g : XGeo} (h : GeoOk g.Parents) {i : Nat} (hi : i < g.Parents.length) (L : Int) : sh_spec_gUp g (i : Int) L = some (upR g.Parents i L) := by
  unfold sh_spec_gUp
  rw [gDepth_eq h hi, Option.bind_some]
  by_cases hL : L < 0
  · simp [hL, upR, show ¬ (0 ≤ L) by omega]
  · simp only [hL, decide_false, Bool.false_eq_true, if_false]
    refine loopF_eq (I := fun s : Int × Int => ∃ a d : Nat, a < g.Parents.length ∧ s = ((a : Int), (d : Int)) ∧ dep g.Parents a = d ∧ upR g.Parents a L = upR g.Parents i L) (mu := fun s => s.1.toNat) (F := fun _ => some (upR g.Parents i L)) ?_ FUEL _ ⟨i, _, hi, rfl, rfl, rfl⟩ (FUEL_big (by have := h.n2; simp; omega))
    rintro s next ⟨a, d, ha, rfl, hd, hu⟩ hn
    have hle := dep_le h a ha
    have := h.n2
    by_cases h1 : L < (d : Int)
    · have h0 : 0 < a := by
        rcases Nat.eq_zero_or_pos a with rfl | h0
        · rw [dep_zero] at hd; omega
        · exact h0
      obtain ⟨hp, hlt⟩ := h.par h0 ha
      have hs := dep_step h h0 ha
      simp only [h1, decide_true, if_true]
      rw [getO_some hp, ckI_pos (by omega) (by omega)]
      refine hn _ ⟨par g.Parents a, d - 1, by omega, by simp; omega, by omega, ?_⟩ (by simp; omega)
      rw [← hu]
      unfold upR
      rw [if_pos ⟨by omega, by omega⟩, if_pos ⟨by omega, by omega⟩]
      rw [show dep g.Parents a - L.toNat = (dep g.Parents (par g.Parents a) - L.toNat) + 1 by omega]
      rfl
    · simp only [h1, decide_false, Bool.false_eq_true, if_false]
      rw [← hu]
      by_cases h2 : (d : Int) < L
      · have e : upR g.Parents a L = -1 := by unfold upR; rw [if_neg (by omega)]
        rw [e]; simp [h2]
      · have e : upR g.Parents a L = (a : Int) := by
          unfold upR
          rw [if_pos ⟨by omega, by omega⟩, show dep g.Parents a - L.toNat = 0 by omega]; rfl
        rw [e]; simp [h2]
theorem ancestorAt_eq {g : XGeo} (h : GeoOk g.Parents) {i : Nat} (hi : i < g.Parents.length) (L : Int) : sh_impl_ancestorAt g (i : Int) L = some (upR g.Parents i L) := by
  unfold sh_impl_ancestorAt
  rw [depthOf_eq h hi, Option.bind_some]
  by_cases hL : L < 0
  · simp [hL, upR, show ¬ (0 ≤ L) by omega]
  · by_cases hd : ((dep g.Parents i : Nat) : Int) < L
    · simp [hL, hd, upR, show ¬ (L ≤ ((dep g.Parents i : Nat) : Int)) by omega]
    · simp only [hL, hd, decide_false, Bool.false_eq_true, if_false]
      refine loopF_eq (I := fun s : Int × Int => ∃ a d : Nat, a < g.Parents.length ∧ s = ((a : Int), (d : Int)) ∧ dep g.Parents a = d ∧ L ≤ d ∧ upR g.Parents a L = upR g.Parents i L) (mu := fun s => s.1.toNat) (F := fun _ => some (upR g.Parents i L)) ?_ FUEL _ ⟨i, _, hi, rfl, rfl, by omega, rfl⟩ (FUEL_big (by have := h.n2; simp; omega))
      rintro s next ⟨a, d, ha, rfl, hd, hld, hu⟩ hn
      have hle := dep_le h a ha
      have := h.n2
      by_cases h1 : L < (d : Int)
      · have h0 : 0 < a := by
          rcases Nat.eq_zero_or_pos a with rfl | h0
          · rw [dep_zero] at hd; omega
          · exact h0
        obtain ⟨hp, hlt⟩ := h.par h0 ha
        have hs := dep_step h h0 ha
        simp only [h1, decide_true, if_true]
        rw [getO_some hp, ckI_pos (by omega) (by omega)]
        refine hn _ ⟨par g.Parents a, d - 1, by omega, by simp; omega, by omega, by omega, ?_⟩ (by simp; omega)
        rw [← hu]
        unfold upR
        rw [if_pos ⟨by omega, by omega⟩, if_pos ⟨by omega, by omega⟩]
        rw [show dep g.Parents a - L.toNat = (dep g.Parents (par g.Parents a) - L.toNat) + 1 by omega]
        rfl
      · simp only [h1, decide_false, Bool.false_eq_true, if_false]
        rw [← hu]
        unfold upR
        rw [if_pos ⟨by omega, by omega⟩, show dep g.Parents a - L.toNat = 0 by omega]
        rfl
end AS
namespace AS
/-- Dimensions that are there. -/
def dimsOk (s dims : List Int) : Prop := ∀ d ∈ dims, 0 ≤ d ∧ d < s.length
def subL (s dims : List Int) : List Int := dims.map fun d => s.getD d.toNat 0
theorem sub_get {s : List Int} {d : Int} (h0 : 0 ≤ d) (h1 : d < s.length) : s[d.toNat]? = some (s.getD d.toNat 0) := by
  have : d.toNat < s.length := by omega
  simp [this]
theorem sPick_eq {s dims : List Int} (hd : dimsOk s dims) (hl : dims.length ≤ 1048576) : sh_spec_sPick s dims = some (subL s dims) := by
  unfold sh_spec_sPick
  refine (range_mem (I := fun (k : Nat) (a : List Int) => a.length ≤ k ∧ k ≤ dims.length) (G := fun l _ a => some (a ++ subL s l)) ?_ ?_ [] ⟨by simp, by omega⟩).trans (by simp)
  · intro k a _ _; simp [subL]
  · intro x l' k a next hx _ hI hn
    have hk := (List.getElem?_eq_some_iff.1 hx).1
    have hdk := hd x (List.mem_of_getElem? hx)
    rw [getO_int (k := x.toNat) (by omega) (sub_get hdk.1 hdk.2), lnO_pos (by simp; omega), hn _ ⟨by simp; omega, by omega⟩]
    simp [subL]
theorem subL_len (s dims : List Int) : (subL s dims).length = dims.length := by simp [subL]
/-! ### MarginOf -/
def risB (n : Int) : Int → List Int → Bool
  | _, [] => true
  | a, x :: l => decide (a < x) && (decide (x < n) && risB n x l)
theorem l1Rising_eq (l : List Int) (n : Int) (hl : l.length ≤ 1048576) : sh_spec_l1Rising l 0 (n - 1) = some (risB n (-1) l) := by
  unfold sh_spec_l1Rising
  refine (range_mem (I := fun k _ => ∀ j, j + 1 = k → ∃ x, l[j]? = some x ∧ 0 ≤ x) (G := fun l' k _ => some (risB n (if k = 0 then -1 else l.getD (k - 1) 0) l')) ?_ ?_ () (fun j hj => by omega)).trans (by simp)
  · intro k u _ _; simp [risB]
  · intro x l' k u next hx _ hI hn
    have hk := (List.getElem?_eq_some_iff.1 hx).1
    rw [l1In_eq, Option.bind_some]
    by_cases h0 : 0 ≤ x ∧ x ≤ n - 1
    · simp only [show decide (0 ≤ x) = true by simp [h0.1], show decide (x ≤ n - 1) = true by simp [h0.2], Bool.and_self, Bool.not_true, Bool.false_eq_true, if_false, risB, show decide (x < n) = true by (simp; omega), Bool.true_and]
      have hn' := hn () (fun j hj => ⟨x, by rw [show j = k by omega]; exact hx, h0.1⟩)
      have hgx : l.getD k 0 = x := by simp [List.getD_eq_getElem?_getD, hx]
      simp only [show ¬ (k + 1 = 0) by omega, if_false, Nat.add_sub_cancel, hgx] at hn'
      by_cases hk0 : k = 0
      · subst hk0
        simp only [show ¬ ((0 : Int) < ((0 : Nat) : Int)) by omega, decide_false, Bool.false_eq_true, if_false, if_true, show decide (-1 < x) = true by (simp; omega), Bool.true_and]
        exact hn'
      · obtain ⟨y, hy, hy0⟩ := hI (k - 1) (by omega)
        have hgy : l.getD (k - 1) 0 = y := by simp [List.getD_eq_getElem?_getD, hy]
        simp only [show ((0 : Int) < (k : Int)) by omega, decide_true, if_true, hk0, if_false, hgy]
        rw [ckI_pos (by omega) (by omega), getO_int (k := k - 1) (by omega) hy]
        by_cases h1 : x ≤ y
        · simp [h1, show ¬ (y < x) by omega]
        · simp only [h1, decide_false, Bool.false_eq_true, if_false, show decide (y < x) = true by (simp; omega), Bool.true_and]
          exact hn'
    · have e : (decide (0 ≤ x) && decide (x ≤ n - 1)) = false := by simp only [Bool.and_eq_false_iff, decide_eq_false_iff_not]; omega
      simp only [e, Bool.not_false, if_true, risB, Option.some.injEq]
      by_cases h1 : x < n
      · have : ¬ 0 ≤ x := by omega
        have hlast : ¬ ((if k = 0 then (-1 : Int) else l.getD (k - 1) 0) < x) := by
          by_cases hk0 : k = 0
          · simp only [hk0, if_true]; omega
          · obtain ⟨y, hy, hy0⟩ := hI (k - 1) (by omega)
            have hgy : l.getD (k - 1) 0 = y := by simp [List.getD_eq_getElem?_getD, hy]
            simp only [hk0, if_false, hgy]; omega
        simp only [hlast, decide_false, Bool.false_and]
      · simp only [h1, decide_false, Bool.false_and, Bool.and_false]
end AS
namespace AS
theorem ckK_u64 {R : Type} {n : Int} {f : Option R} (h0 : 0 ≤ n) (h1 : n ≤ 18446744073709551615) : ckK .u64 n f = f := if_pos ⟨h0, h1⟩
theorem ckK_i64 {R : Type} {n : Int} {f : Option R} (h0 : -9223372036854775808 ≤ n) (h1 : n ≤ 9223372036854775807) : ckK .i64 n f = f := if_pos ⟨h0, h1⟩
theorem getD_get {α : Type} {l : List α} {k : Nat} {d : α} (h : k < l.length) : l.getD k d = l[k] := by simp [List.getD_eq_getElem?_getD, h]
theorem getD_some {α : Type} {l : List α} {k : Nat} {d x : α} (h : l[k]? = some x) : l.getD k d = x := by simp [List.getD_eq_getElem?_getD, h]
theorem anyF_swap {α β : Type} {P : α → β → Bool} {s : List α} {w : List β} {d : β} {d' : α} (h : w.length = s.length) : anyF (fun k v => P v (w.getD k d)) s 0 = anyF (fun k x => P (s.getD k d') x) w 0 := by
  rw [Bool.eq_iff_iff, anyF_iff, anyF_iff]
  constructor
  · rintro ⟨j, v, h1, h2⟩
    have hj := (List.getElem?_eq_some_iff.1 h1).1
    refine ⟨j, w[j]'(by omega), List.getElem?_eq_getElem _, ?_⟩
    simp only [Nat.zero_add] at h2 ⊢
    rw [getD_get (by omega)] at h2
    rw [getD_some h1]; exact h2
  · rintro ⟨j, x, h1, h2⟩
    have hj := (List.getElem?_eq_some_iff.1 h1).1
    refine ⟨j, s[j]'(by omega), List.getElem?_eq_getElem _, ?_⟩
    simp only [Nat.zero_add] at h2 ⊢
    rw [getD_get (by omega)] at h2
    rw [getD_some h1]; exact h2
theorem not_anyF {α : Type} {c : Nat → α → Bool} {l : List α} (h : (!anyF c l 0) = true) {k : Nat} {x : α} (hx : l[k]? = some x) : c k x = false := by
  cases hc : c k x with
  | false => rfl
  | true =>
    have : anyF c l 0 = true := anyF_iff.2 ⟨k, x, hx, by simpa using hc⟩
    rw [this] at h; cases h
theorem if_not {b : Bool} : (if b = true then some false else some true) = some (!b) := by cases b <;> rfl
/-! ### Sets of levels -/
def full (v : XVariable) : Int := 2 ^ v.Levels.toNat - 1
theorem pow_bd {v : XVariable} (h : 2 ≤ v.Levels ∧ v.Levels ≤ 8) : (4 : Int) ≤ 2 ^ v.Levels.toNat ∧ (2 : Int) ^ v.Levels.toNat ≤ 256 := by
  have : v.Levels.toNat = 2 ∨ v.Levels.toNat = 3 ∨ v.Levels.toNat = 4 ∨ v.Levels.toNat = 5 ∨ v.Levels.toNat = 6 ∨ v.Levels.toNat = 7 ∨ v.Levels.toNat = 8 := by omega
  rcases this with h | h | h | h | h | h | h <;> rw [h] <;> decide
theorem full_bd {v : XVariable} (h : 2 ≤ v.Levels ∧ v.Levels ≤ 8) : 3 ≤ full v ∧ full v ≤ 255 := by
  have := pow_bd h; unfold full; omega
theorem fullSet_eq {v : XVariable} (h : 2 ≤ v.Levels ∧ v.Levels ≤ 8) : sh_impl_fullSet v = some (full v) := by
  unfold sh_impl_fullSet
  have := pow_bd h
  simp only [Int.one_mul]
  rw [ck_pos (by omega), ckI_pos (by omega) (by omega), ckI_pos (by omega) (by omega)]; rfl
def whB (s : List XVariable) (w : List Int) : Bool := decide (w.length = s.length) && !anyF (fun k x => !(decide (0 ≤ x) && decide (x ≤ full (s.getD k default)))) w 0
theorem whB_len {s : List XVariable} {w : List Int} (h : whB s w = true) : w.length = s.length := by
  simp only [whB, Bool.and_eq_true, decide_eq_true_eq] at h; exact h.1
theorem whB_get {s : List XVariable} {w : List Int} (h : whB s w = true) {k : Nat} {x : Int} (hx : w[k]? = some x) : ∃ v, s[k]? = some v ∧ 0 ≤ x ∧ x ≤ full v := by
  have hl := whB_len h
  simp only [whB, Bool.and_eq_true, decide_eq_true_eq] at h
  have hk := (List.getElem?_eq_some_iff.1 hx).1
  have := not_anyF h.2 hx
  simp only [Bool.not_eq_false', Bool.and_eq_true, decide_eq_true_eq] at this
  rw [getD_get (show k < s.length by omega)] at this
  exact ⟨_, List.getElem?_eq_getElem (by omega), this⟩
theorem uWhere_eq {s : List XVariable} {w : List Int} (hs : schB s = true) : sh_spec_uWhere s w = some (whB s w) := by
  unfold sh_spec_uWhere whB
  by_cases h : w.length = s.length
  · simp only [h, ne_eq, not_true_eq_false, decide_false, Bool.false_eq_true, if_false, decide_true, Bool.true_and]
    refine (range_any (c := fun k v => !(decide (0 ≤ w.getD k 0) && decide (w.getD k 0 ≤ full v))) (some false) ?_).trans ?_
    · intro v k next hx
      have hk := (List.getElem?_eq_some_iff.1 hx).1
      have hb := pow_bd (schB_lev hs (List.mem_of_getElem? hx))
      have hl := schB_lev hs (List.mem_of_getElem? hx)
      simp only [Int.one_mul]
      rw [getO_nat (show k < w.length by omega), ckK_u64 (by omega) (by omega), ck_pos (by omega), ckI_pos (by omega) (by omega), ckI_pos (by omega) (by omega), l1In_eq, Option.bind_some, getD_get (show k < w.length by omega)]
      rfl
    · rw [anyF_swap (P := fun v x => !(decide (0 ≤ x) && decide (x ≤ full v))) (d' := default) h]; exact if_not
  · simp [h, show ¬ ((w.length : Int) = (s.length : Int)) by omega]
theorem isWhere_eq {s : List XVariable} {w : List Int} (hs : schB s = true) : sh_impl_isWhere s w = some (whB s w) := by
  unfold sh_impl_isWhere whB
  by_cases h : w.length = s.length
  · simp only [h, ne_eq, not_true_eq_false, decide_false, Bool.false_eq_true, if_false, decide_true, Bool.true_and]
    refine (range_any (c := fun k x => !(decide (0 ≤ x) && decide (x ≤ full (s.getD k default)))) (some false) ?_).trans (show (if anyF _ _ 0 = true then some false else some true) = _ from if_not)
    intro x k next hx
    have hk := (List.getElem?_eq_some_iff.1 hx).1
    have hks : k < s.length := by omega
    have hl := schB_lev hs (List.getElem_mem hks)
    rw [getO_nat hks, fullSet_eq hl, Option.bind_some, getD_get hks]
    by_cases h1 : x < 0
    · simp [h1, show ¬ (0 ≤ x) by omega]
    · by_cases h2 : full s[k] < x
      · simp [h1, h2, show ¬ (x ≤ full s[k]) by omega]
      · simp [h1, h2, show (0 ≤ x) by omega, show x ≤ full s[k] by omega]
  · simp [h, show ¬ ((w.length : Int) = (s.length : Int)) by omega]
/-! ### Records and conditions -/
theorem valF_get : ∀ {s : List XVariable} {a : List Int}, valF s a = true → ∀ {k : Nat} {x : Int} {v : XVariable}, a[k]? = some x → s[k]? = some v → 0 ≤ x ∧ x < v.Levels
  | [], _, _, k, x, v, _, h => by simp at h
  | _ :: _, [], _, k, x, v, h, _ => by simp at h
  | v :: s, x :: a, h, 0, y, u, h1, h2 => by
    simp only [List.getElem?_cons_zero, Option.some.injEq] at h1 h2
    subst h1; subst h2
    simp only [valF, Bool.and_eq_true, decide_eq_true_eq] at h; exact h.1
  | v :: s, x :: a, h, k + 1, y, u, h1, h2 => by
    simp only [valF, Bool.and_eq_true] at h
    exact valF_get h.2 (by simpa using h1) (by simpa using h2)
theorem valB_len {s : List XVariable} {a : List Int} (h : valB s a = true) : a.length = s.length := by
  simp only [valB, Bool.and_eq_true, decide_eq_true_eq] at h; exact h.1
theorem valB_get {s : List XVariable} {a : List Int} (h : valB s a = true) {k : Nat} {x : Int} {v : XVariable} (h1 : a[k]? = some x) (h2 : s[k]? = some v) : 0 ≤ x ∧ x < v.Levels := by
  simp only [valB, Bool.and_eq_true, decide_eq_true_eq] at h; exact valF_get h.2 h1 h2
def recB (s : List XVariable) (r : XRecord) : Bool := decide (0 ≤ r.Area) && (decide (r.Area ≤ 29) && (decide (0 ≤ r.House) && (decide (r.House ≤ 999) && valB s r.Values)))
theorem rGood_eq {s : List XVariable} {r : XRecord} (hs : schB s = true) : sh_spec_rGood s r = some (recB s r) := by
  unfold sh_spec_rGood recB
  simp only [l1In_eq, Option.bind_some, sFits_eq hs]
  cases decide (0 ≤ r.Area) <;> cases decide (r.Area ≤ 29) <;> cases decide (0 ≤ r.House) <;> cases decide (r.House ≤ 999) <;> simp
theorem isRecord_eq {s : List XVariable} {r : XRecord} : sh_impl_isRecord s r = some (recB s r) := by
  unfold sh_impl_isRecord recB
  simp only [areValues_eq, Option.bind_some]
  cases decide (0 ≤ r.Area) <;> cases decide (r.Area ≤ 29) <;> cases decide (0 ≤ r.House) <;> cases decide (r.House ≤ 999) <;> simp
def offB (x v : Int) : Bool := decide ((((x / 2 ^ (v).toNat).toNat &&& (1 : Int).toNat : Nat) : Int) = (0 : Int))
def meetB (w a : List Int) : Bool := !anyF (fun k x => decide (x ≠ 0) && offB x (a.getD k 0)) w 0
theorem shr_bd {x : Int} (h : 0 ≤ x) (n : Nat) : 0 ≤ x / 2 ^ n ∧ x / 2 ^ n ≤ x := by
  have : (0 : Int) < 2 ^ n := Int.pow_pos (by omega)
  exact ⟨Int.ediv_nonneg h (by omega), Int.ediv_le_self _ h⟩
theorem uMeets_eq {s : List XVariable} {t : XTable} {a : List Int} (hs : schB s = true) (hw : whB s t.Where = true) (ha : valB s a = true) : sh_spec_uMeets t a = some (meetB t.Where a) := by
  unfold sh_spec_uMeets meetB
  refine (range_any (c := fun k x => decide (x ≠ 0) && offB x (a.getD k 0)) (some false) ?_).trans (show (if anyF _ _ 0 = true then some false else some true) = _ from if_not)
  intro x k next hx
  obtain ⟨v, hv, h0, h1⟩ := whB_get hw hx
  have hl := schB_lev hs (List.mem_of_getElem? hv)
  have hf := full_bd hl
  have hk : k < a.length := by rw [valB_len ha]; exact (List.getElem?_eq_some_iff.1 hv).1
  have hav := valB_get ha (List.getElem?_eq_getElem hk) hv
  have hsh := shr_bd h0 (a[k]).toNat
  rw [getD_get hk]
  by_cases hz : x = 0
  · simp [hz]
  · simp only [show decide (x ≠ 0) = true by simp [hz], if_true, Bool.true_and]
    rw [getO_nat hk, ckK_u64 (by omega) (by omega), ck_pos (by omega), ck_pos (by omega), ckK_i64 (by omega) (by omega), ck_pos (by omega), ckK_i64 (by omega) (by omega)]
    rfl
theorem meetsWhere_eq {s : List XVariable} {t : XTable} {r : XRecord} (hs : schB s = true) (hw : whB s t.Where = true) (ha : valB s r.Values = true) : sh_impl_meetsWhere t r = some (meetB t.Where r.Values) := by
  unfold sh_impl_meetsWhere meetB
  refine (range_any (c := fun k x => decide (x ≠ 0) && offB x (r.Values.getD k 0)) (some false) ?_).trans (show (if anyF _ _ 0 = true then some false else some true) = _ from if_not)
  intro x k next hx
  obtain ⟨v, hv, h0, h1⟩ := whB_get hw hx
  have hl := schB_lev hs (List.mem_of_getElem? hv)
  have hf := full_bd hl
  have hk : k < r.Values.length := by rw [valB_len ha]; exact (List.getElem?_eq_some_iff.1 hv).1
  have hav := valB_get ha (List.getElem?_eq_getElem hk) hv
  have hsh := shr_bd h0 (r.Values[k]).toNat
  rw [getD_get hk]
  by_cases hz : x = 0
  · simp [hz]
  · simp only [show decide (x ≠ 0) = true by simp [hz], if_true, Bool.true_and]
    rw [getO_nat hk, ck_pos (by omega), ck_pos (by omega), ckK_i64 (by omega) (by omega), ck_pos (by omega), ckK_i64 (by omega) (by omega)]
    rfl
theorem recB_val {s : List XVariable} {r : XRecord} (h : recB s r = true) : valB s r.Values = true := by
  simp only [recB, Bool.and_eq_true] at h; exact h.2.2.2.2
/-! ### Variables of a table -/
theorem risB_rng {n : Int} : ∀ {l : List Int} {a : Int}, risB n a l = true → ∀ d ∈ l, a < d ∧ d < n
  | [], _, _, d, hd => by simp at hd
  | x :: l, a, h, d, hd => by
    simp only [risB, Bool.and_eq_true, decide_eq_true_eq] at h
    rcases List.mem_cons.1 hd with rfl | hd
    · exact ⟨h.1, h.2.1⟩
    · have := risB_rng h.2.2 d hd; omega
theorem risB_len {n : Int} : ∀ {l : List Int} {a : Int}, a < n → risB n a l = true → (l.length : Int) ≤ n - 1 - a
  | [], _, ha, _ => by simp; omega
  | x :: l, a, _, h => by
    simp only [risB, Bool.and_eq_true, decide_eq_true_eq] at h
    have := risB_len (a := x) h.2.1 h.2.2
    simp only [List.length_cons]; omega
theorem areVars_eq (s : List XVariable) (l : List Int) : sh_impl_areVars s l = some (risB s.length (-1) l) := by
  unfold sh_impl_areVars
  refine range_mem (I := fun _ _ => True) (G := fun l _ a => some (risB s.length a l)) (fun _ _ _ _ => rfl) ?_ (-1) trivial
  intro x l' k a next _ _ _ hn
  simp only [risB]
  by_cases h1 : x ≤ a
  · simp [h1, show ¬ (a < x) by omega]
  · by_cases h2 : (s.length : Int) ≤ x
    · simp [h1, h2, show ¬ (x < (s.length : Int)) by omega]
    · simp only [h1, h2, decide_false, Bool.false_eq_true, if_false, show decide (a < x) = true by (simp; omega), show decide (x < (s.length : Int)) = true by (simp; omega), Bool.true_and]
      exact hn _ trivial
def partV (s : List XVariable) (l : List Int) : List XVariable := l.map fun v => s.getD v.toNat default
theorem partV_len (s : List XVariable) (l : List Int) : (partV s l).length = l.length := by simp [partV]
theorem selF_map {α β : Type} (f : α → β) : ∀ (l : List α) (k : Nat), selF (fun _ _ => true) (fun _ x => f x) l k = l.map f
  | [], _ => rfl
  | x :: l, k => by simp only [selF, if_true, List.map_cons, selF_map f l]
theorem sPart_eq {s : List XVariable} {l : List Int} (h : ∀ d ∈ l, 0 ≤ d ∧ d < (s.length : Int)) (hl : l.length ≤ 1099511627776) : sh_spec_sPart s l = some (partV s l) := by
  unfold sh_spec_sPart
  refine (range_sel (c := fun _ _ => true) (f := fun _ v => s.getD v.toNat default) ?_).trans (by rw [selF_map]; rfl)
  intro x k a next hx ha
  have hk := (List.getElem?_eq_some_iff.1 hx).1
  have hxb := h x (List.mem_of_getElem? hx)
  have hlt : x.toNat < s.length := by omega
  simp only [List.length_nil, Nat.zero_add] at ha
  rw [getO_pos hxb.1 hlt, lnO_pos (by simp; omega), getD_get hlt]
  rfl
theorem crossed_eq {s : List XVariable} {t : XTable} (h : ∀ d ∈ t.Vars, 0 ≤ d ∧ d < (s.length : Int)) (hl : t.Vars.length ≤ 1099511627776) : sh_impl_crossed s t = some (partV s t.Vars) := by
  unfold sh_impl_crossed
  rw [mkO_pos (by omega) (by omega), Int.toNat_natCast]
  have hz : (partV s t.Vars).length = (List.replicate t.Vars.length (⟨([] : List UInt8), (0 : Int)⟩ : XVariable)).length := by simp [partV_len]
  refine range_mem (I := fun k a => a = mixL (partV s t.Vars) (List.replicate t.Vars.length (⟨([] : List UInt8), (0 : Int)⟩ : XVariable)) k) (G := fun _ _ _ => some (partV s t.Vars)) ?_ ?_ _ (mixL_zero _ _).symm
  · intro k a ha hk
    subst ha
    have := mixL_end hz
    rw [partV_len] at this
    rw [hk, this]
  · intro x l' k a next hx _ ha hn
    subst ha
    have hk := (List.getElem?_eq_some_iff.1 hx).1
    have hxb := h x (List.mem_of_getElem? hx)
    have hlt : x.toNat < s.length := by omega
    rw [getO_pos hxb.1 hlt, getO_some (mixL_get hz (by simpa using hk))]
    refine hn _ ?_
    rw [Int.toNat_natCast, ← mixL_set hz (by rw [partV_len]; exact hk)]
    congr 1
    have hxe := (List.getElem?_eq_some_iff.1 hx).2
    simp only [partV, List.getElem_map, hxe, getD_get hlt]
/-! ### How many cells -/
def prodV : List XVariable → Int
  | [] => 1
  | v :: l => v.Levels * prodV l
theorem mul_pow_bd {a x : Int} {k : Nat} (hk : k ≤ 5) (h1 : 1 ≤ a) (h2 : a ≤ 8 ^ k) (h3 : 2 ≤ x) (h4 : x ≤ 8) : 1 ≤ a * x ∧ a * x ≤ 8 ^ (k + 1) ∧ (8 : Int) ^ (k + 1) ≤ 262144 := by
  have a1 : 1 * 1 ≤ a * x := Int.mul_le_mul h1 (by omega) (by omega) (by omega)
  have a2 : a * x ≤ 8 ^ k * 8 := Int.mul_le_mul h2 (by omega) (by omega) (by omega)
  refine ⟨by omega, by rw [Int.pow_succ]; exact a2, ?_⟩
  have : k = 0 ∨ k = 1 ∨ k = 2 ∨ k = 3 ∨ k = 4 ∨ k = 5 := by omega
  rcases this with rfl | rfl | rfl | rfl | rfl | rfl <;> decide
theorem foldF_prod : ∀ (l : List XVariable) (k : Nat) (a : Int), foldF (fun _ v a => a * v.Levels) l k a = a * prodV l
  | [], _, a => by simp [foldF, prodV]
  | v :: l, k, a => by simp only [foldF, prodV, foldF_prod l, Int.mul_assoc]
theorem sCount_eq {l : List XVariable} (hl : l.length ≤ 6) (h : ∀ v ∈ l, 2 ≤ v.Levels ∧ v.Levels ≤ 8) : sh_spec_sCount l = some (prodV l) := by
  unfold sh_spec_sCount
  refine (range_fold (I := fun k a => 1 ≤ a ∧ a ≤ 8 ^ k) (f := fun _ v a => a * v.Levels) (by simp) ?_ ?_).trans (by rw [foldF_prod, Int.one_mul])
  · intro x k a hx hI
    have hk := (List.getElem?_eq_some_iff.1 hx).1
    have := h x (List.mem_of_getElem? hx)
    have := mul_pow_bd (show k ≤ 5 by omega) hI.1 hI.2 this.1 this.2
    exact ⟨this.1, this.2.1⟩
  · intro x k a next hx hI
    have hk := (List.getElem?_eq_some_iff.1 hx).1
    have := h x (List.mem_of_getElem? hx)
    have := mul_pow_bd (show k ≤ 5 by omega) hI.1 hI.2 this.1 this.2
    rw [ckI_pos (by omega) (by omega)]
theorem combinations_eq {l : List XVariable} (hl : l.length ≤ 6) (h : ∀ v ∈ l, 2 ≤ v.Levels ∧ v.Levels ≤ 8) : sh_impl_combinations l = some (prodV l) := by
  unfold sh_impl_combinations
  refine (range_fold (I := fun k a => 1 ≤ a ∧ a ≤ 8 ^ k) (f := fun _ v a => a * v.Levels) (by simp) ?_ ?_).trans (by rw [foldF_prod, Int.one_mul])
  · intro x k a hx hI
    have hk := (List.getElem?_eq_some_iff.1 hx).1
    have := h x (List.mem_of_getElem? hx)
    have := mul_pow_bd (show k ≤ 5 by omega) hI.1 hI.2 this.1 this.2
    exact ⟨this.1, this.2.1⟩
  · intro x k a next hx hI
    have hk := (List.getElem?_eq_some_iff.1 hx).1
    have := h x (List.mem_of_getElem? hx)
    have := mul_pow_bd (show k ≤ 5 by omega) hI.1 hI.2 this.1 this.2
    rw [ckI_pos (by omega) (by omega)]
theorem prodV_bd : ∀ {l : List XVariable}, l.length ≤ 6 → (∀ v ∈ l, 2 ≤ v.Levels ∧ v.Levels ≤ 8) → 1 ≤ prodV l ∧ prodV l ≤ 8 ^ l.length ∧ (8 : Int) ^ l.length ≤ 262144
  | [], _, _ => by simp [prodV]
  | v :: l, hl, h => by
    simp only [List.length_cons] at hl
    have := prodV_bd (l := l) (by omega) (fun u hu => h u (List.mem_cons_of_mem _ hu))
    have hv := h v List.mem_cons_self
    have := mul_pow_bd (show l.length ≤ 5 by omega) this.1 this.2.1 hv.1 hv.2
    simp only [prodV, List.length_cons]
    rw [Int.mul_comm]; exact this
/-- A list of variables of a schema. -/
structure Part (s : List XVariable) (l : List Int) : Prop where
  sch : schB s = true
  ris : risB s.length (-1) l = true
theorem Part.rng {s : List XVariable} {l : List Int} (h : Part s l) : ∀ d ∈ l, 0 ≤ d ∧ d < (s.length : Int) := fun d hd => by
  have := risB_rng h.ris d hd; omega
theorem Part.len {s : List XVariable} {l : List Int} (h : Part s l) : l.length ≤ 6 := by
  have := risB_len (by omega) h.ris
  have := schB_len h.sch
  omega
theorem Part.lev {s : List XVariable} {l : List Int} (h : Part s l) : ∀ v ∈ partV s l, 2 ≤ v.Levels ∧ v.Levels ≤ 8 := by
  intro v hv
  simp only [partV, List.mem_map] at hv
  obtain ⟨d, hd, rfl⟩ := hv
  have := h.rng d hd
  rw [getD_get (show d.toNat < s.length by omega)]
  exact schB_lev h.sch (List.getElem_mem _)
theorem Part.bd {s : List XVariable} {l : List Int} (h : Part s l) : 1 ≤ prodV (partV s l) ∧ prodV (partV s l) ≤ 262144 := by
  have := prodV_bd (l := partV s l) (by rw [partV_len]; exact h.len) h.lev
  omega
theorem Part.part {s : List XVariable} {l : List Int} (h : Part s l) : sh_spec_sPart s l = some (partV s l) := sPart_eq h.rng (by have := h.len; omega)
theorem Part.count {s : List XVariable} {l : List Int} (h : Part s l) : sh_spec_sCount (partV s l) = some (prodV (partV s l)) := sCount_eq (by rw [partV_len]; exact h.len) h.lev
theorem Part.cross {s : List XVariable} {t : XTable} (h : Part s t.Vars) : sh_impl_crossed s t = some (partV s t.Vars) := crossed_eq h.rng (by have := h.len; omega)
theorem Part.comb {s : List XVariable} {l : List Int} (h : Part s l) : sh_impl_combinations (partV s l) = some (prodV (partV s l)) := combinations_eq (by rw [partV_len]; exact h.len) h.lev
def cntT (g : XGeo) (s : List XVariable) (t : XTable) : Int := ((levL g.Parents t.Level).length : Int) * prodV (partV s t.Vars)
theorem cntT_bd {g : XGeo} {s : List XVariable} {t : XTable} (hg : geoB g = true) (h : Part s t.Vars) : 0 ≤ cntT g s t ∧ cntT g s t ≤ 7864320 := by
  have h1 := levL_len g.Parents t.Level
  have h2 := (geoB_ok hg).n2
  have h3 := h.bd
  constructor
  · exact Int.mul_nonneg (by omega) (by omega)
  · have : cntT g s t ≤ 30 * 262144 := Int.mul_le_mul (by omega) h3.2 (by omega) (by omega)
    omega
theorem uCount_eq {g : XGeo} {s : List XVariable} {t : XTable} (hg : geoB g = true) (h : Part s t.Vars) : sh_spec_uCount g s t = some (cntT g s t) := by
  unfold sh_spec_uCount
  have hb := cntT_bd hg h
  have h1 := levL_len g.Parents t.Level
  have h2 := (geoB_ok hg).n2
  unfold cntT at hb ⊢
  rw [gLevel_eq (geoB_ok hg), Option.bind_some, lmO_pos (by omega), h.part, Option.bind_some, h.count, Option.bind_some, ckI_pos (by omega) (by omega)]
theorem cellCount_eq {g : XGeo} {s : List XVariable} {t : XTable} (hg : geoB g = true) (h : Part s t.Vars) : sh_impl_cellCount g s t = some (cntT g s t) := by
  unfold sh_impl_cellCount
  have hb := cntT_bd hg h
  have h1 := levL_len g.Parents t.Level
  have h2 := (geoB_ok hg).n2
  unfold cntT at hb ⊢
  rw [areasAt_eq (geoB_ok hg), Option.bind_some, lmO_pos (by omega), h.cross, Option.bind_some, h.comb, Option.bind_some, ckI_pos (by omega) (by omega)]
/-! ### Tables -/
def tabB (g : XGeo) (s : List XVariable) (t : XTable) : Bool :=
  !(levL g.Parents t.Level).isEmpty && (risB s.length (-1) t.Vars && (whB s t.Where && (decide (-1 ≤ t.Sum) && (decide (t.Sum < (s.length : Int)) && decide (cntT g s t ≤ 600)))))
def allB (g : XGeo) (s : List XVariable) (t : XTable) : Bool := geoB g && (schB s && tabB g s t)
theorem uGood_eq {g : XGeo} {s : List XVariable} {t : XTable} (hn : bulkVS s ≤ 1048576) (ht : bulkT t ≤ 1048576) : sh_spec_uGood g s t = some (allB g s t) := by
  unfold sh_spec_uGood allB
  rw [gGood_eq, Option.bind_some]
  cases hg : geoB g with
  | false => rfl
  | true =>
    rw [sGood_eq (names_of_bulk hn), Option.bind_some]
    cases hs : schB s with
    | false => rfl
    | true =>
      have hl := schB_len hs
      unfold tabB
      rw [gLevel_eq (geoB_ok hg), Option.bind_some]
      cases he : levL g.Parents t.Level with
      | nil => rfl
      | cons y l =>
        have e : decide (((y :: l).length : Int) = 0) = false := by simp; omega
        simp only [e, Bool.not_true, Bool.false_eq_true, if_false, List.isEmpty_cons, Bool.not_false, Bool.true_and]
        rw [ckI_pos (by omega) (by omega), l1Rising_eq _ _ (by unfold bulkT at ht; omega), Option.bind_some]
        cases hr : risB s.length (-1) t.Vars with
        | false => rfl
        | true =>
          have hp : Part s t.Vars := ⟨hs, hr⟩
          rw [uWhere_eq hs, Option.bind_some]
          cases hw : whB s t.Where with
          | false => rfl
          | true =>
            simp only [Bool.not_true, Bool.false_eq_true, if_false, Bool.true_and]
            rw [ckI_pos (by omega) (by omega), l1In_eq, Option.bind_some, Option.bind_some]
            have e2 : decide (t.Sum ≤ (s.length : Int) - 1) = decide (t.Sum < (s.length : Int)) := by congr 1; apply propext; omega
            rw [e2, uCount_eq hg hp, Option.bind_some]
            cases decide (-1 ≤ t.Sum) <;> cases decide (t.Sum < (s.length : Int)) <;> simp
theorem isTable_eq {g : XGeo} {s : List XVariable} {t : XTable} (hg : geoB g = true) (hs : schB s = true) : sh_impl_isTable g s t = some (tabB g s t) := by
  unfold sh_impl_isTable tabB
  rw [areVars_eq, Option.bind_some]
  cases hr : risB s.length (-1) t.Vars with
  | false => cases (levL g.Parents t.Level).isEmpty <;> rfl
  | true =>
    have hp : Part s t.Vars := ⟨hs, hr⟩
    have hpb := hp.bd
    rw [isWhere_eq hs, Option.bind_some]
    cases hw : whB s t.Where with
    | false => cases (levL g.Parents t.Level).isEmpty <;> rfl
    | true =>
      simp only [Bool.not_true, Bool.false_eq_true, if_false, Bool.true_and]
      rw [cellCount_eq hg hp]
      by_cases h1 : t.Sum < -1
      · simp [h1, show ¬ (-1 ≤ t.Sum) by omega]
      · by_cases h2 : (s.length : Int) ≤ t.Sum
        · simp [h1, h2, show ¬ (t.Sum < (s.length : Int)) by omega]
        · simp only [h1, h2, decide_false, Bool.false_eq_true, if_false, Option.bind_some, show decide (-1 ≤ t.Sum) = true by (simp; omega), show decide (t.Sum < (s.length : Int)) = true by (simp; omega), Bool.true_and]
          cases he : levL g.Parents t.Level with
          | nil => simp [cntT, he]
          | cons y l =>
            have : 0 < cntT g s t := by
              unfold cntT; rw [he]
              exact Int.mul_pos (by simp) (by omega)
            simp [this]
theorem areTabled_eq (g : XGeo) (s : List XVariable) (t : XTable) : sh_impl_areTabled g s t = some (allB g s t) := by
  unfold sh_impl_areTabled allB
  rw [isGeo_eq, Option.bind_some]
  cases hg : geoB g with
  | false => rfl
  | true =>
    rw [isSchema_eq, Option.bind_some]
    cases hs : schB s with
    | false => rfl
    | true => simp [isTable_eq hg hs]
/-- All that is known of a valid table. -/
structure Tab (g : XGeo) (s : List XVariable) (t : XTable) : Prop where
  geo : geoB g = true
  p : Part s t.Vars
  w : whB s t.Where = true
  s0 : -1 ≤ t.Sum
  s1 : t.Sum < (s.length : Int)
  ne : levL g.Parents t.Level ≠ []
  le : cntT g s t ≤ 600
theorem allB_tab {g : XGeo} {s : List XVariable} {t : XTable} (h : allB g s t = true) : Tab g s t := by
  simp only [allB, tabB, Bool.and_eq_true, decide_eq_true_eq, Bool.not_eq_true', List.isEmpty_eq_false_iff] at h
  obtain ⟨h1, h2, h3, h4, h5, h6, h7, h8⟩ := h
  exact ⟨h1, ⟨h2, h4⟩, h5, h6, h7, h3, h8⟩
theorem Tab.ok {g : XGeo} {s : List XVariable} {t : XTable} (h : Tab g s t) : GeoOk g.Parents := geoB_ok h.geo
theorem Tab.sch {g : XGeo} {s : List XVariable} {t : XTable} (h : Tab g s t) : schB s = true := h.p.sch
end AS
namespace AS
/-! ### Surveys -/
def dataB (s : List XVariable) (l : List XRecord) : Bool := decide (l.length ≤ 40) && !anyF (fun _ r => !recB s r) l 0
theorem dGood_eq {s : List XVariable} {l : List XRecord} (hs : schB s = true) : sh_spec_dGood s l = some (dataB s l) := by
  unfold sh_spec_dGood dataB
  refine (range_any (c := fun _ r => !recB s r) (some false) ?_).trans ?_
  · intro r k next _
    rw [rGood_eq hs, Option.bind_some]
  · have e : decide ((l.length : Int) ≤ 40) = decide (l.length ≤ 40) := by congr 1; apply propext; omega
    rw [e]
    cases anyF (fun _ r => !recB s r) l 0 <;> simp
theorem isData_eq {s : List XVariable} {l : List XRecord} : sh_impl_isData s l = some (dataB s l) := by
  unfold sh_impl_isData dataB
  by_cases h : l.length ≤ 40
  · simp only [show ¬ ((40 : Int) < (l.length : Int)) by omega, decide_false, Bool.false_eq_true, if_false, h, decide_true, Bool.true_and]
    refine (range_any (c := fun _ r => !recB s r) (some false) ?_).trans (show (if anyF _ _ 0 = true then some false else some true) = _ from if_not)
    intro r k next _
    rw [isRecord_eq, Option.bind_some]
  · simp [h, show ((40 : Int) < (l.length : Int)) by omega]
theorem dataB_len {s : List XVariable} {l : List XRecord} (h : dataB s l = true) : l.length ≤ 40 := by
  simp only [dataB, Bool.and_eq_true, decide_eq_true_eq] at h; exact h.1
theorem dataB_get {s : List XVariable} {l : List XRecord} (h : dataB s l = true) {r : XRecord} (hr : r ∈ l) : recB s r = true := by
  simp only [dataB, Bool.and_eq_true] at h
  obtain ⟨k, hk⟩ := List.getElem?_of_mem hr
  have := not_anyF h.2 hk
  simpa using this
/-- Is an area a leaf? -/
def leafB (p : List Int) (i : Int) : Bool := decide (0 ≤ i) && (decide (i < (p.length : Int)) && !hasB p i)
theorem leafB_has {p : List Int} {i : Int} : hasB (leafL p) i = leafB p i := by
  rw [Bool.eq_iff_iff, hasB_iff, leafL_mem]
  simp only [leafB, Bool.and_eq_true, decide_eq_true_eq, Bool.not_eq_true']
  constructor
  · rintro ⟨j, hj, rfl, hm⟩
    refine ⟨by omega, by omega, ?_⟩
    cases hc : hasB p (j : Int) with
    | false => rfl
    | true => exact absurd (hasB_iff.1 hc) hm
  · rintro ⟨h1, h2, h3⟩
    refine ⟨i.toNat, by omega, by omega, fun hm => ?_⟩
    rw [show ((i.toNat : Nat) : Int) = i by omega] at hm
    rw [hasB_iff.2 hm] at h3; cases h3
def survB (g : XGeo) (s : List XVariable) (l : List XRecord) : Bool := dataB s l && !anyF (fun _ r => !leafB g.Parents r.Area) l 0
theorem uSurvey_eq {g : XGeo} {s : List XVariable} {l : List XRecord} (hg : geoB g = true) (hs : schB s = true) (hn : bulkVS s ≤ 1048576) : sh_spec_uSurvey g s l = some (survB g s l) := by
  unfold sh_spec_uSurvey survB sh_spec_dInput
  rw [gGood_eq, Option.bind_some, hg, sGood_eq (names_of_bulk hn), Option.bind_some, hs]
  simp only [Bool.not_true, Bool.false_eq_true, if_false, if_true, dGood_eq hs, Option.bind_some]
  cases dataB s l with
  | false => rfl
  | true =>
    simp only [Bool.not_true, Bool.false_eq_true, if_false, Bool.true_and, gLeaves_eq (geoB_ok hg), Option.bind_some]
    refine (range_any (c := fun _ r => !leafB g.Parents r.Area) (some false) ?_).trans (show (if anyF _ _ 0 = true then some false else some true) = _ from if_not)
    intro r k next _
    rw [l1Has_eq, Option.bind_some, leafB_has]
theorem isSurvey_eq {g : XGeo} {s : List XVariable} {l : List XRecord} : sh_impl_isSurvey g s l = some (survB g s l) := by
  unfold sh_impl_isSurvey survB
  rw [isData_eq, Option.bind_some]
  cases dataB s l with
  | false => rfl
  | true =>
    simp only [Bool.not_true, Bool.false_eq_true, if_false, Bool.true_and]
    refine (range_any (c := fun _ r => !leafB g.Parents r.Area) (some false) ?_).trans (show (if anyF _ _ 0 = true then some false else some true) = _ from if_not)
    intro r k next _
    unfold sh_impl_isArea leafB
    simp only [isLeaf_eq, Option.bind_some]
    cases decide (0 ≤ r.Area) <;> cases decide (r.Area < (g.Parents.length : Int)) <;> simp
/-! ### Normal tables -/
end AS
namespace AS
/-! ### Mixed radix -/
/-- A list of variables that can be counted. -/
structure Vs (s : List XVariable) : Prop where
  len : s.length ≤ 6
  lev : ∀ v ∈ s, 2 ≤ v.Levels ∧ v.Levels ≤ 8
theorem Part.vs {s : List XVariable} {l : List Int} (h : Part s l) : Vs (partV s l) := ⟨by rw [partV_len]; exact h.len, h.lev⟩
theorem Vs.get {s : List XVariable} (h : Vs s) {k : Nat} (hk : k < s.length) : 2 ≤ s[k].Levels ∧ s[k].Levels ≤ 8 := h.lev _ (List.getElem_mem hk)
theorem Vs.drop {s : List XVariable} (h : Vs s) (k : Nat) : Vs (s.drop k) := ⟨by simp; have := h.len; omega, fun v hv => h.lev v (List.mem_of_mem_drop hv)⟩
theorem Vs.bd {s : List XVariable} (h : Vs s) : 1 ≤ prodV s ∧ prodV s ≤ 262144 := by
  have := prodV_bd h.len h.lev
  omega
theorem Vs.tail {v : XVariable} {s : List XVariable} (h : Vs (v :: s)) : Vs s := h.drop 1
def numV : List XVariable → List Int → Int
  | _ :: l, a :: as => a * prodV l + numV l as
  | _, _ => 0
theorem numV_bd : ∀ {s : List XVariable} {a : List Int}, Vs s → valF s a = true → 0 ≤ numV s a ∧ numV s a < prodV s
  | [], _, _, _ => by simp [numV, prodV]
  | v :: s, [], h, _ => by
    have := h.bd
    simp only [numV]; omega
  | v :: s, x :: a, h, hf => by
    simp only [valF, Bool.and_eq_true, decide_eq_true_eq] at hf
    have := numV_bd h.tail hf.2
    have hp := h.tail.bd
    have h1 : 0 ≤ x * prodV s := Int.mul_nonneg hf.1.1 (by omega)
    have h2 : x * prodV s ≤ (v.Levels - 1) * prodV s := Int.mul_le_mul_of_nonneg_right (by omega) (by omega)
    simp only [numV, prodV]
    rw [Int.sub_mul, Int.one_mul] at h2
    omega
/-! ### Positions -/
def posF (n : Int) : List Int → Nat → Int
  | [], _ => -1
  | x :: l, k => if x = n then (k : Int) else posF n l (k + 1)
theorem posF_get {n : Int} : ∀ {l : List Int} {k j : Nat}, posF n l k = (j : Int) → k ≤ j ∧ l[j - k]? = some n
  | [], k, j, h => by simp only [posF] at h; omega
  | x :: l, k, j, h => by
    simp only [posF] at h
    split at h
    · rename_i e
      obtain rfl : k = j := by omega
      simp [e]
    · have := posF_get h
      refine ⟨by omega, ?_⟩
      rw [show j - k = (j - (k + 1)) + 1 by omega, List.getElem?_cons_succ]; exact this.2
theorem posF_neg {n : Int} : ∀ {l : List Int} {k : Nat}, posF n l k < 0 ↔ ¬ n ∈ l
  | [], k => by simp [posF]
  | x :: l, k => by
    simp only [posF]
    split
    · rename_i e
      simp [e]
    · rename_i e
      rw [posF_neg (l := l), List.mem_cons]
      exact ⟨fun h => not_or.2 ⟨fun h' => e h'.symm, h⟩, fun h h' => h (.inr h')⟩
theorem posF_bd {n : Int} {l : List Int} : -1 ≤ posF n l 0 ∧ posF n l 0 ≤ (l.length : Int) - 1 := by
  have : ∀ (l : List Int) (k : Nat), -1 ≤ posF n l k ∧ posF n l k ≤ ((k + l.length : Nat) : Int) - 1 := by
    intro l
    induction l with
    | nil => intro k; simp [posF]; omega
    | cons x l ih =>
      intro k
      have := ih (k + 1)
      simp only [posF, List.length_cons]
      split <;> omega
  have := this l 0
  simpa using this
theorem selF_rise (c : Nat → Int → Bool) : ∀ (l : List Int) (k : Nat), (selF c (fun k _ => (k : Int)) l k).Pairwise (· < ·)
  | [], _ => .nil
  | x :: l, k => by
    simp only [selF]
    have ih := selF_rise c l (k + 1)
    split
    · refine .cons (fun y hy => ?_) ih
      obtain ⟨j, _, _, _, rfl⟩ := selF_mem hy
      omega
    · exact ih
theorem levL_rise (p : List Int) (L : Int) : (levL p L).Pairwise (· < ·) := selF_rise _ _ _
theorem rise_lt {l : List Int} (h : l.Pairwise (· < ·)) {i j : Nat} (hij : i < j) (hj : j < l.length) : l[i] < l[j] := List.pairwise_iff_getElem.1 h i j (by omega) hj hij
theorem rise_inj {l : List Int} (h : l.Pairwise (· < ·)) {i j : Nat} (hi : i < l.length) (hj : j < l.length) (e : l[i] = l[j]) : i = j := by
  rcases Nat.lt_trichotomy i j with c | c | c
  · have := rise_lt h c hj; omega
  · exact c
  · have := rise_lt h c hi; omega
theorem posF_of {l : List Int} (h : l.Pairwise (· < ·)) {i : Nat} (hi : i < l.length) : posF l[i] l 0 = (i : Int) := by
  have h1 : ¬ posF l[i] l 0 < 0 := fun e => (posF_neg.1 e) (List.getElem_mem hi)
  have h2 := posF_get (l := l) (n := l[i]) (k := 0) (j := (posF l[i] l 0).toNat) (by omega)
  rw [Nat.sub_zero] at h2
  have hj := (List.getElem?_eq_some_iff.1 h2.2).1
  have := rise_inj h hj hi (List.getElem?_eq_some_iff.1 h2.2).2
  omega
theorem l1Find_eq (l : List Int) (n : Int) : sh_spec_l1Find l n = some (posF n l 0) := by
  unfold sh_spec_l1Find
  refine range_mem (I := fun _ _ => True) (G := fun l k _ => some (posF n l k)) (fun _ _ _ _ => rfl) ?_ () trivial
  intro x l' k _ next hx _ _ hn
  simp only [posF]
  by_cases e : x = n
  · simp [e]
  · simp only [e, decide_false, Bool.false_eq_true, if_false]; exact hn () trivial
end AS
namespace AS
/-! ### Values and their numbers -/
theorem pow8 {k : Nat} (h : k ≤ 6) : (1 : Int) ≤ 8 ^ k ∧ (8 : Int) ^ k ≤ 262144 := by
  have : k = 0 ∨ k = 1 ∨ k = 2 ∨ k = 3 ∨ k = 4 ∨ k = 5 ∨ k = 6 := by omega
  rcases this with rfl | rfl | rfl | rfl | rfl | rfl | rfl <;> decide
theorem num_step {acc x y : Int} {k : Nat} (hk : k + 1 ≤ 6) (h0 : 0 ≤ acc) (h1 : acc < 8 ^ k) (hx : 2 ≤ x ∧ x ≤ 8) (hy : 0 ≤ y ∧ y < x) : 0 ≤ acc * x ∧ acc * x + y < 8 ^ (k + 1) ∧ (8 : Int) ^ (k + 1) ≤ 262144 := by
  have hp := pow8 hk
  have hm0 : 0 ≤ acc * x := Int.mul_nonneg h0 (by omega)
  have hm1 : acc * x ≤ (8 ^ k - 1) * x := Int.mul_le_mul_of_nonneg_right (by omega) (by omega)
  have hm2 : (8 : Int) ^ (k + 1) = 8 ^ k * 8 := Int.pow_succ ..
  have hm3 : (8 : Int) ^ k * x ≤ 8 ^ k * 8 := Int.mul_le_mul_of_nonneg_left (by omega) (by have := pow8 (show k ≤ 6 by omega); omega)
  rw [Int.sub_mul, Int.one_mul] at hm1
  omega
theorem sIndex_eq {s : List XVariable} {a : List Int} (h : Vs s) (ha : valB s a = true) : sh_spec_sIndex s a = some (numV s a) := by
  unfold sh_spec_sIndex
  have hl := h.len
  have hal := valB_len ha
  refine (range_mem (I := fun k acc => 0 ≤ acc ∧ acc < 8 ^ k) (G := fun l k acc => some (acc * prodV l + numV l (a.drop k))) ?_ ?_ 0 ⟨by omega, by simp⟩).trans (by simp)
  · intro k acc _ _
    simp [prodV, numV]
  · intro x l' k acc next hx hd hi hn
    have hk := (List.getElem?_eq_some_iff.1 hx).1
    have hka : k < a.length := by omega
    have hxx := h.lev x (List.mem_of_getElem? hx)
    have hy := valB_get ha (List.getElem?_eq_getElem hka) hx
    have hst := num_step (show k + 1 ≤ 6 by omega) hi.1 hi.2 hxx hy
    rw [ckI_pos (by omega) (by omega), getO_nat hka, ckI_pos (by omega) (by omega), hn _ ⟨by omega, by omega⟩]
    rw [List.drop_eq_getElem_cons hka]
    simp only [prodV, numV, Option.some.injEq]
    rw [Int.add_mul, Int.mul_assoc, Int.add_assoc]
theorem indexOfValues_eq {s : List XVariable} {a : List Int} (h : Vs s) (ha : valB s a = true) : sh_impl_indexOfValues s a = some (numV s a) := by
  unfold sh_impl_indexOfValues
  have hl := h.len
  have hal := valB_len ha
  refine (range_mem (I := fun k acc => 0 ≤ acc ∧ acc < 8 ^ k) (G := fun l k acc => some (acc * prodV (s.drop k) + numV (s.drop k) l)) ?_ ?_ 0 ⟨by omega, by simp⟩).trans (by simp)
  · intro k acc _ hk
    rw [List.drop_of_length_le (by omega)]
    simp [prodV, numV]
  · intro y l' k acc next hy hd hi hn
    have hk := (List.getElem?_eq_some_iff.1 hy).1
    have hks : k < s.length := by omega
    have hxx := h.get hks
    have hyy := valB_get ha hy (List.getElem?_eq_getElem hks)
    have hst := num_step (show k + 1 ≤ 6 by omega) hi.1 hi.2 hxx hyy
    rw [getO_nat hks, ckI_pos (by omega) (by omega), ckI_pos (by omega) (by omega), hn _ ⟨by omega, by omega⟩]
    rw [List.drop_eq_getElem_cons hks]
    simp only [prodV, numV, Option.some.injEq]
    rw [Int.add_mul, Int.mul_assoc, Int.add_assoc]
/-! ### A search in an ordered list -/
theorem cut_ex {v : Int} : ∀ {l : List Int}, l.Pairwise (· < ·) → ∃ c, c ≤ l.length ∧ ∀ j (hj : j < l.length), l[j] < v ↔ j < c
  | [], _ => ⟨0, Nat.le_refl _, fun j hj => absurd hj (Nat.not_lt_zero _)⟩
  | x :: l, h => by
    by_cases hx : x < v
    · obtain ⟨c, h1, h2⟩ := cut_ex (v := v) (List.pairwise_cons.1 h).2
      refine ⟨c + 1, by simpa using h1, fun j hj => ?_⟩
      cases j with
      | zero => simpa using hx
      | succ j => simp only [List.getElem_cons_succ]; rw [h2 j (by simpa using hj)]; omega
    · refine ⟨0, Nat.zero_le _, fun j hj => ?_⟩
      cases j with
      | zero => simpa using hx
      | succ j =>
        have := (List.pairwise_cons.1 h).1 (l[j]'(by simpa using hj)) (List.getElem_mem _)
        simp only [List.getElem_cons_succ]
        omega
theorem cmpLess_eq (a b : Int) : sh_cmp_Less_int a b = some (decide (a < b)) := by
  unfold sh_cmp_Less_int sh_cmp_isNaN_int
  simp
theorem binSearch_eq {l : List Int} {v : Int} (h : l.Pairwise (· < ·)) (hl : l.length ≤ 1099511627776) : ∃ i : Int, sh_slices_BinarySearch_int l v = some (i, hasB l v) ∧ (hasB l v = true → i = posF v l 0) := by
  obtain ⟨c, hc, hcut⟩ := cut_ex (v := v) h
  have hfin : hasB l v = true ↔ ∃ h : c < l.length, l[c] = v := by
    rw [hasB_iff]
    constructor
    · intro hm
      obtain ⟨j, hj, e⟩ := List.mem_iff_getElem.1 hm
      have h1 : ¬ j < c := fun hlt => by have := (hcut j hj).2 hlt; omega
      have h2 : j = c := by
        rcases Nat.lt_trichotomy j c with q | q | q
        · exact absurd q h1
        · exact q
        · have := rise_lt h q hj
          have h3 : ¬ (l[c]'(by omega) < v) := fun q2 => by have := (hcut c (by omega)).1 q2; omega
          omega
      subst h2; exact ⟨hj, e⟩
    · rintro ⟨h1, rfl⟩; exact List.getElem_mem _
  refine ⟨(c : Int), ?_, fun hm => ?_⟩
  · unfold sh_slices_BinarySearch_int
    refine loopF_eq (I := fun s : Int × Int => ∃ a b : Nat, s = ((a : Int), (b : Int)) ∧ a ≤ c ∧ c ≤ b ∧ b ≤ l.length) (mu := fun s => (s.2 - s.1).toNat) (F := fun _ => some ((c : Int), hasB l v)) ?_ FUEL _ ⟨0, l.length, rfl, by omega, hc, Nat.le_refl _⟩ (FUEL_big (by simp; omega))
    rintro s next ⟨a, b, rfl, h1, h2, h3⟩ hn
    by_cases hab : a < b
    · simp only [show decide (((a : Nat) : Int) < ((b : Nat) : Int)) = true by (simp; omega), if_true]
      have e1 : ((a : Int) + (b : Int)) / 2 ^ ((1 : Int)).toNat = (((a + b) / 2 : Nat) : Int) := by
        have : (2 : Int) ^ ((1 : Int)).toNat = 2 := by decide
        rw [this]; omega
      have hm1 : a ≤ (a + b) / 2 := by omega
      have hm2 : (a + b) / 2 < b := by omega
      rw [ckI_pos (by omega) (by omega), ckK_u64 (by omega) (by omega), ck_pos (by omega), e1, ckI_pos (by omega) (by omega), getO_nat (show (a + b) / 2 < l.length by omega), cmpLess_eq, Option.bind_some]
      have hq := hcut ((a + b) / 2) (by omega)
      by_cases hlt : l[(a + b) / 2] < v
      · have := hq.1 hlt
        simp only [hlt, decide_true, if_true]
        rw [ckI_succ (by omega)]
        exact hn _ ⟨(a + b) / 2 + 1, b, by simp, by omega, h2, h3⟩ (by simp; omega)
      · have : ¬ ((a + b) / 2 < c) := fun q => hlt (hq.2 q)
        simp only [hlt, decide_false, Bool.false_eq_true, if_false]
        exact hn _ ⟨a, (a + b) / 2, rfl, by omega, by omega, by omega⟩ (by simp; omega)
    · have hca : a = c := by omega
      subst hca
      simp only [show decide (((a : Nat) : Int) < ((b : Nat) : Int)) = false by (simp; omega), Bool.false_eq_true, if_false]
      by_cases hal : a < l.length
      · simp only [show decide (((a : Nat) : Int) < ((l.length : Nat) : Int)) = true by (simp; omega), if_true]
        rw [getO_nat hal]
        by_cases he : l[a] = v
        · rw [hfin.2 ⟨hal, he⟩]; simp [he]
        · have : hasB l v = false := by
            cases hb : hasB l v with
            | false => rfl
            | true => exact absurd (hfin.1 hb).2 he
          rw [this]; simp [he, sh_slices_isNaN_int]
      · have : hasB l v = false := by
          cases hb : hasB l v with
          | false => rfl
          | true => exact absurd (hfin.1 hb).1 hal
        simp [this, hal]
  · obtain ⟨h1, rfl⟩ := hfin.1 hm
    exact (posF_of h h1).symm
/-! ### The cell of an index -/
/-! ### The index of a cell -/
def idxC (g : XGeo) (s : List XVariable) (t : XTable) (a : Int) (v : List Int) : Int := posF a (levL g.Parents t.Level) 0 * prodV (partV s t.Vars) + numV (partV s t.Vars) v
theorem idxC_bd {g : XGeo} {s : List XVariable} {t : XTable} (ht : Tab g s t) {a : Int} {v : List Int} (hv : valB (partV s t.Vars) v = true) (ha : hasB (levL g.Parents t.Level) a = true) :
    0 ≤ posF a (levL g.Parents t.Level) 0 ∧ 0 ≤ posF a (levL g.Parents t.Level) 0 * prodV (partV s t.Vars) ∧ 0 ≤ numV (partV s t.Vars) v ∧ numV (partV s t.Vars) v < prodV (partV s t.Vars) ∧ idxC g s t a v < cntT g s t := by
  have hp := ht.p.bd
  have hn := numV_bd ht.p.vs (a := v) (by simp only [valB, Bool.and_eq_true] at hv; exact hv.2)
  have h0 : 0 ≤ posF a (levL g.Parents t.Level) 0 := by
    have := (posF_neg (n := a) (l := levL g.Parents t.Level) (k := 0))
    have hm := hasB_iff.1 ha
    rcases Int.lt_or_le (posF a (levL g.Parents t.Level) 0) 0 with q | q
    · exact absurd hm (this.1 q)
    · exact q
  have h1 := (posF_bd (n := a) (l := levL g.Parents t.Level)).2
  have h2 : 0 ≤ posF a (levL g.Parents t.Level) 0 * prodV (partV s t.Vars) := Int.mul_nonneg h0 (by omega)
  have h3 : posF a (levL g.Parents t.Level) 0 * prodV (partV s t.Vars) ≤ (((levL g.Parents t.Level).length : Int) - 1) * prodV (partV s t.Vars) := Int.mul_le_mul_of_nonneg_right h1 (by omega)
  rw [Int.sub_mul, Int.one_mul] at h3
  refine ⟨h0, h2, hn.1, hn.2, ?_⟩
  unfold idxC cntT
  omega
theorem cellIndex_eq {g : XGeo} {s : List XVariable} {t : XTable} (ht : Tab g s t) {a : Int} {v : List Int} (hv : valB (partV s t.Vars) v = true) :
    sh_impl_cellIndex g s t a v = some (if hasB (levL g.Parents t.Level) a = true then idxC g s t a v else -1) := by
  unfold sh_impl_cellIndex
  have hl := levL_len g.Parents t.Level
  have hgn := (geoB_ok ht.geo).n2
  obtain ⟨i, h1, h2⟩ := binSearch_eq (v := a) (levL_rise g.Parents t.Level) (by omega)
  rw [areasAt_eq ht.ok, Option.bind_some, h1, Option.bind_some]
  cases ha : hasB (levL g.Parents t.Level) a with
  | false => rfl
  | true =>
    have hb := idxC_bd ht hv ha
    have hc := cntT_bd ht.geo ht.p
    have hi := h2 ha
    unfold idxC at hb
    subst hi
    simp only [Bool.not_true, Bool.false_eq_true, if_false, if_true]
    rw [ht.p.cross, Option.bind_some, ht.p.comb, Option.bind_some, ckI_pos (by omega) (by omega), indexOfValues_eq ht.p.vs hv, Option.bind_some, ckI_pos (by omega) (by omega)]
    rfl
/-! ### Plans -/
end AS
namespace AS
/-! ### Leaves below an area -/
theorem upR_nn {p : List Int} {i : Nat} {L : Int} : 0 ≤ upR p i L ↔ 0 ≤ L ∧ L ≤ ((dep p i : Nat) : Int) := by
  unfold upR
  split
  · rename_i h; exact ⟨fun _ => h, fun _ => by omega⟩
  · rename_i h; exact ⟨fun q => by omega, fun q => absurd q h⟩
theorem Tab.lev {g : XGeo} {s : List XVariable} {t : XTable} (h : Tab g s t) : ∃ i, i < g.Parents.length ∧ ((dep g.Parents i : Nat) : Int) = t.Level := by
  cases hl : levL g.Parents t.Level with
  | nil => exact absurd hl h.ne
  | cons x l =>
    obtain ⟨i, h1, _, h2⟩ := levL_mem.1 (show x ∈ levL g.Parents t.Level by rw [hl]; exact List.mem_cons_self)
    exact ⟨i, h1, h2⟩
/-! ### What a table takes of a variable -/
/-! ### The greatest amount -/
theorem Tab.sum {g : XGeo} {s : List XVariable} {t : XTable} (ht : Tab g s t) (h : ¬ t.Sum < 0) : t.Sum.toNat < s.length ∧ ((t.Sum.toNat : Nat) : Int) = t.Sum ∧ t.Sum.toNat < t.Where.length := by
  have h1 := ht.s1
  have h2 := whB_len ht.w
  omega
end AS
namespace AS
/-! ### The cell of a record -/
theorem valF_of : ∀ {s : List XVariable} {a : List Int}, (∀ (k : Nat) (x : Int) (v : XVariable), a[k]? = some x → s[k]? = some v → 0 ≤ x ∧ x < v.Levels) → valF s a = true
  | [], _, _ => by simp [valF]
  | _ :: _, [], _ => by simp [valF]
  | v :: s, x :: a, h => by
    have h0 := h 0 x v rfl rfl
    simp only [valF, Bool.and_eq_true, decide_eq_true_eq]
    exact ⟨h0, valF_of fun k y u h1 h2 => h (k + 1) y u (by simpa using h1) (by simpa using h2)⟩
theorem pick_val {s : List XVariable} {l a : List Int} (h : Part s l) (ha : valB s a = true) : dimsOk a l ∧ valB (partV s l) (subL a l) = true := by
  have hl := valB_len ha
  refine ⟨fun d hd => by have := h.rng d hd; omega, ?_⟩
  simp only [valB, Bool.and_eq_true, decide_eq_true_eq]
  refine ⟨by rw [partV_len]; simp [subL], valF_of fun k x v h1 h2 => ?_⟩
  simp only [subL, partV, List.getElem?_map, Option.map_eq_some_iff] at h1 h2
  obtain ⟨d, h3, rfl⟩ := h1
  obtain ⟨d', h4, rfl⟩ := h2
  rw [h3] at h4
  obtain rfl : d = d' := by simpa using h4
  have hr := h.rng d (List.mem_of_getElem? h3)
  have h5 : d.toNat < a.length := by omega
  have h6 : d.toNat < s.length := by omega
  rw [getD_get h5, getD_get h6]
  exact valB_get ha (List.getElem?_eq_getElem h5) (List.getElem?_eq_getElem h6)
theorem up_lev {p : List Int} (h : GeoOk p) {i : Nat} (hi : i < p.length) {L : Int} (hu : ¬ upR p i L < 0) : hasB (levL p L) (upR p i L) = true := by
  have hn := (upR_nn (p := p) (i := i) (L := L)).1 (by omega)
  rw [hasB_iff, levL_mem]
  have ha := anc_dep h (dep p i - L.toNat) i hi (by omega)
  refine ⟨ancF p (dep p i - L.toNat) i, ha.1, ?_, by rw [ha.2]; omega⟩
  unfold upR; rw [if_pos hn]
def amtF (t : XTable) (a : List Int) : Int := if t.Sum < 0 then 1 else a.getD t.Sum.toNat 0
def conF (g : XGeo) (s : List XVariable) (t : XTable) (r : XRecord) : Int × Int :=
  if upR g.Parents r.Area.toNat t.Level < 0 then (-1, 0) else if meetB t.Where r.Values = false then (-1, 0) else
    (idxC g s t (upR g.Parents r.Area.toNat t.Level) (subL r.Values t.Vars), amtF t r.Values)
theorem amtF_bd {g : XGeo} {s : List XVariable} {t : XTable} (ht : Tab g s t) {a : List Int} (ha : valB s a = true) : 0 ≤ amtF t a ∧ amtF t a ≤ 8 := by
  unfold amtF
  split
  · omega
  · rename_i h
    obtain ⟨hk, he, hkw⟩ := ht.sum h
    have hl := valB_len ha
    have h5 : t.Sum.toNat < a.length := by omega
    have h1 := valB_get ha (List.getElem?_eq_getElem h5) (List.getElem?_eq_getElem hk)
    have h2 := schB_lev ht.sch (List.getElem_mem hk)
    rw [getD_get h5]; omega
theorem leafB_rng {p : List Int} {i : Int} (h : leafB p i = true) : i.toNat < p.length ∧ ((i.toNat : Nat) : Int) = i := by
  simp only [leafB, Bool.and_eq_true, decide_eq_true_eq] at h; omega
theorem conF_bd {g : XGeo} {s : List XVariable} {t : XTable} {r : XRecord} (ht : Tab g s t) (hr : recB s r = true) (hl : leafB g.Parents r.Area = true) :
    -1 ≤ (conF g s t r).1 ∧ (conF g s t r).1 < cntT g s t ∧ 0 ≤ (conF g s t r).2 ∧ (conF g s t r).2 ≤ 8 := by
  obtain ⟨hi, he⟩ := leafB_rng hl
  have hv := recB_val hr
  have hc := cntT_bd ht.geo ht.p
  unfold conF
  split
  · simp; omega
  · rename_i h1
    split
    · simp; omega
    · have hp := pick_val ht.p hv
      have hb := idxC_bd ht hp.2 (up_lev ht.ok hi h1)
      have ha := amtF_bd ht hv
      refine ⟨?_, hb.2.2.2.2, ha.1, ha.2⟩
      unfold idxC; simp only; omega
theorem uCell_eq {g : XGeo} {s : List XVariable} {t : XTable} {r : XRecord} (ht : Tab g s t) (hr : recB s r = true) (hl : leafB g.Parents r.Area = true) : sh_spec_uCell g s t r = some (conF g s t r) := by
  obtain ⟨hi, he⟩ := leafB_rng hl
  have hv := recB_val hr
  unfold sh_spec_uCell conF
  have hu := gUp_eq ht.ok hi t.Level
  rw [he] at hu
  rw [hu, Option.bind_some]
  by_cases h1 : upR g.Parents r.Area.toNat t.Level < 0
  · simp [h1]
  · simp only [h1, decide_false, Bool.false_eq_true, if_false]
    rw [uMeets_eq ht.sch ht.w hv, Option.bind_some]
    cases hm : meetB t.Where r.Values with
    | false => rfl
    | true =>
      have hp := pick_val ht.p hv
      have hb := idxC_bd ht hp.2 (up_lev ht.ok hi h1)
      have hc := cntT_bd ht.geo ht.p
      have hlen := ht.p.len
      unfold idxC at hb ⊢
      simp only [Bool.not_true, Bool.false_eq_true, if_false, Bool.true_eq_false]
      rw [ht.p.part, Option.bind_some, gLevel_eq ht.ok, Option.bind_some, l1Find_eq, Option.bind_some, ht.p.count, Option.bind_some, ckI_pos (by omega) (by omega),
        sPick_eq hp.1 (by omega), Option.bind_some, sIndex_eq ht.p.vs hp.2, Option.bind_some, ckI_pos (by omega) (by omega)]
      unfold amtF
      by_cases hs : t.Sum < 0
      · simp [hs]
      · obtain ⟨hk, he2, hkw⟩ := ht.sum hs
        have h5 : t.Sum.toNat < r.Values.length := by rw [valB_len hv]; exact hk
        simp only [hs, decide_false, Bool.false_eq_true, if_false]
        rw [getO_pos (by omega) h5, getD_get h5]
theorem contribution_eq {g : XGeo} {s : List XVariable} {t : XTable} {r : XRecord} (ht : Tab g s t) (hr : recB s r = true) (hl : leafB g.Parents r.Area = true) : sh_impl_contribution g s t r = some (conF g s t r) := by
  obtain ⟨hi, he⟩ := leafB_rng hl
  have hv := recB_val hr
  unfold sh_impl_contribution conF
  have hu := ancestorAt_eq ht.ok hi t.Level
  rw [he] at hu
  rw [hu, Option.bind_some]
  by_cases h1 : upR g.Parents r.Area.toNat t.Level < 0
  · simp [h1]
  · simp only [h1, decide_false, Bool.false_eq_true, if_false]
    rw [meetsWhere_eq ht.sch ht.w hv, Option.bind_some]
    cases hm : meetB t.Where r.Values with
    | false => rfl
    | true =>
      have hp := pick_val ht.p hv
      have hlen := ht.p.len
      simp only [Bool.not_true, Bool.false_eq_true, if_false, Bool.true_eq_false]
      rw [mkO_pos (by omega) (by omega), Int.toNat_natCast]
      have hz : (subL r.Values t.Vars).length = (List.replicate t.Vars.length (0 : Int)).length := by simp [subL]
      refine range_mem (I := fun k a => a = mixL (subL r.Values t.Vars) (List.replicate t.Vars.length (0 : Int)) k) (G := fun _ _ _ => some (idxC g s t (upR g.Parents r.Area.toNat t.Level) (subL r.Values t.Vars), amtF t r.Values)) ?_ ?_ _ (mixL_zero _ _).symm
      · intro k a ha hk
        subst ha
        have := mixL_end hz
        rw [subL_len] at this
        rw [hk, this, cellIndex_eq ht hp.2, up_lev ht.ok hi h1]
        unfold amtF
        by_cases hs : t.Sum < 0
        · simp [hs, show ¬ (0 ≤ t.Sum) by omega]
        · obtain ⟨hk, he2, hkw⟩ := ht.sum hs
          have h5 : t.Sum.toNat < r.Values.length := by rw [valB_len hv]; exact hk
          simp only [hs, show (0 ≤ t.Sum) by omega, decide_true, if_true, if_false]
          rw [getO_pos (by omega) h5, getD_get h5]; rfl
      · intro x l' k a next hx _ ha hn
        subst ha
        have hk := (List.getElem?_eq_some_iff.1 hx).1
        have hxb := hp.1 x (List.mem_of_getElem? hx)
        have hlt : x.toNat < r.Values.length := by omega
        rw [getO_pos hxb.1 hlt, getO_some (mixL_get hz (by simpa using hk))]
        refine hn _ ?_
        rw [Int.toNat_natCast, ← mixL_set hz (by rw [subL_len]; exact hk)]
        congr 1
        simp only [subL, List.getElem_map, (List.getElem?_eq_some_iff.1 hx).2, getD_get hlt]
/-! ### The records of a cell -/
theorem survB_get {g : XGeo} {s : List XVariable} {l : List XRecord} (h : survB g s l = true) {r : XRecord} (hr : r ∈ l) : recB s r = true ∧ leafB g.Parents r.Area = true := by
  simp only [survB, Bool.and_eq_true] at h
  refine ⟨dataB_get h.1 hr, ?_⟩
  obtain ⟨k, hk⟩ := List.getElem?_of_mem hr
  have := not_anyF h.2 hk
  simpa using this
theorem survB_len {g : XGeo} {s : List XVariable} {l : List XRecord} (h : survB g s l = true) : l.length ≤ 40 := by
  simp only [survB, Bool.and_eq_true] at h; exact dataB_len h.1
/-! ### The table of a survey -/
def addF (g : XGeo) (s : List XVariable) (t : XTable) (_ : Nat) (r : XRecord) (a : List Int) : List Int :=
  if 0 ≤ (conF g s t r).1 then a.set (conF g s t r).1.toNat (a.getD (conF g s t r).1.toNat 0 + (conF g s t r).2) else a
def tabL (g : XGeo) (s : List XVariable) (t : XTable) (l : List XRecord) : List Int := foldF (addF g s t) l 0 (List.replicate (cntT g s t).toNat 0)
def tabI (n : Nat) (k : Nat) (a : List Int) : Prop := a.length = n ∧ ∀ x ∈ a, 0 ≤ x ∧ x ≤ 8 * (k : Int)
theorem addF_inv {g : XGeo} {s : List XVariable} {t : XTable} {r : XRecord} (ht : Tab g s t) (hr : recB s r = true) (hl : leafB g.Parents r.Area = true) {k : Nat} {a : List Int} (h : tabI (cntT g s t).toNat k a) : tabI (cntT g s t).toNat (k + 1) (addF g s t k r a) := by
  have hb := conF_bd ht hr hl
  obtain ⟨h1, h2⟩ := h
  unfold addF
  split
  · rename_i h0
    have hlt : (conF g s t r).1.toNat < a.length := by omega
    refine ⟨by simpa using h1, fun x hx => ?_⟩
    have h3 := h2 _ (List.getElem_mem hlt)
    rw [getD_get hlt] at hx
    rcases List.mem_or_eq_of_mem_set hx with hx | rfl
    · have := h2 x hx; omega
    · omega
  · exact ⟨h1, fun x hx => by have := h2 x hx; omega⟩
theorem tab0 (n : Nat) : tabI n 0 (List.replicate n 0) := ⟨by simp, fun x hx => by have := List.eq_of_mem_replicate hx; omega⟩
theorem uTable_eq {g : XGeo} {s : List XVariable} {t : XTable} {l : List XRecord} (ht : Tab g s t) (hu : survB g s l = true) : sh_spec_uTable g s t l = some (tabL g s t l) := by
  unfold sh_spec_uTable tabL
  have hc := cntT_bd ht.geo ht.p
  have hlen := survB_len hu
  rw [uCount_eq ht.geo ht.p, Option.bind_some, mkO_pos (by omega) (by omega)]
  refine range_fold (I := fun k a => tabI (cntT g s t).toNat k a) (f := addF g s t) (tab0 _) (fun r k a hx hI => ?_) (fun r k a next hx hI => ?_)
  · have hg := survB_get hu (List.mem_of_getElem? hx)
    exact addF_inv ht hg.1 hg.2 hI
  · have hg := survB_get hu (List.mem_of_getElem? hx)
    have hk := (List.getElem?_eq_some_iff.1 hx).1
    have hb := conF_bd ht hg.1 hg.2
    rw [uCell_eq ht hg.1 hg.2, Option.bind_some]
    unfold addF
    by_cases h0 : 0 ≤ (conF g s t r).1
    · have hlt : (conF g s t r).1.toNat < a.length := by have := hI.1; omega
      have h3 := hI.2 _ (List.getElem_mem hlt)
      simp only [h0, decide_true, if_true]
      rw [getO_pos h0 hlt, ckI_pos (by omega) (by omega), getD_get hlt]
    · simp only [h0, decide_false, Bool.false_eq_true, if_false]
theorem tableOf_eq {g : XGeo} {s : List XVariable} {t : XTable} {l : List XRecord} (ht : Tab g s t) (hu : survB g s l = true) : sh_impl_tableOf g s t l = some (tabL g s t l) := by
  unfold sh_impl_tableOf tabL
  have hc := cntT_bd ht.geo ht.p
  have hlen := survB_len hu
  rw [cellCount_eq ht.geo ht.p, Option.bind_some, mkO_pos (by omega) (by omega)]
  refine range_fold (I := fun k a => tabI (cntT g s t).toNat k a) (f := addF g s t) (tab0 _) (fun r k a hx hI => ?_) (fun r k a next hx hI => ?_)
  · have hg := survB_get hu (List.mem_of_getElem? hx)
    exact addF_inv ht hg.1 hg.2 hI
  · have hg := survB_get hu (List.mem_of_getElem? hx)
    have hk := (List.getElem?_eq_some_iff.1 hx).1
    have hb := conF_bd ht hg.1 hg.2
    rw [contribution_eq ht hg.1 hg.2, Option.bind_some]
    unfold addF
    by_cases h0 : 0 ≤ (conF g s t r).1
    · have hlt : (conF g s t r).1.toNat < a.length := by have := hI.1; omega
      have h3 := hI.2 _ (List.getElem_mem hlt)
      simp only [h0, decide_true, if_true]
      rw [getO_pos h0 hlt, ckI_pos (by omega) (by omega), getD_get hlt]
    · simp only [h0, decide_false, Bool.false_eq_true, if_false]
theorem tabL_inv {g : XGeo} {s : List XVariable} {t : XTable} {l : List XRecord} (ht : Tab g s t) (hu : survB g s l = true) : tabI (cntT g s t).toNat l.length (tabL g s t l) := by
  have := foldF_inv (f := addF g s t) (fun k a => tabI (cntT g s t).toNat k a) (l := l) (k := 0) (s := List.replicate (cntT g s t).toNat 0) (tab0 _) (fun j r a hx hI => by
    have hg := survB_get hu (List.mem_of_getElem? hx)
    exact addF_inv ht hg.1 hg.2 hI)
  simpa [tabL] using this
/-! ### Base tables -/
end AS
