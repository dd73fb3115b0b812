/- Plain lemmas, and the law. No condition. -/
import Derived.Test.YtpllepipjbiefaaDoorQParseEditS
import Derived.Test.YtpllepipjbiefaaDoorQParseEditM0
import Derived.Lib.Join
set_option linter.unusedVariables false
set_option linter.unusedSimpArgs false
namespace AS
theorem splA_join (sep : UInt8) : ∀ (x cur : List UInt8), ∃ a l, splA sep cur x = a :: l ∧ a ++ flT sep l = cur ++ x
  | [], cur => ⟨cur, [], rfl, by simp [flT]⟩
  | c :: x, cur => by
    simp only [splA]
    by_cases h : c = sep
    · obtain ⟨a, l, e1, e2⟩ := splA_join sep x []
      rw [if_pos h, e1]
      exact ⟨cur, a :: l, rfl, by rw [flT_cons, e2, h]; simp⟩
    · obtain ⟨a, l, e1, e2⟩ := splA_join sep x (cur ++ [c])
      rw [if_neg h]
      exact ⟨a, l, e1, by rw [e2]; simp⟩
theorem itc_splA (sep : UInt8) (x : List UInt8) : itc [sep] (splA sep [] x) = x := by
  obtain ⟨a, l, e1, e2⟩ := splA_join sep x []
  rw [e1, itc_cons, e2]; rfl
/-! ### A set of levels, read back -/
def lvA (n m : Nat) : List Int := (lev8 m).filter fun d => decide ((n : Int) ≤ d)
theorem lvA_zero (m : Nat) : lvA 0 m = lev8 m := by
  unfold lvA
  refine List.filter_eq_self.2 fun d hd => ?_
  obtain ⟨i, _, _, rfl⟩ := lev8_mem.1 hd
  exact decide_eq_true (by omega)
theorem lvA_end : ∀ n : Nat, n < 9 → ∀ a : Nat, a < 2 ^ n → lvA n a = [] := by decide +kernel
theorem lvA_nextB : ∀ m : Nat, m < 256 → ∀ k : Nat, k < 8 → ∀ n : Nat, n < k + 1 → (!(decide (m % 2 ^ (k + 1) % 2 ^ k < 2 ^ n) && decide (2 ^ k ≤ m % 2 ^ (k + 1))) || decide (lvA n m = (k : Int) :: lvA (k + 1) m)) = true := by decide +kernel
theorem lvA_next (m : Nat) (h0 : m < 256) (k : Nat) (h1 : k < 8) (n : Nat) (h2 : n < k + 1) (h3 : m % 2 ^ (k + 1) % 2 ^ k < 2 ^ n) (h4 : 2 ^ k ≤ m % 2 ^ (k + 1)) : lvA n m = (k : Int) :: lvA (k + 1) m := by
  have := lvA_nextB m h0 k h1 n h2
  rw [decide_eq_true h3, decide_eq_true h4] at this
  simpa using this
theorem or_mod : ∀ k : Nat, k < 8 → ∀ n : Nat, n < k + 1 → ∀ a : Nat, a < 2 ^ n → (a ||| 2 ^ k) % 2 ^ k = a ∧ (a ||| 2 ^ k) % 2 ^ n = a ∧ a ||| 2 ^ k < 2 ^ (k + 1) ∧ 2 ^ k ≤ a ||| 2 ^ k := by decide +kernel
theorem mod_two {m k n : Nat} (h : n ≤ k) : m % 2 ^ k % 2 ^ n = m % 2 ^ n := Nat.mod_mod_of_dvd _ (Nat.pow_dvd_pow 2 h)
theorem pset_nn {L : Int} : ∀ {P : List (List UInt8)} {a b : Int}, 0 ≤ a → 0 ≤ pset L P a b
  | [], a, b, h => h
  | p :: r, a, b, h => by
    simp only [pset]
    split
    · omega
    · split
      · omega
      · split
        · omega
        · exact pset_nn (by omega)
theorem dg_chr {c : UInt8} {k : Nat} (h : ((c.toNat : Nat) : Int) - 48 = (k : Int)) (hk : k < 8) : [c] = dgT k := by
  unfold dgT
  rw [if_pos (by omega)]
  have := decC (c := c) (by omega) (by omega)
  rw [show c.toNat - 48 = k by omega] at this
  rw [this]
theorem pset_snd {L : Nat} (hL : L ≤ 8) : ∀ {P : List (List UInt8)} {a n m : Nat}, n ≤ L → a < 2 ^ n → pset (L : Int) P (a : Int) ((n : Int) - 1) = (m : Int) → m ≠ 0 →
    P = (lvA n m).map (fun x => dgT x.toNat) ∧ m % 2 ^ n = a ∧ m < 2 ^ L
  | [], a, n, m, hn, ha, h, h0 => by
    have e : a = m := by simp only [pset] at h; omega
    subst e
    have hp : 2 ^ n ≤ 2 ^ L := Nat.pow_le_pow_right (by omega) hn
    exact ⟨by rw [lvA_end n (by omega) a ha]; rfl, Nat.mod_eq_of_lt ha, by omega⟩
  | p :: r, a, n, m, hn, ha, h, h0 => by
    by_cases c1 : p.length = 1
    · obtain ⟨c, rfl⟩ : ∃ c, p = [c] := List.length_eq_one_iff.1 c1
      rw [pset_one] at h
      by_cases c2 : ((c.toNat : Nat) : Int) - 48 ≤ (n : Int) - 1
      · rw [if_pos c2] at h; omega
      · by_cases c3 : (L : Int) ≤ ((c.toNat : Nat) : Int) - 48
        · rw [if_neg c2, if_pos c3] at h; omega
        · obtain ⟨k, hk⟩ : ∃ k : Nat, ((c.toNat : Nat) : Int) - 48 = (k : Int) := ⟨c.toNat - 48, by omega⟩
          rw [if_neg c2, if_neg c3, hk, Int.toNat_natCast, Int.toNat_natCast] at h
          rw [hk] at c2 c3
          obtain ⟨o1, o2, o3, o4⟩ := or_mod k (by omega) n (by omega) a ha
          obtain ⟨h1, h2, h3⟩ := pset_snd hL (P := r) (a := a ||| 2 ^ k) (n := k + 1) (m := m) (by omega) o3 (by rw [show ((k + 1 : Nat) : Int) - 1 = (k : Int) by omega]; exact h) h0
          have hm : m < 256 := by
            have : 2 ^ L ≤ 2 ^ 8 := Nat.pow_le_pow_right (by omega) hL
            omega
          refine ⟨?_, ?_, h3⟩
          · rw [lvA_next m hm k (by omega) n (by omega) (by rw [h2, o1]; exact ha) (by rw [h2]; exact o4), List.map_cons, ← h1, Int.toNat_natCast, dg_chr hk (by omega)]
          · rw [← mod_two (show n ≤ k + 1 by omega), h2, o2]
    · rw [pset_bad c1] at h; omega
theorem pset_sound {v : XVariable} (hv : 2 ≤ v.Levels ∧ v.Levels ≤ 8) {x : List UInt8} (h : pset v.Levels (splA 44 [] x) 0 (-1) ≠ 0) :
    x = setT (pset v.Levels (splA 44 [] x) 0 (-1)).toNat ∧ 1 ≤ pset v.Levels (splA 44 [] x) 0 (-1) ∧ pset v.Levels (splA 44 [] x) 0 (-1) ≤ full v := by
  have hn := pset_nn (L := v.Levels) (P := splA 44 [] x) (a := 0) (b := -1) (by omega)
  obtain ⟨m, hm⟩ : ∃ m : Nat, pset v.Levels (splA 44 [] x) 0 (-1) = (m : Int) := ⟨_, (Int.toNat_of_nonneg hn).symm⟩
  obtain ⟨L, hL⟩ : ∃ L : Nat, v.Levels = (L : Int) := ⟨_, (Int.toNat_of_nonneg (by omega)).symm⟩
  rw [hm] at h ⊢
  rw [hL] at hm
  obtain ⟨h1, h2, h3⟩ := pset_snd (L := L) (by omega) (P := splA 44 [] x) (a := 0) (n := 0) (m := m) (by omega) (by decide) hm (by omega)
  refine ⟨?_, by omega, ?_⟩
  · rw [Int.toNat_natCast]
    unfold setT
    rw [← lvA_zero, ← h1, itc_splA]
  · unfold full
    rw [hL, Int.toNat_natCast]
    have hp : (2 : Int) ^ L = ((2 ^ L : Nat) : Int) := by simp
    rw [hp]; omega
/-! ### The program's reading -/
theorem findI_nm {n : List UInt8} : ∀ {l : List XVariable} {k : Nat}, 0 ≤ findI l n k → ∃ j v, findI l n k = ((k + j : Nat) : Int) ∧ l[j]? = some v ∧ v.Name = n
  | [], k, h => by simp [findI] at h
  | v :: l, k, h => by
    simp only [findI] at h ⊢
    by_cases c : v.Name = n
    · exact ⟨0, v, by rw [if_pos c]; rfl, rfl, c⟩
    · rw [if_neg c] at h ⊢
      obtain ⟨j, u, h1, h2, h3⟩ := findI_nm h
      exact ⟨j + 1, u, by rw [h1, show k + 1 + j = k + (j + 1) by omega], by simpa using h2, h3⟩
/-- One part of an edit's text, as the program reads it: a variable and its set. -/
def edW (s : List XVariable) (p : List UInt8) : Option (Nat × Int) :=
  if (cutF 61 p).2.2 = true ∧ 0 ≤ findI s (cutF 61 p).1 0 ∧ pset (s.getD (findI s (cutF 61 p).1 0).toNat default).Levels (splA 44 [] (cutF 61 p).2.1) 0 (-1) ≠ 0 ∧
      pset (s.getD (findI s (cutF 61 p).1 0).toNat default).Levels (splA 44 [] (cutF 61 p).2.1) 0 (-1) ≠ full (s.getD (findI s (cutF 61 p).1 0).toNat default) then
    some ((findI s (cutF 61 p).1 0).toNat, pset (s.getD (findI s (cutF 61 p).1 0).toNat default).Levels (splA 44 [] (cutF 61 p).2.1) 0 (-1))
  else none
def edF (s : List XVariable) : Int → List (List UInt8) → List Int → Option (List Int)
  | _, [], w => some w
  | b, p :: r, w => match edW s p with
    | none => none
    | some (k, m) => if b < (k : Int) then edF s (k : Int) r (w.set k m) else none
theorem edW_sound {s : List XVariable} (hs : schB s = true) {p : List UInt8} {k : Nat} {m : Int} (h : edW s p = some (k, m)) :
    k < s.length ∧ p = (s.getD k default).Name ++ 61 :: setT m.toNat ∧ 1 ≤ m ∧ m ≤ full (s.getD k default) ∧ m ≠ full (s.getD k default) := by
  unfold edW at h
  split at h
  · rename_i hc
    obtain ⟨c1, c2, c3, c4⟩ := hc
    obtain ⟨j, v, e1, e2, e3⟩ := findI_nm c2
    rw [Nat.zero_add] at e1
    rw [e1, Int.toNat_natCast] at h c3 c4
    obtain ⟨hj, he⟩ := List.getElem?_eq_some_iff.1 e2
    have hlv := schB_lev hs (List.mem_of_getElem? e2)
    rw [getD_get hj, he] at h c3 c4
    simp only [Option.some.injEq, Prod.mk.injEq] at h
    obtain ⟨rfl, rfl⟩ := h
    obtain ⟨d1, d2, d3⟩ := pset_sound hlv c3
    rw [getD_get hj, he]
    refine ⟨hj, ?_, d2, d3, c4⟩
    rw [← d1, e3]
    exact (cutF_t c1).1
  · exact absurd h (by simp)
theorem edW_part {s : List XVariable} (hs : schB s = true) {k : Nat} {v : XVariable} (hv : s[k]? = some v) {x : Int} (h0 : 1 ≤ x) (h1 : x ≤ full v) (h2 : x ≠ full v) :
    edW s (nmV s (k : Int) ++ 61 :: setT x.toNat) = some (k, x) := by
  obtain ⟨hk, he⟩ := List.getElem?_eq_some_iff.1 hv
  have hlv := schB_lev hs (List.mem_of_getElem? hv)
  have hp := pset_all v.Levels.toNat (by omega) x.toNat (full_pow hlv (by omega) h1)
  rw [Int.toNat_of_nonneg (by omega), Int.toNat_of_nonneg (by omega)] at hp
  unfold edW
  rw [cut_cnd hs hk]
  simp only
  rw [find_nm hs (by omega) (by omega), Int.toNat_natCast, getD_get hk, he, hp, if_pos ⟨trivial, by omega, by omega, h2⟩]
theorem part_nm {s : List XVariable} {w : List Int} {k : Nat} {x : Int} (h : w[k]? = some x) : partT s w (k : Int) = nmV s (k : Int) ++ 61 :: setT x.toNat := by
  obtain ⟨hk, he⟩ := List.getElem?_eq_some_iff.1 h
  unfold partT nmV
  rw [Int.toNat_natCast, getD_get hk, he]; simp
theorem selF_none {α β : Type} {c : Nat → α → Bool} {f : Nat → α → β} : ∀ {l : List α} {k : Nat}, (∀ j x, l[j]? = some x → c (k + j) x = false) → selF c f l k = []
  | [], _, _ => rfl
  | x :: l, k, h => by
    have h0 := h 0 x rfl
    simp only [Nat.add_zero] at h0
    simp only [selF, h0]
    rw [if_neg (by simp)]
    exact selF_none fun j y hy => by rw [show k + 1 + j = k + (j + 1) by omega]; exact h (j + 1) y (by simpa using hy)
theorem selF_skip {α β : Type} {c : Nat → α → Bool} {f : Nat → α → β} {w : List α} {x : α} : ∀ {d n : Nat}, (∀ j y, n ≤ j → j < n + d → w[j]? = some y → c j y = false) → w[n + d]? = some x → c (n + d) x = true →
    selF c f (w.drop n) n = f (n + d) x :: selF c f (w.drop (n + d + 1)) (n + d + 1)
  | 0, n, _, hx, hc => by
    obtain ⟨hk, he⟩ := List.getElem?_eq_some_iff.1 hx
    rw [List.drop_eq_getElem_cons (show n < w.length from hk)]
    simp only [selF]
    rw [show w[n] = x from he, if_pos (by exact hc)]; rfl
  | d + 1, n, h, hx, hc => by
    obtain ⟨hk, he⟩ := List.getElem?_eq_some_iff.1 hx
    have hn : n < w.length := by omega
    have ih := selF_skip (c := c) (f := f) (w := w) (x := x) (d := d) (n := n + 1) (fun j y h1 h2 h3 => h j y (by omega) (by omega) h3) (by rw [show n + 1 + d = n + (d + 1) by omega]; exact hx) (by rw [show n + 1 + d = n + (d + 1) by omega]; exact hc)
    rw [List.drop_eq_getElem_cons hn]
    simp only [selF]
    rw [if_neg (by rw [h n w[n] (by omega) (by omega) (List.getElem?_eq_getElem hn)]; simp), ih, show n + 1 + d = n + (d + 1) by omega]
def cnE (s : List XVariable) : Nat → Int → Bool := fun k x => decide (x ≠ full (s.getD k default))
def ixE : Nat → Int → Int := fun k _ => (k : Int)
theorem inv_def (s : List XVariable) (w : List Int) : invL s w = selF (cnE s) ixE w 0 := rfl
theorem edF_sound {s : List XVariable} (hs : schB s = true) : ∀ {P : List (List UInt8)} {n : Nat} {w w' : List Int}, w.length = s.length → (∀ j x, n ≤ j → w[j]? = some x → x = full (s.getD j default)) →
    edF s ((n : Int) - 1) P w = some w' → w'.length = s.length ∧ (∀ j, j < n → w'[j]? = w[j]?) ∧ P = (selF (cnE s) ixE (w'.drop n) n).map (partT s w') ∧
      (∀ j x, n ≤ j → w'[j]? = some x → 1 ≤ x ∧ x ≤ full (s.getD j default))
  | [], n, w, w', hl, hf, h => by
    simp only [edF, Option.some.injEq] at h
    subst h
    refine ⟨hl, fun _ _ => rfl, ?_, ?_⟩
    · rw [selF_none]; · rfl
      intro j x hx
      rw [List.getElem?_drop] at hx
      have := hf (n + j) x (by omega) hx
      unfold cnE
      exact decide_eq_false (by rw [this]; simp)
    · intro j x hj hx
      have hk := (List.getElem?_eq_some_iff.1 hx).1
      rw [hf j x hj hx, getD_get (show j < s.length by omega)]
      have := full_bd (schB_lev hs (List.getElem_mem (show j < s.length by omega)))
      omega
  | p :: r, n, w, w', hl, hf, h => by
    simp only [edF] at h
    split at h
    · exact absurd h (by simp)
    · rename_i k m hw
      split at h
      · rename_i hb
        obtain ⟨a1, a2, a3, a4, a5⟩ := edW_sound hs hw
        obtain ⟨b1, b2, b3, b4⟩ := edF_sound hs (P := r) (n := k + 1) (w := w.set k m) (w' := w') (by simpa using hl) (fun j x hj hx => by
          rw [List.getElem?_set_ne (by omega)] at hx
          exact hf j x (by omega) hx) (by rw [show ((k + 1 : Nat) : Int) - 1 = (k : Int) by omega]; exact h)
        have hk' : w'[k]? = some m := by
          rw [b2 k (by omega), List.getElem?_set_self (by omega)]
        have hlow : ∀ j, j < k → w'[j]? = w[j]? := fun j hj => by rw [b2 j (by omega), List.getElem?_set_ne (by omega)]
        refine ⟨b1, fun j hj => hlow j (by omega), ?_, ?_⟩
        · obtain ⟨d, rfl⟩ : ∃ d, k = n + d := ⟨k - n, by omega⟩
          rw [selF_skip (w := w') (x := m) (d := d) (n := n) (fun j y h1 h2 h3 => by
            rw [hlow j (by omega)] at h3
            have := hf j y h1 h3
            unfold cnE
            exact decide_eq_false (by rw [this]; simp)) hk' (decide_eq_true a5), List.map_cons, ← b3]
          have := part_nm (s := s) hk'
          unfold ixE
          rw [this, a2]
          unfold nmV
          rw [Int.toNat_natCast]
        · intro j x hj hx
          by_cases c1 : j = k
          · subst c1
            rw [hk'] at hx
            simp only [Option.some.injEq] at hx
            subst hx
            exact ⟨a3, a4⟩
          · by_cases c2 : j < k
            · rw [hlow j c2] at hx
              have hk := (List.getElem?_eq_some_iff.1 hx).1
              rw [hf j x hj hx, getD_get (show j < s.length by omega)]
              have := full_bd (schB_lev hs (List.getElem_mem (show j < s.length by omega)))
              omega
            · exact b4 j x (by omega) hx
      · exact absurd h (by simp)
/-! ### The reference's reading -/
def gsF (L : Int) : List (List UInt8) → Nat → Option Nat
  | [], a => some a
  | x :: r, a => if 0 ≤ l1R x ∧ l1R x ≤ L - 1 then gsF L r (a ||| 2 ^ (l1R x).toNat) else none
theorem gsF_all : ∀ L : Nat, L < 9 → ∀ m : Nat, m < 2 ^ L → gsF (L : Int) ((lev8 m).map fun x => dgT x.toNat) 0 = some m := by decide +kernel
def geW (s : List XVariable) (p : List UInt8) : Option (Nat × Nat) :=
  if (splA 61 [] p).length = 2 ∧ 0 ≤ findI s ((splA 61 [] p).getD 0 []) 0 then
    match gsF (s.getD (findI s ((splA 61 [] p).getD 0 []) 0).toNat default).Levels (splA 44 [] ((splA 61 [] p).getD 1 [])) 0 with
    | none => none
    | some m => some ((findI s ((splA 61 [] p).getD 0 []) 0).toNat, m)
  else none
def geF (s : List XVariable) : List (List UInt8) → List Int → Option (List Int)
  | [], w => some w
  | p :: r, w => match geW s p with
    | none => none
    | some (k, m) => geF s r (w.set k (m : Int))
theorem geW_part {s : List XVariable} (hs : schB s = true) {k : Nat} {v : XVariable} (hv : s[k]? = some v) {x : Int} (h0 : 1 ≤ x) (h1 : x ≤ full v) :
    geW s (nmV s (k : Int) ++ 61 :: setT x.toNat) = some (k, x.toNat) := by
  obtain ⟨hk, he⟩ := List.getElem?_eq_some_iff.1 hv
  have hlv := schB_lev hs (List.mem_of_getElem? hv)
  have hf := full_bd hlv
  have hp := gsF_all v.Levels.toNat (by omega) x.toNat (full_pow hlv (by omega) h1)
  rw [Int.toNat_of_nonneg (by omega)] at hp
  unfold geW
  rw [spl_cnd hs hk (by omega)]
  simp only [List.length_cons, List.length_nil, List.getD_cons_zero, List.getD_cons_succ]
  rw [find_nm hs (by omega) (by omega), if_pos ⟨trivial, by omega⟩, Int.toNat_natCast, getD_get hk, he, spl_set (by omega) (by omega), hp]
/-! ### Both readings at an edit's text -/
theorem both_part {s : List XVariable} (hs : schB s = true) {w : List Int} : ∀ {l pre : List Int} {b : Int}, pre ++ l = w → w.length = s.length → b < (pre.length : Int) →
    (∀ j x, l[j]? = some x → ∃ v, s[pre.length + j]? = some v ∧ 1 ≤ x ∧ x ≤ full v) →
    edF s b ((selF (cnE s) ixE l pre.length).map (partT s w)) (pre ++ (s.map full).drop pre.length) = some w ∧ geF s ((selF (cnE s) ixE l pre.length).map (partT s w)) (pre ++ (s.map full).drop pre.length) = some w
  | [], pre, b, hw, hlen, hb, _ => by
    simp only [List.append_nil] at hw
    subst hw
    simp only [selF, List.map_nil, edF, geF]
    rw [List.drop_of_length_le (by simp; omega), List.append_nil]
    exact ⟨rfl, rfl⟩
  | x :: l, pre, b, hw, hlen, hb, hl => by
    obtain ⟨v, h1, h2, h3⟩ := hl 0 x rfl
    simp only [Nat.add_zero] at h1
    obtain ⟨hk, he⟩ := List.getElem?_eq_some_iff.1 h1
    have ih := fun (b' : Int) (hb' : b' < (pre.length : Int) + 1) => both_part hs (w := w) (l := l) (pre := pre ++ [x]) (b := b') (by rw [← hw]; simp) hlen (by simp only [List.length_append, List.length_cons, List.length_nil]; omega) fun j y hy => by
      have := hl (j + 1) y (by simpa using hy)
      simpa [Nat.add_assoc, Nat.add_comm 1 j] using this
    simp only [List.length_append, List.length_cons, List.length_nil, Nat.zero_add, List.append_assoc, List.cons_append, List.nil_append] at ih
    have hd : (s.map full).drop pre.length = full v :: (s.map full).drop (pre.length + 1) := by
      rw [List.drop_eq_getElem_cons (show pre.length < (s.map full).length by simpa using hk), List.getElem_map, he]
    have hwk : w[pre.length]? = some x := by rw [← hw]; simp
    have hset : ∀ y z : Int, ∀ r : List Int, (pre ++ y :: r).set pre.length z = pre ++ z :: r := fun y z r => by simp
    rw [hd]
    simp only [selF]
    by_cases hx : x = full v
    · have e : cnE s pre.length x = false := decide_eq_false (by rw [getD_get hk, he]; simp [hx])
      rw [if_neg (by rw [e]; simp), ← hx]
      exact ih b (by omega)
    · have e : cnE s pre.length x = true := decide_eq_true (by rw [getD_get hk, he]; exact hx)
      rw [if_pos e, List.map_cons]
      unfold ixE
      rw [part_nm hwk]
      simp only [edF, geF]
      rw [edW_part hs h1 h2 h3 hx, geW_part hs h1 h2 h3]
      simp only
      rw [if_pos hb, hset, hset, Int.toNat_of_nonneg (by omega)]
      exact ih (pre.length : Int) (by omega)
theorem edB_of {s : List XVariable} {w : List Int} (hl : w.length = s.length) (h : ∀ j x, w[j]? = some x → 1 ≤ x ∧ x ≤ full (s.getD j default)) : edB s w = true := by
  unfold edB
  rw [decide_eq_true hl, Bool.true_and]
  cases ha : anyF (fun k x => !(decide (1 ≤ x) && decide (x ≤ full (s.getD k default)))) w 0 with
  | false => rfl
  | true =>
    obtain ⟨j, x, h1, h2⟩ := anyF_iff.1 ha
    obtain ⟨h3, h4⟩ := h j x h1
    simp only [Nat.zero_add, h3, h4, decide_true, Bool.and_self, Bool.not_true] at h2
    exact absurd h2 (by simp)
theorem fulls_good {s : List XVariable} (hs : schB s = true) : edB s (s.map full) = true ∧ edT s (s.map full) = [97, 108, 108] := by
  constructor
  · refine edB_of (by simp) fun j x hx => ?_
    rw [List.getElem?_map] at hx
    obtain ⟨v, h1, rfl⟩ := Option.map_eq_some_iff.1 hx
    obtain ⟨hk, he⟩ := List.getElem?_eq_some_iff.1 h1
    have := full_bd (schB_lev hs (List.mem_of_getElem? h1))
    rw [getD_get hk, he]; omega
  · unfold edT
    rw [if_pos]
    rw [inv_def]
    refine selF_none fun j x hx => ?_
    rw [List.getElem?_map] at hx
    obtain ⟨v, h1, rfl⟩ := Option.map_eq_some_iff.1 hx
    obtain ⟨hk, he⟩ := List.getElem?_eq_some_iff.1 h1
    exact decide_eq_false (by rw [Nat.zero_add, getD_get hk, he]; simp)
theorem parts_32 {s : List XVariable} (hs : schB s = true) {w : List Int} (he : edB s w = true) : ∀ p ∈ (invL s w).map (partT s w), (∀ c ∈ p, c ≠ 32) ∧ 61 ∈ p := fun p hp => by
  have hl := edB_len he
  obtain ⟨x, hx, rfl⟩ := List.mem_map.1 hp
  obtain ⟨k, rfl, hk⟩ := inv_mem hl hx
  have hwk : w[k]? = some w[k] := List.getElem?_eq_getElem (show k < w.length by omega)
  obtain ⟨v, h1, h2, h3⟩ := edB_get he hwk
  have hf := full_bd (schB_lev hs (List.mem_of_getElem? h1))
  rw [part_nm hwk]
  refine ⟨fun c hc => ?_, by simp⟩
  rcases List.mem_append.1 hc with hc | hc
  · exact (wch_ne (nm_wch hs (by omega) (by omega) c hc)).1
  · rcases List.mem_cons.1 hc with rfl | hc
    · decide
    · exact (wch_ne (setT_wch (by omega) c hc)).1
/-- What both readings answer. -/
def ediR (s : List XVariable) (x : List UInt8) : List Int × Bool :=
  if x = [97, 108, 108] then (s.map full, true) else match edF s (-1) (splA 32 [] x) (s.map full) with
    | some w => (w, true)
    | none => ([], false)
def gesR (s : List XVariable) (x : List UInt8) : Option (List Int) := if x = [97, 108, 108] then some (s.map full) else geF s (splA 32 [] x) (s.map full)
theorem edF_text {s : List XVariable} (hs : schB s = true) {x : List UInt8} {w : List Int} (h : edF s (-1) (splA 32 [] x) (s.map full) = some w) : edB s w = true ∧ edT s w = x := by
  obtain ⟨h1, h2, h3, h4⟩ := edF_sound hs (P := splA 32 [] x) (n := 0) (w := s.map full) (w' := w) (by simp) (fun j y _ hy => by
    rw [List.getElem?_map] at hy
    obtain ⟨v, h1, rfl⟩ := Option.map_eq_some_iff.1 hy
    obtain ⟨hk, he⟩ := List.getElem?_eq_some_iff.1 h1
    rw [getD_get hk, he]) h
  refine ⟨edB_of h1 fun j y hy => h4 j y (by omega) hy, ?_⟩
  rw [List.drop_zero, ← inv_def] at h3
  unfold edT
  rw [if_neg, ← h3, itc_splA]
  intro hi
  rw [hi] at h3
  have := (splA_len (sep := 32) x []).1
  rw [h3] at this
  simp at this
theorem text_both {s : List XVariable} (hs : schB s = true) {w : List Int} (he : edB s w = true) (hx : edT s w ≠ [97, 108, 108]) :
    edF s (-1) (splA 32 [] (edT s w)) (s.map full) = some w ∧ geF s (splA 32 [] (edT s w)) (s.map full) = some w := by
  have hi : invL s w ≠ [] := fun h => hx (by unfold edT; rw [if_pos h])
  have e : splA 32 [] (edT s w) = (invL s w).map (partT s w) := by
    unfold edT
    rw [if_neg hi]
    exact splA_itc (by simpa using hi) fun p hp => (parts_32 hs he p hp).1
  have := both_part hs (w := w) (l := w) (pre := []) (b := -1) rfl (edB_len he) (by decide) fun j x hx => by
    rw [List.length_nil, Nat.zero_add]; exact edB_get he hx
  rw [e, inv_def]
  simpa using this
theorem ediR_spec {s : List XVariable} (hs : schB s = true) (x : List UInt8) :
    ediR s x = (match gesR s x with
      | none => ([], false)
      | some w => if edB s w = true ∧ edT s w = x then (w, true) else ([], false)) := by
  unfold ediR gesR
  by_cases c : x = [97, 108, 108]
  · rw [if_pos c, if_pos c]
    simp only
    rw [if_pos ⟨(fulls_good hs).1, by rw [(fulls_good hs).2, c]⟩]
  · rw [if_neg c, if_neg c]
    cases h1 : edF s (-1) (splA 32 [] x) (s.map full) with
    | some w =>
      obtain ⟨a, b⟩ := edF_text hs h1
      have := text_both hs a (by rw [b]; exact c)
      rw [b] at this
      rw [this.2]
      simp only
      rw [if_pos ⟨a, b⟩]
    | none =>
      cases h2 : geF s (splA 32 [] x) (s.map full) with
      | none => rfl
      | some w =>
        simp only
        rw [if_neg]
        rintro ⟨a, b⟩
        have := text_both hs a (by rw [b]; exact c)
        rw [b, h1] at this
        exact absurd this.1 (by simp)
/-! ### The program -/
theorem edF_cons {s : List XVariable} {b : Int} (hb : -1 ≤ b) (p : List UInt8) (r : List (List UInt8)) (w : List Int) : edF s b (p :: r) w =
    (if (cutF 61 p).2.2 = true then (if findI s (cutF 61 p).1 0 ≤ b then none
      else if pset (s.getD (findI s (cutF 61 p).1 0).toNat default).Levels (splA 44 [] (cutF 61 p).2.1) 0 (-1) = 0 then none
      else if pset (s.getD (findI s (cutF 61 p).1 0).toNat default).Levels (splA 44 [] (cutF 61 p).2.1) 0 (-1) = full (s.getD (findI s (cutF 61 p).1 0).toNat default) then none
      else edF s (findI s (cutF 61 p).1 0) r (w.set (findI s (cutF 61 p).1 0).toNat (pset (s.getD (findI s (cutF 61 p).1 0).toNat default).Levels (splA 44 [] (cutF 61 p).2.1) 0 (-1)))) else none) := by
  simp only [edF, edW]
  generalize cutF 61 p = c
  generalize findI s c.1 0 = i
  generalize s.getD i.toNat default = v
  generalize pset v.Levels (splA 44 [] c.2.1) 0 (-1) = m
  by_cases c1 : c.2.2 = true
  · rw [if_pos c1]
    by_cases c2 : i ≤ b
    · rw [if_pos c2]
      by_cases c0 : 0 ≤ i ∧ m ≠ 0 ∧ m ≠ full v
      · rw [if_pos ⟨c1, c0⟩]
        simp only
        rw [if_neg (by omega)]
      · rw [if_neg (fun h => c0 h.2)]
    · rw [if_neg c2]
      by_cases c3 : m = 0
      · rw [if_pos c3, if_neg (fun h => h.2.2.1 c3)]
      · rw [if_neg c3]
        by_cases c4 : m = full v
        · rw [if_pos c4, if_neg (fun h => h.2.2.2 c4)]
        · rw [if_neg c4, if_pos ⟨c1, by omega, c3, c4⟩]
          simp only
          rw [if_pos (by omega), Int.toNat_of_nonneg (by omega)]
  · rw [if_neg c1, if_neg (fun h => c1 h.1)]
theorem parts_loop {s : List XVariable} (hs : schB s = true) {x : List UInt8} (hx : x.length ≤ 1048576) {body : Nat → List UInt8 → List Int × Int → (List Int × Int → Option (XEdit × Bool)) → Option (XEdit × Bool)}
    (hb : ∀ k p w b next, p.length ≤ 1048576 → w.length = s.length → body k p (w, b) next = (sh_strings_Cut p ([61] : List UInt8)).bind fun x318 =>
      (sh_impl_nameIndex s x318.1).bind fun x322 =>
      (if (!x318.2.2) = true then some ((⟨([] : List Int)⟩ : XEdit), false) else
      (if (decide (x322 ≤ b)) = true then some ((⟨([] : List Int)⟩ : XEdit), false) else
      getO s x322 fun x335 => (sh_impl_parseSet x318.2.1 x335.Levels).bind fun x338 =>
      (if (decide (x338 = (0 : Int))) = true then some ((⟨([] : List Int)⟩ : XEdit), false) else
      (sh_impl_fullSet x335).bind fun x351 =>
      (if (decide (x338 = x351)) = true then some ((⟨([] : List Int)⟩ : XEdit), false) else
      getO w x322 fun x354 => next ((w.set (x322).toNat x338), x322)))))) :
    rangeF body (fun st => some ((⟨st.1⟩ : XEdit), true)) (splA 32 [] x) 0 (s.map full, (-1 : Int)) = some (match edF s (-1) (splA 32 [] x) (s.map full) with | some w => ((⟨w⟩ : XEdit), true) | none => ((⟨([] : List Int)⟩ : XEdit), false)) := by
  have hsl := splA_len (sep := 32) x []
  have hwl : ∀ w ∈ splA 32 [] x, w.length ≤ 1048576 := fun w hw => by have := hsl.2.2 w hw; simp only [List.length_nil] at this; omega
  generalize splA 32 [] x = W at hwl ⊢
  refine range_mem (I := fun _ (st : List Int × Int) => st.1.length = s.length ∧ -1 ≤ st.2) (G := fun l' _ st => some (match edF s st.2 l' st.1 with | some w => ((⟨w⟩ : XEdit), true) | none => ((⟨([] : List Int)⟩ : XEdit), false))) (fun _ _ _ _ => rfl) ?_ (s.map full, -1) ⟨by simp, by show (-1 : Int) ≤ -1; decide⟩
  rintro p l' k ⟨w, b⟩ next hp _ ⟨h1, h2⟩ hn
  simp only at h1 h2 hn ⊢
  have hpl := hwl p (List.mem_of_getElem? hp)
  have hf := findI_lt s (cutF 61 p).1 0
  rw [hb k p w b next hpl h1, Cut_eq hpl, Option.bind_some, nameIndex_eq, Option.bind_some, edF_cons h2]
  by_cases c1 : (cutF 61 p).2.2 = true
  · rw [if_neg (by rw [c1]; decide), if_pos c1]
    by_cases c2 : findI s (cutF 61 p).1 0 ≤ b
    · rw [if_pos (decide_eq_true c2), if_pos c2]
    · have hv : (findI s (cutF 61 p).1 0).toNat < s.length := by omega
      have hL := schB_lev hs (List.getElem_mem hv)
      rw [if_neg (dcF c2), if_neg c2, getO_pos (by omega) hv, parseSet_eq hL.2, Option.bind_some, getD_get hv]
      by_cases c3 : pset (s[(findI s (cutF 61 p).1 0).toNat]).Levels (splA 44 [] (cutF 61 p).2.1) 0 (-1) = 0
      · rw [if_pos (decide_eq_true c3), if_pos c3]
      · rw [if_neg (dcF c3), if_neg c3, fullSet_eq hL, Option.bind_some]
        by_cases c4 : pset (s[(findI s (cutF 61 p).1 0).toNat]).Levels (splA 44 [] (cutF 61 p).2.1) 0 (-1) = full (s[(findI s (cutF 61 p).1 0).toNat])
        · rw [if_pos (decide_eq_true c4), if_pos c4]
        · rw [if_neg (dcF c4), if_neg c4, getO_pos (by omega) (by omega), hn _ ⟨by simp only [List.length_set]; exact h1, by simp only; omega⟩]
  · rw [if_pos (by simpa using c1), if_neg c1]
theorem implPE_eq {s : List XVariable} {x : List UInt8} (hx : x.length ≤ 1048576) : sh_impl_ParseEdit s x = some (if schB s = true then ((⟨(ediR s x).1⟩ : XEdit), (ediR s x).2) else ((⟨[]⟩ : XEdit), false)) := by
  unfold sh_impl_ParseEdit
  rw [isSchema_eq, Option.bind_some]
  cases hs : schB s with
  | false => rfl
  | true =>
    have hls := schB_len hs
    have hz : (s.map full).length = (List.replicate s.length (0 : Int)).length := by simp
    rw [if_neg (by decide), if_pos rfl, mkO_pos (by omega) (by omega), Int.toNat_natCast]
    refine range_mem (I := fun k a => a = mixL (s.map full) (List.replicate s.length (0 : Int)) k) (G := fun _ _ _ => some ((⟨(ediR s x).1⟩ : XEdit), (ediR s x).2)) ?_ ?_ _ (mixL_zero _ _).symm
    · intro k a ha hk
      subst ha
      have := mixL_end hz
      rw [List.length_map] at this
      rw [hk, this]
      unfold ediR
      by_cases c : x = [97, 108, 108]
      · rw [if_pos (decide_eq_true c), if_pos c]
      · rw [if_neg (dcF c), if_neg c, SplitSeq_eq, Option.bind_some, ck_pos ⟨rfl, rfl⟩]
        simp only [List.headD_cons]
        rw [pcs_spl]
        refine (parts_loop hs hx (fun _ _ _ _ _ _ _ => rfl)).trans ?_
        cases edF s (-1) (splA 32 [] x) (s.map full) <;> rfl
    · intro v l' k a next hv _ ha hn
      subst ha
      obtain ⟨hk, he⟩ := List.getElem?_eq_some_iff.1 hv
      have hL := schB_lev hs (List.mem_of_getElem? hv)
      have g := mixL_get hz (show k < (List.replicate s.length (0 : Int)).length by simpa using hk)
      have t := mixL_set hz (show k < (s.map full).length by simpa using hk)
      simp only [List.getElem_map, he] at t
      rw [fullSet_eq hL, Option.bind_some, getO_some g, Int.toNat_natCast, t]
      exact hn _ rfl
/-! ### The reference -/
theorem gsF_lt {L : Int} (hL : L ≤ 8) : ∀ {P : List (List UInt8)} {a m : Nat}, a < 256 → gsF L P a = some m → m < 256
  | [], a, m, ha, h => by simp only [gsF, Option.some.injEq] at h; omega
  | x :: r, a, m, ha, h => by
    simp only [gsF] at h
    split at h
    · rename_i hc
      exact gsF_lt hL (or_256 ha (pow_256 (by omega))) h
    · cases h
def edfin (s : List XVariable) (x : List UInt8) (w : List Int) : XEdit × Bool := if edB s w = true ∧ edT s w = x then (⟨w⟩, true) else (⟨[]⟩, false)
theorem gset_loop {s : List XVariable} (hs : schB s = true) {w : List Int} (hw : w.length = s.length) {i : Int} (h0 : 0 ≤ i) (hi : i.toNat < s.length) {next : XEdit → Option (XEdit × Bool)} (P : List (List UInt8)) :
    rangeF (fun (k3339 : Nat) (x3340 : (List UInt8)) (s3338 : XEdit) (nx3503 : XEdit → Option (XEdit × Bool)) =>
       (sh_spec_l1Read x3340).bind fun x3548 =>
       getO s i fun x3569 =>
       ckI (x3569.Levels - (1 : Int)) <|
       (sh_spec_l1In x3548 (0 : Int) (x3569.Levels - (1 : Int))).bind fun x3573 =>
       (if (!x3573) = true then
       some ((⟨([] : List Int)⟩ : XEdit), false)
       else
       getO s3338.Sets i fun x3576 =>
       ckK .u64 x3548 <|
       ck (0 ≤ x3548 ∧ x3548 < 64) <|
       ckI ((1 : Int) * 2 ^ (x3548).toNat) <|
       ck (0 ≤ x3576) <|
       ckK .i64 x3576 <|
       ck (0 ≤ ((1 : Int) * 2 ^ (x3548).toNat)) <|
       ckK .i64 ((1 : Int) * 2 ^ (x3548).toNat) <|
       nx3503 (⟨(s3338.Sets.set (i).toNat ((x3576.toNat ||| ((1 : Int) * 2 ^ (x3548).toNat).toNat : Nat) : Int))⟩ : XEdit)))
       (fun (s3338 : XEdit) => next s3338) P 0 (⟨(w.set (i).toNat (0 : Int))⟩ : XEdit) =
      (match gsF (s.getD i.toNat default).Levels P 0 with | none => some ((⟨([] : List Int)⟩ : XEdit), false) | some m => next ⟨w.set i.toNat (m : Int)⟩) := by
  have hL := schB_lev hs (List.getElem_mem hi)
  have hiw : i.toNat < w.length := by omega
  have hg : ∀ y : Int, (w.set i.toNat y).getD i.toNat 0 = y := fun y => by rw [getD_get (by simpa using hiw)]; simp
  rw [getD_get hi]
  refine (range_mem (I := fun _ (e : XEdit) => ∃ a : Nat, a < 256 ∧ e.Sets = w.set i.toNat (a : Int)) (G := fun l' _ e => match gsF (s[i.toNat]).Levels l' ((e.Sets.getD i.toNat 0).toNat) with | none => some ((⟨([] : List Int)⟩ : XEdit), false) | some m => next ⟨w.set i.toNat (m : Int)⟩) ?_ ?_ _ ⟨0, by decide, rfl⟩).trans ?_
  · rintro k ⟨u⟩ ⟨a, ha, hu⟩ _
    simp only at hu ⊢
    subst hu
    simp only [hg, gsF, Int.toNat_natCast]
  · rintro y l' k ⟨u⟩ nx hy _ ⟨a, ha, hu⟩ hn
    simp only at hu ⊢
    subst hu
    simp only [hg, gsF, Int.toNat_natCast]
    rw [l1Read_eq, Option.bind_some, getO_pos h0 hi, ckI_pos (by omega) (by omega), l1In_eq, Option.bind_some]
    by_cases hc : 0 ≤ l1R y ∧ l1R y ≤ s[i.toNat].Levels - 1
    · have hp := pow_256 (n := (l1R y).toNat) (by omega)
      have ho := or_256 ha hp
      have hpi : (2 : Int) ^ (l1R y).toNat = ((2 ^ (l1R y).toNat : Nat) : Int) := by simp
      have e3 : ((1 : Int) * 2 ^ (l1R y).toNat) = ((2 ^ (l1R y).toNat : Nat) : Int) := by rw [Int.one_mul, hpi]
      rw [if_neg (by simp [hc.1, hc.2]), if_pos hc, getO_pos h0 (by simpa using hiw), e3]
      have he : (w.set i.toNat (a : Int))[i.toNat]'(by simpa using hiw) = (a : Int) := by simp
      rw [he]
      generalize (2 ^ (l1R y).toNat : Nat) = q at hp ho ⊢
      simp only [ckK]
      rw [if_pos ⟨by omega, by omega⟩, ck_pos ⟨by omega, by omega⟩, ckI_pos (by omega) (by omega), ck_pos (by omega), if_pos ⟨by omega, by omega⟩, ck_pos (by omega), if_pos ⟨by omega, by omega⟩, Int.toNat_natCast, Int.toNat_natCast, List.set_set, hn _ ⟨a ||| q, ho, rfl⟩]
      simp only [hg, Int.toNat_natCast]
    · rw [if_pos (by simp only [Bool.not_eq_true', Bool.and_eq_false_iff, decide_eq_false_iff_not]; omega), if_neg hc]
  · simp only [hg]; rfl
theorem eParse_eq {s : List XVariable} (hs : schB s = true) {x : List UInt8} (hx : x.length ≤ 1048576) : sh_spec_eParse s x = some (match gesR s x with | none => ((⟨[]⟩ : XEdit), false) | some w => edfin s x w) := by
  have hls := schB_len hs
  unfold sh_spec_eParse
  refine range_mem (I := fun k (e : XEdit) => e.Sets = (s.map full).take k) (G := fun _ _ _ => some (match gesR s x with | none => ((⟨[]⟩ : XEdit), false) | some w => edfin s x w)) ?_ ?_ _ rfl
  · rintro k ⟨u⟩ hu hk
    simp only at hu
    rw [hk, List.take_of_length_le (by simp)] at hu
    subst hu
    refine jn_step (fun _ : XEdit => True) (fun e => some (edfin s x e.Sets)) ?_ ?_
    · rintro ⟨w⟩ _
      rw [eGood_eq hs, Option.bind_some]
      simp only
      unfold edfin
      cases hb : edB s w with
      | false => rw [if_pos (by decide), if_neg (fun h => by cases h.1)]
      | true =>
        rw [if_neg (by decide), eText_eq hs hb, Option.bind_some]
        simp only
        by_cases c : edT s w = x
        · rw [if_neg (dcF (fun e => e c)), if_pos ⟨trivial, c⟩]
        · rw [if_pos (decide_eq_true c), if_neg (fun h => c h.2)]
    · intro f' hf
      unfold gesR
      by_cases c : x = [97, 108, 108]
      · rw [if_neg (dcF (fun e => e c)), if_pos c, hf _ trivial]
      · rw [if_pos (decide_eq_true c), if_neg c, l1Split_eq (n := 32) (sep := 32) rfl (by omega), Option.bind_some]
        have hsl := splA_len (sep := 32) x []
        have hwl : ∀ w ∈ splA 32 [] x, w.length ≤ 1048576 := fun w hw => by have := hsl.2.2 w hw; simp only [List.length_nil] at this; omega
        generalize splA 32 [] x = W at hwl ⊢
        refine range_mem (I := fun _ (e : XEdit) => WOk s e.Sets) (G := fun l' _ e => some (match geF s l' e.Sets with | none => ((⟨[]⟩ : XEdit), false) | some w => edfin s x w)) ?_ ?_ _ ?_
        · intro k e _ _
          rw [hf _ trivial]; rfl
        · rintro p l' k ⟨w⟩ next hp _ hI hn
          simp only at hI hn ⊢
          have hpl := hwl p (List.mem_of_getElem? hp)
          have hs6 := splA_len (sep := 61) p []
          have e0 : (splA 61 [] p).getD 0 [] = (splA 61 [] p)[0]'(by omega) := getD_get (by omega)
          rw [l1Split_eq (n := 61) (sep := 61) rfl (by omega), Option.bind_some, getO_int (i := 0) (k := 0) rfl (List.getElem?_eq_getElem (show 0 < (splA 61 [] p).length by omega)), sFind_eq, Option.bind_some]
          simp only [geF, geW]
          rw [e0]
          have hf1 := findI_lt s ((splA 61 [] p)[0]'(by omega)) 0
          generalize findI s ((splA 61 [] p)[0]'(by omega)) 0 = i at hf1 ⊢
          rw [Nat.zero_add] at hf1
          by_cases h2 : (splA 61 [] p).length = 2
          · rw [if_neg (dcF (by omega))]
            by_cases hv : i < 0
            · rw [if_pos (decide_eq_true hv), if_neg (by omega)]
            · have hi : i.toNat < s.length := by omega
              have hL := schB_lev hs (List.getElem_mem hi)
              have e1 : (splA 61 [] p).getD 1 [] = (splA 61 [] p)[1]'(by omega) := getD_get (by omega)
              have hl1 := hs6.2.2 _ (List.getElem_mem (show 1 < (splA 61 [] p).length by omega))
              simp only [List.length_nil, Nat.zero_add] at hl1
              rw [if_neg (dcF hv), if_pos ⟨h2, by omega⟩, getO_pos (by omega) (by rw [hI.len]; exact hi), getO_int (i := 1) (k := 1) rfl (List.getElem?_eq_getElem (show 1 < (splA 61 [] p).length by omega)), e1, l1Split_eq (n := 44) (sep := 44) rfl (by omega), Option.bind_some, gset_loop hs hI.len (by omega) hi]
              cases hgs : gsF (s.getD i.toNat default).Levels (splA 44 [] ((splA 61 [] p)[1]'(by omega))) 0 with
              | none => rfl
              | some m =>
                have hm := gsF_lt (L := (s.getD i.toNat default).Levels) (by rw [getD_get hi]; exact hL.2) (by decide) hgs
                simp only
                rw [hn _ (hI.set i.toNat (by omega) (by omega))]
          · rw [if_pos (decide_eq_true (by omega)), if_neg (fun h => h2 h.1)]
        · refine ⟨by simp, fun y hy => ?_⟩
          obtain ⟨v, hv, rfl⟩ := List.mem_map.1 hy
          have := full_bd (schB_lev hs hv)
          omega
  · rintro v l' k ⟨u⟩ next hv _ hu hn
    simp only at hu
    subst hu
    obtain ⟨hk, he⟩ := List.getElem?_eq_some_iff.1 hv
    rw [eFull_eq hs hk, Option.bind_some, lnO_pos (by simp only [List.length_take, List.length_map, List.length_cons, List.length_nil]; omega)]
    refine hn _ ?_
    have hk2 : k < (s.map full).length := by simpa using hk
    have : (s.map full)[k] = full s[k] := by simp
    simp only
    rw [← this, List.take_append_getElem hk2]
theorem core_ParseEdit (s : List XVariable) (x : List UInt8) (h0 : bulkVS s ≤ 1048576) (h1 : x.length ≤ 1048576) :
    ∃ r, sh_spec_ParseEdit s x = some r ∧ sh_impl_ParseEdit s x = some r ∧ bulkE r.1 ≤ 1048576 := by
  refine ⟨_, ?_, implPE_eq h1, ?_⟩
  · unfold sh_spec_ParseEdit
    rw [sGood_eq (names_of_bulk h0), Option.bind_some]
    cases hs : schB s with
    | false => rfl
    | true =>
      rw [if_neg (by decide), eParse_eq hs h1, Option.bind_some, if_pos rfl, ediR_spec hs]
      cases gesR s x with
      | none => rfl
      | some w =>
        simp only
        unfold edfin
        by_cases c : edB s w = true ∧ edT s w = x
        · rw [if_pos c, if_pos c]
        · rw [if_neg c, if_neg c]
  · cases hs : schB s with
    | false => rw [if_neg (by decide)]; simp [bulkE]
    | true =>
      rw [if_pos rfl, ediR_spec hs]
      have hls := schB_len hs
      cases gesR s x with
      | none => simp [bulkE]
      | some w =>
        simp only
        by_cases c : edB s w = true ∧ edT s w = x
        · rw [if_pos c]
          have := edB_len c.1
          simp only [bulkE]; omega
        · rw [if_neg c]; simp [bulkE]
end AS
namespace AS
theorem law_ParseEdit (v0 : List XVariable) (v1 : List UInt8) (b0 : Bd.bd v0) (b1 : Bd.bd v1) : sh_laws_FnExactParseEdit v0 v1 = some true := by
  unfold sh_laws_FnExactParseEdit
  by_cases h1 : v1.length ≤ 1048576
  · simp only [show ¬ ((1048576 : Int) < (v1.length : Int)) by omega, decide_false, Bool.false_eq_true, if_false]
    rw [szVariableS_eq (by omega) (by omega) b0, Option.bind_some]
    by_cases h0 : ((bulkVS v0 : Nat) : Int) ≤ 1048576
    · rw [left_pos h0]
      simp only [show ¬ ((1048576 : Int) - ((bulkVS v0 : Nat) : Int) < 0) by omega, decide_false, Bool.false_eq_true, if_false]
      obtain ⟨r, e1, e2, q0⟩ := core_ParseEdit v0 v1 (by omega) h1
      have q0' := q0
      have n0 : v0.length ≤ bulkVS v0 := Nat.le_add_right _ _
      have m0 := marksVS_le v0
      simp [e1, e2, toVariableS_eq (s := v0) (by omega),
      eqVariableS_eq (a := v0) (b := v0) (by omega),
      markVariableS_eq (l := v0) (n := 1) (by omega) (by omega) (by omega),
      show ¬ ((1 : Int) + ((marksVS v0 : Nat) : Int) < 0) by omega,
      eqEdit_eq (a := r.1) (b := r.1) (by omega),
      markEdit_eq (e := r.1) (n := 1) (by omega) (by omega),
      heldEdit_eq (e := r.1) (n := 1) (by omega) (by omega),
      show ¬ ((1 : Int) + ((bulkE (r.1) : Nat) : Int) < 0) by omega]
    · rw [left_no h0]; simp
  · simp [show ((1048576 : Int) < (v1.length : Int)) by omega]
end AS
