/- Plain lemmas, and the law. No condition. -/
import Derived.Test.YtliinmppiocmcaaDoorQParseReportS
import Derived.Test.YtliinmppiocmcaaDoorQParseReportM0
import Derived.Lib.Join
set_option linter.unusedVariables false
set_option linter.unusedSimpArgs false
namespace AS
/-! ### Numerals -/
def decN (n : Nat) : List UInt8 := if h : n < 10 then [UInt8.ofNat (48 + n)] else decN (n / 10) ++ [UInt8.ofNat (48 + n % 10)]
  termination_by n
  decreasing_by omega
theorem decN_lt {n : Nat} (h : n < 10) : decN n = [UInt8.ofNat (48 + n)] := by rw [decN, dif_pos h]
theorem decN_ge {n : Nat} (h : ¬ n < 10) : decN n = decN (n / 10) ++ [UInt8.ofNat (48 + n % 10)] := by rw [decN, dif_neg h]
theorem decN_step {n d : Nat} (hn : 0 < n) (hd : d < 10) : decN (n * 10 + d) = decN n ++ [UInt8.ofNat (48 + d)] := by
  rw [decN_ge (by omega), show (n * 10 + d) / 10 = n by omega, show (n * 10 + d) % 10 = d by omega]
theorem decN_len : ∀ {k n : Nat}, n < 10 ^ (k + 1) → (decN n).length ≤ k + 1
  | 0, n, h => by rw [decN_lt (by simpa using h)]; simp
  | k + 1, n, h => by
    by_cases hn : n < 10
    · rw [decN_lt hn]; simp
    · rw [decN_ge hn]
      have := decN_len (k := k) (n := n / 10) (by rw [Nat.pow_succ] at h; omega)
      simp only [List.length_append, List.length_cons, List.length_nil]; omega
theorem decN_len7 {n : Nat} (h : n ≤ 1000000) : (decN n).length ≤ 7 := decN_len (k := 6) (by omega)
theorem ofNat_toNat8 {n : Nat} (h : n < 256) : (UInt8.ofNat n).toNat = n := by simp [UInt8.toNat_ofNat']; omega
theorem decN_mem : ∀ {n : Nat} {c : UInt8}, c ∈ decN n → 48 ≤ c.toNat ∧ c.toNat ≤ 57 := by
  intro n
  induction n using Nat.strongRecOn with
  | _ n ih =>
    intro c hc
    by_cases hn : n < 10
    · rw [decN_lt hn] at hc
      simp only [List.mem_cons, List.not_mem_nil, or_false] at hc
      subst hc
      rw [ofNat_toNat8 (by omega)]; omega
    · rw [decN_ge hn, List.mem_append] at hc
      rcases hc with hc | hc
      · exact ih (n / 10) (by omega) hc
      · simp only [List.mem_cons, List.not_mem_nil, or_false] at hc
        subst hc
        rw [ofNat_toNat8 (by omega)]; omega
theorem byte_ok {n : Int} (h0 : 0 ≤ n) (h1 : n ≤ 255) : [n] = (bytesOf [n]).map fun b => ((b.toNat : Nat) : Int) := by
  simp only [bytesOf, List.map_cons, List.map_nil, List.cons.injEq, and_true]
  rw [ofNat_toNat8 (by omega)]; omega
theorem byte_of {n : Nat} : bytesOf [(48 : Int) + (n : Int)] = [UInt8.ofNat (48 + n)] := by
  simp only [bytesOf, List.map_cons, List.map_nil, List.cons.injEq, and_true]
  congr 1
theorem l1Num_fuel : ∀ (m n f : Nat), n < 10 ^ (m + 1) → n ≤ 1000000000 → m < f → loopF sh_spec_l1Num_B f (n : Int) = some (decN n) := by
  intro m
  induction m with
  | zero =>
    intro n f h1 h2 h3
    obtain ⟨f, rfl⟩ := Nat.exists_eq_succ_of_ne_zero (show f ≠ 0 by omega)
    have hn : n < 10 := by simpa using h1
    simp only [loopF]
    unfold sh_spec_l1Num_B
    rw [if_pos (by simp; omega), ckI_pos (by omega) (by omega), ckU_pos (by omega) (by omega), ck_pos (byte_ok (by omega) (by omega)), byte_of, decN_lt hn]
  | succ m ih =>
    intro n f h1 h2 h3
    obtain ⟨f, rfl⟩ := Nat.exists_eq_succ_of_ne_zero (show f ≠ 0 by omega)
    show sh_spec_l1Num_B (loopF sh_spec_l1Num_B f) (n : Int) = _
    have hi : loopF sh_spec_l1Num_B f ((n / 10 : Nat) : Int) = some (decN (n / 10)) := ih (n / 10) f (by rw [Nat.pow_succ] at h1; omega) (by omega) (by omega)
    generalize loopF sh_spec_l1Num_B f = self at hi
    unfold sh_spec_l1Num_B
    by_cases hn : n < 10
    · rw [if_pos (by simp; omega), ckI_pos (by omega) (by omega), ckU_pos (by omega) (by omega), ck_pos (byte_ok (by omega) (by omega)), byte_of, decN_lt hn]
    · have e1 : (n : Int).tdiv 10 = ((n / 10 : Nat) : Int) := by rw [Int.tdiv_eq_ediv_of_nonneg (by omega)]; omega
      have e2 : (n : Int).tmod 10 = ((n % 10 : Nat) : Int) := by rw [Int.tmod_eq_emod_of_nonneg (by omega)]; omega
      rw [if_neg (by simp; omega), ck_pos (by decide), e1, e2, ckI_pos (by omega) (by omega), hi, Option.bind_some, ck_pos (by decide), ckI_pos (by omega) (by omega),
        ckU_pos (by omega) (by omega), ck_pos (byte_ok (by omega) (by omega)), byte_of]
      have hl := decN_len (k := 9) (n := n / 10) (by omega)
      rw [lnO_pos (by simp only [List.length_cons, List.length_nil]; omega), decN_ge hn]
theorem l1Num_big {n : Int} (h0 : 0 ≤ n) (h1 : n ≤ 1000000000) : sh_spec_l1Num n = some (decN n.toNat) := by
  unfold sh_spec_l1Num
  have := l1Num_fuel 9 n.toNat FUEL (by omega) (by omega) (FUEL_big (by omega))
  rwa [Int.toNat_of_nonneg h0] at this
def sgT (v : Int) : List UInt8 := if v < 0 then 45 :: decN (-v).toNat else decN v.toNat
theorem sgT_len {v : Int} (h0 : -1000000 ≤ v) (h1 : v ≤ 1000000) : (sgT v).length ≤ 8 := by
  unfold sgT
  split
  · have := decN_len7 (n := (-v).toNat) (by omega)
    simp only [List.length_cons]; omega
  · have := decN_len7 (n := v.toNat) (by omega)
    omega
theorem sgT_mem {v : Int} {c : UInt8} (h : c ∈ sgT v) : c ≠ 10 ∧ c ≠ 32 := by
  unfold sgT at h
  have key : ∀ {n : Nat}, c ∈ decN n → c ≠ 10 ∧ c ≠ 32 := by
    intro n hc
    have := decN_mem hc
    constructor <;> rintro rfl <;> simp at this
  split at h
  · rcases List.mem_cons.1 h with rfl | h
    · decide
    · exact key h
  · exact key h
theorem nSigned_eq {v : Int} (h0 : -1000000 ≤ v) (h1 : v ≤ 1000000) : sh_spec_nSigned v = some (sgT v) := by
  unfold sh_spec_nSigned sgT
  by_cases h : v < 0
  · have := decN_len7 (n := (-v).toNat) (by omega)
    rw [if_pos (by simpa using h), if_pos h, ckI_pos (by omega) (by omega), l1Num_big (by omega) (by omega), Option.bind_some, lnO_pos (by simp only [List.length_cons, List.length_nil]; omega)]
    rfl
  · rw [if_neg (by simpa using h), if_neg h, l1Num_big (by omega) (by omega), Option.bind_some]
/-! ### The number of a string, as the reference reads it -/
def ndF : Nat → Int → Int → List UInt8 → Int
  | 0, sg, n, _ => sg * n
  | _ + 1, sg, n, [] => sg * n
  | f + 1, sg, n, c :: r => if c.toNat = 45 then ndF f (-1) n r else ndF f sg (10 * n + (c.toNat : Int) - 48) r
theorem pow10 {i : Nat} (h : i ≤ 9) : (1 : Int) ≤ 10 ^ i ∧ (10 : Int) ^ i ≤ 1000000000 := by
  have : i = 0 ∨ i = 1 ∨ i = 2 ∨ i = 3 ∨ i = 4 ∨ i = 5 ∨ i = 6 ∨ i = 7 ∨ i = 8 ∨ i = 9 := by omega
  rcases this with rfl | rfl | rfl | rfl | rfl | rfl | rfl | rfl | rfl | rfl <;> decide
theorem nDigits_eq (x : List UInt8) (hx : x.length ≤ 1099511627776) : sh_spec_nDigits x = some (ndF 9 1 0 x) := by
  unfold sh_spec_nDigits
  refine (loopF_eq (I := fun s : Int × Int × Int => ∃ i : Nat, s.2.2 = (i : Int) ∧ i ≤ 9 ∧ i ≤ x.length ∧ (s.1 = 1 ∨ s.1 = -1) ∧ -(30 * 10 ^ i - 30) ≤ s.2.1 ∧ s.2.1 ≤ 30 * 10 ^ i - 30) (mu := fun s => 9 - s.2.2.toNat)
    (F := fun s => some (ndF (9 - s.2.2.toNat) s.1 s.2.1 (x.drop s.2.2.toNat))) ?_ FUEL (1, 0, 0) ⟨0, rfl, by omega, by omega, .inl rfl, by simp, by simp⟩ (FUEL_big (by simp))).trans (by simp)
  rintro ⟨sg, n, j⟩ next ⟨i, rfl, h9, hl, hs, hn1, hn2⟩ hnx
  have hp := pow10 h9
  simp only at hs hn1 hn2 hnx
  simp only [Int.toNat_natCast]
  have hprod : -9223372036854775808 ≤ sg * n ∧ sg * n ≤ 9223372036854775807 := by rcases hs with rfl | rfl <;> omega
  by_cases hi : i < x.length
  · simp only [lt_dec hi, if_true]
    by_cases hi9 : i < 9
    · have hpc : (10 : Int) ^ (i + 1) = 10 ^ i * 10 := Int.pow_succ ..
      have hc := (x[i]).toNat_lt
      simp only [show decide ((i : Int) < 9) = true by simp; omega, if_true]
      rw [getO_nat hi, List.drop_eq_getElem_cons hi, show 9 - i = (9 - (i + 1)) + 1 by omega]
      simp only [ndF]
      by_cases h45 : x[i].toNat = 45
      · rw [if_pos (by simp [h45]), if_pos h45, ckI_succ (by omega), ← cast_succ, hnx _ ⟨i + 1, rfl, by omega, by omega, .inr rfl, by simp only; omega, by simp only; omega⟩ (by simp only [Int.toNat_natCast]; omega)]
        simp only [Int.toNat_natCast]
      · rw [if_neg (by simp; omega), if_neg h45, ckI_pos (by omega) (by omega), ckI_pos (by omega) (by omega), ckI_pos (by omega) (by omega), ckI_pos (by omega) (by omega), ckI_succ (by omega), ← cast_succ,
          hnx _ ⟨i + 1, rfl, by omega, by omega, hs, by simp only; omega, by simp only; omega⟩ (by simp only [Int.toNat_natCast]; omega)]
        simp only [Int.toNat_natCast]
    · have e9 : i = 9 := by omega
      subst e9
      simp only [show decide (((9 : Nat) : Int) < 9) = false by simp, Bool.false_eq_true, if_false]
      rw [ckI_pos hprod.1 hprod.2]; simp [ndF]
  · have e : i = x.length := by omega
    subst e
    simp only [lt_self, Bool.false_eq_true, if_false]
    rw [ckI_pos hprod.1 hprod.2, List.drop_length]
    cases 9 - x.length <;> rfl
theorem ndF_dig : ∀ (v f : Nat) (sg : Int) (r : List UInt8), ndF (f + (decN v).length) sg 0 (decN v ++ r) = ndF f sg (v : Int) r := by
  intro v
  induction v using Nat.strongRecOn with
  | _ v ih =>
    intro f sg r
    by_cases hv : v < 10
    · have e := ofNat_toNat8 (show 48 + v < 256 by omega)
      rw [decN_lt hv]
      simp only [List.length_cons, List.length_nil, Nat.zero_add, List.cons_append, List.nil_append, ndF]
      rw [e, if_neg (by omega)]
      congr 1; omega
    · have e := ofNat_toNat8 (show 48 + v % 10 < 256 by omega)
      rw [decN_ge hv]
      simp only [List.length_append, List.length_cons, List.length_nil, List.append_assoc, List.cons_append, List.nil_append]
      rw [show f + ((decN (v / 10)).length + (0 + 1)) = (f + 1) + (decN (v / 10)).length by omega, ih (v / 10) (by omega)]
      simp only [ndF]
      rw [e, if_neg (by omega)]
      congr 1; omega
theorem ndF_end (f : Nat) (sg n : Int) : ndF f sg n [] = sg * n := by cases f <;> rfl
theorem ndF_sg {v : Int} (h0 : -1000000 ≤ v) (h1 : v ≤ 1000000) : ndF 9 1 0 (sgT v) = v := by
  unfold sgT
  by_cases h : v < 0
  · rw [if_pos h]
    have hl := decN_len7 (n := (-v).toNat) (by omega)
    show (if (45 : UInt8).toNat = 45 then ndF 8 (-1) 0 (decN (-v).toNat) else _) = v
    rw [if_pos (by decide)]
    have := ndF_dig (-v).toNat (8 - (decN (-v).toNat).length) (-1) []
    rw [List.append_nil, show 8 - (decN (-v).toNat).length + (decN (-v).toNat).length = 8 by omega, ndF_end] at this
    rw [this]; omega
  · rw [if_neg h]
    have hl := decN_len7 (n := v.toNat) (by omega)
    have := ndF_dig v.toNat (9 - (decN v.toNat).length) 1 []
    rw [List.append_nil, show 9 - (decN v.toNat).length + (decN v.toNat).length = 9 by omega, ndF_end] at this
    rw [this]; omega
/-! ### Pieces -/
def splA (sep : UInt8) (cur : List UInt8) : List UInt8 → List (List UInt8)
  | [] => [cur]
  | c :: r => if c = sep then cur :: splA sep [] r else splA sep (cur ++ [c]) r
theorem splA_none {sep : UInt8} : ∀ {q cur : List UInt8}, (∀ c ∈ q, c ≠ sep) → splA sep cur q = [cur ++ q]
  | [], cur, _ => by simp [splA]
  | c :: q, cur, h => by
    simp only [splA]
    rw [if_neg (h c (by simp)), splA_none fun d hd => h d (by simp [hd])]; simp
theorem splA_app {sep : UInt8} {r : List UInt8} : ∀ {q cur : List UInt8}, (∀ c ∈ q, c ≠ sep) → splA sep cur (q ++ sep :: r) = (cur ++ q) :: splA sep [] r
  | [], cur, _ => by simp [splA]
  | c :: q, cur, h => by
    simp only [List.cons_append, splA]
    rw [if_neg (h c (by simp)), splA_app fun d hd => h d (by simp [hd])]; simp
theorem splA_last {sep : UInt8} {q : List UInt8} (hq : ∀ c ∈ q, c ≠ sep) : ∀ (p cur : List UInt8), ∃ l, splA sep cur (p ++ sep :: q) = l ++ [q]
  | [], cur => ⟨[cur], by simp only [List.nil_append, splA, if_true]; rw [splA_none hq]; simp⟩
  | c :: p, cur => by
    simp only [List.cons_append, splA]
    by_cases h : c = sep
    · obtain ⟨l, hl⟩ := splA_last hq p []
      exact ⟨cur :: l, by rw [if_pos h, hl]; simp⟩
    · obtain ⟨l, hl⟩ := splA_last hq p (cur ++ [c])
      exact ⟨l, by rw [if_neg h, hl]⟩
theorem splA_len {sep : UInt8} : ∀ (x cur : List UInt8), 1 ≤ (splA sep cur x).length ∧ (splA sep cur x).length ≤ x.length + 1 ∧ ∀ y ∈ splA sep cur x, y.length ≤ cur.length + x.length
  | [], cur => by simp [splA]
  | c :: x, cur => by
    simp only [splA]
    by_cases h : c = sep
    · obtain ⟨h1, h2, h3⟩ := splA_len (sep := sep) x []
      rw [if_pos h]
      refine ⟨by simp, by simp only [List.length_cons]; omega, fun y hy => ?_⟩
      rcases List.mem_cons.1 hy with rfl | hy
      · omega
      · have := h3 y hy
        simp only [List.length_nil, List.length_cons] at this ⊢; omega
    · obtain ⟨h1, h2, h3⟩ := splA_len (sep := sep) x (cur ++ [c])
      rw [if_neg h]
      refine ⟨h1, by simp only [List.length_cons]; omega, fun y hy => ?_⟩
      have := h3 y hy
      simp only [List.length_append, List.length_cons, List.length_nil] at this ⊢; omega
theorem l1Split_eq {x : List UInt8} {sep : UInt8} {n : Int} (hn : n = (sep.toNat : Int)) (hx : x.length ≤ 1000000000) : sh_spec_l1Split x n = some (splA sep [] x) := by
  subst hn
  unfold sh_spec_l1Split
  refine (loopF_eq (I := fun s : List (List UInt8) × Int × Int => ∃ a i : Nat, s.2.1 = (a : Int) ∧ s.2.2 = (i : Int) ∧ a ≤ i ∧ i ≤ x.length ∧ s.1.length ≤ i) (mu := fun s => x.length - s.2.2.toNat)
    (F := fun s => some (s.1 ++ splA sep ((x.take s.2.2.toNat).drop s.2.1.toNat) (x.drop s.2.2.toNat))) ?_ FUEL ([], 0, 0) ⟨0, 0, rfl, rfl, by omega, by omega, by simp⟩ (FUEL_big (by simp; omega))).trans (by simp)
  rintro ⟨acc, a', i'⟩ next ⟨a, i, rfl, rfl, h1, h2, h3⟩ hnx
  simp only at h3 hnx
  simp only [Int.toNat_natCast]
  by_cases hi : i < x.length
  · simp only [lt_dec hi, if_true]
    rw [getO_nat hi, List.drop_eq_getElem_cons hi]
    simp only [splA]
    by_cases hc : x[i] = sep
    · have hd : decide (((x[i].toNat : Nat) : Int) = ((sep.toNat : Nat) : Int)) = true := by rw [hc]; simp
      rw [hd]
      simp only [if_true, hc]
      rw [ck_pos ⟨by omega, by omega, by omega, by omega⟩, lnO_pos (by simp only [List.length_cons, List.length_nil]; omega), ckI_succ (by omega), ckI_succ (by omega), ← cast_succ,
        hnx _ ⟨i + 1, i + 1, rfl, rfl, by omega, by omega, by simp only [List.length_append, List.length_cons, List.length_nil]; omega⟩ (by simp only [Int.toNat_natCast]; omega)]
      simp only [Int.toNat_natCast, List.append_assoc, List.cons_append, List.nil_append]
      rw [List.drop_of_length_le (show (x.take (i + 1)).length ≤ i + 1 by simp; omega)]
    · have hd : decide (((x[i].toNat : Nat) : Int) = ((sep.toNat : Nat) : Int)) = false := by
        simp only [decide_eq_false_iff_not, Int.natCast_inj]
        exact fun e => hc (UInt8.toNat_inj.1 e)
      rw [hd]
      simp only [Bool.false_eq_true, if_false, hc]
      rw [ckI_succ (by omega), ← cast_succ, hnx _ ⟨a, i + 1, rfl, rfl, by omega, by omega, by simp only; omega⟩ (by simp only [Int.toNat_natCast]; omega)]
      simp only [Int.toNat_natCast]
      rw [List.take_add_one, List.getElem?_eq_getElem hi, Option.toList_some, List.drop_append_of_le_length (by simp; omega)]
  · have e : i = x.length := by omega
    subst e
    simp only [lt_self, Bool.false_eq_true, if_false]
    rw [ck_pos ⟨by omega, by omega, by omega⟩, lnO_pos (by simp only [List.length_cons, List.length_nil]; omega)]
    simp [splA]
/-! ### Numbers, as the program reads them -/
def rdN (lim : Nat) : Nat → Nat → List UInt8 → Option (Nat × List UInt8)
  | n, i, [] => if i = 0 then none else some (n, [])
  | n, i, c :: r => if 48 ≤ c.toNat ∧ c.toNat ≤ 57 then (if 0 < i ∧ n = 0 then none else if lim < n * 10 + (c.toNat - 48) then none else rdN lim (n * 10 + (c.toNat - 48)) (i + 1) r) else (if i = 0 then none else some (n, c :: r))
def cvN : Option (Nat × List UInt8) → Int × List UInt8 × Bool
  | some p => ((p.1 : Int), p.2, true)
  | none => (0, [], false)
theorem readNatural_eq {x : List UInt8} {lim : Nat} (hl : lim ≤ 1000000000) (hx : x.length ≤ 1000000000) : sh_impl_readNatural x (lim : Int) = some (cvN (rdN lim 0 0 x)) := by
  unfold sh_impl_readNatural
  simp only [jn]
  refine (loopF_eq (I := fun s : Int × Int => ∃ n i : Nat, s = ((n : Int), (i : Int)) ∧ n ≤ lim ∧ i ≤ x.length) (mu := fun s => x.length - s.2.toNat)
    (F := fun s => some (cvN (rdN lim s.1.toNat s.2.toNat (x.drop s.2.toNat)))) ?_ FUEL (0, 0) ⟨0, 0, rfl, by omega, by omega⟩ (FUEL_big (by simp; omega))).trans (by simp)
  rintro s next ⟨n, i, rfl, h1, h2⟩ hnx
  simp only [Int.toNat_natCast]
  have fin : ∀ {r : List UInt8}, x.drop i = r → (if decide ((i : Int) = (0 : Int)) = true then some ((0 : Int), ([] : List UInt8), false) else ck (0 ≤ (i : Int) ∧ i ≤ x.length ∧ x.length ≤ x.length) <| some ((n : Int), ((x.take x.length).drop i), true)) = some (cvN (if i = 0 then none else some (n, r))) := by
    intro r hr
    by_cases h0 : i = 0
    · simp [h0, cvN]
    · rw [if_neg (by simpa using h0), if_neg h0, ck_pos ⟨by omega, by omega, by omega⟩, List.take_length, hr]; rfl
  by_cases hi : i < x.length
  · have hc := (x[i]).toNat_lt
    have hdr := List.drop_eq_getElem_cons hi
    simp only [lt_dec hi, if_true]
    rw [getO_nat hi, hdr]
    simp only [rdN]
    by_cases c1 : 48 ≤ x[i].toNat
    · by_cases c2 : x[i].toNat ≤ 57
      · have d1 : decide ((48 : Int) ≤ ((x[i].toNat : Nat) : Int)) = true := by simp; omega
        have d2 : decide (((x[i].toNat : Nat) : Int) ≤ (57 : Int)) = true := by simp; omega
        simp only [d1, d2, if_true]
        rw [if_pos (⟨c1, c2⟩ : 48 ≤ x[i].toNat ∧ x[i].toNat ≤ 57)]
        have e8 : ((x[i].toNat : Nat) : Int) - 48 = ((x[i].toNat - 48 : Nat) : Int) := by omega
        have tail : ¬ (0 < i ∧ n = 0) → (ckI ((n : Int) * (10 : Int)) <| ckU (((x[i].toNat : Nat) : Int) - (48 : Int)) <| ckI (((x[i].toNat : Nat) : Int) - (48 : Int)) <| ckI (((n : Int) * (10 : Int)) + (((x[i].toNat : Nat) : Int) - (48 : Int))) <|
            (if (decide ((lim : Int) < (((n : Int) * (10 : Int)) + (((x[i].toNat : Nat) : Int) - (48 : Int))))) = true then some ((0 : Int), ([] : List UInt8), false) else ckI ((i : Int) + (1 : Int)) <| next ((((n : Int) * (10 : Int)) + (((x[i].toNat : Nat) : Int) - (48 : Int))), ((i : Int) + (1 : Int)))))
            = some (cvN (if 0 < i ∧ n = 0 then none else if lim < n * 10 + (x[i].toNat - 48) then none else rdN lim (n * 10 + (x[i].toNat - 48)) (i + 1) (x.drop (i + 1)))) := by
          intro hno
          rw [if_neg hno, ckI_pos (by omega) (by omega), ckU_pos (by omega) (by omega), ckI_pos (by omega) (by omega), ckI_pos (by omega) (by omega)]
          by_cases c3 : lim < n * 10 + (x[i].toNat - 48)
          · have d5 : decide ((lim : Int) < (((n : Int) * (10 : Int)) + (((x[i].toNat : Nat) : Int) - (48 : Int)))) = true := by simp; omega
            simp only [d5, if_true]
            rw [if_pos c3]; rfl
          · have d5 : decide ((lim : Int) < (((n : Int) * (10 : Int)) + (((x[i].toNat : Nat) : Int) - (48 : Int)))) = false := by simp; omega
            simp only [d5, Bool.false_eq_true, if_false]
            rw [if_neg c3, ckI_succ (by omega), ← cast_succ, show ((n : Int) * 10 + (((x[i].toNat : Nat) : Int) - 48)) = ((n * 10 + (x[i].toNat - 48) : Nat) : Int) by omega,
              hnx _ ⟨n * 10 + (x[i].toNat - 48), i + 1, rfl, by omega, by omega⟩ (by simp only [Int.toNat_natCast]; omega)]
            simp only [Int.toNat_natCast]
        by_cases c4 : 0 < i
        · have d3 : decide ((0 : Int) < (i : Int)) = true := by simp; omega
          simp only [d3, if_true]
          by_cases c5 : n = 0
          · have d4 : decide ((n : Int) = (0 : Int)) = true := by simp; omega
            simp only [d4, if_true]
            rw [if_pos (⟨c4, c5⟩ : 0 < i ∧ n = 0)]; rfl
          · have d4 : decide ((n : Int) = (0 : Int)) = false := by simp; omega
            simp only [d4, Bool.false_eq_true, if_false]
            exact tail (fun h => c5 h.2)
        · have d3 : decide ((0 : Int) < (i : Int)) = false := by simp; omega
          simp only [d3, Bool.false_eq_true, if_false]
          exact tail (fun h => c4 h.1)
      · have d1 : decide ((48 : Int) ≤ ((x[i].toNat : Nat) : Int)) = true := by simp; omega
        have d2 : decide (((x[i].toNat : Nat) : Int) ≤ (57 : Int)) = false := by simp; omega
        simp only [d1, d2, if_true, Bool.false_eq_true, if_false]
        rw [if_neg (show ¬ (48 ≤ x[i].toNat ∧ x[i].toNat ≤ 57) from fun h => c2 h.2)]
        exact fin hdr
    · have d1 : decide ((48 : Int) ≤ ((x[i].toNat : Nat) : Int)) = false := by simp; omega
      simp only [d1, Bool.false_eq_true, if_false]
      rw [if_neg (show ¬ (48 ≤ x[i].toNat ∧ x[i].toNat ≤ 57) from fun h => c1 h.1)]
      exact fin hdr
  · have e : i = x.length := by omega
    have hdr : x.drop i = [] := List.drop_of_length_le (by omega)
    have d1 : decide ((i : Int) < (x.length : Int)) = false := by simp; omega
    simp only [d1, Bool.false_eq_true, if_false]
    rw [hdr]
    simp only [rdN]
    exact fin hdr
theorem decC {c : UInt8} (h1 : 48 ≤ c.toNat) (h2 : c.toNat ≤ 57) : UInt8.ofNat (48 + (c.toNat - 48)) = c := by
  rw [show 48 + (c.toNat - 48) = c.toNat by omega]; simp
theorem rdN_pos {lim : Nat} : ∀ {r : List UInt8} {n i v : Nat} {r2 : List UInt8}, 0 < n → 0 < i → n ≤ lim → rdN lim n i r = some (v, r2) → decN n ++ r = decN v ++ r2 ∧ v ≤ lim ∧ 0 < v
  | [], n, i, v, r2, hn, hi, hl, h => by
    simp only [rdN, if_neg (show ¬ i = 0 by omega), Option.some.injEq, Prod.mk.injEq] at h
    obtain ⟨rfl, rfl⟩ := h
    exact ⟨rfl, hl, hn⟩
  | c :: r, n, i, v, r2, hn, hi, hl, h => by
    simp only [rdN] at h
    by_cases hc : 48 ≤ c.toNat ∧ c.toNat ≤ 57
    · rw [if_pos hc, if_neg (by omega)] at h
      by_cases h3 : lim < n * 10 + (c.toNat - 48)
      · rw [if_pos h3] at h; cases h
      · rw [if_neg h3] at h
        obtain ⟨h4, h5, h6⟩ := rdN_pos (by omega) (by omega) (by omega) h
        rw [decN_step hn (by omega), decC hc.1 hc.2] at h4
        exact ⟨by rw [← h4]; simp, h5, h6⟩
    · rw [if_neg hc, if_neg (show ¬ i = 0 by omega)] at h
      simp only [Option.some.injEq, Prod.mk.injEq] at h
      obtain ⟨rfl, rfl⟩ := h
      exact ⟨rfl, hl, hn⟩
theorem rdN_sound {lim : Nat} (hl : 9 ≤ lim) {r : List UInt8} {v : Nat} {r2 : List UInt8} (h : rdN lim 0 0 r = some (v, r2)) : r = decN v ++ r2 ∧ v ≤ lim := by
  cases r with
  | nil => simp [rdN] at h
  | cons c r =>
    simp only [rdN] at h
    by_cases hc : 48 ≤ c.toNat ∧ c.toNat ≤ 57
    · rw [if_pos hc, if_neg (by omega), if_neg (by omega), Nat.zero_mul, Nat.zero_add] at h
      have hd : decN (c.toNat - 48) = [c] := by rw [decN_lt (by omega), decC hc.1 hc.2]
      by_cases h0 : c.toNat - 48 = 0
      · rw [h0] at h hd
        cases r with
        | nil =>
          simp only [rdN, if_neg (show ¬ (0 + 1 = 0) by omega), Option.some.injEq, Prod.mk.injEq] at h
          obtain ⟨rfl, rfl⟩ := h
          exact ⟨by rw [hd]; rfl, by omega⟩
        | cons c2 r =>
          simp only [rdN] at h
          by_cases hc2 : 48 ≤ c2.toNat ∧ c2.toNat ≤ 57
          · rw [if_pos hc2, if_pos (by simp)] at h; cases h
          · rw [if_neg hc2, if_neg (by omega)] at h
            simp only [Option.some.injEq, Prod.mk.injEq] at h
            obtain ⟨rfl, rfl⟩ := h
            exact ⟨by rw [hd]; rfl, by omega⟩
      · obtain ⟨h4, h5, _⟩ := rdN_pos (by omega) (by omega) (by omega) h
        rw [hd] at h4
        exact ⟨h4, h5⟩
    · rw [if_neg hc, if_pos (by trivial)] at h; cases h
theorem rdN_dig {lim : Nat} (hl : 9 ≤ lim) : ∀ (v : Nat) (r : List UInt8), v ≤ lim → rdN lim 0 0 (decN v ++ r) = rdN lim v (decN v).length r := by
  intro v
  induction v using Nat.strongRecOn with
  | _ v ih =>
    intro r hv
    by_cases h : v < 10
    · have e := ofNat_toNat8 (show 48 + v < 256 by omega)
      rw [decN_lt h]
      simp only [List.cons_append, List.nil_append, rdN, List.length_cons, List.length_nil]
      rw [e, if_pos (by omega), if_neg (by omega), if_neg (by omega)]
      congr 1; omega
    · have e := ofNat_toNat8 (show 48 + v % 10 < 256 by omega)
      rw [decN_ge h]
      simp only [List.append_assoc, List.cons_append, List.nil_append, List.length_append, List.length_cons, List.length_nil]
      rw [ih (v / 10) (by omega) _ (by omega)]
      simp only [rdN]
      rw [e, if_pos (by omega), if_neg (by omega), if_neg (by omega)]
      congr 1; omega
theorem decN_pos (v : Nat) : 1 ≤ (decN v).length := by
  by_cases h : v < 10
  · rw [decN_lt h]; simp
  · rw [decN_ge h]; simp
theorem rdN_complete {lim : Nat} (hl : 9 ≤ lim) {v : Nat} (hv : v ≤ lim) (r : List UInt8) : rdN lim 0 0 (decN v ++ 10 :: r) = some (v, 10 :: r) := by
  have := decN_pos v
  rw [rdN_dig hl v _ hv]
  simp only [rdN]
  rw [if_neg (by decide), if_neg (by omega)]
def rdI (x : List UInt8) : Option (Int × List UInt8) :=
  if x.head? = some 45 then (rdN 1000000 0 0 x.tail).bind fun p => if p.1 = 0 then none else some (-(p.1 : Int), p.2) else (rdN 1000000 0 0 x).bind fun p => some ((p.1 : Int), p.2)
def cvI : Option (Int × List UInt8) → Int × List UInt8 × Bool
  | some p => (p.1, p.2, true)
  | none => (0, [], false)
theorem rdN_le {lim : Nat} (hl : 9 ≤ lim) {r : List UInt8} {p : Nat × List UInt8} (h : rdN lim 0 0 r = some p) : p.1 ≤ lim := (rdN_sound hl (v := p.1) (r2 := p.2) h).2
theorem readInteger_eq {x : List UInt8} (hx : x.length ≤ 1000000000) : sh_impl_readInteger x (1000000 : Int) = some (cvI (rdI x)) := by
  unfold sh_impl_readInteger
  have e1 : ((if (decide ((0 : Int) < (x.length : Int))) = true then getO x (0 : Int) fun x39 => some (decide ((x39.toNat : Int) = (45 : Int))) else some false) : Option Bool) = some (decide (x.head? = some 45)) := by
    cases x with
    | nil => simp
    | cons c r =>
      rw [if_pos (by simp)]
      show (match (c :: r)[0]? with | some y => some (decide ((y.toNat : Int) = 45)) | none => none) = _
      simp only [List.getElem?_cons_zero, List.head?_cons, Option.some.injEq]
      congr 1
      apply propext
      constructor
      · intro h
        apply UInt8.toNat_inj.1
        have : (45 : UInt8).toNat = 45 := by decide
        omega
      · rintro rfl; decide
  rw [e1, Option.bind_some]
  unfold rdI
  by_cases h : x.head? = some 45
  · obtain ⟨r, rfl⟩ : ∃ r, x = 45 :: r := by
      cases x with
      | nil => simp at h
      | cons c r => simp only [List.head?_cons, Option.some.injEq] at h; subst h; exact ⟨r, rfl⟩
    simp only [h, decide_true, if_true, List.tail_cons]
    rw [ck_pos ⟨by omega, by simp, by omega⟩, Option.bind_some]
    have e2 : ((45 :: r : List UInt8).take (45 :: r : List UInt8).length).drop ((1 : Int)).toNat = r := by rw [List.take_length]; rfl
    rw [e2]
    have := readNatural_eq (x := r) (lim := 1000000) (by omega) (by simp only [List.length_cons] at hx; omega)
    rw [show ((1000000 : Nat) : Int) = (1000000 : Int) from rfl] at this
    rw [this, Option.bind_some]
    simp only [jn]
    cases hp : rdN 1000000 0 0 r with
    | none => simp [cvN, cvI]
    | some p =>
      have hle := rdN_le (by omega) hp
      simp only [cvN, Bool.not_true, Bool.false_eq_true, if_false, Option.bind_some]
      by_cases h0 : p.1 = 0
      · simp [h0, cvI]
      · rw [if_neg (by simpa using h0), ckI_pos (by omega) (by omega)]
        simp [h0, cvI]
  · simp only [h, decide_false, Bool.false_eq_true, if_false, Option.bind_some]
    have := readNatural_eq (x := x) (lim := 1000000) (by omega) hx
    rw [show ((1000000 : Nat) : Int) = (1000000 : Int) from rfl] at this
    rw [this, Option.bind_some]
    simp only [jn]
    cases hp : rdN 1000000 0 0 x with
    | none => simp [cvN, cvI]
    | some p => simp [cvN, cvI]
theorem rdI_sound {x r2 : List UInt8} {v : Int} (h : rdI x = some (v, r2)) : x = sgT v ++ r2 ∧ -1000000 ≤ v ∧ v ≤ 1000000 := by
  unfold rdI at h
  by_cases hx : x.head? = some 45
  · obtain ⟨r, rfl⟩ : ∃ r, x = 45 :: r := by
      cases x with
      | nil => simp at hx
      | cons c r => simp only [List.head?_cons, Option.some.injEq] at hx; subst hx; exact ⟨r, rfl⟩
    rw [if_pos hx, List.tail_cons] at h
    cases hp : rdN 1000000 0 0 r with
    | none => simp [hp] at h
    | some p =>
      obtain ⟨n, q⟩ := p
      have hs := rdN_sound (by omega) hp
      simp only [hp, Option.bind_some] at h
      by_cases h0 : n = 0
      · rw [if_pos h0] at h; cases h
      · rw [if_neg h0] at h
        simp only [Option.some.injEq, Prod.mk.injEq] at h
        obtain ⟨rfl, rfl⟩ := h
        refine ⟨?_, by omega, by omega⟩
        unfold sgT
        rw [if_pos (by omega), show (-(-(n : Int))).toNat = n by omega, hs.1]; rfl
  · rw [if_neg hx] at h
    cases hp : rdN 1000000 0 0 x with
    | none => simp [hp] at h
    | some p =>
      obtain ⟨n, q⟩ := p
      have hs := rdN_sound (by omega) hp
      simp only [hp, Option.bind_some, Option.some.injEq, Prod.mk.injEq] at h
      obtain ⟨rfl, rfl⟩ := h
      refine ⟨?_, by omega, by omega⟩
      unfold sgT
      rw [if_neg (by omega), Int.toNat_natCast]; exact hs.1
theorem decN_head (v : Nat) (r : List UInt8) : (decN v ++ r).head? ≠ some 45 := by
  have h1 := decN_pos v
  cases hd : decN v with
  | nil => rw [hd] at h1; simp at h1
  | cons c q =>
    have := decN_mem (n := v) (c := c) (by rw [hd]; simp)
    simp only [List.cons_append, List.head?_cons, ne_eq, Option.some.injEq]
    rintro rfl
    simp at this
theorem rdI_complete {v : Int} (h0 : -1000000 ≤ v) (h1 : v ≤ 1000000) (r : List UInt8) : rdI (sgT v ++ 10 :: r) = some (v, 10 :: r) := by
  unfold rdI sgT
  by_cases h : v < 0
  · rw [if_pos h]
    simp only [List.cons_append, List.head?_cons, if_true, List.tail_cons]
    rw [rdN_complete (by omega) (by omega)]
    simp only [Option.bind_some]
    rw [if_neg (by omega)]
    congr 2; omega
  · rw [if_neg h, if_neg (decN_head _ _), rdN_complete (by omega) (by omega)]
    simp only [Option.bind_some]
    congr 2; omega
end AS
namespace AS
/-! ### The text of a report -/
theorem dgT_mem : ∀ n : Nat, n < 100 → ∀ c ∈ dgT n, c ≠ (10 : UInt8) := by decide +kernel
theorem nm_mem {s : List XVariable} (hs : schB s = true) {x : Int} (h0 : 0 ≤ x) (h1 : x < (s.length : Int)) : ∀ c ∈ nmV s x, c ≠ 10 := by
  intro c hc
  rw [(nmV_len hs h0 h1).2.2] at hc
  have hw := schB_word hs (List.getElem_mem (show x.toNat < s.length by omega))
  simp only [wordB, Bool.and_eq_true] at hw
  have := List.all_eq_true.1 hw.1 c hc
  rintro rfl
  simp at this
theorem cvT_mem {s : List XVariable} (hs : schB s = true) : ∀ {l m : List Int}, (∀ v ∈ l, 0 ≤ v ∧ v < (s.length : Int)) → (∀ y ∈ m, 0 ≤ y ∧ y < 8) → (cvT s l m).length ≤ 12 * l.length ∧ ∀ c ∈ cvT s l m, c ≠ 10
  | [], m, _, _ => by simp [cvT]
  | x :: l, [], _, _ => by simp [cvT]
  | x :: l, y :: m, hl, hm => by
    obtain ⟨h1, h2⟩ := cvT_mem hs (l := l) (m := m) (fun v hv => hl v (by simp [hv])) (fun z hz => hm z (by simp [hz]))
    have hx := hl x (by simp)
    have hy := hm y (by simp)
    have hn := nmV_len hs hx.1 hx.2
    have hd := dgT_len y.toNat
    refine ⟨?_, fun c hc => ?_⟩
    · simp only [cvT, List.length_append, List.length_cons, List.length_nil]; omega
    · simp only [cvT, List.mem_append, List.mem_cons, List.not_mem_nil, or_false] at hc
      rcases hc with ((((rfl | hc) | rfl) | hc) | hc)
      · decide
      · exact nm_mem hs hx.1 hx.2 c hc
      · decide
      · exact dgT_mem _ (by omega) c hc
      · exact h2 c hc
theorem celT_mem {g : XGeo} {s : List XVariable} {t : XTable} (ht : Tab g s t) {i : Int} (h0 : 0 ≤ i) (h1 : i < cntT g s t) : (celT g s t i).length ≤ 100 ∧ ∀ c ∈ celT g s t i, c ≠ 10 := by
  have hvs := ht.vars
  have hcv := cellV_bd ht i
  have hA := cellA_bd ht h0 h1
  have hd := dgT_len (cellA g s t i).toNat
  obtain ⟨h2, h3⟩ := cvT_mem ht.sch hvs.1 hcv.2
  unfold celT
  refine ⟨?_, fun c hc => ?_⟩
  · simp only [List.length_append, List.length_cons, List.length_nil]; omega
  · rw [List.mem_append, List.mem_append] at hc
    rcases hc with ((hc | hc) | hc)
    · simp only [List.mem_cons, List.not_mem_nil, or_false] at hc
      rcases hc with rfl | rfl | rfl | rfl | rfl <;> decide
    · exact dgT_mem _ (by omega) c hc
    · exact h3 c hc
def linT (g : XGeo) (s : List XVariable) (t : XTable) (i : Nat) (v : Int) : List UInt8 := (celT g s t (i : Int) ++ [58, 32]) ++ sgT v
def repF (g : XGeo) (s : List XVariable) (t : XTable) : Nat → List Int → List UInt8
  | _, [] => []
  | i, v :: c => (linT g s t i v ++ [10]) ++ repF g s t (i + 1) c
def smC (c : List Int) : Bool := c.all fun x => decide (-1000000 ≤ x) && decide (x ≤ 1000000)
theorem smC_mem {c : List Int} (h : smC c = true) {v : Int} (hv : v ∈ c) : -1000000 ≤ v ∧ v ≤ 1000000 := by
  have := List.all_eq_true.1 h v hv
  simpa using this
theorem nReport_eq {g : XGeo} {s : List XVariable} {t : XTable} (hg : allB g s t = true) (hb1 : bulkVS s ≤ 1048576) (hb2 : bulkT t ≤ 1048576) {c : List Int} (hc : (c.length : Int) = cntT g s t) (hs : smC c = true) : sh_spec_nReport g s t c = some (repF g s t 0 c) := by
  have ht := allB_tab hg
  have hle := ht.le
  unfold sh_spec_nReport
  refine (range_mem (I := fun k (a : List UInt8) => a.length ≤ 200 * k) (G := fun l' k a => some (a ++ repF g s t k l')) ?_ ?_ [] (by simp)).trans (by simp)
  · intro k a _ _; simp [repF]
  · intro v l' k a next hx _ ha hn
    have hk := (List.getElem?_eq_some_iff.1 hx).1
    have hv := smC_mem hs (List.mem_of_getElem? hx)
    have h1 := (celT_mem ht (i := (k : Int)) (by omega) (by omega)).1
    have h2 := sgT_len hv.1 hv.2
    rw [nCell_eq hg (by omega) (by omega) hb1 hb2, Option.bind_some, lnO_pos (by simp only [List.length_cons, List.length_nil]; omega), nSigned_eq hv.1 hv.2, Option.bind_some, lnO_pos (by simp only [List.length_append, List.length_cons, List.length_nil]; omega),
      lnO_pos (by simp only [List.length_append, List.length_cons, List.length_nil]; omega), lnO_pos (by simp only [List.length_append, List.length_cons, List.length_nil]; omega), hn _ (by simp only [List.length_append, List.length_cons, List.length_nil]; omega)]
    simp [repF, linT]
/-! ### The reference reads it -/
theorem last_get {α : Type} {d : α} : ∀ {l : List α} (h : l.length - 1 < l.length), l[l.length - 1] = l.getLastD d
  | [], h => by simp at h
  | y :: ys, h => (List.getLast_eq_getElem (List.cons_ne_nil y ys)).symm
def lnV (l : List UInt8) : Int := ndF 9 1 0 ((splA 32 [] l).getLastD [])
def pxL (x : List UInt8) : List Int := ((splA 10 [] x).map lnV).take ((splA 10 [] x).length - 1)
theorem lnV_lin (g : XGeo) (s : List XVariable) (t : XTable) (i : Nat) {v : Int} (h0 : -1000000 ≤ v) (h1 : v ≤ 1000000) : lnV (linT g s t i v) = v := by
  have e : linT g s t i v = (celT g s t (i : Int) ++ [58]) ++ 32 :: sgT v := by simp [linT]
  obtain ⟨l, hl⟩ := splA_last (sep := 32) (q := sgT v) (fun c hc => (sgT_mem hc).2) (celT g s t (i : Int) ++ [58]) []
  unfold lnV
  rw [e, hl]
  have : (l ++ [sgT v]).getLastD [] = sgT v := by simp
  rw [this]
  exact ndF_sg h0 h1
theorem spl_rep {g : XGeo} {s : List XVariable} {t : XTable} (ht : Tab g s t) : ∀ {c : List Int} {i : Nat}, (i : Int) + c.length ≤ cntT g s t → smC c = true → ∃ ls : List (List UInt8), splA 10 [] (repF g s t i c) = ls ++ [[]] ∧ ls.map lnV = c
  | [], i, _, _ => ⟨[], rfl, rfl⟩
  | v :: c, i, h, hs => by
    simp only [List.length_cons] at h
    have hv := smC_mem hs (v := v) (by simp)
    obtain ⟨ls, h1, h2⟩ := spl_rep ht (c := c) (i := i + 1) (by omega) (by simp only [smC, List.all_cons, Bool.and_eq_true] at hs ⊢; exact hs.2)
    have hc := (celT_mem ht (i := (i : Int)) (by omega) (by omega)).2
    have hno : ∀ d ∈ linT g s t i v, d ≠ 10 := by
      intro d hd
      unfold linT at hd
      rw [List.mem_append, List.mem_append] at hd
      rcases hd with ((hd | hd) | hd)
      · exact hc d hd
      · simp only [List.mem_cons, List.not_mem_nil, or_false] at hd
        rcases hd with rfl | rfl <;> decide
      · exact (sgT_mem hd).1
    refine ⟨linT g s t i v :: ls, ?_, ?_⟩
    · simp only [repF, List.append_assoc, List.cons_append, List.nil_append]
      rw [splA_app hno, h1]; simp
    · rw [List.map_cons, h2, lnV_lin g s t i hv.1 hv.2]
theorem pxL_rep {g : XGeo} {s : List XVariable} {t : XTable} (ht : Tab g s t) {c : List Int} (h : (c.length : Int) = cntT g s t) (hs : smC c = true) : pxL (repF g s t 0 c) = c := by
  obtain ⟨ls, h1, h2⟩ := spl_rep ht (c := c) (i := 0) (by omega) hs
  unfold pxL
  rw [h1]
  simp only [List.map_append, List.length_append, List.length_cons, List.length_nil, h2]
  have : ls.length = c.length := by rw [← h2]; simp
  rw [show ls.length + (0 + 1) - 1 = c.length by omega, List.take_append_of_le_length (Nat.le_refl _), List.take_length]
/-! ### The program reads it -/
def pr (g : XGeo) (s : List XVariable) (t : XTable) : Nat → Nat → List UInt8 → Option (List Int)
  | 0, _, x => if x = [] then some [] else none
  | m + 1, i, x => if x.take (celT g s t (i : Int) ++ [58, 32]).length = celT g s t (i : Int) ++ [58, 32] then
      (rdI (x.drop (celT g s t (i : Int) ++ [58, 32]).length)).bind fun q => if q.2.head? = some 10 then (pr g s t m (i + 1) q.2.tail).map (q.1 :: ·) else none
    else none
theorem pr_sound {g : XGeo} {s : List XVariable} {t : XTable} : ∀ {m i : Nat} {x : List UInt8} {c : List Int}, pr g s t m i x = some c → c.length = m ∧ smC c = true ∧ x = repF g s t i c
  | 0, i, x, c, h => by
    simp only [pr] at h
    by_cases hx : x = []
    · rw [if_pos hx] at h
      cases h
      exact ⟨rfl, rfl, hx⟩
    · rw [if_neg hx] at h; cases h
  | m + 1, i, x, c, h => by
    simp only [pr] at h
    by_cases hp : x.take (celT g s t (i : Int) ++ [58, 32]).length = celT g s t (i : Int) ++ [58, 32]
    · rw [if_pos hp] at h
      cases hr : rdI (x.drop (celT g s t (i : Int) ++ [58, 32]).length) with
      | none => rw [hr] at h; cases h
      | some q =>
        obtain ⟨v, r⟩ := q
        rw [hr, Option.bind_some] at h
        simp only at h
        by_cases h10 : r.head? = some 10
        · rw [if_pos h10] at h
          cases hq : pr g s t m (i + 1) r.tail with
          | none => rw [hq] at h; cases h
          | some c' =>
            rw [hq, Option.map_some] at h
            cases h
            obtain ⟨h1, h2, h3⟩ := pr_sound hq
            obtain ⟨h4, h5, h6⟩ := rdI_sound hr
            obtain ⟨r', rfl⟩ : ∃ r', r = 10 :: r' := by
              cases r with
              | nil => simp at h10
              | cons d r' => simp only [List.head?_cons, Option.some.injEq] at h10; subst h10; exact ⟨r', rfl⟩
            refine ⟨by simp [h1], by simp only [smC, List.all_cons, Bool.and_eq_true, decide_eq_true_eq] at h2 ⊢; exact ⟨⟨h5, h6⟩, h2⟩, ?_⟩
            have hx := List.take_append_drop (celT g s t (i : Int) ++ [58, 32]).length x
            rw [hp, h4] at hx
            simp only [List.tail_cons] at h3
            rw [← hx, h3]
            simp [repF, linT]
        · rw [if_neg h10] at h; cases h
    · rw [if_neg hp] at h; cases h
theorem pr_complete {g : XGeo} {s : List XVariable} {t : XTable} : ∀ {c : List Int} {i : Nat}, smC c = true → pr g s t c.length i (repF g s t i c) = some c
  | [], i, _ => rfl
  | v :: c, i, hs => by
    have hv := smC_mem hs (v := v) (by simp)
    have hs2 : smC c = true := by simp only [smC, List.all_cons, Bool.and_eq_true] at hs ⊢; exact hs.2
    have e : repF g s t i (v :: c) = (celT g s t (i : Int) ++ [58, 32]) ++ (sgT v ++ 10 :: repF g s t (i + 1) c) := by simp [repF, linT]
    simp only [List.length_cons, pr]
    rw [e, List.take_left, if_pos rfl, List.drop_left, rdI_complete hv.1 hv.2, Option.bind_some]
    simp only [List.head?_cons, if_true, List.tail_cons]
    rw [pr_complete hs2]; rfl
def cvP : Option (List Int) → List Int × Bool
  | some c => (c, true)
  | none => ([], false)
theorem CutPrefix_eq {x p : List UInt8} (hx : x.length ≤ 1000000000) (hp : p.length ≤ 1000000000) : sh_strings_CutPrefix x p = some (if x.take p.length = p then (x.drop p.length, true) else (x, false)) := by
  unfold sh_strings_CutPrefix sh_stringslite_CutPrefix sh_stringslite_HasPrefix
  by_cases h : p.length ≤ x.length
  · rw [if_pos (show decide ((p.length : Int) ≤ (x.length : Int)) = true by simp; omega), ck_pos ⟨by omega, by omega, by simp; omega⟩]
    simp only [Option.bind_some, Int.toNat_natCast, List.drop_zero]
    by_cases e : x.take p.length = p
    · simp only [e, decide_true, Bool.not_true, Bool.false_eq_true, if_false, if_true]
      rw [ck_pos ⟨by omega, by simpa using h, by omega⟩, List.take_length]; rfl
    · simp only [e, decide_false, Bool.not_false, if_true, if_false]; rfl
  · have e : ¬ x.take p.length = p := by
      intro e
      have := congrArg List.length e
      simp only [List.length_take] at this
      omega
    rw [if_neg (show ¬ decide ((p.length : Int) ≤ (x.length : Int)) = true by simp; omega)]
    simp only [Option.bind_some, Bool.not_false, if_true, e, if_false]
theorem implLoop {g : XGeo} {s : List XVariable} {t : XTable} (ht : Tab g s t) {x : List UInt8} (hx : x.length ≤ 1048576) {n : Nat} (hn : (n : Int) = cntT g s t) :
    rangeF (fun (k290 : Nat) (x291 : Int) (s289 : ((List UInt8) × (List Int))) (nx462 : ((List UInt8) × (List Int)) → Option ((List Int) × Bool)) =>
      (sh_impl_cellText g s t (k290 : Int)).bind fun x517 =>
      lnO (x517.length + ([58, 32] : List UInt8).length) <|
      (sh_strings_CutPrefix s289.1 (x517 ++ ([58, 32] : List UInt8))).bind fun x520 =>
      (if (!x520.2) = true then
      some (([] : List Int), false)
      else
      (sh_impl_readInteger x520.1 (1000000 : Int)).bind fun x529 =>
      getO s289.2 (k290 : Int) fun x531 =>
      (if (!x529.2.2) = true then
      some (([] : List Int), false)
      else
      (if (decide (x529.2.1 = ([] : List UInt8))) = true then
      some (([] : List Int), false)
      else
      getO x529.2.1 (0 : Int) fun x552 =>
      (if (decide ((x552.toNat : Int) ≠ (10 : Int))) = true then
      some (([] : List Int), false)
      else
      ck (0 ≤ (1 : Int) ∧ ((1 : Int)).toNat ≤ x529.2.1.length ∧ x529.2.1.length ≤ x529.2.1.length) <|
      nx462 (((x529.2.1.take x529.2.1.length).drop ((1 : Int)).toNat), (s289.2.set ((k290 : Int)).toNat x529.1)))))))
      (fun (s289 : ((List UInt8) × (List Int))) =>
      (if (decide (s289.1 ≠ ([] : List UInt8))) = true then
      some (([] : List Int), false)
      else
      some (s289.2, true))) (List.replicate n (0 : Int)) 0 (x, (List.replicate n (0 : Int))) = some (cvP (pr g s t n 0 x)) := by
  have hle := ht.le
  refine (range_mem (I := fun k (st : List UInt8 × List Int) => st.2.length = n ∧ st.1.length ≤ 1048576) (G := fun l' k st => some (match pr g s t l'.length k st.1 with | some c => (st.2.take k ++ c, true) | none => ([], false))) ?_ ?_ (x, List.replicate n 0) ⟨by simp, hx⟩).trans ?_
  · rintro k ⟨r, c⟩ ⟨h1, h2⟩ hk
    simp only [List.length_replicate] at hk
    simp only [List.length_nil, pr]
    by_cases hr : r = []
    · subst hr
      simp only at h1
      simp only [ne_eq, not_true_eq_false, decide_false, Bool.false_eq_true, if_false, if_true]
      rw [List.take_of_length_le (by omega)]; simp
    · simp [hr]
  · rintro v l' k ⟨r, c⟩ next hv hdr ⟨h1, h2⟩ hnx
    simp only at h1 h2
    have hk := (List.getElem?_eq_some_iff.1 hv).1
    simp only [List.length_replicate] at hk
    have hl := (celT_mem ht (i := (k : Int)) (by omega) (by omega)).1
    rw [cellText_eq ht (by omega) (by omega), Option.bind_some, lnO_pos (by simp only [List.length_cons, List.length_nil]; omega)]
    simp only [List.length_cons, pr]
    generalize hP : celT g s t (k : Int) ++ [58, 32] = P
    have hPl : P.length ≤ 102 := by rw [← hP]; simp only [List.length_append, List.length_cons, List.length_nil]; omega
    rw [CutPrefix_eq (by omega) (by omega), Option.bind_some]
    by_cases hp : r.take P.length = P
    · simp only [hp, if_true, Bool.not_true, Bool.false_eq_true, if_false]
      rw [readInteger_eq (by simp only [List.length_drop]; omega), Option.bind_some, getO_nat (show k < c.length by omega)]
      cases hr : rdI (r.drop P.length) with
      | none => simp [cvI]
      | some q =>
        obtain ⟨w, r2⟩ := q
        have hlen : r2.length ≤ 1048576 := by
          have := congrArg List.length (rdI_sound hr).1
          simp only [List.length_drop, List.length_append] at this
          omega
        simp only [cvI, Bool.not_true, Bool.false_eq_true, if_false, Option.bind_some]
        cases r2 with
        | nil => simp
        | cons d r3 =>
          simp only [reduceCtorEq, decide_false, Bool.false_eq_true, if_false, List.head?_cons, Option.some.injEq, List.tail_cons]
          rw [getO_int (i := 0) (k := 0) rfl (show (d :: r3)[0]? = some d from rfl)]
          by_cases hd : d = 10
          · subst hd
            rw [if_neg (by decide), if_pos rfl]
            refine Eq.trans (ck_pos ⟨by omega, by simp, by omega⟩) ?_
            have e1 : ((10 :: r3 : List UInt8).take (10 :: r3 : List UInt8).length).drop ((1 : Int)).toNat = r3 := by rw [List.take_length]; rfl
            rw [e1, hnx _ ⟨by simp only [List.length_set]; exact h1, by simp only [List.length_cons] at hlen ⊢; omega⟩]
            simp only [Int.toNat_natCast]
            cases hq : pr g s t l'.length (k + 1) r3 with
            | none => rfl
            | some c2 =>
              simp only [Option.map_some]
              rw [List.take_add_one, List.getElem?_set_self (by omega), List.take_set_of_le (Nat.le_refl _)]
              simp
          · have hne : ¬ ((d.toNat : Int) = 10) := by
              intro e
              apply hd
              apply UInt8.toNat_inj.1
              have : (10 : UInt8).toNat = 10 := by decide
              omega
            rw [if_pos (by simp [hne]), if_neg hd]
    · simp only [hp, if_false, Bool.not_false, if_true]
  · simp only [List.length_replicate, List.take_zero, List.nil_append]
    cases pr g s t n 0 x <;> rfl
theorem core_ParseReport (g : XGeo) (s : List XVariable) (t : XTable) (x : List UInt8) (h0 : bulkG g ≤ 1048576) (h1 : bulkVS s ≤ 1048576) (h2 : bulkT t ≤ 1048576) (h3 : x.length ≤ 1048576) : ∃ r, sh_spec_ParseReport g s t x = some r ∧ sh_impl_ParseReport g s t x = some r ∧ r.1.length ≤ 1048576 := by
  refine ⟨if allB g s t = true then cvP (pr g s t (cntT g s t).toNat 0 x) else ([], false), ?_, ?_, ?_⟩
  · unfold sh_spec_ParseReport
    rw [uGood_eq h1 h2, Option.bind_some]
    cases h : allB g s t with
    | false => rfl
    | true =>
      have ht := allB_tab h
      have hc := cntT_bd ht.geo ht.p
      have hsl := splA_len (sep := 10) x []
      simp only [Bool.not_true, Bool.false_eq_true, if_false, if_true]
      rw [l1Split_eq (n := 10) (sep := 10) rfl (by omega), Option.bind_some]
      refine range_mem (I := fun k (a : List Int) => a = ((splA 10 [] x).map lnV).take k) (G := fun _ _ _ => some (cvP (pr g s t (cntT g s t).toNat 0 x))) ?_ ?_ [] (by simp)
      · intro k a ha hk
        subst hk
        rw [List.take_of_length_le (by simp)] at ha
        subst ha
        have hlm : ((splA 10 [] x).map lnV).length = (splA 10 [] x).length := by simp
        have e1 : ((((splA 10 [] x).map lnV).length : Int) - 1).toNat = (splA 10 [] x).length - 1 := by omega
        rw [ckI_pos (by omega) (by omega), e1, ck_pos ⟨by omega, by omega, by omega⟩, List.drop_zero]
        have ep : (((splA 10 [] x).map lnV).take ((splA 10 [] x).length - 1)) = pxL x := rfl
        rw [ep]
        have en : sh_spec_nCells g s t (pxL x) = some (decide (((pxL x).length : Int) = cntT g s t) && smC (pxL x)) := by
          unfold sh_spec_nCells
          rw [uGood_eq h1 h2, Option.bind_some, h]
          simp only [if_true]
          rw [uCount_eq ht.geo ht.p, Option.bind_some]
          by_cases hl : ((pxL x).length : Int) = cntT g s t
          · simp only [hl, decide_true, if_true, Bool.true_and]
            rw [l1All_eq, Option.bind_some]; rfl
          · simp [hl]
        rw [en, Option.bind_some]
        cases hp : pr g s t (cntT g s t).toNat 0 x with
        | some c =>
          obtain ⟨q1, q2, q3⟩ := pr_sound hp
          have q4 := pxL_rep ht (c := c) (by omega) q2
          rw [← q3] at q4
          rw [q4]
          have e2 : decide ((c.length : Int) = cntT g s t) = true := by simp; omega
          rw [e2, q2]
          simp only [Bool.and_self, Bool.not_true, Bool.false_eq_true, if_false]
          rw [nReport_eq h h1 h2 (by omega) q2, Option.bind_some, ← q3]
          simp [cvP]
        | none =>
          cases hb : (decide (((pxL x).length : Int) = cntT g s t) && smC (pxL x)) with
          | false => rfl
          | true =>
            simp only [Bool.and_eq_true, decide_eq_true_eq] at hb
            simp only [Bool.not_true, Bool.false_eq_true, if_false]
            rw [nReport_eq h h1 h2 hb.1 hb.2, Option.bind_some]
            by_cases he : repF g s t 0 (pxL x) = x
            · have := pr_complete (g := g) (s := s) (t := t) (c := pxL x) (i := 0) hb.2
              rw [he, show (pxL x).length = (cntT g s t).toNat by omega, hp] at this
              cases this
            · simp [he, cvP]
      · intro l l' k a next hx _ ha hn
        subst ha
        have hk := (List.getElem?_eq_some_iff.1 hx).1
        have hll := hsl.2.2 l (List.mem_of_getElem? hx)
        simp only [List.length_nil, Nat.zero_add] at hll
        have hsw := splA_len (sep := 32) l []
        rw [l1Split_eq (n := 32) (sep := 32) rfl (by omega), Option.bind_some, ckI_pos (by omega) (by omega), getO_int (k := (splA 32 [] l).length - 1) (by omega) (List.getElem?_eq_getElem (show (splA 32 [] l).length - 1 < (splA 32 [] l).length by omega))]
        have hgl : (splA 32 [] l)[(splA 32 [] l).length - 1]'(by omega) = (splA 32 [] l).getLastD [] := last_get (by omega)
        have hml := hsw.2.2 _ (List.getElem_mem (show (splA 32 [] l).length - 1 < (splA 32 [] l).length by omega))
        simp only [List.length_nil, Nat.zero_add] at hml
        rw [nDigits_eq _ (by omega), Option.bind_some, lnO_pos (by simp only [List.length_take, List.length_map, List.length_cons, List.length_nil]; omega), hgl]
        refine hn _ ?_
        rw [List.take_add_one]
        simp [hx, lnV]
  · unfold sh_impl_ParseReport
    rw [areTabled_eq, Option.bind_some]
    cases h : allB g s t with
    | false => rfl
    | true =>
      have ht := allB_tab h
      have hc := cntT_bd ht.geo ht.p
      simp only [Bool.not_true, Bool.false_eq_true, if_false, if_true]
      rw [cellCount_eq ht.geo ht.p, Option.bind_some, mkO_pos (by omega) (by omega)]
      exact implLoop ht h3 (by omega)
  · split
    · rename_i h
      have hle := (allB_tab h).le
      cases hp : pr g s t (cntT g s t).toNat 0 x with
      | none => simp [cvP]
      | some c => have := (pr_sound hp).1; simp only [cvP]; omega
    · simp
end AS
namespace AS
theorem law_ParseReport (v0 : XGeo) (v1 : List XVariable) (v2 : XTable) (v3 : List UInt8) (b0 : Bd.bd v0) (b1 : Bd.bd v1) (b2 : Bd.bd v2) (b3 : Bd.bd v3) : sh_laws_FnExactParseReport v0 v1 v2 v3 = some true := by
  unfold sh_laws_FnExactParseReport
  by_cases h3 : v3.length ≤ 1048576
  · simp only [show ¬ ((1048576 : Int) < (v3.length : Int)) by omega, decide_false, Bool.false_eq_true, if_false]
    rw [szGeo_eq (by omega) (by omega) b0, Option.bind_some]
    by_cases h0 : ((bulkG v0 : Nat) : Int) ≤ 1048576
    · rw [left_pos h0]
      simp only [show ¬ ((1048576 : Int) - ((bulkG v0 : Nat) : Int) < 0) by omega, decide_false, Bool.false_eq_true, if_false]
      rw [szVariableS_eq (by omega) (by omega) b1, Option.bind_some]
      by_cases h1 : ((bulkVS v1 : Nat) : Int) ≤ 1048576 - ((bulkG v0 : Nat) : Int)
      · rw [left_pos h1]
        simp only [show ¬ (1048576 - ((bulkG v0 : Nat) : Int) - ((bulkVS v1 : Nat) : Int) < 0) by omega, decide_false, Bool.false_eq_true, if_false]
        rw [szTable_eq (by omega) (by omega) b2, Option.bind_some]
        by_cases h2 : ((bulkT v2 : Nat) : Int) ≤ 1048576 - ((bulkG v0 : Nat) : Int) - ((bulkVS v1 : Nat) : Int)
        · rw [left_pos h2]
          simp only [show ¬ (1048576 - ((bulkG v0 : Nat) : Int) - ((bulkVS v1 : Nat) : Int) - ((bulkT v2 : Nat) : Int) < 0) by omega, decide_false, Bool.false_eq_true, if_false]
          obtain ⟨r, e1, e2, q0⟩ := core_ParseReport v0 v1 v2 v3 (by omega) (by omega) (by omega) h3
          have q0' := q0
          have n1 : v1.length ≤ bulkVS v1 := Nat.le_add_right _ _
          have m1 := marksVS_le v1
          simp [e1, e2, toGeo_eq (g := v0) (by omega),
      eqGeo_eq (a := v0) (b := v0) (by omega),
      toVariableS_eq (s := v1) (by omega),
      eqVariableS_eq (a := v1) (b := v1) (by omega),
      toTable_eq (t := v2) (by omega),
      eqTable_eq (a := v2) (b := v2) (by omega),
      markGeo_eq (g := v0) (n := 1) (by omega) (by omega),
      markVariableS_eq (l := v1) (n := 1 + ((bulkG v0 : Nat) : Int)) (by omega) (by omega) (by omega),
      markTable_eq (t := v2) (n := 1 + ((bulkG v0 : Nat) : Int) + ((marksVS v1 : Nat) : Int)) (by omega) (by omega),
      show ¬ ((1 : Int) + ((bulkG v0 : Nat) : Int) + ((marksVS v1 : Nat) : Int) + ((bulkT v2 : Nat) : Int) < 0) by omega,
      eqIntS_eq (a := r.1) (b := r.1) (by omega),
      markIntS_eq (l := r.1) (n := 1) (by omega) (by omega),
      heldIntS_eq (m := (r.1).length) (n := 1) (by omega) (by omega),
      show ¬ ((1 : Int) + ((r.1).length : Int) < 0) by omega]
        · rw [left_no h2]; simp
      · rw [left_no h1]; simp
    · rw [left_no h0]; simp
  · simp [show ((1048576 : Int) < (v3.length : Int)) by omega]
end AS
