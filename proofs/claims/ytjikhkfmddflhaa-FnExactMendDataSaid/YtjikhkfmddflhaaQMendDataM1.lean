/- Plain lemmas, and the law. No condition. -/
import Derived.Test.YtjikhkfmddflhaaQMendDataS
import Derived.Test.YtjikhkfmddflhaaQMendDataM0
set_option linter.unusedVariables false
set_option linter.unusedSimpArgs false
namespace AS
/-! ### Bits of a mask -/
def bitsL (m : Nat) : List Int := ((List.range 6).filter fun (i : Nat) => m.testBit i).map fun (i : Nat) => (i : Int)
theorem bits_len (m : Nat) : (bitsL m).length ≤ 6 := by
  have := List.length_filter_le (fun i => m.testBit i) (List.range 6)
  simp only [bitsL, List.length_map]
  simpa using this
theorem bits_mem {m : Nat} {x : Int} : x ∈ bitsL m ↔ ∃ i : Nat, i < 6 ∧ m.testBit i = true ∧ x = (i : Int) := by
  simp only [bitsL, List.mem_map, List.mem_filter, List.mem_range]
  constructor
  · rintro ⟨i, ⟨h1, h2⟩, h3⟩; exact ⟨i, h1, h2, h3.symm⟩
  · rintro ⟨i, h1, h2, h3⟩; exact ⟨i, ⟨h1, h2⟩, h3.symm⟩
theorem bits_rng {m n : Nat} (h : m < 2 ^ n) {x : Int} (hx : x ∈ bitsL m) : 0 ≤ x ∧ x < n := by
  obtain ⟨i, _, h2, rfl⟩ := bits_mem.1 hx
  have h3 := Nat.ge_two_pow_of_testBit h2
  have h4 : i < n := by
    rcases Nat.lt_or_ge i n with q | q
    · exact q
    · have := Nat.pow_le_pow_right (show 0 < 2 by omega) q
      omega
  omega
theorem bits_m : ∀ m : Nat, m < 64 → sh_impl_membersOf (m : Int) = some (bitsL m) := by decide +kernel
theorem bits_i : ∀ m : Nat, m < 64 → sh_spec_iBits (m : Int) = some (bitsL m) := by decide +kernel
/-! ### Comparing -/
def cmpI (a b : Int) : Int := if a < b then -1 else if b < a then 1 else 0
def lexC : List Int → List Int → Int
  | [], [] => 0
  | [], _ :: _ => -1
  | _ :: _, [] => 1
  | x :: a, y :: b => if cmpI x y ≠ 0 then cmpI x y else lexC a b
theorem cmpI_eq (a b : Int) : sh_cmp_Compare_int a b = some (cmpI a b) := by
  unfold sh_cmp_Compare_int sh_cmp_isNaN_int cmpI
  by_cases h1 : a < b
  · simp [h1]
  · by_cases h2 : b < a <;> simp [h1, h2]
theorem lexC_eq (a b : List Int) : sh_slices_Compare_int a b = some (lexC a b) := by
  unfold sh_slices_Compare_int
  refine (range_mem (I := fun k _ => k ≤ b.length) (G := fun l' k _ => some (lexC l' (b.drop k))) ?_ ?_ () (Nat.zero_le _)).trans (by simp)
  · intro k _ hk he
    rw [← he]
    by_cases h : k < b.length
    · rw [List.drop_eq_getElem_cons h]
      simp [lexC, show ((k : Int) < (b.length : Int)) by omega]
    · rw [List.drop_of_length_le (by omega)]
      simp [lexC, show ¬ ((k : Int) < (b.length : Int)) by omega]
  · intro x l' k _ next hx _ hk hn
    by_cases h : k < b.length
    · rw [List.drop_eq_getElem_cons h]
      simp only [show ¬ ((b.length : Int) ≤ (k : Int)) by omega, decide_false, Bool.false_eq_true, if_false, lexC]
      rw [getO_nat h, cmpI_eq, Option.bind_some]
      by_cases e : cmpI x b[k] = 0
      · simp only [e, ne_eq, not_true_eq_false, decide_false, Bool.false_eq_true, if_false]
        exact hn _ (by omega)
      · simp [e]
    · rw [List.drop_of_length_le (by omega)]
      simp [lexC, show ((b.length : Int) ≤ (k : Int)) by omega]
theorem l1Less_eq {a b : List Int} (ha : a.length ≤ 1048576) (hb : b.length ≤ 1048576) : sh_spec_l1Less a b = some (lexC a b) := by
  unfold sh_spec_l1Less
  simp only [jn]
  have hend : ∀ k, (k = a.length ∧ k ≤ b.length ∨ k = b.length ∧ k ≤ a.length) → (ckI ((a.length : Int) - (b.length : Int)) <| (sh_spec_l1Sign ((a.length : Int) - (b.length : Int))).bind fun x155 => some x155) = some (lexC (a.drop k) (b.drop k)) := by
    intro k hk
    rw [ckI_pos (by omega) (by omega)]
    unfold sh_spec_l1Sign
    by_cases h1 : k < a.length
    · have h2 : ¬ k < b.length := by omega
      rw [List.drop_eq_getElem_cons h1, List.drop_of_length_le (show b.length ≤ k by omega)]
      have e1 : decide ((a.length : Int) - (b.length : Int) < 0) = false := by rw [decide_eq_false_iff_not]; omega
      have e2 : decide ((0 : Int) < (a.length : Int) - (b.length : Int)) = true := by rw [decide_eq_true_eq]; omega
      simp only [e1, e2, Bool.false_eq_true, if_false, if_true, Option.bind_some, lexC]
    · rw [List.drop_of_length_le (show a.length ≤ k by omega)]
      by_cases h2 : k < b.length
      · rw [List.drop_eq_getElem_cons h2]
        have e1 : decide ((a.length : Int) - (b.length : Int) < 0) = true := by rw [decide_eq_true_eq]; omega
        simp only [e1, if_true, Option.bind_some, lexC]
      · rw [List.drop_of_length_le (show b.length ≤ k by omega)]
        have e : (a.length : Int) - (b.length : Int) = 0 := by omega
        rw [e]; simp [lexC]
  refine (loop_up (min a.length b.length) (fun k => (k : Int)) (fun k => some (lexC (a.drop k) (b.drop k))) (by omega) ?_ ?_).trans (by simp)
  · intro next k hk hn
    have hka : k < a.length := by omega
    have hkb : k < b.length := by omega
    simp only [lt_dec hka, lt_dec hkb, if_true]
    rw [getO_nat hka, getO_nat hkb, List.drop_eq_getElem_cons hka, List.drop_eq_getElem_cons hkb, ckI_succ (by omega)]
    simp only [lexC]
    rcases Int.lt_trichotomy a[k] b[k] with h | h | h
    · simp [cmpI, h, show a[k] ≠ b[k] by omega]
    · simp only [h, ne_eq, not_true_eq_false, decide_false, Bool.false_eq_true, if_false, cmpI, Int.lt_irrefl]
      exact hn
    · simp [cmpI, h, show ¬ a[k] < b[k] by omega, show a[k] ≠ b[k] by omega]
  · intro next
    by_cases h1 : a.length ≤ b.length
    · rw [show min a.length b.length = a.length by omega]
      simp only [lt_self, Bool.false_eq_true, if_false]
      exact hend _ (by omega)
    · rw [show min a.length b.length = b.length by omega]
      simp only [lt_dec (show b.length < a.length by omega), lt_self, Bool.false_eq_true, if_false, if_true]
      exact hend _ (by omega)
def or3 (x y z : Int) : Int := if x ≠ 0 then x else if y ≠ 0 then y else z
theorem or3_eq (x y z : Int) : sh_cmp_Or_int [x, y, z] = some (or3 x y z) := by
  unfold sh_cmp_Or_int or3
  by_cases h1 : x = 0
  · by_cases h2 : y = 0
    · by_cases h3 : z = 0 <;> simp [rangeF, h1, h2, h3]
    · simp [rangeF, h1, h2]
  · simp [rangeF, h1]
def lssB (wt : List Int → Int) (a b : List Int) : Bool :=
  decide (wt a < wt b) || (decide (wt a = wt b) && (decide ((a.length : Int) < (b.length : Int)) || (decide ((a.length : Int) = (b.length : Int)) && decide (lexC a b < 0))))
theorem or3_lss (wt : List Int → Int) (a b : List Int) : decide ((0 : Int) ≤ or3 (cmpI (wt a) (wt b)) (cmpI (a.length : Int) (b.length : Int)) (lexC a b)) = !lssB wt a b := by
  unfold lssB or3
  rcases Int.lt_trichotomy (wt a) (wt b) with h | h | h
  · simp [cmpI, h]
  · rcases Int.lt_trichotomy (a.length : Int) (b.length : Int) with q | q | q
    · simp [cmpI, h, q]
    · by_cases r : lexC a b < 0 <;> simp [cmpI, h, q, r] <;> omega
    · simp [cmpI, h, q, show ¬ ((a.length : Int) < (b.length : Int)) by omega, show ¬ ((a.length : Int) = (b.length : Int)) by omega]
  · simp [cmpI, h, show ¬ (wt a < wt b) by omega, show ¬ (wt a = wt b) by omega]
/-! ### The search -/
def stp (cm : List Int → Bool) (wt : List Int → Int) (st : List Int × Bool) (m : Nat) : List Int × Bool := if ((!st.2 || lssB wt (bitsL m) st.1) && cm (bitsL m)) = true then (bitsL m, true) else st
def stN (cm : List Int → Bool) (wt : List Int → Int) : Nat → List Int × Bool
  | 0 => ([], false)
  | k + 1 => stp cm wt (stN cm wt k) k
theorem stN_len (cm : List Int → Bool) (wt : List Int → Int) : ∀ k, (stN cm wt k).1.length ≤ 6
  | 0 => by simp [stN]
  | k + 1 => by
    have ih := stN_len cm wt k
    simp only [stN, stp]
    split
    · exact bits_len k
    · exact ih
theorem stN_not (cm : List Int → Bool) (wt : List Int → Int) : ∀ {k}, (stN cm wt k).2 = false → (stN cm wt k).1 = []
  | 0, _ => rfl
  | k + 1, h => by
    have ih := stN_not cm wt (k := k)
    simp only [stN, stp] at h ⊢
    split at h
    · cases h
    · rename_i hc; rw [if_neg hc]; exact ih h
theorem stN_bit (cm : List Int → Bool) (wt : List Int → Int) : ∀ {k}, (stN cm wt k).2 = true → cm (stN cm wt k).1 = true ∧ ∃ m, m < k ∧ (stN cm wt k).1 = bitsL m
  | 0, h => by simp [stN] at h
  | k + 1, h => by
    have ih := stN_bit cm wt (k := k)
    simp only [stN, stp] at h ⊢
    split
    · rename_i hc
      simp only [Bool.and_eq_true] at hc
      exact ⟨hc.2, k, by omega, rfl⟩
    · rename_i hc
      rw [if_neg hc] at h
      obtain ⟨h1, m, h2, h3⟩ := ih h
      exact ⟨h1, m, by omega, h3⟩
theorem stN_rng {cm : List Int → Bool} {wt : List Int → Int} {n k : Nat} (h : k ≤ 2 ^ n) {x : Int} (hx : x ∈ (stN cm wt k).1) : 0 ≤ x ∧ x < n := by
  cases hf : (stN cm wt k).2 with
  | false => rw [stN_not cm wt hf] at hx; cases hx
  | true =>
    obtain ⟨_, m, h1, h2⟩ := stN_bit cm wt hf
    rw [h2] at hx
    exact bits_rng (by omega) hx
def cmB (s : List XVariable) (l : List XEdit) (v vars : List Int) : Bool := (comO s l (othL s vars) v).isSome
theorem oth_in (s : List XVariable) (vars : List Int) : inV s (othL s vars) := fun d hd => by
  obtain ⟨k, y, h1, _, rfl⟩ := selF_mem hd
  have := (List.getElem?_eq_some_iff.1 h1).1
  simp only [Nat.zero_add]; omega
theorem pow_len {s : List XVariable} (h : s.length ≤ 6) : 2 ^ s.length ≤ 64 := by
  have := Nat.pow_le_pow_right (show 0 < 2 by omega) h
  simpa using this
theorem pow_int (n : Nat) : (1 : Int) * 2 ^ ((n : Int)).toNat = ((2 ^ n : Nat) : Int) := by
  rw [Int.toNat_natCast, Int.one_mul]; push_cast; rfl
theorem ckI_pow {R : Type} {s : List XVariable} {f : Option R} (h : s.length ≤ 6) : ckI (((2 ^ s.length : Nat) : Int)) f = f := by
  have := pow_len h
  generalize 2 ^ s.length = N at *
  exact ckI_pos (by omega) (by omega)
theorem spec_fixed {R : Type} {s : List XVariable} {vars : List Int} {fin : List Int → Option R} (hs : s.length ≤ 1048576) :
    rangeF (fun (k1514 : Nat) (x1515 : XVariable) (s1513 : (List Int)) (nx1542 : (List Int) → Option R) =>
      (sh_spec_l1Has vars (k1514 : Int)).bind fun x1587 =>
      (if (!x1587) = true then lnO (s1513.length + [(k1514 : Int)].length) <| nx1542 (s1513 ++ [(k1514 : Int)]) else nx1542 s1513)) fin s 0 [] = fin (othL s vars) := by
  refine (range_sel (c := fun k _ => !hasB vars (k : Int)) (f := fun k _ => (k : Int)) ?_).trans (by simp [othL])
  intro x k a next hx ha
  have hk := (List.getElem?_eq_some_iff.1 hx).1
  simp only [List.length_nil, Nat.zero_add] at ha
  rw [l1Has_eq, Option.bind_some]
  cases hasB vars (k : Int) with
  | true => simp only [Bool.not_true, Bool.false_eq_true, if_false]
  | false => simp only [Bool.not_false, if_true]; rw [lnO_pos (by simp; omega)]
theorem iOthers_eq {s : List XVariable} {vars : List Int} (hs : s.length ≤ 1048576) : sh_spec_iOthers s vars = some (othL s vars) := by
  unfold sh_spec_iOthers
  exact spec_fixed hs
/-! ### Weights -/
def wI (w : List Int) : List Int → Int
  | [] => 0
  | x :: l => w.getD x.toNat 0 + wI w l
theorem weightOf_eq {w vars : List Int} (hw : ∀ x ∈ w, 1 ≤ x ∧ x ≤ 100) (hin : ∀ x ∈ vars, 0 ≤ x ∧ x < (w.length : Int)) (hl : vars.length ≤ 1000) : sh_impl_weightOf w vars = some (wI w vars) := by
  unfold sh_impl_weightOf
  refine (range_mem (I := fun k (a : Int) => 0 ≤ a ∧ a ≤ 100 * (k : Int)) (G := fun l' k a => some (a + wI w l')) ?_ ?_ 0 (by omega)).trans (by simp)
  · intro k a _ _; simp [wI]
  · intro x l' k a next hx _ ha hn
    have hk := (List.getElem?_eq_some_iff.1 hx).1
    have hm := hin x (List.mem_of_getElem? hx)
    have hxl : x.toNat < w.length := by omega
    have hb := hw _ (List.getElem_mem hxl)
    rw [getO_pos hm.1 hxl, ckI_pos (by omega) (by omega), hn _ (by omega)]
    simp only [wI, getD_get hxl]
    congr 1; omega
theorem iSum_eq (w vars : List Int) : sh_spec_iSum w vars = sh_impl_weightOf w vars := rfl
def chp (s : List XVariable) (l : List XEdit) (w v : List Int) (k : Nat) : List Int × Bool := stN (cmB s l v) (wI w) k
section
variable {s : List XVariable} {l : List XEdit} {w v : List Int}
theorem wI_bits (hw : wgtB s w = true) {k : Nat} (hk : k < 2 ^ s.length) : sh_impl_weightOf w (bitsL k) = some (wI w (bitsL k)) := by
  have h := wgtB_get hw
  have hb := bits_len k
  exact weightOf_eq h.2 (fun x hx => by rw [h.1]; exact bits_rng hk hx) (by omega)
theorem wI_best (hw : wgtB s w = true) {k : Nat} (hk : k ≤ 2 ^ s.length) : sh_impl_weightOf w (chp s l w v k).1 = some (wI w (chp s l w v k).1) := by
  have h := wgtB_get hw
  have hb := stN_len (cmB s l v) (wI w) k
  exact weightOf_eq h.2 (fun x hx => by rw [h.1]; exact stN_rng hk hx) (by unfold chp; omega)
theorem cover_wgt (hs : schB s = true) (hl : edsB s l = true) (hw : wgtB s w = true) (hv : valB s v = true) (hle : prodV s ≤ 100) :
    sh_impl_leastCover_impl_cheapestChange_1 s l v w = some (chp s l w v (2 ^ s.length)) := by
  have hls := schB_len hs
  have hp := pow_len hls.2
  unfold sh_impl_leastCover_impl_cheapestChange_1
  rw [ck_pos (by omega), pow_int, ckI_pow hls.2]
  show _ = some (stN (cmB s l v) (wI w) (2 ^ s.length))
  refine loop_up (2 ^ s.length) (fun k => ((stN (cmB s l v) (wI w) k).1, (stN (cmB s l v) (wI w) k).2, (k : Int))) (fun _ => some (stN (cmB s l v) (wI w) (2 ^ s.length))) (by omega) ?_ ?_
  · intro next k hk hn
    have hwb : sh_impl_weightOf w (stN (cmB s l v) (wI w) k).1 = some (wI w (stN (cmB s l v) (wI w) k).1) := wI_best (l := l) (v := v) hw (Nat.le_of_lt hk)
    have hwk := wI_bits hw hk
    simp only [stN, stp, cast_succ] at hn
    generalize hst : stN (cmB s l v) (wI w) k = st at hn hwb ⊢
    obtain ⟨best, found⟩ := st
    have hO := otherVars_eq (s := s) (vars := bitsL k) (by omega)
    have hC := completionOf_eq hs hl hv (oth_in s (bitsL k)) hle
    have hne : comO s l (othL s (bitsL k)) v ≠ some [] := comO_ne hls.1
    simp only [lt_dec hk, if_true]
    rw [bits_m k (by omega), Option.bind_some]
    simp only at hwb
    simp only [jn, hO, hC, Option.bind_some, ck_pos hne, ckI_succ (show k ≤ 4611686018427387904 by omega), sh_impl_cheapestChange_1, hwb, hwk, cmpI_eq, lexC_eq, or3_eq, or3_lss (wI w)]
    have hcm : (comO s l (othL s (bitsL k)) v).isSome = cmB s l v (bitsL k) := rfl
    rw [hcm]
    revert hn
    cases found <;> cases lssB (wI w) (bitsL k) best <;> cases cmB s l v (bitsL k) <;> exact fun hn => hn
  · intro next
    simp only [lt_self, Bool.false_eq_true, if_false]
theorem cheapestChange_eq (hs : schB s = true) (hl : edsB s l = true) (hw : wgtB s w = true) (hv : valB s v = true) (hle : prodV s ≤ 100) :
    sh_impl_cheapestChange s l w v = some (chp s l w v (2 ^ s.length)) := by
  unfold sh_impl_cheapestChange
  rw [cover_wgt hs hl hw hv hle, Option.bind_some]
def chpX (st : List Int × Bool) (w : List Int) : Int := if st.2 = true then wI w st.1 else 0
def chpW (s : List XVariable) (l : List XEdit) (w v : List Int) (k : Nat) : Int := chpX (chp s l w v k) w
theorem iCheapest_eq (hs : schB s = true) (hl : edsB s l = true) (hw : wgtB s w = true) (hv : valB s v = true) (hle : prodV s ≤ 100) :
    sh_spec_iCheapest s l w v = some ((chp s l w v (2 ^ s.length)).1, chpW s l w v (2 ^ s.length), (chp s l w v (2 ^ s.length)).2) := by
  have hls := schB_len hs
  have hp := pow_len hls.2
  unfold sh_spec_iCheapest
  refine loop_up (2 ^ s.length) (fun k => ((stN (cmB s l v) (wI w) k).1, chpX (stN (cmB s l v) (wI w) k) w, (stN (cmB s l v) (wI w) k).2, (k : Int))) (fun _ => some ((stN (cmB s l v) (wI w) (2 ^ s.length)).1, chpX (stN (cmB s l v) (wI w) (2 ^ s.length)) w, (stN (cmB s l v) (wI w) (2 ^ s.length)).2)) (by omega) ?_ ?_
  · intro next k hk hn
    have hwk := wI_bits hw hk
    have hsl := stN_len (cmB s l v) (wI w) k
    have hb := bits_len k
    simp only [stN, stp, cast_succ] at hn
    generalize hst : stN (cmB s l v) (wI w) k = st at hn hsl ⊢
    obtain ⟨best, found⟩ := st
    simp only [chpX] at hsl ⊢
    rw [ckK_u64 (by omega) (by omega), ck_pos (by omega), pow_int, ckI_pow hls.2]
    simp only [lt_dec hk, if_true]
    rw [bits_i k (by omega), Option.bind_some, iSum_eq, hwk, Option.bind_some]
    simp only [l1Less_eq (show (bitsL k).length ≤ 1048576 by omega) (show best.length ≤ 1048576 by omega), Option.bind_some, iOthers_eq (show s.length ≤ 1048576 by omega), eComplete_eq hs hl hv (oth_in s (bitsL k)) hle, ckI_succ (show k ≤ 4611686018427387904 by omega)]
    have hcm : (comO s l (othL s (bitsL k)) v).isSome = cmB s l v (bitsL k) := rfl
    rw [hcm]
    cases found with
    | false =>
      simp only [Bool.false_eq_true, if_false, Option.bind_some]
      revert hn
      simp only [Bool.not_false, Bool.true_or, Bool.true_and]
      cases cmB s l v (bitsL k) <;> exact fun hn => hn
    | true =>
      have hin : ((if (decide (wI w best < wI w (bitsL k))) = true then some true else if (decide (wI w (bitsL k) = wI w best)) = true then (if (decide ((best.length : Int) < ((bitsL k).length : Int))) = true then some true else if (decide (((bitsL k).length : Int) = (best.length : Int))) = true then some (decide ((0 : Int) ≤ lexC (bitsL k) best)) else some false) else some false) : Option Bool) = some (!lssB (wI w) (bitsL k) best) := by
        unfold lssB
        rcases Int.lt_trichotomy (wI w (bitsL k)) (wI w best) with h | h | h
        · simp [h, show ¬ (wI w best < wI w (bitsL k)) by omega, show ¬ (wI w (bitsL k) = wI w best) by omega]
        · rcases Int.lt_trichotomy ((bitsL k).length : Int) (best.length : Int) with q | q | q
          · simp [h, q, show ¬ ((best.length : Int) < ((bitsL k).length : Int)) by omega, show ¬ (((bitsL k).length : Int) = (best.length : Int)) by omega]
          · by_cases r : lexC (bitsL k) best < 0 <;> simp [h, q, r] <;> omega
          · simp [h, q, show ¬ (((bitsL k).length : Int) < (best.length : Int)) by omega, show ¬ (((bitsL k).length : Int) = (best.length : Int)) by omega]
        · simp [h, show ¬ (wI w (bitsL k) < wI w best) by omega, show ¬ (wI w (bitsL k) = wI w best) by omega]
      simp only [if_true]
      rw [hin]
      simp only [Option.bind_some]
      revert hn
      simp only [Bool.not_true, Bool.false_or]
      cases lssB (wI w) (bitsL k) best <;> cases cmB s l v (bitsL k) <;> exact fun hn => hn
  · intro next
    rw [ckK_u64 (by omega) (by omega), ck_pos (by omega), pow_int, ckI_pow hls.2]
    simp only [lt_self, Bool.false_eq_true, if_false]
theorem isMendable_eq : sh_impl_isMendable s l w = some ((smlB s && edsB s l) && wgtB s w) := by
  unfold sh_impl_isMendable
  rw [isSmall_eq, Option.bind_some]
  cases hs : smlB s with
  | false => rfl
  | true =>
    have hsch := smlB_sch hs
    simp only [if_true, areEdits_eq hsch, Option.bind_some]
    cases hl : edsB s l with
    | false => rfl
    | true =>
      simp only [if_true, Bool.and_self, Bool.true_and, areWeights_eq, Option.bind_some]
theorem completionOf_fg_eq {f : List Int} (hs : schB s = true) (hl : edsB s l = true) (hv : valB s v = true) (hf : inV s f) (hle : prodV s ≤ 100) : sh_impl_completionOf_fg s l f v = some ((comO s l f v).getD []) := by
  unfold sh_impl_completionOf_fg
  rw [completionOf_eq hs hl hv hf hle, Option.map_some]
end
/-! ### Mended values -/
def mndL (s : List XVariable) (l : List XEdit) (w v : List Int) : List Int := (comO s l (othL s (chp s l w v (2 ^ s.length)).1) v).getD []
theorem mnd_some {s : List XVariable} {l : List XEdit} {w v : List Int} (h : (chp s l w v (2 ^ s.length)).2 = true) : (comO s l (othL s (chp s l w v (2 ^ s.length)).1) v).isSome = true := (stN_bit (cmB s l v) (wI w) h).1
theorem iMend_eq {s : List XVariable} {l : List XEdit} {w v : List Int} (hs : schB s = true) (hl : edsB s l = true) (hw : wgtB s w = true) (hv : valB s v = true) (hle : prodV s ≤ 100) :
    sh_spec_iMend s l w v = some (if (chp s l w v (2 ^ s.length)).2 = true then (mndL s l w v, true) else ([], false)) := by
  have hls := schB_len hs
  unfold sh_spec_iMend
  rw [iCheapest_eq hs hl hw hv hle, Option.bind_some]
  simp only
  cases hf : (chp s l w v (2 ^ s.length)).2 with
  | false => rfl
  | true =>
    simp only [Bool.not_true, Bool.false_eq_true, if_false, if_true]
    rw [iOthers_eq (by omega), Option.bind_some, eComplete_eq hs hl hv (oth_in s _) hle, Option.bind_some, mnd_some hf]
    rfl
/-! ### A donor's values -/
end AS
namespace AS
theorem stN_min (cm : List Int → Bool) (wt : List Int → Int) : ∀ {k m : Nat}, m < k → cm (bitsL m) = true → (stN cm wt k).2 = true ∧ wt (stN cm wt k).1 ≤ wt (bitsL m)
  | 0, m, h, _ => by omega
  | k + 1, m, h, hm => by
    have ih := fun h => stN_min cm wt (k := k) (m := m) h hm
    simp only [stN, stp]
    generalize stN cm wt k = st at ih ⊢
    obtain ⟨best, found⟩ := st
    by_cases e : m = k
    · subst e
      cases found with
      | false => simp [hm]
      | true =>
        cases hl : lssB wt (bitsL m) best with
        | true => simp [hm]
        | false =>
          simp only [Bool.not_true, Bool.false_or, Bool.false_and, Bool.false_eq_true, if_false, true_and]
          simp only [lssB, Bool.or_eq_false_iff, decide_eq_false_iff_not] at hl
          omega
    · have h2 := ih (by omega)
      simp only at h2
      obtain ⟨rfl, h2⟩ := h2
      cases hl : lssB wt (bitsL k) best with
      | false => simpa using h2
      | true =>
        cases hk : cm (bitsL k) with
        | false => simpa using h2
        | true =>
          simp only [Bool.not_true, Bool.false_or, Bool.and_self, if_true, true_and]
          simp only [lssB, Bool.or_eq_true, decide_eq_true_eq, Bool.and_eq_true] at hl
          omega
theorem wI_app (w : List Int) : ∀ a b : List Int, wI w (a ++ b) = wI w a + wI w b
  | [], b => by simp [wI]
  | x :: a, b => by simp only [List.cons_append, wI, wI_app w a b]; omega
def wB (w : List Int) (m : Nat) (n : Nat) : Int := sumR n fun i => if m.testBit i = true then w.getD i 0 else 0
theorem wI_filter (w : List Int) (m : Nat) : ∀ n, wI w (((List.range n).filter fun (i : Nat) => m.testBit i).map fun (i : Nat) => (i : Int)) = wB w m n
  | 0 => rfl
  | n + 1 => by
    unfold wB
    rw [sumR_succ, List.range_succ, List.filter_append, List.map_append, wI_app, wI_filter w m n]
    unfold wB
    cases h : m.testBit n <;> simp [h, wI]
theorem wI_bitsL (w : List Int) (m : Nat) : wI w (bitsL m) = wB w m 6 := wI_filter w m 6
/-- One bit less. -/
theorem clr_bit (m i j : Nat) (h : m.testBit i = true) : (m ^^^ 2 ^ i).testBit j = (m.testBit j && decide (j ≠ i)) := by
  rw [Nat.testBit_xor, Nat.testBit_two_pow]
  by_cases e : i = j
  · subst e; simp [h]
  · simp [e, Ne.symm e]
theorem wB_clr (w : List Int) {m i : Nat} (h : m.testBit i = true) : ∀ n, wB w (m ^^^ 2 ^ i) n = wB w m n - (if i < n then w.getD i 0 else 0)
  | 0 => by simp [wB, sumR_zero]
  | n + 1 => by
    have ih := wB_clr w h n
    unfold wB at ih ⊢
    rw [sumR_succ, sumR_succ, ih, clr_bit m i n h]
    by_cases e : n = i
    · subst e; simp [h]
    · by_cases q : i < n
      · cases m.testBit n <;> simp [e, q, show i < n + 1 by omega] <;> omega
      · cases m.testBit n <;> simp [e, q, show ¬ i < n + 1 by omega]
theorem sumR_cons (f : Nat → Int) (n : Nat) : sumR (n + 1) f = f 0 + sumR n fun j => f (j + 1) := by
  have := sumR_split f 1 n
  rw [show n + 1 = 1 + n by omega, this, sumR_succ, sumR_zero]
  simp [Nat.add_comm]
theorem costF_sum : ∀ (a b w : List Int), a.length = w.length → b.length = w.length → costF a b w = sumR w.length fun i => if a.getD i 0 ≠ b.getD i 0 then w.getD i 0 else 0
  | [], [], [], _, _ => rfl
  | x :: a, y :: b, z :: w, h1, h2 => by
    simp only [List.length_cons] at h1 h2 ⊢
    rw [sumR_cons, costF, costF_sum a b w (by omega) (by omega)]
    rfl
  | [], [], _ :: _, h, _ => by simp at h
  | [], _ :: _, [], _, h => by simp at h
  | [], _ :: _, _ :: _, h, _ => by simp at h
  | _ :: _, [], [], h, _ => by simp at h
  | _ :: _, [], _ :: _, _, h => by simp at h
  | _ :: _, _ :: _, [], h, _ => by simp at h
section
variable {s : List XVariable} {l : List XEdit} {w v : List Int}
theorem com_of {f : List Int} {k : Nat} (hk : k < (prodV s).toNat) (h : fitB s l f v k = true) : (comO s l f v).isSome = true := by
  unfold comO
  cases hf : fndN (fitB s l f v) 0 (prodV s).toNat with
  | some j => rfl
  | none =>
    have := fndN_none.1 hf k (Nat.zero_le _) (by omega)
    rw [h] at this; cases this
theorem com_at {f : List Int} (h : (comO s l f v).isSome = true) : ∃ k, k < (prodV s).toNat ∧ (comO s l f v).getD [] = digV s (k : Int) ∧ fitB s l f v k = true := by
  unfold comO at h ⊢
  cases hf : fndN (fitB s l f v) 0 (prodV s).toNat with
  | none => rw [hf] at h; cases h
  | some k =>
    have := fndN_some hf
    exact ⟨k, by omega, rfl, this.2.2⟩
theorem agr_iff {f a : List Int} : agrB f v a = true ↔ ∀ x ∈ f, a.getD x.toNat 0 = v.getD x.toNat 0 := by
  unfold agrB
  constructor
  · intro h x hx
    obtain ⟨j, hj⟩ := List.getElem?_of_mem hx
    have := not_anyF h hj
    simpa using this
  · intro h
    cases ha : anyF (fun _ x => decide (a.getD x.toNat 0 ≠ v.getD x.toNat 0)) f 0 with
    | false => rfl
    | true =>
      obtain ⟨j, x, h1, h2⟩ := anyF_iff.1 ha
      exact absurd (h x (List.mem_of_getElem? h1)) (of_decide_eq_true h2)
theorem oth_mem {vars : List Int} {i : Nat} (hi : i < s.length) : ((i : Int) ∈ othL s vars) ↔ (i : Int) ∉ vars := by
  constructor
  · intro h
    obtain ⟨k, y, h1, h2, h3⟩ := selF_mem h
    simp only [Nat.zero_add] at h2 h3
    have e : k = i := by omega
    subst e
    intro q
    rw [hasB_iff.2 q] at h2; cases h2
  · intro h
    have hb : (!hasB vars (i : Int)) = true := by
      cases hb : hasB vars (i : Int) with
      | false => rfl
      | true => exact absurd (hasB_iff.1 hb) h
    have := mem_selF (c := fun k (_ : XVariable) => !hasB vars (k : Int)) (f := fun k (_ : XVariable) => (k : Int)) (k := 0) (List.getElem?_eq_getElem hi) (by rw [Nat.zero_add]; exact hb)
    rw [Nat.zero_add] at this
    exact this
/-- The mended values differ in the cover and nowhere else. -/
theorem mnd_diff (hs : schB s = true) (hw : wgtB s w = true) (hf : (chp s l w v (2 ^ s.length)).2 = true) {m : Nat} (hm : m < 2 ^ s.length) (hb : (chp s l w v (2 ^ s.length)).1 = bitsL m) {i : Nat} (hi : i < s.length) :
    ((mndL s l w v).getD i 0 ≠ v.getD i 0) ↔ m.testBit i = true := by
  have hls := schB_len hs
  have hwg := wgtB_get hw
  obtain ⟨k, hk, he, hfit⟩ := com_at (mnd_some hf)
  have he' : mndL s l w v = digV s (k : Int) := he
  simp only [fitB, Bool.and_eq_true] at hfit
  have hagr := agr_iff.1 hfit.2
  rw [he']
  rw [hb] at hagr
  have hbit : (i : Int) ∈ bitsL m ↔ m.testBit i = true := by
    rw [bits_mem]
    constructor
    · rintro ⟨j, _, h2, h3⟩
      have : i = j := by omega
      rw [this]; exact h2
    · intro h; exact ⟨i, by omega, h, rfl⟩
  constructor
  · intro hne
    cases ht : m.testBit i with
    | true => rfl
    | false =>
      have : (i : Int) ∈ othL s (bitsL m) := (oth_mem hi).2 (fun h => by rw [hbit.1 h] at ht; cases ht)
      have := hagr _ this
      rw [Int.toNat_natCast] at this
      exact absurd this hne
  · intro ht heq
    -- a smaller cover would do
    have hxl : m ^^^ 2 ^ i < 2 ^ s.length := Nat.xor_lt_two_pow hm (Nat.pow_lt_pow_right (by omega) hi)
    have hcm : cmB s l v (bitsL (m ^^^ 2 ^ i)) = true := by
      refine com_of hk ?_
      simp only [fitB, Bool.and_eq_true]
      refine ⟨hfit.1, agr_iff.2 fun x hx => ?_⟩
      have hxr := oth_in s _ x hx
      obtain ⟨j, rfl⟩ := Int.eq_ofNat_of_zero_le hxr.1
      have hj : j < s.length := by omega
      have h1 := (oth_mem hj).1 hx
      rw [Int.toNat_natCast]
      by_cases e : j = i
      · subst e; exact heq
      · have h2 : (j : Int) ∉ bitsL m := by
          intro q
          obtain ⟨j', h3, h4, h5⟩ := bits_mem.1 q
          have : j = j' := by omega
          subst this
          exact h1 (bits_mem.2 ⟨j, h3, by rw [clr_bit m i j ht, h4]; simp [e], rfl⟩)
        have := hagr _ ((oth_mem hj).2 h2)
        rw [Int.toNat_natCast] at this
        exact this
    have hmin := (stN_min (cmB s l v) (wI w) hxl hcm).2
    have hmin' : wI w (chp s l w v (2 ^ s.length)).1 ≤ wI w (bitsL (m ^^^ 2 ^ i)) := hmin
    rw [hb, wI_bitsL, wI_bitsL, wB_clr w ht, if_pos (by omega)] at hmin'
    have hiw : i < w.length := by omega
    have := hwg.2 _ (List.getElem_mem hiw)
    rw [getD_get hiw] at hmin'
    omega
theorem mnd_cost (hs : schB s = true) (hw : wgtB s w = true) (hv : valB s v = true) (hf : (chp s l w v (2 ^ s.length)).2 = true) : costF (mndL s l w v) v w = wI w (chp s l w v (2 ^ s.length)).1 := by
  have hls := schB_len hs
  have hwg := wgtB_get hw
  have hvl := valB_len hv
  obtain ⟨_, m, hm, hb⟩ := stN_bit (cmB s l v) (wI w) hf
  have hb' : (chp s l w v (2 ^ s.length)).1 = bitsL m := hb
  obtain ⟨k, hk, he, _⟩ := com_at (mnd_some hf)
  have hml : (mndL s l w v).length = s.length := by
    have : mndL s l w v = digV s (k : Int) := he
    rw [this, digV_len]
  rw [costF_sum _ _ _ (by omega) (by omega), hb', wI_bitsL]
  unfold wB
  have e6 : ∃ d, 6 = s.length + d := ⟨6 - s.length, by omega⟩
  obtain ⟨d, hd⟩ := e6
  rw [hd, sumR_split, hwg.1]
  have hz : (sumR d fun j => if m.testBit (s.length + j) = true then w.getD (s.length + j) 0 else 0) = 0 := by
    refine sumR_nil fun j hj => ?_
    have : m.testBit (s.length + j) = false := Nat.testBit_lt_two_pow (Nat.lt_of_lt_of_le hm (Nat.pow_le_pow_right (by omega) (by omega)))
    simp [this]
  rw [hz, Int.add_zero]
  refine sumR_congr fun i hi => ?_
  have := mnd_diff hs hw hf hm hb' hi
  by_cases q : m.testBit i = true
  · rw [if_pos (this.2 q), if_pos q]
  · rw [if_neg (fun h => q (this.1 h)), if_neg q]
end
/-! ### Data -/
def mrec (s : List XVariable) (l : List XEdit) (w : List Int) (r : XRecord) : XRecord := if fOne l r.Values = true then ⟨r.Area, r.House, mndL s l w r.Values⟩ else r
def mcst (s : List XVariable) (l : List XEdit) (w : List Int) (r : XRecord) : Int := if fOne l r.Values = true then wI w (chp s l w r.Values (2 ^ s.length)).1 else 0
def mbad (s : List XVariable) (l : List XEdit) (w : List Int) (r : XRecord) : Bool := fOne l r.Values && !(chp s l w r.Values (2 ^ s.length)).2
def mdaR (s : List XVariable) (l : List XEdit) (w : List Int) (d : List XRecord) : List XRecord × List Int × Bool :=
  cond (anyF (fun _ r => mbad s l w r) d 0) ([], [], false) (d.map (mrec s l w), d.map (mcst s l w), true)
theorem iChg_eq {w a b : List Int} (hw : ∀ x ∈ w, 1 ≤ x ∧ x ≤ 100) (h1 : a.length ≤ 6) (h2 : b.length = a.length) (h3 : w.length = a.length) : sh_spec_iChanged w a b = some (costF a b w) := by
  unfold sh_spec_iChanged
  refine (range_mem (I := fun (k : Nat) (c : Int) => 0 ≤ c ∧ c ≤ 100 * (k : Int)) (G := fun l k c => some (c + costF l (b.drop k) (w.drop k))) ?_ ?_ 0 ⟨by omega, by simp⟩).trans (by simp)
  · intro k c _ _; simp [costF]
  · intro x l' k c next hx hd hI hn
    have hk := (List.getElem?_eq_some_iff.1 hx).1
    have hkb : k < b.length := by omega
    have hkw : k < w.length := by omega
    have hwk := hw w[k] (List.getElem_mem hkw)
    have hI2 := hI.2
    rw [getO_nat hkb, List.drop_eq_getElem_cons hkb, List.drop_eq_getElem_cons hkw]
    simp only [costF]
    by_cases e : x = b[k]
    · simp only [e, ne_eq, not_true_eq_false, decide_false, Bool.false_eq_true, if_false, Int.zero_add]
      exact hn _ ⟨hI.1, by omega⟩
    · simp only [e, ne_eq, not_false_eq_true, decide_true, if_true]
      rw [getO_nat hkw, ckI_pos (by omega) (by omega), hn _ ⟨by omega, by omega⟩, Int.add_assoc]
theorem rOwn_eq {r : XRecord} (h : r.Values.length ≤ 1048576) : sh_spec_rOwn r = some r := by
  unfold sh_spec_rOwn
  rw [l1Own_eq (by omega), Option.bind_some]
theorem copyRecord_eq {r : XRecord} (h : r.Values.length ≤ 1048576) : sh_impl_copyRecord r = some r := by
  unfold sh_impl_copyRecord
  rw [Clone_eq (by omega), Option.bind_some]
theorem copyRecords_eq {d : List XRecord} (h : bulkRS d ≤ 1048576) : sh_impl_copyRecords d = some d := by
  unfold sh_impl_copyRecords
  have hl : d.length ≤ 1048576 := by unfold bulkRS at h; omega
  rw [mkO_pos (by omega) (by omega), Int.toNat_natCast]
  refine range_mem (I := fun k a => a = mixL d (List.replicate d.length (⟨(0 : Int), (0 : Int), ([] : List Int)⟩ : XRecord)) k) (G := fun _ _ _ => some d) ?_ ?_ _ (mixL_zero _ _).symm
  · intro k a ha hk
    subst ha
    rw [hk, mixL_end (by simp)]
  · intro r l' k a next hx _ ha hn
    subst ha
    have hk := (List.getElem?_eq_some_iff.1 hx).1
    have hke := (List.getElem?_eq_some_iff.1 hx).2
    have hb := bulkR_mem (List.mem_of_getElem? hx)
    unfold bulkR at hb
    rw [copyRecord_eq (by omega), Option.bind_some, getO_some (mixL_get (by simp) (by simpa using hk)), Int.toNat_natCast]
    refine hn _ ?_
    rw [← hke]
    exact mixL_set (by simp) hk
theorem map_take {α β : Type} (f : α → β) {d : List α} {k : Nat} {r : α} (h : d[k]? = some r) : (d.map f).take k ++ [f r] = (d.map f).take (k + 1) := by
  rw [List.take_add_one]
  simp [h]
theorem core_MendData (s : List XVariable) (l : List XEdit) (w : List Int) (d : List XRecord) (h0 : bulkVS s ≤ 1048576) (h1 : bulkES l ≤ 1048576) (h2 : w.length ≤ 1048576) (h3 : bulkRS d ≤ 1048576) :
    ∃ r, sh_spec_MendData s l w d = some r ∧ sh_impl_MendData s l w d = some r ∧ bulkRS r.1 ≤ 1048576 ∧ r.2.1.length ≤ 1048576 := by
  have hdl0 : d.length ≤ 1048576 := by unfold bulkRS at h3; omega
  refine ⟨if ((smlB s && edsB s l) && wgtB s w) && dataB s d then mdaR s l w d else ([], [], false), ?_, ?_, ?_⟩
  · unfold sh_spec_MendData
    rw [eSmall_eq h0, Option.bind_some]
    cases hc : smlB s && edsB s l with
    | false => rfl
    | true =>
      simp only [Bool.and_eq_true] at hc
      have hs := smlB_sch hc.1
      have hl := hc.2
      have hle := (smlB_le hc.1).2
      simp only [Bool.not_true, Bool.false_eq_true, if_false, Bool.true_and, iWeights_eq, Option.bind_some]
      cases hw : wgtB s w with
      | false => rfl
      | true =>
        simp only [Bool.not_true, Bool.false_eq_true, if_false, Bool.true_and]
        rw [dGood_eq hs, Option.bind_some]
        cases hd : dataB s d with
        | false => rfl
        | true =>
          have hdl := dataB_len hd
          simp only [Bool.not_true, Bool.false_eq_true, if_false, if_true]
          unfold mdaR
          refine range_mem (I := fun k st => st = ((d.map (mrec s l w)).take k, (d.map (mcst s l w)).take k)) (G := fun l' k _ => some (cond (anyF (fun _ r => mbad s l w r) l' k) ([], [], false) (d.map (mrec s l w), d.map (mcst s l w), true))) ?_ ?_ _ (by simp)
          · intro k st hst hk
            subst hst
            simp only [anyF, cond_false]
            rw [List.take_of_length_le (by simp; omega), List.take_of_length_le (by simp; omega)]
          · intro r l' k st next hx _ hst hn
            subst hst
            have hk := (List.getElem?_eq_some_iff.1 hx).1
            have hv := recB_val (dataB_get hd (List.mem_of_getElem? hx))
            have hvl := valB_len hv
            have hls := schB_len hs
            rw [rOwn_eq (by omega), Option.bind_some]
            simp only [jn, anyF]
            rw [eFailed_eq hs hl hv, Option.bind_some, failL_any]
            have e1 := map_take (mrec s l w) hx
            have e2 := map_take (mcst s l w) hx
            cases hf : fOne l r.Values with
            | false =>
              have e3 : mrec s l w r = r := by unfold mrec; rw [hf]; rfl
              have e4 : mcst s l w r = 0 := by unfold mcst; rw [hf]; rfl
              rw [e3] at e1
              rw [e4] at e2
              simp only [Bool.false_eq_true, if_false]
              rw [lnO_pos (by simp; omega), lnO_pos (by simp; omega), e1, e2, hn _ rfl]
              have : mbad s l w r = false := by unfold mbad; rw [hf]; rfl
              rw [this, Bool.false_or]
            | true =>
              simp only [if_true]
              rw [iMend_eq hs hl hw hv hle, Option.bind_some]
              cases hch : (chp s l w r.Values (2 ^ s.length)).2 with
              | false =>
                have : mbad s l w r = true := by unfold mbad; rw [hf, hch]; rfl
                rw [this]; rfl
              | true =>
                have hml : (mndL s l w r.Values).length = s.length := by
                  obtain ⟨q, _, he, _⟩ := com_at (mnd_some hch)
                  have : mndL s l w r.Values = digV s (q : Int) := he
                  rw [this, digV_len]
                have hwg := wgtB_get hw
                have e3 : mrec s l w r = ⟨r.Area, r.House, mndL s l w r.Values⟩ := by unfold mrec; rw [hf]; rfl
                have e4 : mcst s l w r = wI w (chp s l w r.Values (2 ^ s.length)).1 := by unfold mcst; rw [hf]; rfl
                rw [e3] at e1
                rw [e4] at e2
                simp only [if_true, Bool.not_true, Bool.false_eq_true, if_false]
                rw [iChg_eq hwg.2 (by omega) (by omega) (by omega), Option.bind_some, mnd_cost hs hw hv hch, lnO_pos (by simp; omega), lnO_pos (by simp; omega), e1, e2, hn _ rfl]
                have : mbad s l w r = false := by unfold mbad; rw [hf, hch]; rfl
                rw [this, Bool.false_or]
  · unfold sh_impl_MendData
    rw [isMendable_eq, Option.bind_some]
    cases hc : (smlB s && edsB s l) && wgtB s w with
    | false => rfl
    | true =>
      simp only [Bool.and_eq_true] at hc
      have hs := smlB_sch hc.1.1
      have hl := hc.1.2
      have hw := hc.2
      have hle := (smlB_le hc.1.1).2
      simp only [Bool.not_true, Bool.false_eq_true, if_false, Bool.true_and]
      rw [isData_eq, Option.bind_some]
      cases hd : dataB s d with
      | false => rfl
      | true =>
        have hdl := dataB_len hd
        have hls := schB_len hs
        simp only [Bool.not_true, Bool.false_eq_true, if_false, if_true]
        rw [copyRecords_eq h3, Option.bind_some, mkO_pos (by omega) (by omega), Int.toNat_natCast]
        unfold mdaR
        have z1 : (d.map (mrec s l w)).length = d.length := by simp
        have z2 : (d.map (mcst s l w)).length = (List.replicate d.length (0 : Int)).length := by simp
        refine range_mem (I := fun k st => st = (mixL (d.map (mrec s l w)) d k, mixL (d.map (mcst s l w)) (List.replicate d.length (0 : Int)) k)) (G := fun l' k _ => some (cond (anyF (fun _ r => mbad s l w r) l' k) ([], [], false) (d.map (mrec s l w), d.map (mcst s l w), true))) ?_ ?_ _ (by simp [mixL_zero])
        · intro k st hst hk
          subst hst
          simp only [anyF, cond_false]
          have q1 := mixL_end z1
          have q2 := mixL_end z2
          simp only [List.length_map] at q1 q2
          rw [hk, q1, q2]
        · intro r l' k st next hx _ hst hn
          subst hst
          have hk := (List.getElem?_eq_some_iff.1 hx).1
          have hke := (List.getElem?_eq_some_iff.1 hx).2
          have hv := recB_val (dataB_get hd (List.mem_of_getElem? hx))
          have hvl := valB_len hv
          have g1 := mixL_get z1 hk
          have g2 := mixL_get z2 (show k < (List.replicate d.length (0 : Int)).length by simpa using hk)
          have t1 := mixL_set z1 (show k < (d.map (mrec s l w)).length by simpa using hk)
          have t2 := mixL_set z2 (show k < (d.map (mcst s l w)).length by simpa using hk)
          simp only [List.getElem_map, hke] at t1 t2
          rw [hke] at g1
          rw [List.getElem_replicate] at g2
          rw [failsOne_eq hs hl hv, Option.bind_some]
          simp only [anyF]
          cases hf : fOne l r.Values with
          | false =>
            have e3 : mrec s l w r = r := by unfold mrec; rw [hf]; rfl
            have e4 : mcst s l w r = 0 := by unfold mcst; rw [hf]; rfl
            rw [e3, set_same g1] at t1
            rw [e4, set_same g2] at t2
            simp only [Bool.not_false, if_true]
            rw [hn _ (by rw [t1, t2])]
            have : mbad s l w r = false := by unfold mbad; rw [hf]; rfl
            rw [this, Bool.false_or]
          | true =>
            simp only [Bool.not_true, Bool.false_eq_true, if_false]
            rw [cheapestChange_eq hs hl hw hv hle, Option.bind_some]
            cases hch : (chp s l w r.Values (2 ^ s.length)).2 with
            | false =>
              have : mbad s l w r = true := by unfold mbad; rw [hf, hch]; rfl
              rw [this]; rfl
            | true =>
              have e3 : mrec s l w r = ⟨r.Area, r.House, mndL s l w r.Values⟩ := by unfold mrec; rw [hf]; rfl
              have e4 : mcst s l w r = wI w (chp s l w r.Values (2 ^ s.length)).1 := by unfold mcst; rw [hf]; rfl
              rw [e3] at t1
              rw [e4] at t2
              simp only [Bool.not_true, Bool.false_eq_true, if_false]
              rw [otherVars_eq (by omega), Option.bind_some, completionOf_fg_eq hs hl hv (oth_in s _) hle, Option.bind_some, getO_some g1, wI_best hw (Nat.le_refl _), Option.bind_some, getO_some g2, Int.toNat_natCast]
              have t1' : (mixL (d.map (mrec s l w)) d k).set k ⟨r.Area, r.House, (comO s l (othL s (chp s l w r.Values (2 ^ s.length)).1) r.Values).getD []⟩ = mixL (d.map (mrec s l w)) d (k + 1) := t1
              rw [t1', t2, hn _ rfl]
              have : mbad s l w r = false := by unfold mbad; rw [hf, hch]; rfl
              rw [this, Bool.false_or]
  · split
    · rename_i hc
      simp only [Bool.and_eq_true] at hc
      have hs := smlB_sch hc.1.1.1
      have hls := schB_len hs
      unfold mdaR
      cases anyF (fun _ r => mbad s l w r) d 0
      rotate_left
      · simp [bulkRS, sumL]
      · refine ⟨?_, by simpa using hdl0⟩
        show bulkRS (d.map (mrec s l w)) ≤ 1048576
        have hb : ∀ d' : List XRecord, (∀ r ∈ d', valB s r.Values = true) → sumL bulkR (d'.map (mrec s l w)) ≤ sumL bulkR d' := by
          intro d'
          induction d' with
          | nil => intro _; exact Nat.le_refl _
          | cons r d' ih =>
            intro hr
            have h4 := ih fun q hq => hr q (by simp [hq])
            have h5 := valB_len (hr r (by simp))
            have h6 : bulkR (mrec s l w r) ≤ bulkR r := by
              unfold mrec bulkR
              split
              · have := comO_len (s := s) (l := l) (f := othL s (chp s l w r.Values (2 ^ s.length)).1) (v := r.Values)
                simp only [mndL]; omega
              · exact Nat.le_refl _
            simp only [List.map_cons, sumL_cons]; omega
        have := hb d fun r hr => recB_val (dataB_get hc.2 hr)
        unfold bulkRS at h3 ⊢
        simp only [List.length_map]; omega
    · simp [bulkRS, sumL]
end AS
namespace AS
theorem law_MendData (v0 : List XVariable) (v1 : List XEdit) (v2 : List Int) (v3 : List XRecord) (b0 : Bd.bd v0) (b1 : Bd.bd v1) (b2 : Bd.bd v2) (b3 : Bd.bd v3) : sh_laws_FnExactMendData v0 v1 v2 v3 = some true := by
  unfold sh_laws_FnExactMendData
  by_cases h2 : v2.length ≤ 1048576
  · simp only [show ¬ ((1048576 : Int) < (v2.length : Int)) by omega, decide_false, Bool.false_eq_true, if_false]
    rw [szVariableS_eq (by omega) (by omega) b0, Option.bind_some]
    by_cases h0 : ((bulkVS v0 : Nat) : Int) ≤ 1048576
    · rw [left_pos h0]
      simp only [show ¬ ((1048576 : Int) - ((bulkVS v0 : Nat) : Int) < 0) by omega, decide_false, Bool.false_eq_true, if_false]
      rw [szEditS_eq (by omega) (by omega) b1, Option.bind_some]
      by_cases h1 : ((bulkES v1 : Nat) : Int) ≤ 1048576 - ((bulkVS v0 : Nat) : Int)
      · rw [left_pos h1]
        simp only [show ¬ (1048576 - ((bulkVS v0 : Nat) : Int) - ((bulkES v1 : Nat) : Int) < 0) by omega, decide_false, Bool.false_eq_true, if_false]
        rw [szRecordS_eq (by omega) (by omega) b3, Option.bind_some]
        by_cases h3 : ((bulkRS v3 : Nat) : Int) ≤ 1048576 - ((bulkVS v0 : Nat) : Int) - ((bulkES v1 : Nat) : Int)
        · rw [left_pos h3]
          simp only [show ¬ (1048576 - ((bulkVS v0 : Nat) : Int) - ((bulkES v1 : Nat) : Int) - ((bulkRS v3 : Nat) : Int) < 0) by omega, decide_false, Bool.false_eq_true, if_false]
          obtain ⟨r, e1, e2, q0, q1⟩ := core_MendData v0 v1 v2 v3 (by omega) (by omega) h2 (by omega)
          have q0' := q0
          have q1' := q1
          have n0 : v0.length ≤ bulkVS v0 := Nat.le_add_right _ _
          have m0 := marksVS_le v0
          have n1 : v1.length ≤ bulkES v1 := Nat.le_add_right _ _
          have m1 := marksES_le v1
          have n3 : v3.length ≤ bulkRS v3 := Nat.le_add_right _ _
          have m3 := marksRS_le v3
          have p0 : (r.1).length ≤ bulkRS (r.1) := Nat.le_add_right _ _
          have o0 := marksRS_le (r.1)
          simp [e1, e2, toVariableS_eq (s := v0) (by omega),
      eqVariableS_eq (a := v0) (b := v0) (by omega),
      toEditS_eq (l := v1) (by omega),
      eqEditS_eq (a := v1) (b := v1) (by omega),
      toIntS_eq (l := v2) (by omega),
      eqIntS_eq (a := v2) (b := v2) (by omega),
      toRecordS_eq (l := v3) (by omega),
      eqRecordS_eq (a := v3) (b := v3) (by omega),
      markVariableS_eq (l := v0) (n := 1) (by omega) (by omega) (by omega),
      markEditS_eq (l := v1) (n := 1 + ((marksVS v0 : Nat) : Int)) (by omega) (by omega) (by omega),
      markIntS_eq (l := v2) (n := 1 + ((marksVS v0 : Nat) : Int) + ((marksES v1 : Nat) : Int)) (by omega) (by omega),
      markRecordS_eq (l := v3) (n := 1 + ((marksVS v0 : Nat) : Int) + ((marksES v1 : Nat) : Int) + (v2.length : Int)) (by omega) (by omega) (by omega),
      show ¬ ((1 : Int) + ((marksVS v0 : Nat) : Int) + ((marksES v1 : Nat) : Int) + (v2.length : Int) + ((marksRS v3 : Nat) : Int) < 0) by omega,
      eqRecordS_eq (a := r.1) (b := r.1) (by omega),
      markRecordS_eq (l := r.1) (n := 1) (by omega) (by omega) (by omega),
      heldRecordS_eq (l := r.1) (n := 1) (by omega) (by omega) (by omega),
      show ¬ ((1 : Int) + ((marksRS (r.1) : Nat) : Int) < 0) by omega,
      eqIntS_eq (a := r.2.1) (b := r.2.1) (by omega),
      markIntS_eq (l := r.2.1) (n := 1 + ((marksRS (r.1) : Nat) : Int)) (by omega) (by omega),
      heldIntS_eq (m := (r.2.1).length) (n := 1 + ((marksRS (r.1) : Nat) : Int)) (by omega) (by omega),
      show ¬ ((1 : Int) + ((marksRS (r.1) : Nat) : Int) + ((r.2.1).length : Int) < 0) by omega]
        · rw [left_no h3]; simp
      · rw [left_no h1]; simp
    · rw [left_no h0]; simp
  · simp [show ((1048576 : Int) < (v2.length : Int)) by omega]
end AS
