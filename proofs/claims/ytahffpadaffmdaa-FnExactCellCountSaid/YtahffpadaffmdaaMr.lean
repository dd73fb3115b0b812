/- Plain lemmas. No condition. -/
import Derived.Test.YtahffpadaffmdaaKc
import Derived.Test.YtahffpadaffmdaaMa
import Derived.Test.YtahffpadaffmdaaMaa
import Derived.Test.YtahffpadaffmdaaMag
import Derived.Test.YtahffpadaffmdaaMal
import Derived.Test.YtahffpadaffmdaaMl
import Derived.Test.YtahffpadaffmdaaMp
import Derived.Test.YtahffpadaffmdaaMq
import Derived.Test.YtahffpadaffmdaaSda
import Derived.Test.YtahffpadaffmdaaSdb
import Derived.Test.YtahffpadaffmdaaSdc
import Derived.Test.YtahffpadaffmdaaSde
set_option linter.unusedVariables false
set_option linter.unusedSimpArgs false
namespace AS
theorem ckK_u64 {R : Type} {n : Int} {f : Option R} (h0 : 0 ≤ n) (h1 : n ≤ 18446744073709551615) : ckK .u64 n f = f := if_pos ⟨h0, h1⟩
theorem ckK_i64 {R : Type} {n : Int} {f : Option R} (h0 : -9223372036854775808 ≤ n) (h1 : n ≤ 9223372036854775807) : ckK .i64 n f = f := if_pos ⟨h0, h1⟩
theorem getD_get {α : Type} {l : List α} {k : Nat} {d : α} (h : k < l.length) : l.getD k d = l[k] := by simp [List.getD_eq_getElem?_getD, h]
theorem getD_some {α : Type} {l : List α} {k : Nat} {d x : α} (h : l[k]? = some x) : l.getD k d = x := by simp [List.getD_eq_getElem?_getD, h]
theorem anyF_swap {α β : Type} {P : α → β → Bool} {s : List α} {w : List β} {d : β} {d' : α} (h : w.length = s.length) : anyF (fun k v => P v (w.getD k d)) s 0 = anyF (fun k x => P (s.getD k d') x) w 0 := by
  rw [Bool.eq_iff_iff, anyF_iff, anyF_iff]
  constructor
  · rintro ⟨j, v, h1, h2⟩
    have hj := (List.getElem?_eq_some_iff.1 h1).1
    refine ⟨j, w[j]'(by omega), List.getElem?_eq_getElem _, ?_⟩
    simp only [Nat.zero_add] at h2 ⊢
    rw [getD_get (by omega)] at h2
    rw [getD_some h1]; exact h2
  · rintro ⟨j, x, h1, h2⟩
    have hj := (List.getElem?_eq_some_iff.1 h1).1
    refine ⟨j, s[j]'(by omega), List.getElem?_eq_getElem _, ?_⟩
    simp only [Nat.zero_add] at h2 ⊢
    rw [getD_get (by omega)] at h2
    rw [getD_some h1]; exact h2
theorem not_anyF {α : Type} {c : Nat → α → Bool} {l : List α} (h : (!anyF c l 0) = true) {k : Nat} {x : α} (hx : l[k]? = some x) : c k x = false := by
  cases hc : c k x with
  | false => rfl
  | true =>
    have : anyF c l 0 = true := anyF_iff.2 ⟨k, x, hx, by simpa using hc⟩
    rw [this] at h; cases h
theorem if_not {b : Bool} : (if b = true then some false else some true) = some (!b) := by cases b <;> rfl

/-! ### Sets of levels -/
def full (v : XVariable) : Int := 2 ^ v.Levels.toNat - 1
theorem pow_bd {v : XVariable} (h : 2 ≤ v.Levels ∧ v.Levels ≤ 8) : (4 : Int) ≤ 2 ^ v.Levels.toNat ∧ (2 : Int) ^ v.Levels.toNat ≤ 256 := by
  have : v.Levels.toNat = 2 ∨ v.Levels.toNat = 3 ∨ v.Levels.toNat = 4 ∨ v.Levels.toNat = 5 ∨ v.Levels.toNat = 6 ∨ v.Levels.toNat = 7 ∨ v.Levels.toNat = 8 := by omega
  rcases this with h | h | h | h | h | h | h <;> rw [h] <;> decide
theorem full_bd {v : XVariable} (h : 2 ≤ v.Levels ∧ v.Levels ≤ 8) : 3 ≤ full v ∧ full v ≤ 255 := by
  have := pow_bd h; unfold full; omega
theorem fullSet_eq {v : XVariable} (h : 2 ≤ v.Levels ∧ v.Levels ≤ 8) : sh_impl_fullSet v = some (full v) := by
  unfold sh_impl_fullSet
  have := pow_bd h
  simp only [Int.one_mul]
  rw [ck_pos (by omega), ckI_pos (by omega) (by omega), ckI_pos (by omega) (by omega)]; rfl
theorem eFull_eq {s : List XVariable} (hs : schB s = true) {k : Nat} (hk : k < s.length) : sh_spec_eFull s (k : Int) = some (full s[k]) := by
  unfold sh_spec_eFull
  have hl := schB_lev hs (List.getElem_mem hk)
  have := pow_bd hl
  simp only [Int.one_mul]
  rw [getO_nat hk, ckK_u64 (by omega) (by omega), ck_pos (by omega), ckI_pos (by omega) (by omega), ckI_pos (by omega) (by omega)]; rfl
def whB (s : List XVariable) (w : List Int) : Bool := decide (w.length = s.length) && !anyF (fun k x => !(decide (0 ≤ x) && decide (x ≤ full (s.getD k default)))) w 0
theorem whB_len {s : List XVariable} {w : List Int} (h : whB s w = true) : w.length = s.length := by
  simp only [whB, Bool.and_eq_true, decide_eq_true_eq] at h; exact h.1
theorem whB_get {s : List XVariable} {w : List Int} (h : whB s w = true) {k : Nat} {x : Int} (hx : w[k]? = some x) : ∃ v, s[k]? = some v ∧ 0 ≤ x ∧ x ≤ full v := by
  have hl := whB_len h
  simp only [whB, Bool.and_eq_true, decide_eq_true_eq] at h
  have hk := (List.getElem?_eq_some_iff.1 hx).1
  have := not_anyF h.2 hx
  simp only [Bool.not_eq_false', Bool.and_eq_true, decide_eq_true_eq] at this
  rw [getD_get (show k < s.length by omega)] at this
  exact ⟨_, List.getElem?_eq_getElem (by omega), this⟩
theorem uWhere_eq {s : List XVariable} {w : List Int} (hs : schB s = true) : sh_spec_uWhere s w = some (whB s w) := by
  unfold sh_spec_uWhere whB
  by_cases h : w.length = s.length
  · simp only [h, ne_eq, not_true_eq_false, decide_false, Bool.false_eq_true, if_false, decide_true, Bool.true_and]
    refine (range_any (c := fun k v => !(decide (0 ≤ w.getD k 0) && decide (w.getD k 0 ≤ full v))) (some false) ?_).trans ?_
    · intro v k next hx
      have hk := (List.getElem?_eq_some_iff.1 hx).1
      have hb := pow_bd (schB_lev hs (List.mem_of_getElem? hx))
      have hl := schB_lev hs (List.mem_of_getElem? hx)
      simp only [Int.one_mul]
      rw [getO_nat (show k < w.length by omega), ckK_u64 (by omega) (by omega), ck_pos (by omega), ckI_pos (by omega) (by omega), ckI_pos (by omega) (by omega), l1In_eq, Option.bind_some, getD_get (show k < w.length by omega)]
      rfl
    · rw [anyF_swap (P := fun v x => !(decide (0 ≤ x) && decide (x ≤ full v))) (d' := default) h]; exact if_not
  · simp [h, show ¬ ((w.length : Int) = (s.length : Int)) by omega]
theorem isWhere_eq {s : List XVariable} {w : List Int} (hs : schB s = true) : sh_impl_isWhere s w = some (whB s w) := by
  unfold sh_impl_isWhere whB
  by_cases h : w.length = s.length
  · simp only [h, ne_eq, not_true_eq_false, decide_false, Bool.false_eq_true, if_false, decide_true, Bool.true_and]
    refine (range_any (c := fun k x => !(decide (0 ≤ x) && decide (x ≤ full (s.getD k default)))) (some false) ?_).trans (show (if anyF _ _ 0 = true then some false else some true) = _ from if_not)
    intro x k next hx
    have hk := (List.getElem?_eq_some_iff.1 hx).1
    have hks : k < s.length := by omega
    have hl := schB_lev hs (List.getElem_mem hks)
    rw [getO_nat hks, fullSet_eq hl, Option.bind_some, getD_get hks]
    by_cases h1 : x < 0
    · simp [h1, show ¬ (0 ≤ x) by omega]
    · by_cases h2 : full s[k] < x
      · simp [h1, h2, show ¬ (x ≤ full s[k]) by omega]
      · simp [h1, h2, show (0 ≤ x) by omega, show x ≤ full s[k] by omega]
  · simp [h, show ¬ ((w.length : Int) = (s.length : Int)) by omega]

/-! ### Records and conditions -/
theorem valF_get : ∀ {s : List XVariable} {a : List Int}, valF s a = true → ∀ {k : Nat} {x : Int} {v : XVariable}, a[k]? = some x → s[k]? = some v → 0 ≤ x ∧ x < v.Levels
  | [], _, _, k, x, v, _, h => by simp at h
  | _ :: _, [], _, k, x, v, h, _ => by simp at h
  | v :: s, x :: a, h, 0, y, u, h1, h2 => by
    simp only [List.getElem?_cons_zero, Option.some.injEq] at h1 h2
    subst h1; subst h2
    simp only [valF, Bool.and_eq_true, decide_eq_true_eq] at h; exact h.1
  | v :: s, x :: a, h, k + 1, y, u, h1, h2 => by
    simp only [valF, Bool.and_eq_true] at h
    exact valF_get h.2 (by simpa using h1) (by simpa using h2)
theorem valB_len {s : List XVariable} {a : List Int} (h : valB s a = true) : a.length = s.length := by
  simp only [valB, Bool.and_eq_true, decide_eq_true_eq] at h; exact h.1
theorem valB_get {s : List XVariable} {a : List Int} (h : valB s a = true) {k : Nat} {x : Int} {v : XVariable} (h1 : a[k]? = some x) (h2 : s[k]? = some v) : 0 ≤ x ∧ x < v.Levels := by
  simp only [valB, Bool.and_eq_true, decide_eq_true_eq] at h; exact valF_get h.2 h1 h2
def recB (s : List XVariable) (r : XRecord) : Bool := decide (0 ≤ r.Area) && (decide (r.Area ≤ 29) && (decide (0 ≤ r.House) && (decide (r.House ≤ 999) && valB s r.Values)))
theorem rGood_eq {s : List XVariable} {r : XRecord} (hs : schB s = true) : sh_spec_rGood s r = some (recB s r) := by
  unfold sh_spec_rGood recB
  simp only [l1In_eq, Option.bind_some, sFits_eq hs]
  cases decide (0 ≤ r.Area) <;> cases decide (r.Area ≤ 29) <;> cases decide (0 ≤ r.House) <;> cases decide (r.House ≤ 999) <;> simp
theorem isRecord_eq {s : List XVariable} {r : XRecord} : sh_impl_isRecord s r = some (recB s r) := by
  unfold sh_impl_isRecord recB
  simp only [areValues_eq, Option.bind_some]
  cases decide (0 ≤ r.Area) <;> cases decide (r.Area ≤ 29) <;> cases decide (0 ≤ r.House) <;> cases decide (r.House ≤ 999) <;> simp
def offB (x v : Int) : Bool := decide ((((x / 2 ^ (v).toNat).toNat &&& (1 : Int).toNat : Nat) : Int) = (0 : Int))
def meetB (w a : List Int) : Bool := !anyF (fun k x => decide (x ≠ 0) && offB x (a.getD k 0)) w 0
theorem shr_bd {x : Int} (h : 0 ≤ x) (n : Nat) : 0 ≤ x / 2 ^ n ∧ x / 2 ^ n ≤ x := by
  have : (0 : Int) < 2 ^ n := Int.pow_pos (by omega)
  exact ⟨Int.ediv_nonneg h (by omega), Int.ediv_le_self _ h⟩
theorem uMeets_eq {s : List XVariable} {t : XTable} {a : List Int} (hs : schB s = true) (hw : whB s t.Where = true) (ha : valB s a = true) : sh_spec_uMeets t a = some (meetB t.Where a) := by
  unfold sh_spec_uMeets meetB
  refine (range_any (c := fun k x => decide (x ≠ 0) && offB x (a.getD k 0)) (some false) ?_).trans (show (if anyF _ _ 0 = true then some false else some true) = _ from if_not)
  intro x k next hx
  obtain ⟨v, hv, h0, h1⟩ := whB_get hw hx
  have hl := schB_lev hs (List.mem_of_getElem? hv)
  have hf := full_bd hl
  have hk : k < a.length := by rw [valB_len ha]; exact (List.getElem?_eq_some_iff.1 hv).1
  have hav := valB_get ha (List.getElem?_eq_getElem hk) hv
  have hsh := shr_bd h0 (a[k]).toNat
  rw [getD_get hk]
  by_cases hz : x = 0
  · simp [hz]
  · simp only [show decide (x ≠ 0) = true by simp [hz], if_true, Bool.true_and]
    rw [getO_nat hk, ckK_u64 (by omega) (by omega), ck_pos (by omega), ck_pos (by omega), ckK_i64 (by omega) (by omega), ck_pos (by omega), ckK_i64 (by omega) (by omega)]
    rfl
theorem meetsWhere_eq {s : List XVariable} {t : XTable} {r : XRecord} (hs : schB s = true) (hw : whB s t.Where = true) (ha : valB s r.Values = true) : sh_impl_meetsWhere t r = some (meetB t.Where r.Values) := by
  unfold sh_impl_meetsWhere meetB
  refine (range_any (c := fun k x => decide (x ≠ 0) && offB x (r.Values.getD k 0)) (some false) ?_).trans (show (if anyF _ _ 0 = true then some false else some true) = _ from if_not)
  intro x k next hx
  obtain ⟨v, hv, h0, h1⟩ := whB_get hw hx
  have hl := schB_lev hs (List.mem_of_getElem? hv)
  have hf := full_bd hl
  have hk : k < r.Values.length := by rw [valB_len ha]; exact (List.getElem?_eq_some_iff.1 hv).1
  have hav := valB_get ha (List.getElem?_eq_getElem hk) hv
  have hsh := shr_bd h0 (r.Values[k]).toNat
  rw [getD_get hk]
  by_cases hz : x = 0
  · simp [hz]
  · simp only [show decide (x ≠ 0) = true by simp [hz], if_true, Bool.true_and]
    rw [getO_nat hk, ck_pos (by omega), ck_pos (by omega), ckK_i64 (by omega) (by omega), ck_pos (by omega), ckK_i64 (by omega) (by omega)]
    rfl
theorem recB_val {s : List XVariable} {r : XRecord} (h : recB s r = true) : valB s r.Values = true := by
  simp only [recB, Bool.and_eq_true] at h; exact h.2.2.2.2
def meetsR (s : List XVariable) (t : XTable) (r : XRecord) : Bool × Bool := if schB s && (whB s t.Where && recB s r) then (meetB t.Where r.Values, true) else (false, false)
theorem core_MeetsWhere (s : List XVariable) (t : XTable) (r : XRecord) (h1 : bulkVS s ≤ 1048576) (h2 : bulkT t ≤ 1048576) (h3 : bulkR r ≤ 1048576) : ∃ x, sh_spec_MeetsWhere s t r = some x ∧ sh_impl_MeetsWhere s t r = some x := by
  refine ⟨meetsR s t r, ?_, ?_⟩
  · unfold sh_spec_MeetsWhere meetsR
    rw [sGood_eq (names_of_bulk h1), Option.bind_some]
    cases hs : schB s with
    | false => rfl
    | true =>
      rw [uWhere_eq hs, Option.bind_some]
      cases hw : whB s t.Where with
      | false => rfl
      | true =>
        rw [rGood_eq hs, Option.bind_some]
        cases hr : recB s r with
        | false => rfl
        | true => simp [uMeets_eq hs hw (recB_val hr)]
  · unfold sh_impl_MeetsWhere meetsR
    rw [isSchema_eq, Option.bind_some]
    cases hs : schB s with
    | false => rfl
    | true =>
      rw [isWhere_eq hs, Option.bind_some]
      cases hw : whB s t.Where with
      | false => rfl
      | true =>
        rw [isRecord_eq, Option.bind_some]
        cases hr : recB s r with
        | false => rfl
        | true => simp [meetsWhere_eq hs hw (recB_val hr)]

/-! ### Variables of a table -/
theorem risB_rng {n : Int} : ∀ {l : List Int} {a : Int}, risB n a l = true → ∀ d ∈ l, a < d ∧ d < n
  | [], _, _, d, hd => by simp at hd
  | x :: l, a, h, d, hd => by
    simp only [risB, Bool.and_eq_true, decide_eq_true_eq] at h
    rcases List.mem_cons.1 hd with rfl | hd
    · exact ⟨h.1, h.2.1⟩
    · have := risB_rng h.2.2 d hd; omega
theorem risB_len {n : Int} : ∀ {l : List Int} {a : Int}, a < n → risB n a l = true → (l.length : Int) ≤ n - 1 - a
  | [], _, ha, _ => by simp; omega
  | x :: l, a, _, h => by
    simp only [risB, Bool.and_eq_true, decide_eq_true_eq] at h
    have := risB_len (a := x) h.2.1 h.2.2
    simp only [List.length_cons]; omega
theorem areVars_eq (s : List XVariable) (l : List Int) : sh_impl_areVars s l = some (risB s.length (-1) l) := by
  unfold sh_impl_areVars
  refine range_mem (I := fun _ _ => True) (G := fun l _ a => some (risB s.length a l)) (fun _ _ _ _ => rfl) ?_ (-1) trivial
  intro x l' k a next _ _ _ hn
  simp only [risB]
  by_cases h1 : x ≤ a
  · simp [h1, show ¬ (a < x) by omega]
  · by_cases h2 : (s.length : Int) ≤ x
    · simp [h1, h2, show ¬ (x < (s.length : Int)) by omega]
    · simp only [h1, h2, decide_false, Bool.false_eq_true, if_false, show decide (a < x) = true by (simp; omega), show decide (x < (s.length : Int)) = true by (simp; omega), Bool.true_and]
      exact hn _ trivial
def partV (s : List XVariable) (l : List Int) : List XVariable := l.map fun v => s.getD v.toNat default
theorem partV_len (s : List XVariable) (l : List Int) : (partV s l).length = l.length := by simp [partV]
theorem selF_map {α β : Type} (f : α → β) : ∀ (l : List α) (k : Nat), selF (fun _ _ => true) (fun _ x => f x) l k = l.map f
  | [], _ => rfl
  | x :: l, k => by simp only [selF, if_true, List.map_cons, selF_map f l]
theorem sPart_eq {s : List XVariable} {l : List Int} (h : ∀ d ∈ l, 0 ≤ d ∧ d < (s.length : Int)) (hl : l.length ≤ 1099511627776) : sh_spec_sPart s l = some (partV s l) := by
  unfold sh_spec_sPart
  refine (range_sel (c := fun _ _ => true) (f := fun _ v => s.getD v.toNat default) ?_).trans (by rw [selF_map]; rfl)
  intro x k a next hx ha
  have hk := (List.getElem?_eq_some_iff.1 hx).1
  have hxb := h x (List.mem_of_getElem? hx)
  have hlt : x.toNat < s.length := by omega
  simp only [List.length_nil, Nat.zero_add] at ha
  rw [getO_pos hxb.1 hlt, lnO_pos (by simp; omega), getD_get hlt]
  rfl
theorem crossed_eq {s : List XVariable} {t : XTable} (h : ∀ d ∈ t.Vars, 0 ≤ d ∧ d < (s.length : Int)) (hl : t.Vars.length ≤ 1099511627776) : sh_impl_crossed s t = some (partV s t.Vars) := by
  unfold sh_impl_crossed
  rw [mkO_pos (by omega) (by omega), Int.toNat_natCast]
  have hz : (partV s t.Vars).length = (List.replicate t.Vars.length (⟨([] : List UInt8), (0 : Int)⟩ : XVariable)).length := by simp [partV_len]
  refine range_mem (I := fun k a => a = mixL (partV s t.Vars) (List.replicate t.Vars.length (⟨([] : List UInt8), (0 : Int)⟩ : XVariable)) k) (G := fun _ _ _ => some (partV s t.Vars)) ?_ ?_ _ (mixL_zero _ _).symm
  · intro k a ha hk
    subst ha
    have := mixL_end hz
    rw [partV_len] at this
    rw [hk, this]
  · intro x l' k a next hx _ ha hn
    subst ha
    have hk := (List.getElem?_eq_some_iff.1 hx).1
    have hxb := h x (List.mem_of_getElem? hx)
    have hlt : x.toNat < s.length := by omega
    rw [getO_pos hxb.1 hlt, getO_some (mixL_get hz (by simpa using hk))]
    refine hn _ ?_
    rw [Int.toNat_natCast, ← mixL_set hz (by rw [partV_len]; exact hk)]
    congr 1
    have hxe := (List.getElem?_eq_some_iff.1 hx).2
    simp only [partV, List.getElem_map, hxe, getD_get hlt]

/-! ### How many cells -/
def prodV : List XVariable → Int
  | [] => 1
  | v :: l => v.Levels * prodV l
theorem mul_pow_bd {a x : Int} {k : Nat} (hk : k ≤ 5) (h1 : 1 ≤ a) (h2 : a ≤ 8 ^ k) (h3 : 2 ≤ x) (h4 : x ≤ 8) : 1 ≤ a * x ∧ a * x ≤ 8 ^ (k + 1) ∧ (8 : Int) ^ (k + 1) ≤ 262144 := by
  have a1 : 1 * 1 ≤ a * x := Int.mul_le_mul h1 (by omega) (by omega) (by omega)
  have a2 : a * x ≤ 8 ^ k * 8 := Int.mul_le_mul h2 (by omega) (by omega) (by omega)
  refine ⟨by omega, by rw [Int.pow_succ]; exact a2, ?_⟩
  have : k = 0 ∨ k = 1 ∨ k = 2 ∨ k = 3 ∨ k = 4 ∨ k = 5 := by omega
  rcases this with rfl | rfl | rfl | rfl | rfl | rfl <;> decide
theorem foldF_prod : ∀ (l : List XVariable) (k : Nat) (a : Int), foldF (fun _ v a => a * v.Levels) l k a = a * prodV l
  | [], _, a => by simp [foldF, prodV]
  | v :: l, k, a => by simp only [foldF, prodV, foldF_prod l, Int.mul_assoc]
theorem sCount_eq {l : List XVariable} (hl : l.length ≤ 6) (h : ∀ v ∈ l, 2 ≤ v.Levels ∧ v.Levels ≤ 8) : sh_spec_sCount l = some (prodV l) := by
  unfold sh_spec_sCount
  refine (range_fold (I := fun k a => 1 ≤ a ∧ a ≤ 8 ^ k) (f := fun _ v a => a * v.Levels) (by simp) ?_ ?_).trans (by rw [foldF_prod, Int.one_mul])
  · intro x k a hx hI
    have hk := (List.getElem?_eq_some_iff.1 hx).1
    have := h x (List.mem_of_getElem? hx)
    have := mul_pow_bd (show k ≤ 5 by omega) hI.1 hI.2 this.1 this.2
    exact ⟨this.1, this.2.1⟩
  · intro x k a next hx hI
    have hk := (List.getElem?_eq_some_iff.1 hx).1
    have := h x (List.mem_of_getElem? hx)
    have := mul_pow_bd (show k ≤ 5 by omega) hI.1 hI.2 this.1 this.2
    rw [ckI_pos (by omega) (by omega)]
theorem combinations_eq {l : List XVariable} (hl : l.length ≤ 6) (h : ∀ v ∈ l, 2 ≤ v.Levels ∧ v.Levels ≤ 8) : sh_impl_combinations l = some (prodV l) := by
  unfold sh_impl_combinations
  refine (range_fold (I := fun k a => 1 ≤ a ∧ a ≤ 8 ^ k) (f := fun _ v a => a * v.Levels) (by simp) ?_ ?_).trans (by rw [foldF_prod, Int.one_mul])
  · intro x k a hx hI
    have hk := (List.getElem?_eq_some_iff.1 hx).1
    have := h x (List.mem_of_getElem? hx)
    have := mul_pow_bd (show k ≤ 5 by omega) hI.1 hI.2 this.1 this.2
    exact ⟨this.1, this.2.1⟩
  · intro x k a next hx hI
    have hk := (List.getElem?_eq_some_iff.1 hx).1
    have := h x (List.mem_of_getElem? hx)
    have := mul_pow_bd (show k ≤ 5 by omega) hI.1 hI.2 this.1 this.2
    rw [ckI_pos (by omega) (by omega)]
theorem prodV_bd : ∀ {l : List XVariable}, l.length ≤ 6 → (∀ v ∈ l, 2 ≤ v.Levels ∧ v.Levels ≤ 8) → 1 ≤ prodV l ∧ prodV l ≤ 8 ^ l.length ∧ (8 : Int) ^ l.length ≤ 262144
  | [], _, _ => by simp [prodV]
  | v :: l, hl, h => by
    simp only [List.length_cons] at hl
    have := prodV_bd (l := l) (by omega) (fun u hu => h u (List.mem_cons_of_mem _ hu))
    have hv := h v List.mem_cons_self
    have := mul_pow_bd (show l.length ≤ 5 by omega) this.1 this.2.1 hv.1 hv.2
    simp only [prodV, List.length_cons]
    rw [Int.mul_comm]; exact this
/-- A list of variables of a schema. -/
structure Part (s : List XVariable) (l : List Int) : Prop where
  sch : schB s = true
  ris : risB s.length (-1) l = true
theorem Part.rng {s : List XVariable} {l : List Int} (h : Part s l) : ∀ d ∈ l, 0 ≤ d ∧ d < (s.length : Int) := fun d hd => by
  have := risB_rng h.ris d hd; omega
theorem Part.len {s : List XVariable} {l : List Int} (h : Part s l) : l.length ≤ 6 := by
  have := risB_len (by omega) h.ris
  have := schB_len h.sch
  omega
theorem Part.lev {s : List XVariable} {l : List Int} (h : Part s l) : ∀ v ∈ partV s l, 2 ≤ v.Levels ∧ v.Levels ≤ 8 := by
  intro v hv
  simp only [partV, List.mem_map] at hv
  obtain ⟨d, hd, rfl⟩ := hv
  have := h.rng d hd
  rw [getD_get (show d.toNat < s.length by omega)]
  exact schB_lev h.sch (List.getElem_mem _)
theorem Part.bd {s : List XVariable} {l : List Int} (h : Part s l) : 1 ≤ prodV (partV s l) ∧ prodV (partV s l) ≤ 262144 := by
  have := prodV_bd (l := partV s l) (by rw [partV_len]; exact h.len) h.lev
  omega
theorem Part.part {s : List XVariable} {l : List Int} (h : Part s l) : sh_spec_sPart s l = some (partV s l) := sPart_eq h.rng (by have := h.len; omega)
theorem Part.count {s : List XVariable} {l : List Int} (h : Part s l) : sh_spec_sCount (partV s l) = some (prodV (partV s l)) := sCount_eq (by rw [partV_len]; exact h.len) h.lev
theorem Part.cross {s : List XVariable} {t : XTable} (h : Part s t.Vars) : sh_impl_crossed s t = some (partV s t.Vars) := crossed_eq h.rng (by have := h.len; omega)
theorem Part.comb {s : List XVariable} {l : List Int} (h : Part s l) : sh_impl_combinations (partV s l) = some (prodV (partV s l)) := combinations_eq (by rw [partV_len]; exact h.len) h.lev
def cntT (g : XGeo) (s : List XVariable) (t : XTable) : Int := ((levL g.Parents t.Level).length : Int) * prodV (partV s t.Vars)
theorem cntT_bd {g : XGeo} {s : List XVariable} {t : XTable} (hg : geoB g = true) (h : Part s t.Vars) : 0 ≤ cntT g s t ∧ cntT g s t ≤ 7864320 := by
  have h1 := levL_len g.Parents t.Level
  have h2 := (geoB_ok hg).n2
  have h3 := h.bd
  constructor
  · exact Int.mul_nonneg (by omega) (by omega)
  · have : cntT g s t ≤ 30 * 262144 := Int.mul_le_mul (by omega) h3.2 (by omega) (by omega)
    omega
theorem uCount_eq {g : XGeo} {s : List XVariable} {t : XTable} (hg : geoB g = true) (h : Part s t.Vars) : sh_spec_uCount g s t = some (cntT g s t) := by
  unfold sh_spec_uCount
  have hb := cntT_bd hg h
  have h1 := levL_len g.Parents t.Level
  have h2 := (geoB_ok hg).n2
  unfold cntT at hb ⊢
  rw [gLevel_eq (geoB_ok hg), Option.bind_some, lmO_pos (by omega), h.part, Option.bind_some, h.count, Option.bind_some, ckI_pos (by omega) (by omega)]
theorem cellCount_eq {g : XGeo} {s : List XVariable} {t : XTable} (hg : geoB g = true) (h : Part s t.Vars) : sh_impl_cellCount g s t = some (cntT g s t) := by
  unfold sh_impl_cellCount
  have hb := cntT_bd hg h
  have h1 := levL_len g.Parents t.Level
  have h2 := (geoB_ok hg).n2
  unfold cntT at hb ⊢
  rw [areasAt_eq (geoB_ok hg), Option.bind_some, lmO_pos (by omega), h.cross, Option.bind_some, h.comb, Option.bind_some, ckI_pos (by omega) (by omega)]

/-! ### Tables -/
def tabB (g : XGeo) (s : List XVariable) (t : XTable) : Bool :=
  !(levL g.Parents t.Level).isEmpty && (risB s.length (-1) t.Vars && (whB s t.Where && (decide (-1 ≤ t.Sum) && (decide (t.Sum < (s.length : Int)) && decide (cntT g s t ≤ 600)))))
def allB (g : XGeo) (s : List XVariable) (t : XTable) : Bool := geoB g && (schB s && tabB g s t)
theorem uGood_eq {g : XGeo} {s : List XVariable} {t : XTable} (hn : bulkVS s ≤ 1048576) (ht : bulkT t ≤ 1048576) : sh_spec_uGood g s t = some (allB g s t) := by
  unfold sh_spec_uGood allB
  rw [gGood_eq, Option.bind_some]
  cases hg : geoB g with
  | false => rfl
  | true =>
    rw [sGood_eq (names_of_bulk hn), Option.bind_some]
    cases hs : schB s with
    | false => rfl
    | true =>
      have hl := schB_len hs
      unfold tabB
      rw [gLevel_eq (geoB_ok hg), Option.bind_some]
      cases he : levL g.Parents t.Level with
      | nil => rfl
      | cons y l =>
        have e : decide (((y :: l).length : Int) = 0) = false := by simp; omega
        simp only [e, Bool.not_true, Bool.false_eq_true, if_false, List.isEmpty_cons, Bool.not_false, Bool.true_and]
        rw [ckI_pos (by omega) (by omega), l1Rising_eq _ _ (by unfold bulkT at ht; omega), Option.bind_some]
        cases hr : risB s.length (-1) t.Vars with
        | false => rfl
        | true =>
          have hp : Part s t.Vars := ⟨hs, hr⟩
          rw [uWhere_eq hs, Option.bind_some]
          cases hw : whB s t.Where with
          | false => rfl
          | true =>
            simp only [Bool.not_true, Bool.false_eq_true, if_false, Bool.true_and]
            rw [ckI_pos (by omega) (by omega), l1In_eq, Option.bind_some, Option.bind_some]
            have e2 : decide (t.Sum ≤ (s.length : Int) - 1) = decide (t.Sum < (s.length : Int)) := by congr 1; apply propext; omega
            rw [e2, uCount_eq hg hp, Option.bind_some]
            cases decide (-1 ≤ t.Sum) <;> cases decide (t.Sum < (s.length : Int)) <;> simp
theorem isTable_eq {g : XGeo} {s : List XVariable} {t : XTable} (hg : geoB g = true) (hs : schB s = true) : sh_impl_isTable g s t = some (tabB g s t) := by
  unfold sh_impl_isTable tabB
  rw [areVars_eq, Option.bind_some]
  cases hr : risB s.length (-1) t.Vars with
  | false => cases (levL g.Parents t.Level).isEmpty <;> rfl
  | true =>
    have hp : Part s t.Vars := ⟨hs, hr⟩
    have hpb := hp.bd
    rw [isWhere_eq hs, Option.bind_some]
    cases hw : whB s t.Where with
    | false => cases (levL g.Parents t.Level).isEmpty <;> rfl
    | true =>
      simp only [Bool.not_true, Bool.false_eq_true, if_false, Bool.true_and]
      rw [cellCount_eq hg hp]
      by_cases h1 : t.Sum < -1
      · simp [h1, show ¬ (-1 ≤ t.Sum) by omega]
      · by_cases h2 : (s.length : Int) ≤ t.Sum
        · simp [h1, h2, show ¬ (t.Sum < (s.length : Int)) by omega]
        · simp only [h1, h2, decide_false, Bool.false_eq_true, if_false, Option.bind_some, show decide (-1 ≤ t.Sum) = true by (simp; omega), show decide (t.Sum < (s.length : Int)) = true by (simp; omega), Bool.true_and]
          cases he : levL g.Parents t.Level with
          | nil => simp [cntT, he]
          | cons y l =>
            have : 0 < cntT g s t := by
              unfold cntT; rw [he]
              exact Int.mul_pos (by simp) (by omega)
            simp [this]
theorem areTabled_eq (g : XGeo) (s : List XVariable) (t : XTable) : sh_impl_areTabled g s t = some (allB g s t) := by
  unfold sh_impl_areTabled allB
  rw [isGeo_eq, Option.bind_some]
  cases hg : geoB g with
  | false => rfl
  | true =>
    rw [isSchema_eq, Option.bind_some]
    cases hs : schB s with
    | false => rfl
    | true => simp [isTable_eq hg hs]
/-- All that is known of a valid table. -/
structure Tab (g : XGeo) (s : List XVariable) (t : XTable) : Prop where
  geo : geoB g = true
  p : Part s t.Vars
  w : whB s t.Where = true
  s0 : -1 ≤ t.Sum
  s1 : t.Sum < (s.length : Int)
  ne : levL g.Parents t.Level ≠ []
  le : cntT g s t ≤ 600
theorem allB_tab {g : XGeo} {s : List XVariable} {t : XTable} (h : allB g s t = true) : Tab g s t := by
  simp only [allB, tabB, Bool.and_eq_true, decide_eq_true_eq, Bool.not_eq_true', List.isEmpty_eq_false_iff] at h
  obtain ⟨h1, h2, h3, h4, h5, h6, h7, h8⟩ := h
  exact ⟨h1, ⟨h2, h4⟩, h5, h6, h7, h3, h8⟩
theorem Tab.ok {g : XGeo} {s : List XVariable} {t : XTable} (h : Tab g s t) : GeoOk g.Parents := geoB_ok h.geo
theorem Tab.sch {g : XGeo} {s : List XVariable} {t : XTable} (h : Tab g s t) : schB s = true := h.p.sch
def tableR (g : XGeo) (s : List XVariable) (t : XTable) : Bool × Bool := if geoB g && schB s then (tabB g s t, true) else (false, false)
theorem core_IsTable (g : XGeo) (s : List XVariable) (t : XTable) (h0 : bulkG g ≤ 1048576) (h1 : bulkVS s ≤ 1048576) (h2 : bulkT t ≤ 1048576) : ∃ x, sh_spec_IsTable g s t = some x ∧ sh_impl_IsTable g s t = some x := by
  refine ⟨tableR g s t, ?_, ?_⟩
  · unfold sh_spec_IsTable tableR
    rw [gGood_eq, Option.bind_some]
    cases hg : geoB g with
    | false => rfl
    | true =>
      rw [sGood_eq (names_of_bulk h1), Option.bind_some]
      cases hs : schB s with
      | false => rfl
      | true => simp [uGood_eq h1 h2, allB, hg, hs]
  · unfold sh_impl_IsTable tableR
    rw [isGeo_eq, Option.bind_some]
    cases hg : geoB g with
    | false => rfl
    | true =>
      rw [isSchema_eq, Option.bind_some]
      cases hs : schB s with
      | false => rfl
      | true => simp [isTable_eq hg hs]
theorem core_CellCount (g : XGeo) (s : List XVariable) (t : XTable) (h0 : bulkG g ≤ 1048576) (h1 : bulkVS s ≤ 1048576) (h2 : bulkT t ≤ 1048576) : ∃ x, sh_spec_CellCount g s t = some x ∧ sh_impl_CellCount g s t = some x := by
  refine ⟨if allB g s t = true then (cntT g s t, true) else (0, false), ?_, ?_⟩
  · unfold sh_spec_CellCount
    rw [uGood_eq h1 h2, Option.bind_some]
    cases h : allB g s t with
    | false => rfl
    | true =>
      have ht := allB_tab h
      simp [uCount_eq ht.geo ht.p]
  · unfold sh_impl_CellCount
    rw [areTabled_eq, Option.bind_some]
    cases h : allB g s t with
    | false => rfl
    | true =>
      have ht := allB_tab h
      simp [cellCount_eq ht.geo ht.p]
end AS

