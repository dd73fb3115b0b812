/- Plain lemmas. No condition. -/
import Derived.Test.YtahffpadaffmdaaKc
import Derived.Test.YtahffpadaffmdaaMa
import Derived.Test.YtahffpadaffmdaaMaa
import Derived.Test.YtahffpadaffmdaaMad
import Derived.Test.YtahffpadaffmdaaMb
import Derived.Test.YtahffpadaffmdaaSda
set_option linter.unusedVariables false
set_option linter.unusedSimpArgs false
namespace AS
/-! ### The law's own functions on variables -/
def bulkV (v : XVariable) : Nat := v.Name.length
theorem szVariable_eq {v : XVariable} {a : Int} (h0 : 0 ≤ a) (h1 : a ≤ 1048576) (hb : Bd.bd v) : sh_laws_szVariable v a = some (left a (bulkV v)) := by
  unfold sh_laws_szVariable
  have hl : v.Name.length ≤ 9223372036854775807 := hb.1.1
  rw [ckI_pos (by omega) (by omega)]
  unfold left bulkV
  by_cases h : a - (v.Name.length : Int) < 0
  · simp [h, show ¬ ((v.Name.length : Int) ≤ a) by omega]
  · simp [h, show ((v.Name.length : Int) ≤ a) by omega]
def bulkVS (s : List XVariable) : Nat := s.length + sumL bulkV s
theorem szVariableS_eq {s : List XVariable} {a : Int} (h0 : 0 ≤ a) (h1 : a ≤ 1048576) (hb : Bd.bd s) : sh_laws_szVariableS s a = some (left a (bulkVS s)) := by
  unfold sh_laws_szVariableS
  exact sz_loop h0 h1 hb.1 fun x hx m hm hm2 => szVariable_eq hm hm2 (hb.2 x hx)
theorem toVariable_eq (v : XVariable) : sh_laws_toVariable v = some v := rfl
theorem toVariableS_eq {s : List XVariable} (h : bulkVS s ≤ 1048576) : sh_laws_toVariableS s = some s := by
  unfold sh_laws_toVariableS
  exact to_loop (by unfold bulkVS at h; omega) fun x _ => toVariable_eq x
theorem XVariable.ext' {a b : XVariable} (h1 : a.Name = b.Name) (h2 : a.Levels = b.Levels) : a = b := by cases a; cases b; simp_all
theorem eqVariable_eq (a b : XVariable) : sh_laws_eqVariable a b = some (decide (a = b)) := by
  unfold sh_laws_eqVariable
  by_cases h1 : a.Name = b.Name
  · by_cases h2 : a.Levels = b.Levels
    · simp [h1, h2, XVariable.ext' h1 h2]
    · simp [h1, h2, show ¬ a = b from fun e => h2 (by rw [e])]
  · simp [h1, show ¬ a = b from fun e => h1 (by rw [e])]
theorem eqVariableS_eq {a b : List XVariable} (h : bulkVS a ≤ 1048576) : sh_laws_eqVariableS a b = some (decide (a = b)) := by
  unfold sh_laws_eqVariableS
  exact eq_loop (by unfold bulkVS at h; omega) fun x _ y => eqVariable_eq x y

/-! ### Schemas -/
def lowB (n : List UInt8) : Bool := n.all fun c => decide ((97 : Int) ≤ (c.toNat : Int)) && decide ((c.toNat : Int) ≤ 122)
def wordB (n : List UInt8) : Bool := lowB n && (decide (1 ≤ n.length) && decide (n.length ≤ 8))
theorem sName_eq {n : List UInt8} (h : n.length ≤ 1099511627776) : sh_spec_sName n = some (wordB n) := by
  unfold sh_spec_sName
  refine (loop_up n.length (fun k => (k : Int)) (fun k => some (lowB (n.drop k) && (decide (1 ≤ n.length) && decide (n.length ≤ 8)))) (by omega) ?_ ?_).trans (by simp [wordB])
  · intro next k hk hn
    simp only [lt_dec hk, if_true]
    rw [getO_nat hk, List.drop_eq_getElem_cons hk]
    by_cases h1 : (n[k].toNat : Int) < 97
    · simp only [h1, decide_true, if_true, lowB, List.all_cons, show decide ((97 : Int) ≤ (n[k].toNat : Int)) = false by (simp only [decide_eq_false_iff_not]; omega), Bool.false_and]
    · by_cases h2 : (122 : Int) < (n[k].toNat : Int)
      · simp only [h1, h2, decide_true, decide_false, Bool.false_eq_true, if_false, if_true, lowB, List.all_cons, show decide ((n[k].toNat : Int) ≤ 122) = false by (simp only [decide_eq_false_iff_not]; omega), Bool.and_false, Bool.false_and]
      · simp only [h1, h2, decide_false, Bool.false_eq_true, if_false]
        rw [ckI_succ (by omega)]
        refine hn.trans ?_
        have : (decide ((97 : Int) ≤ (n[k].toNat : Int)) && decide ((n[k].toNat : Int) ≤ 122)) = true := by simp only [Bool.and_eq_true, decide_eq_true_eq]; omega
        simp only [lowB, List.all_cons, this, Bool.true_and]
  · intro next
    simp only [lt_self, Bool.false_eq_true, if_false, l1In_eq, Option.bind_some, List.drop_length, lowB, List.all_nil, Bool.true_and, Option.some.injEq]
    congr 1 <;> (congr 1; apply propext; omega)
theorem isWord_eq (n : List UInt8) : sh_impl_isWord n = some (wordB n) := by
  unfold sh_impl_isWord
  by_cases h1 : (n.length : Int) < 1
  · simp [h1, wordB, show ¬ (1 ≤ n.length) by omega]
  · by_cases h2 : (8 : Int) < (n.length : Int)
    · simp [h1, h2, wordB, show ¬ (n.length ≤ 8) by omega]
    · simp only [h1, h2, decide_false, Bool.false_eq_true, if_false]
      refine (range_all (G := fun l _ _ => some (lowB l)) (fun _ _ => rfl) ?_ 0 ()).trans (by simp only [wordB, show decide (1 ≤ n.length) = true by (simp; omega), show decide (n.length ≤ 8) = true by (simp; omega), Bool.and_true])
      intro x l k s next ih
      simp only [ih, lowB, List.all_cons]
      by_cases h3 : (x.toNat : Int) < 97
      · simp [h3, show ¬ (97 ≤ (x.toNat : Int)) by omega]
      · by_cases h4 : (122 : Int) < (x.toNat : Int)
        · simp [h3, h4, show ¬ ((x.toNat : Int) ≤ 122) by omega]
        · have : (decide ((97 : Int) ≤ (x.toNat : Int)) && decide ((x.toNat : Int) ≤ 122)) = true := by simp only [Bool.and_eq_true, decide_eq_true_eq]; omega
          simp only [h3, h4, decide_false, Bool.false_eq_true, if_false, this, Bool.true_and]
def hasName (l : List XVariable) (n : List UInt8) : Bool := l.any fun v => decide (v.Name = n)
def findI : List XVariable → List UInt8 → Nat → Int
  | [], _, _ => -1
  | v :: l, n, k => if v.Name = n then k else findI l n (k + 1)
theorem findI_nonneg : ∀ (l : List XVariable) (n : List UInt8) (k : Nat), decide (0 ≤ findI l n k) = hasName l n
  | [], _, _ => rfl
  | v :: l, n, k => by
    simp only [findI, hasName, List.any_cons]
    by_cases h : v.Name = n
    · simp [h]
    · simp only [h, if_false, decide_false, Bool.false_or]; exact findI_nonneg l n (k + 1)
theorem sFind_eq (l : List XVariable) (n : List UInt8) : sh_spec_sFind l n = some (findI l n 0) := by
  unfold sh_spec_sFind
  refine range_all (G := fun l k _ => some (findI l n k)) (fun _ _ => rfl) ?_ 0 ()
  intro x l k s next ih
  simp only [ih, findI]
  by_cases h : x.Name = n <;> simp [h]
def levB (v : XVariable) : Bool := decide (2 ≤ v.Levels) && decide (v.Levels ≤ 8)
def schFrom (s : List XVariable) : List XVariable → Nat → Bool
  | [], _ => true
  | v :: l, k => wordB v.Name && (levB v && (!(hasName (s.take k) v.Name) && schFrom s l (k + 1)))
def schB (s : List XVariable) : Bool := decide (1 ≤ s.length) && decide (s.length ≤ 6) && schFrom s s 0
theorem sGood_eq {s : List XVariable} (h : ∀ v ∈ s, v.Name.length ≤ 1099511627776) : sh_spec_sGood s = some (schB s) := by
  unfold sh_spec_sGood
  rw [l1In_eq, Option.bind_some]
  have e : (decide ((1 : Int) ≤ (s.length : Int)) && decide ((s.length : Int) ≤ 6)) = (decide (1 ≤ s.length) && decide (s.length ≤ 6)) := by
    congr 1 <;> (congr 1; apply propext; omega)
  rw [e]
  cases h1 : (decide (1 ≤ s.length) && decide (s.length ≤ 6)) with
  | false => simp [schB, h1]
  | true =>
    simp only [Bool.not_true, Bool.false_eq_true, if_false]
    refine (range_mem (I := fun _ _ => True) (G := fun l k _ => some (schFrom s l k)) (fun _ _ _ _ => rfl) ?_ () trivial).trans (by simp [schB, h1])
    intro x l' k u next hx _ _ hn
    have hk := (List.getElem?_eq_some_iff.1 hx).1
    rw [sName_eq (h x (List.mem_of_getElem? hx)), Option.bind_some, l1In_eq, Option.bind_some]
    have e2 : (decide ((2 : Int) ≤ x.Levels) && decide (x.Levels ≤ 8)) = levB x := rfl
    simp only [e2, schFrom]
    cases wordB x.Name with
    | false => rfl
    | true =>
      cases levB x with
      | false => rfl
      | true =>
        simp only [Bool.not_true, Bool.false_eq_true, if_false, Bool.true_and]
        rw [ck_pos (by simp; omega), sFind_eq, Option.bind_some, findI_nonneg]
        simp only [Int.toNat_natCast, List.drop_zero]
        cases hasName (s.take k) x.Name with
        | true => rfl
        | false => simp only [Bool.false_eq_true, if_false, Bool.not_false, Bool.true_and]; exact hn () trivial
theorem isSchema_eq (s : List XVariable) : sh_impl_IsSchema s = some (schB s) := by
  unfold sh_impl_IsSchema
  by_cases h1 : (s.length : Int) < 1
  · simp [h1, schB, show ¬ (1 ≤ s.length) by omega]
  · by_cases h2 : (6 : Int) < (s.length : Int)
    · simp [h1, h2, schB, show ¬ (s.length ≤ 6) by omega]
    · have e : (decide (1 ≤ s.length) && decide (s.length ≤ 6)) = true := by simp; omega
      simp only [h1, h2, decide_false, Bool.false_eq_true, if_false]
      refine (range_mem (I := fun _ _ => True) (G := fun l k _ => some (schFrom s l k)) (fun _ _ _ _ => rfl) ?_ () trivial).trans (by simp only [schB, e, Bool.true_and])
      intro x l' k u next hx _ _ hn
      have hk := (List.getElem?_eq_some_iff.1 hx).1
      rw [isWord_eq, Option.bind_some]
      simp only [schFrom]
      cases wordB x.Name with
      | false => rfl
      | true =>
        simp only [Bool.not_true, Bool.false_eq_true, if_false, Bool.true_and]
        by_cases h3 : x.Levels < 2
        · simp [h3, levB, show ¬ (2 ≤ x.Levels) by omega]
        · by_cases h4 : 8 < x.Levels
          · simp [h3, h4, levB, show ¬ (x.Levels ≤ 8) by omega]
          · have : levB x = true := by simp [levB]; omega
            simp only [h3, h4, decide_false, Bool.false_eq_true, if_false, this, Bool.true_and]
            rw [ck_pos (by simp; omega)]
            simp only [Int.toNat_natCast, List.drop_zero]
            have hn' := hn () trivial
            refine range_all (G := fun l _ _ => some (!(hasName l x.Name) && schFrom s l' (k + 1))) (fun _ _ => by simp only [hasName, List.any_nil, Bool.not_false, Bool.true_and]; exact hn'.symm) ?_ 0 ()
            intro y l2 j u2 next2 ih
            simp only [ih, hasName, List.any_cons]
            by_cases h5 : y.Name = x.Name <;> simp [h5]
theorem schFrom_lev {s : List XVariable} : ∀ {l : List XVariable} {k : Nat}, schFrom s l k = true → ∀ v ∈ l, 2 ≤ v.Levels ∧ v.Levels ≤ 8
  | [], _, _, v, hv => by simp at hv
  | x :: l, k, h, v, hv => by
    simp only [schFrom, Bool.and_eq_true] at h
    rcases List.mem_cons.1 hv with rfl | hv
    · have := h.2.1; simpa [levB] using this
    · exact schFrom_lev h.2.2.2 v hv
theorem schB_lev {s : List XVariable} (h : schB s = true) {v : XVariable} (hv : v ∈ s) : 2 ≤ v.Levels ∧ v.Levels ≤ 8 := by
  simp only [schB, Bool.and_eq_true] at h
  exact schFrom_lev h.2 v hv
theorem schB_len {s : List XVariable} (h : schB s = true) : 1 ≤ s.length ∧ s.length ≤ 6 := by
  simp only [schB, Bool.and_eq_true, decide_eq_true_eq] at h
  exact h.1

/-! ### Weights, values, costs -/
def wgtB (s : List XVariable) (w : List Int) : Bool := decide (w.length = s.length) && w.all fun x => decide (1 ≤ x) && decide (x ≤ 100)
def valF : List XVariable → List Int → Bool
  | v :: s, x :: a => decide (0 ≤ x) && decide (x < v.Levels) && valF s a
  | _, _ => true
def valB (s : List XVariable) (a : List Int) : Bool := decide (a.length = s.length) && valF s a
theorem drop_tail {α : Type} {l l' : List α} {x : α} {k : Nat} (h : l.drop k = x :: l') : l.drop (k + 1) = l' := by
  have := congrArg List.tail h
  simpa using this
theorem sFits_eq {s : List XVariable} {a : List Int} (hs : schB s = true) : sh_spec_sFits s a = some (valB s a) := by
  unfold sh_spec_sFits
  by_cases h : a.length = s.length
  · simp only [show decide ((a.length : Int) ≠ (s.length : Int)) = false by simp [h], Bool.false_eq_true, if_false]
    refine (range_mem (I := fun _ _ => True) (G := fun l k _ => some (valF l (a.drop k))) ?_ ?_ () trivial).trans (by simp [valB, h])
    · intro k u _ _; simp [valF]
    · intro x l' k u next hx _ _ hn
      have hk := (List.getElem?_eq_some_iff.1 hx).1
      have hka : k < a.length := by omega
      have hl := schB_lev hs (List.mem_of_getElem? hx)
      rw [getO_nat hka, ckI_pos (by omega) (by omega), l1In_eq, Option.bind_some, List.drop_eq_getElem_cons hka]
      simp only [valF]
      have e : (decide (0 ≤ a[k]) && decide (a[k] ≤ x.Levels - 1)) = (decide (0 ≤ a[k]) && decide (a[k] < x.Levels)) := by
        congr 2; apply propext; omega
      rw [e]
      cases (decide (0 ≤ a[k]) && decide (a[k] < x.Levels)) with
      | false => simp
      | true => simp only [Bool.not_true, Bool.false_eq_true, if_false, Bool.true_and]; exact hn () trivial
  · simp [h, valB, show ¬ ((a.length : Int) = (s.length : Int)) by omega]
theorem areValues_eq (s : List XVariable) (a : List Int) : sh_impl_areValues s a = some (valB s a) := by
  unfold sh_impl_areValues
  by_cases h : a.length = s.length
  · simp only [show decide ((a.length : Int) ≠ (s.length : Int)) = false by simp [h], Bool.false_eq_true, if_false]
    refine (range_mem (I := fun _ _ => True) (G := fun l k _ => some (valF (s.drop k) l)) ?_ ?_ () trivial).trans (by simp [valB, h])
    · intro k u _ _; cases s.drop k <;> simp [valF]
    · intro x l' k u next hx _ _ hn
      have hk := (List.getElem?_eq_some_iff.1 hx).1
      have hks : k < s.length := by omega
      rw [getO_nat hks, List.drop_eq_getElem_cons hks]
      simp only [valF]
      by_cases h1 : x < 0
      · simp [h1, show ¬ (0 ≤ x) by omega]
      · by_cases h2 : s[k].Levels ≤ x
        · simp [h1, h2, show ¬ (x < s[k].Levels) by omega]
        · simp only [h1, h2, decide_false, Bool.false_eq_true, if_false, show decide (0 ≤ x) = true by (simp; omega), show decide (x < s[k].Levels) = true by (simp; omega), Bool.true_and]
          exact hn () trivial
  · simp [h, valB, show ¬ ((a.length : Int) = (s.length : Int)) by omega]
def costF : List Int → List Int → List Int → Int
  | x :: a, y :: b, w :: ws => (if x ≠ y then w else 0) + costF a b ws
  | _, _, _ => 0
def costR (s : List XVariable) (w a b : List Int) : Int × Bool := if schB s && (wgtB s w && (valB s a && valB s b)) then (costF a b w, true) else (0, false)
theorem names_of_bulk {s : List XVariable} (h : bulkVS s ≤ 1048576) : ∀ v ∈ s, v.Name.length ≤ 1099511627776 := by
  intro v hv
  have : v.Name.length ≤ sumL bulkV s := sumL_mem bulkV hv
  unfold bulkVS at h
  omega
end AS

