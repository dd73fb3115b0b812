/- Plain lemmas, and the law. No condition. -/
import Derived.Test.YtiohllblkcjafaaQRecordsInS
import Derived.Test.YtiohllblkcjafaaQRecordsInM0
set_option linter.unusedVariables false
set_option linter.unusedSimpArgs false
namespace AS
/-! ### Values and their numbers -/
theorem pow8 {k : Nat} (h : k ≤ 6) : (1 : Int) ≤ 8 ^ k ∧ (8 : Int) ^ k ≤ 262144 := by
  have : k = 0 ∨ k = 1 ∨ k = 2 ∨ k = 3 ∨ k = 4 ∨ k = 5 ∨ k = 6 := by omega
  rcases this with rfl | rfl | rfl | rfl | rfl | rfl | rfl <;> decide
theorem num_step {acc x y : Int} {k : Nat} (hk : k + 1 ≤ 6) (h0 : 0 ≤ acc) (h1 : acc < 8 ^ k) (hx : 2 ≤ x ∧ x ≤ 8) (hy : 0 ≤ y ∧ y < x) : 0 ≤ acc * x ∧ acc * x + y < 8 ^ (k + 1) ∧ (8 : Int) ^ (k + 1) ≤ 262144 := by
  have hp := pow8 hk
  have hm0 : 0 ≤ acc * x := Int.mul_nonneg h0 (by omega)
  have hm1 : acc * x ≤ (8 ^ k - 1) * x := Int.mul_le_mul_of_nonneg_right (by omega) (by omega)
  have hm2 : (8 : Int) ^ (k + 1) = 8 ^ k * 8 := Int.pow_succ ..
  have hm3 : (8 : Int) ^ k * x ≤ 8 ^ k * 8 := Int.mul_le_mul_of_nonneg_left (by omega) (by have := pow8 (show k ≤ 6 by omega); omega)
  rw [Int.sub_mul, Int.one_mul] at hm1
  omega
theorem sIndex_eq {s : List XVariable} {a : List Int} (h : Vs s) (ha : valB s a = true) : sh_spec_sIndex s a = some (numV s a) := by
  unfold sh_spec_sIndex
  have hl := h.len
  have hal := valB_len ha
  refine (range_mem (I := fun k acc => 0 ≤ acc ∧ acc < 8 ^ k) (G := fun l k acc => some (acc * prodV l + numV l (a.drop k))) ?_ ?_ 0 ⟨by omega, by simp⟩).trans (by simp)
  · intro k acc _ _
    simp [prodV, numV]
  · intro x l' k acc next hx hd hi hn
    have hk := (List.getElem?_eq_some_iff.1 hx).1
    have hka : k < a.length := by omega
    have hxx := h.lev x (List.mem_of_getElem? hx)
    have hy := valB_get ha (List.getElem?_eq_getElem hka) hx
    have hst := num_step (show k + 1 ≤ 6 by omega) hi.1 hi.2 hxx hy
    rw [ckI_pos (by omega) (by omega), getO_nat hka, ckI_pos (by omega) (by omega), hn _ ⟨by omega, by omega⟩]
    rw [List.drop_eq_getElem_cons hka]
    simp only [prodV, numV, Option.some.injEq]
    rw [Int.add_mul, Int.mul_assoc, Int.add_assoc]
theorem indexOfValues_eq {s : List XVariable} {a : List Int} (h : Vs s) (ha : valB s a = true) : sh_impl_indexOfValues s a = some (numV s a) := by
  unfold sh_impl_indexOfValues
  have hl := h.len
  have hal := valB_len ha
  refine (range_mem (I := fun k acc => 0 ≤ acc ∧ acc < 8 ^ k) (G := fun l k acc => some (acc * prodV (s.drop k) + numV (s.drop k) l)) ?_ ?_ 0 ⟨by omega, by simp⟩).trans (by simp)
  · intro k acc _ hk
    rw [List.drop_of_length_le (by omega)]
    simp [prodV, numV]
  · intro y l' k acc next hy hd hi hn
    have hk := (List.getElem?_eq_some_iff.1 hy).1
    have hks : k < s.length := by omega
    have hxx := h.get hks
    have hyy := valB_get ha hy (List.getElem?_eq_getElem hks)
    have hst := num_step (show k + 1 ≤ 6 by omega) hi.1 hi.2 hxx hyy
    rw [getO_nat hks, ckI_pos (by omega) (by omega), ckI_pos (by omega) (by omega), hn _ ⟨by omega, by omega⟩]
    rw [List.drop_eq_getElem_cons hks]
    simp only [prodV, numV, Option.some.injEq]
    rw [Int.add_mul, Int.mul_assoc, Int.add_assoc]
/-! ### A search in an ordered list -/
theorem cut_ex {v : Int} : ∀ {l : List Int}, l.Pairwise (· < ·) → ∃ c, c ≤ l.length ∧ ∀ j (hj : j < l.length), l[j] < v ↔ j < c
  | [], _ => ⟨0, Nat.le_refl _, fun j hj => absurd hj (Nat.not_lt_zero _)⟩
  | x :: l, h => by
    by_cases hx : x < v
    · obtain ⟨c, h1, h2⟩ := cut_ex (v := v) (List.pairwise_cons.1 h).2
      refine ⟨c + 1, by simpa using h1, fun j hj => ?_⟩
      cases j with
      | zero => simpa using hx
      | succ j => simp only [List.getElem_cons_succ]; rw [h2 j (by simpa using hj)]; omega
    · refine ⟨0, Nat.zero_le _, fun j hj => ?_⟩
      cases j with
      | zero => simpa using hx
      | succ j =>
        have := (List.pairwise_cons.1 h).1 (l[j]'(by simpa using hj)) (List.getElem_mem _)
        simp only [List.getElem_cons_succ]
        omega
theorem cmpLess_eq (a b : Int) : sh_cmp_Less_int a b = some (decide (a < b)) := by
  unfold sh_cmp_Less_int sh_cmp_isNaN_int
  simp
theorem binSearch_eq {l : List Int} {v : Int} (h : l.Pairwise (· < ·)) (hl : l.length ≤ 1099511627776) : ∃ i : Int, sh_slices_BinarySearch_int l v = some (i, hasB l v) ∧ (hasB l v = true → i = posF v l 0) := by
  obtain ⟨c, hc, hcut⟩ := cut_ex (v := v) h
  have hfin : hasB l v = true ↔ ∃ h : c < l.length, l[c] = v := by
    rw [hasB_iff]
    constructor
    · intro hm
      obtain ⟨j, hj, e⟩ := List.mem_iff_getElem.1 hm
      have h1 : ¬ j < c := fun hlt => by have := (hcut j hj).2 hlt; omega
      have h2 : j = c := by
        rcases Nat.lt_trichotomy j c with q | q | q
        · exact absurd q h1
        · exact q
        · have := rise_lt h q hj
          have h3 : ¬ (l[c]'(by omega) < v) := fun q2 => by have := (hcut c (by omega)).1 q2; omega
          omega
      subst h2; exact ⟨hj, e⟩
    · rintro ⟨h1, rfl⟩; exact List.getElem_mem _
  refine ⟨(c : Int), ?_, fun hm => ?_⟩
  · unfold sh_slices_BinarySearch_int
    refine loopF_eq (I := fun s : Int × Int => ∃ a b : Nat, s = ((a : Int), (b : Int)) ∧ a ≤ c ∧ c ≤ b ∧ b ≤ l.length) (mu := fun s => (s.2 - s.1).toNat) (F := fun _ => some ((c : Int), hasB l v)) ?_ FUEL _ ⟨0, l.length, rfl, by omega, hc, Nat.le_refl _⟩ (FUEL_big (by simp; omega))
    rintro s next ⟨a, b, rfl, h1, h2, h3⟩ hn
    by_cases hab : a < b
    · simp only [show decide (((a : Nat) : Int) < ((b : Nat) : Int)) = true by (simp; omega), if_true]
      have e1 : ((a : Int) + (b : Int)) / 2 ^ ((1 : Int)).toNat = (((a + b) / 2 : Nat) : Int) := by
        have : (2 : Int) ^ ((1 : Int)).toNat = 2 := by decide
        rw [this]; omega
      have hm1 : a ≤ (a + b) / 2 := by omega
      have hm2 : (a + b) / 2 < b := by omega
      rw [ckI_pos (by omega) (by omega), ckK_u64 (by omega) (by omega), ck_pos (by omega), e1, ckI_pos (by omega) (by omega), getO_nat (show (a + b) / 2 < l.length by omega), cmpLess_eq, Option.bind_some]
      have hq := hcut ((a + b) / 2) (by omega)
      by_cases hlt : l[(a + b) / 2] < v
      · have := hq.1 hlt
        simp only [hlt, decide_true, if_true]
        rw [ckI_succ (by omega)]
        exact hn _ ⟨(a + b) / 2 + 1, b, by simp, by omega, h2, h3⟩ (by simp; omega)
      · have : ¬ ((a + b) / 2 < c) := fun q => hlt (hq.2 q)
        simp only [hlt, decide_false, Bool.false_eq_true, if_false]
        exact hn _ ⟨a, (a + b) / 2, rfl, by omega, by omega, by omega⟩ (by simp; omega)
    · have hca : a = c := by omega
      subst hca
      simp only [show decide (((a : Nat) : Int) < ((b : Nat) : Int)) = false by (simp; omega), Bool.false_eq_true, if_false]
      by_cases hal : a < l.length
      · simp only [show decide (((a : Nat) : Int) < ((l.length : Nat) : Int)) = true by (simp; omega), if_true]
        rw [getO_nat hal]
        by_cases he : l[a] = v
        · rw [hfin.2 ⟨hal, he⟩]; simp [he]
        · have : hasB l v = false := by
            cases hb : hasB l v with
            | false => rfl
            | true => exact absurd (hfin.1 hb).2 he
          rw [this]; simp [he, sh_slices_isNaN_int]
      · have : hasB l v = false := by
          cases hb : hasB l v with
          | false => rfl
          | true => exact absurd (hfin.1 hb).1 hal
        simp [this, hal]
  · obtain ⟨h1, rfl⟩ := hfin.1 hm
    exact (posF_of h h1).symm
/-! ### The cell of an index -/
/-! ### The index of a cell -/
def idxC (g : XGeo) (s : List XVariable) (t : XTable) (a : Int) (v : List Int) : Int := posF a (levL g.Parents t.Level) 0 * prodV (partV s t.Vars) + numV (partV s t.Vars) v
theorem idxC_bd {g : XGeo} {s : List XVariable} {t : XTable} (ht : Tab g s t) {a : Int} {v : List Int} (hv : valB (partV s t.Vars) v = true) (ha : hasB (levL g.Parents t.Level) a = true) :
    0 ≤ posF a (levL g.Parents t.Level) 0 ∧ 0 ≤ posF a (levL g.Parents t.Level) 0 * prodV (partV s t.Vars) ∧ 0 ≤ numV (partV s t.Vars) v ∧ numV (partV s t.Vars) v < prodV (partV s t.Vars) ∧ idxC g s t a v < cntT g s t := by
  have hp := ht.p.bd
  have hn := numV_bd ht.p.vs (a := v) (by simp only [valB, Bool.and_eq_true] at hv; exact hv.2)
  have h0 : 0 ≤ posF a (levL g.Parents t.Level) 0 := by
    have := (posF_neg (n := a) (l := levL g.Parents t.Level) (k := 0))
    have hm := hasB_iff.1 ha
    rcases Int.lt_or_le (posF a (levL g.Parents t.Level) 0) 0 with q | q
    · exact absurd hm (this.1 q)
    · exact q
  have h1 := (posF_bd (n := a) (l := levL g.Parents t.Level)).2
  have h2 : 0 ≤ posF a (levL g.Parents t.Level) 0 * prodV (partV s t.Vars) := Int.mul_nonneg h0 (by omega)
  have h3 : posF a (levL g.Parents t.Level) 0 * prodV (partV s t.Vars) ≤ (((levL g.Parents t.Level).length : Int) - 1) * prodV (partV s t.Vars) := Int.mul_le_mul_of_nonneg_right h1 (by omega)
  rw [Int.sub_mul, Int.one_mul] at h3
  refine ⟨h0, h2, hn.1, hn.2, ?_⟩
  unfold idxC cntT
  omega
theorem cellIndex_eq {g : XGeo} {s : List XVariable} {t : XTable} (ht : Tab g s t) {a : Int} {v : List Int} (hv : valB (partV s t.Vars) v = true) :
    sh_impl_cellIndex g s t a v = some (if hasB (levL g.Parents t.Level) a = true then idxC g s t a v else -1) := by
  unfold sh_impl_cellIndex
  have hl := levL_len g.Parents t.Level
  have hgn := (geoB_ok ht.geo).n2
  obtain ⟨i, h1, h2⟩ := binSearch_eq (v := a) (levL_rise g.Parents t.Level) (by omega)
  rw [areasAt_eq ht.ok, Option.bind_some, h1, Option.bind_some]
  cases ha : hasB (levL g.Parents t.Level) a with
  | false => rfl
  | true =>
    have hb := idxC_bd ht hv ha
    have hc := cntT_bd ht.geo ht.p
    have hi := h2 ha
    unfold idxC at hb
    subst hi
    simp only [Bool.not_true, Bool.false_eq_true, if_false, if_true]
    rw [ht.p.cross, Option.bind_some, ht.p.comb, Option.bind_some, ckI_pos (by omega) (by omega), indexOfValues_eq ht.p.vs hv, Option.bind_some, ckI_pos (by omega) (by omega)]
    rfl
/-! ### Plans -/
end AS
namespace AS
/-! ### Leaves below an area -/
theorem upR_nn {p : List Int} {i : Nat} {L : Int} : 0 ≤ upR p i L ↔ 0 ≤ L ∧ L ≤ ((dep p i : Nat) : Int) := by
  unfold upR
  split
  · rename_i h; exact ⟨fun _ => h, fun _ => by omega⟩
  · rename_i h; exact ⟨fun q => by omega, fun q => absurd q h⟩
theorem Tab.lev {g : XGeo} {s : List XVariable} {t : XTable} (h : Tab g s t) : ∃ i, i < g.Parents.length ∧ ((dep g.Parents i : Nat) : Int) = t.Level := by
  cases hl : levL g.Parents t.Level with
  | nil => exact absurd hl h.ne
  | cons x l =>
    obtain ⟨i, h1, _, h2⟩ := levL_mem.1 (show x ∈ levL g.Parents t.Level by rw [hl]; exact List.mem_cons_self)
    exact ⟨i, h1, h2⟩
/-! ### What a table takes of a variable -/
/-! ### The greatest amount -/
theorem Tab.sum {g : XGeo} {s : List XVariable} {t : XTable} (ht : Tab g s t) (h : ¬ t.Sum < 0) : t.Sum.toNat < s.length ∧ ((t.Sum.toNat : Nat) : Int) = t.Sum ∧ t.Sum.toNat < t.Where.length := by
  have h1 := ht.s1
  have h2 := whB_len ht.w
  omega
end AS
namespace AS
/-! ### The cell of a record -/
theorem valF_of : ∀ {s : List XVariable} {a : List Int}, (∀ (k : Nat) (x : Int) (v : XVariable), a[k]? = some x → s[k]? = some v → 0 ≤ x ∧ x < v.Levels) → valF s a = true
  | [], _, _ => by simp [valF]
  | _ :: _, [], _ => by simp [valF]
  | v :: s, x :: a, h => by
    have h0 := h 0 x v rfl rfl
    simp only [valF, Bool.and_eq_true, decide_eq_true_eq]
    exact ⟨h0, valF_of fun k y u h1 h2 => h (k + 1) y u (by simpa using h1) (by simpa using h2)⟩
theorem pick_val {s : List XVariable} {l a : List Int} (h : Part s l) (ha : valB s a = true) : dimsOk a l ∧ valB (partV s l) (subL a l) = true := by
  have hl := valB_len ha
  refine ⟨fun d hd => by have := h.rng d hd; omega, ?_⟩
  simp only [valB, Bool.and_eq_true, decide_eq_true_eq]
  refine ⟨by rw [partV_len]; simp [subL], valF_of fun k x v h1 h2 => ?_⟩
  simp only [subL, partV, List.getElem?_map, Option.map_eq_some_iff] at h1 h2
  obtain ⟨d, h3, rfl⟩ := h1
  obtain ⟨d', h4, rfl⟩ := h2
  rw [h3] at h4
  obtain rfl : d = d' := by simpa using h4
  have hr := h.rng d (List.mem_of_getElem? h3)
  have h5 : d.toNat < a.length := by omega
  have h6 : d.toNat < s.length := by omega
  rw [getD_get h5, getD_get h6]
  exact valB_get ha (List.getElem?_eq_getElem h5) (List.getElem?_eq_getElem h6)
theorem up_lev {p : List Int} (h : GeoOk p) {i : Nat} (hi : i < p.length) {L : Int} (hu : ¬ upR p i L < 0) : hasB (levL p L) (upR p i L) = true := by
  have hn := (upR_nn (p := p) (i := i) (L := L)).1 (by omega)
  rw [hasB_iff, levL_mem]
  have ha := anc_dep h (dep p i - L.toNat) i hi (by omega)
  refine ⟨ancF p (dep p i - L.toNat) i, ha.1, ?_, by rw [ha.2]; omega⟩
  unfold upR; rw [if_pos hn]
def amtF (t : XTable) (a : List Int) : Int := if t.Sum < 0 then 1 else a.getD t.Sum.toNat 0
def conF (g : XGeo) (s : List XVariable) (t : XTable) (r : XRecord) : Int × Int :=
  if upR g.Parents r.Area.toNat t.Level < 0 then (-1, 0) else if meetB t.Where r.Values = false then (-1, 0) else
    (idxC g s t (upR g.Parents r.Area.toNat t.Level) (subL r.Values t.Vars), amtF t r.Values)
theorem leafB_rng {p : List Int} {i : Int} (h : leafB p i = true) : i.toNat < p.length ∧ ((i.toNat : Nat) : Int) = i := by
  simp only [leafB, Bool.and_eq_true, decide_eq_true_eq] at h; omega
theorem uCell_eq {g : XGeo} {s : List XVariable} {t : XTable} {r : XRecord} (ht : Tab g s t) (hr : recB s r = true) (hl : leafB g.Parents r.Area = true) : sh_spec_uCell g s t r = some (conF g s t r) := by
  obtain ⟨hi, he⟩ := leafB_rng hl
  have hv := recB_val hr
  unfold sh_spec_uCell conF
  have hu := gUp_eq ht.ok hi t.Level
  rw [he] at hu
  rw [hu, Option.bind_some]
  by_cases h1 : upR g.Parents r.Area.toNat t.Level < 0
  · simp [h1]
  · simp only [h1, decide_false, Bool.false_eq_true, if_false]
    rw [uMeets_eq ht.sch ht.w hv, Option.bind_some]
    cases hm : meetB t.Where r.Values with
    | false => rfl
    | true =>
      have hp := pick_val ht.p hv
      have hb := idxC_bd ht hp.2 (up_lev ht.ok hi h1)
      have hc := cntT_bd ht.geo ht.p
      have hlen := ht.p.len
      unfold idxC at hb ⊢
      simp only [Bool.not_true, Bool.false_eq_true, if_false, Bool.true_eq_false]
      rw [ht.p.part, Option.bind_some, gLevel_eq ht.ok, Option.bind_some, l1Find_eq, Option.bind_some, ht.p.count, Option.bind_some, ckI_pos (by omega) (by omega),
        sPick_eq hp.1 (by omega), Option.bind_some, sIndex_eq ht.p.vs hp.2, Option.bind_some, ckI_pos (by omega) (by omega)]
      unfold amtF
      by_cases hs : t.Sum < 0
      · simp [hs]
      · obtain ⟨hk, he2, hkw⟩ := ht.sum hs
        have h5 : t.Sum.toNat < r.Values.length := by rw [valB_len hv]; exact hk
        simp only [hs, decide_false, Bool.false_eq_true, if_false]
        rw [getO_pos (by omega) h5, getD_get h5]
theorem contribution_eq {g : XGeo} {s : List XVariable} {t : XTable} {r : XRecord} (ht : Tab g s t) (hr : recB s r = true) (hl : leafB g.Parents r.Area = true) : sh_impl_contribution g s t r = some (conF g s t r) := by
  obtain ⟨hi, he⟩ := leafB_rng hl
  have hv := recB_val hr
  unfold sh_impl_contribution conF
  have hu := ancestorAt_eq ht.ok hi t.Level
  rw [he] at hu
  rw [hu, Option.bind_some]
  by_cases h1 : upR g.Parents r.Area.toNat t.Level < 0
  · simp [h1]
  · simp only [h1, decide_false, Bool.false_eq_true, if_false]
    rw [meetsWhere_eq ht.sch ht.w hv, Option.bind_some]
    cases hm : meetB t.Where r.Values with
    | false => rfl
    | true =>
      have hp := pick_val ht.p hv
      have hlen := ht.p.len
      simp only [Bool.not_true, Bool.false_eq_true, if_false, Bool.true_eq_false]
      rw [mkO_pos (by omega) (by omega), Int.toNat_natCast]
      have hz : (subL r.Values t.Vars).length = (List.replicate t.Vars.length (0 : Int)).length := by simp [subL]
      refine range_mem (I := fun k a => a = mixL (subL r.Values t.Vars) (List.replicate t.Vars.length (0 : Int)) k) (G := fun _ _ _ => some (idxC g s t (upR g.Parents r.Area.toNat t.Level) (subL r.Values t.Vars), amtF t r.Values)) ?_ ?_ _ (mixL_zero _ _).symm
      · intro k a ha hk
        subst ha
        have := mixL_end hz
        rw [subL_len] at this
        rw [hk, this, cellIndex_eq ht hp.2, up_lev ht.ok hi h1]
        unfold amtF
        by_cases hs : t.Sum < 0
        · simp [hs, show ¬ (0 ≤ t.Sum) by omega]
        · obtain ⟨hk, he2, hkw⟩ := ht.sum hs
          have h5 : t.Sum.toNat < r.Values.length := by rw [valB_len hv]; exact hk
          simp only [hs, show (0 ≤ t.Sum) by omega, decide_true, if_true, if_false]
          rw [getO_pos (by omega) h5, getD_get h5]; rfl
      · intro x l' k a next hx _ ha hn
        subst ha
        have hk := (List.getElem?_eq_some_iff.1 hx).1
        have hxb := hp.1 x (List.mem_of_getElem? hx)
        have hlt : x.toNat < r.Values.length := by omega
        rw [getO_pos hxb.1 hlt, getO_some (mixL_get hz (by simpa using hk))]
        refine hn _ ?_
        rw [Int.toNat_natCast, ← mixL_set hz (by rw [subL_len]; exact hk)]
        congr 1
        simp only [subL, List.getElem_map, (List.getElem?_eq_some_iff.1 hx).2, getD_get hlt]
/-! ### The records of a cell -/
theorem survB_get {g : XGeo} {s : List XVariable} {l : List XRecord} (h : survB g s l = true) {r : XRecord} (hr : r ∈ l) : recB s r = true ∧ leafB g.Parents r.Area = true := by
  simp only [survB, Bool.and_eq_true] at h
  refine ⟨dataB_get h.1 hr, ?_⟩
  obtain ⟨k, hk⟩ := List.getElem?_of_mem hr
  have := not_anyF h.2 hk
  simpa using this
theorem survB_len {g : XGeo} {s : List XVariable} {l : List XRecord} (h : survB g s l = true) : l.length ≤ 40 := by
  simp only [survB, Bool.and_eq_true] at h; exact dataB_len h.1
def recsL (g : XGeo) (s : List XVariable) (t : XTable) (l : List XRecord) (i : Int) : List Int := selF (fun _ r => decide ((conF g s t r).1 = i)) (fun k _ => (k : Int)) l 0
def recsR (g : XGeo) (s : List XVariable) (t : XTable) (l : List XRecord) (i : Int) : List Int × Bool := if allB g s t && (survB g s l && (decide (0 ≤ i) && decide (i < cntT g s t))) then (recsL g s t l i, true) else ([], false)
theorem core_RecordsIn (g : XGeo) (s : List XVariable) (t : XTable) (l : List XRecord) (i : Int) (h0 : bulkG g ≤ 1048576) (h1 : bulkVS s ≤ 1048576) (h2 : bulkT t ≤ 1048576) (h3 : bulkRS l ≤ 1048576) (_ : Bd.bd i) :
    ∃ x, sh_spec_RecordsIn g s t l i = some x ∧ sh_impl_RecordsIn g s t l i = some x ∧ x.1.length ≤ 1048576 := by
  refine ⟨recsR g s t l i, ?_, ?_, ?_⟩
  · unfold sh_spec_RecordsIn recsR
    rw [uGood_eq h1 h2, Option.bind_some]
    cases h : allB g s t with
    | false => rfl
    | true =>
      have ht := allB_tab h
      have hc := cntT_bd ht.geo ht.p
      simp only [Bool.not_true, Bool.false_eq_true, if_false, Bool.true_and]
      rw [uSurvey_eq ht.geo ht.sch h1, Option.bind_some]
      cases hu : survB g s l with
      | false => rfl
      | true =>
        simp only [Bool.not_true, Bool.false_eq_true, if_false, Bool.true_and]
        rw [uCount_eq ht.geo ht.p, Option.bind_some, ckI_pos (by omega) (by omega), l1In_eq, Option.bind_some]
        have e : (decide (0 ≤ i) && decide (i ≤ cntT g s t - 1)) = (decide (0 ≤ i) && decide (i < cntT g s t)) := by
          congr 2; apply propext; omega
        rw [e]
        cases (decide (0 ≤ i) && decide (i < cntT g s t)) with
        | false => rfl
        | true =>
          simp only [Bool.not_true, Bool.false_eq_true, if_false, if_true]
          refine (range_sel (c := fun _ r => decide ((conF g s t r).1 = i)) (f := fun k _ => (k : Int)) ?_).trans (by simp [recsL])
          intro r k a next hx ha
          have hk := (List.getElem?_eq_some_iff.1 hx).1
          have hg := survB_get hu (List.mem_of_getElem? hx)
          have hl := survB_len hu
          simp only [List.length_nil, Nat.zero_add] at ha
          rw [uCell_eq ht hg.1 hg.2, Option.bind_some]
          by_cases hq : (conF g s t r).1 = i
          · simp only [hq, decide_true, if_true]
            rw [lnO_pos (by simp; omega)]
          · simp only [hq, decide_false, Bool.false_eq_true, if_false]
  · unfold sh_impl_RecordsIn recsR
    simp only [areTabled_eq, isSurvey_eq, Option.bind_some]
    cases h : allB g s t with
    | false => rfl
    | true =>
      have ht := allB_tab h
      cases hu : survB g s l with
      | false => rfl
      | true =>
        simp only [Bool.not_true, Bool.false_eq_true, if_false, Bool.true_and]
        rw [cellCount_eq ht.geo ht.p]
        by_cases q0 : i < 0
        · simp [q0, show ¬ (0 ≤ i) by omega]
        · by_cases q1 : cntT g s t ≤ i
          · simp [q0, q1, show ¬ (i < cntT g s t) by omega]
          · simp only [q0, q1, decide_false, Bool.false_eq_true, if_false, Option.bind_some, show (0 ≤ i) by omega, show (i < cntT g s t) by omega, decide_true, Bool.and_self, if_true]
            refine (range_sel (c := fun _ r => decide ((conF g s t r).1 = i)) (f := fun k _ => (k : Int)) ?_).trans (by simp [recsL])
            intro r k a next hx ha
            have hk := (List.getElem?_eq_some_iff.1 hx).1
            have hg := survB_get hu (List.mem_of_getElem? hx)
            have hl := survB_len hu
            simp only [List.length_nil, Nat.zero_add] at ha
            rw [contribution_eq ht hg.1 hg.2, Option.bind_some]
            by_cases hq : (conF g s t r).1 = i
            · simp only [hq, decide_true, if_true]
              rw [lnO_pos (by simp; omega)]
            · simp only [hq, decide_false, Bool.false_eq_true, if_false]
  · unfold recsR
    split
    · rename_i h
      simp only [Bool.and_eq_true] at h
      have h1 := survB_len h.2.1
      have h2 := selF_len (fun _ r => decide ((conF g s t r).1 = i)) (fun k _ => (k : Int)) l 0
      simp only [recsL]; omega
    · simp
/-! ### The table of a survey -/
/-! ### Base tables -/
end AS
namespace AS
theorem law_RecordsIn (v0 : XGeo) (v1 : List XVariable) (v2 : XTable) (v3 : List XRecord) (v4 : Int) (b0 : Bd.bd v0) (b1 : Bd.bd v1) (b2 : Bd.bd v2) (b3 : Bd.bd v3) (b4 : Bd.bd v4) : sh_laws_FnExactRecordsIn v0 v1 v2 v3 v4 = some true := by
  unfold sh_laws_FnExactRecordsIn
  rw [szGeo_eq (by omega) (by omega) b0, Option.bind_some]
  by_cases h0 : ((bulkG v0 : Nat) : Int) ≤ 1048576
  · rw [left_pos h0]
    simp only [show ¬ ((1048576 : Int) - ((bulkG v0 : Nat) : Int) < 0) by omega, decide_false, Bool.false_eq_true, if_false]
    rw [szVariableS_eq (by omega) (by omega) b1, Option.bind_some]
    by_cases h1 : ((bulkVS v1 : Nat) : Int) ≤ 1048576 - ((bulkG v0 : Nat) : Int)
    · rw [left_pos h1]
      simp only [show ¬ (1048576 - ((bulkG v0 : Nat) : Int) - ((bulkVS v1 : Nat) : Int) < 0) by omega, decide_false, Bool.false_eq_true, if_false]
      rw [szTable_eq (by omega) (by omega) b2, Option.bind_some]
      by_cases h2 : ((bulkT v2 : Nat) : Int) ≤ 1048576 - ((bulkG v0 : Nat) : Int) - ((bulkVS v1 : Nat) : Int)
      · rw [left_pos h2]
        simp only [show ¬ (1048576 - ((bulkG v0 : Nat) : Int) - ((bulkVS v1 : Nat) : Int) - ((bulkT v2 : Nat) : Int) < 0) by omega, decide_false, Bool.false_eq_true, if_false]
        rw [szRecordS_eq (by omega) (by omega) b3, Option.bind_some]
        by_cases h3 : ((bulkRS v3 : Nat) : Int) ≤ 1048576 - ((bulkG v0 : Nat) : Int) - ((bulkVS v1 : Nat) : Int) - ((bulkT v2 : Nat) : Int)
        · rw [left_pos h3]
          simp only [show ¬ (1048576 - ((bulkG v0 : Nat) : Int) - ((bulkVS v1 : Nat) : Int) - ((bulkT v2 : Nat) : Int) - ((bulkRS v3 : Nat) : Int) < 0) by omega, decide_false, Bool.false_eq_true, if_false]
          obtain ⟨r, e1, e2, q0⟩ := core_RecordsIn v0 v1 v2 v3 v4 (by omega) (by omega) (by omega) (by omega) b4
          have q0' := q0
          have n1 : v1.length ≤ bulkVS v1 := Nat.le_add_right _ _
          have m1 := marksVS_le v1
          have n3 : v3.length ≤ bulkRS v3 := Nat.le_add_right _ _
          have m3 := marksRS_le v3
          simp [e1, e2, toGeo_eq (g := v0) (by omega),
      eqGeo_eq (a := v0) (b := v0) (by omega),
      toVariableS_eq (s := v1) (by omega),
      eqVariableS_eq (a := v1) (b := v1) (by omega),
      toTable_eq (t := v2) (by omega),
      eqTable_eq (a := v2) (b := v2) (by omega),
      toRecordS_eq (l := v3) (by omega),
      eqRecordS_eq (a := v3) (b := v3) (by omega),
      markGeo_eq (g := v0) (n := 1) (by omega) (by omega),
      markVariableS_eq (l := v1) (n := 1 + ((bulkG v0 : Nat) : Int)) (by omega) (by omega) (by omega),
      markTable_eq (t := v2) (n := 1 + ((bulkG v0 : Nat) : Int) + ((marksVS v1 : Nat) : Int)) (by omega) (by omega),
      markRecordS_eq (l := v3) (n := 1 + ((bulkG v0 : Nat) : Int) + ((marksVS v1 : Nat) : Int) + ((bulkT v2 : Nat) : Int)) (by omega) (by omega) (by omega),
      show ¬ ((1 : Int) + ((bulkG v0 : Nat) : Int) + ((marksVS v1 : Nat) : Int) + ((bulkT v2 : Nat) : Int) + ((marksRS v3 : Nat) : Int) < 0) by omega,
      eqIntS_eq (a := r.1) (b := r.1) (by omega),
      markIntS_eq (l := r.1) (n := 1) (by omega) (by omega),
      heldIntS_eq (m := (r.1).length) (n := 1) (by omega) (by omega),
      show ¬ ((1 : Int) + ((r.1).length : Int) < 0) by omega]
        · rw [left_no h3]; simp
      · rw [left_no h2]; simp
    · rw [left_no h1]; simp
  · rw [left_no h0]; simp
end AS
