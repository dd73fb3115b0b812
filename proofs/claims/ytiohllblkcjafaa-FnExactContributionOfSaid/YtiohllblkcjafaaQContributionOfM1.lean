/- Plain lemmas, and the law. No condition. -/
import Derived.Test.YtiohllblkcjafaaQContributionOfS
import Derived.Test.YtiohllblkcjafaaQContributionOfM0
set_option linter.unusedVariables false
set_option linter.unusedSimpArgs false
namespace AS
/-! ### The cell of a record -/
theorem valF_of : ∀ {s : List XVariable} {a : List Int}, (∀ (k : Nat) (x : Int) (v : XVariable), a[k]? = some x → s[k]? = some v → 0 ≤ x ∧ x < v.Levels) → valF s a = true
  | [], _, _ => by simp [valF]
  | _ :: _, [], _ => by simp [valF]
  | v :: s, x :: a, h => by
    have h0 := h 0 x v rfl rfl
    simp only [valF, Bool.and_eq_true, decide_eq_true_eq]
    exact ⟨h0, valF_of fun k y u h1 h2 => h (k + 1) y u (by simpa using h1) (by simpa using h2)⟩
theorem pick_val {s : List XVariable} {l a : List Int} (h : Part s l) (ha : valB s a = true) : dimsOk a l ∧ valB (partV s l) (subL a l) = true := by
  have hl := valB_len ha
  refine ⟨fun d hd => by have := h.rng d hd; omega, ?_⟩
  simp only [valB, Bool.and_eq_true, decide_eq_true_eq]
  refine ⟨by rw [partV_len]; simp [subL], valF_of fun k x v h1 h2 => ?_⟩
  simp only [subL, partV, List.getElem?_map, Option.map_eq_some_iff] at h1 h2
  obtain ⟨d, h3, rfl⟩ := h1
  obtain ⟨d', h4, rfl⟩ := h2
  rw [h3] at h4
  obtain rfl : d = d' := by simpa using h4
  have hr := h.rng d (List.mem_of_getElem? h3)
  have h5 : d.toNat < a.length := by omega
  have h6 : d.toNat < s.length := by omega
  rw [getD_get h5, getD_get h6]
  exact valB_get ha (List.getElem?_eq_getElem h5) (List.getElem?_eq_getElem h6)
theorem up_lev {p : List Int} (h : GeoOk p) {i : Nat} (hi : i < p.length) {L : Int} (hu : ¬ upR p i L < 0) : hasB (levL p L) (upR p i L) = true := by
  have hn := (upR_nn (p := p) (i := i) (L := L)).1 (by omega)
  rw [hasB_iff, levL_mem]
  have ha := anc_dep h (dep p i - L.toNat) i hi (by omega)
  refine ⟨ancF p (dep p i - L.toNat) i, ha.1, ?_, by rw [ha.2]; omega⟩
  unfold upR; rw [if_pos hn]
def amtF (t : XTable) (a : List Int) : Int := if t.Sum < 0 then 1 else a.getD t.Sum.toNat 0
def conF (g : XGeo) (s : List XVariable) (t : XTable) (r : XRecord) : Int × Int :=
  if upR g.Parents r.Area.toNat t.Level < 0 then (-1, 0) else if meetB t.Where r.Values = false then (-1, 0) else
    (idxC g s t (upR g.Parents r.Area.toNat t.Level) (subL r.Values t.Vars), amtF t r.Values)
theorem leafB_rng {p : List Int} {i : Int} (h : leafB p i = true) : i.toNat < p.length ∧ ((i.toNat : Nat) : Int) = i := by
  simp only [leafB, Bool.and_eq_true, decide_eq_true_eq] at h; omega
theorem uCell_eq {g : XGeo} {s : List XVariable} {t : XTable} {r : XRecord} (ht : Tab g s t) (hr : recB s r = true) (hl : leafB g.Parents r.Area = true) : sh_spec_uCell g s t r = some (conF g s t r) := by
  obtain ⟨hi, he⟩ := leafB_rng hl
  have hv := recB_val hr
  unfold sh_spec_uCell conF
  have hu := gUp_eq ht.ok hi t.Level
  rw [he] at hu
  rw [hu, Option.bind_some]
  by_cases h1 : upR g.Parents r.Area.toNat t.Level < 0
  · simp [h1]
  · simp only [h1, decide_false, Bool.false_eq_true, if_false]
    rw [uMeets_eq ht.sch ht.w hv, Option.bind_some]
    cases hm : meetB t.Where r.Values with
    | false => rfl
    | true =>
      have hp := pick_val ht.p hv
      have hb := idxC_bd ht hp.2 (up_lev ht.ok hi h1)
      have hc := cntT_bd ht.geo ht.p
      have hlen := ht.p.len
      unfold idxC at hb ⊢
      simp only [Bool.not_true, Bool.false_eq_true, if_false, Bool.true_eq_false]
      rw [ht.p.part, Option.bind_some, gLevel_eq ht.ok, Option.bind_some, l1Find_eq, Option.bind_some, ht.p.count, Option.bind_some, ckI_pos (by omega) (by omega),
        sPick_eq hp.1 (by omega), Option.bind_some, sIndex_eq ht.p.vs hp.2, Option.bind_some, ckI_pos (by omega) (by omega)]
      unfold amtF
      by_cases hs : t.Sum < 0
      · simp [hs]
      · obtain ⟨hk, he2, hkw⟩ := ht.sum hs
        have h5 : t.Sum.toNat < r.Values.length := by rw [valB_len hv]; exact hk
        simp only [hs, decide_false, Bool.false_eq_true, if_false]
        rw [getO_pos (by omega) h5, getD_get h5]
theorem contribution_eq {g : XGeo} {s : List XVariable} {t : XTable} {r : XRecord} (ht : Tab g s t) (hr : recB s r = true) (hl : leafB g.Parents r.Area = true) : sh_impl_contribution g s t r = some (conF g s t r) := by
  obtain ⟨hi, he⟩ := leafB_rng hl
  have hv := recB_val hr
  unfold sh_impl_contribution conF
  have hu := ancestorAt_eq ht.ok hi t.Level
  rw [he] at hu
  rw [hu, Option.bind_some]
  by_cases h1 : upR g.Parents r.Area.toNat t.Level < 0
  · simp [h1]
  · simp only [h1, decide_false, Bool.false_eq_true, if_false]
    rw [meetsWhere_eq ht.sch ht.w hv, Option.bind_some]
    cases hm : meetB t.Where r.Values with
    | false => rfl
    | true =>
      have hp := pick_val ht.p hv
      have hlen := ht.p.len
      simp only [Bool.not_true, Bool.false_eq_true, if_false, Bool.true_eq_false]
      rw [mkO_pos (by omega) (by omega), Int.toNat_natCast]
      have hz : (subL r.Values t.Vars).length = (List.replicate t.Vars.length (0 : Int)).length := by simp [subL]
      refine range_mem (I := fun k a => a = mixL (subL r.Values t.Vars) (List.replicate t.Vars.length (0 : Int)) k) (G := fun _ _ _ => some (idxC g s t (upR g.Parents r.Area.toNat t.Level) (subL r.Values t.Vars), amtF t r.Values)) ?_ ?_ _ (mixL_zero _ _).symm
      · intro k a ha hk
        subst ha
        have := mixL_end hz
        rw [subL_len] at this
        rw [hk, this, cellIndex_eq ht hp.2, up_lev ht.ok hi h1]
        unfold amtF
        by_cases hs : t.Sum < 0
        · simp [hs, show ¬ (0 ≤ t.Sum) by omega]
        · obtain ⟨hk, he2, hkw⟩ := ht.sum hs
          have h5 : t.Sum.toNat < r.Values.length := by rw [valB_len hv]; exact hk
          simp only [hs, show (0 ≤ t.Sum) by omega, decide_true, if_true, if_false]
          rw [getO_pos (by omega) h5, getD_get h5]; rfl
      · intro x l' k a next hx _ ha hn
        subst ha
        have hk := (List.getElem?_eq_some_iff.1 hx).1
        have hxb := hp.1 x (List.mem_of_getElem? hx)
        have hlt : x.toNat < r.Values.length := by omega
        rw [getO_pos hxb.1 hlt, getO_some (mixL_get hz (by simpa using hk))]
        refine hn _ ?_
        rw [Int.toNat_natCast, ← mixL_set hz (by rw [subL_len]; exact hk)]
        congr 1
        simp only [subL, List.getElem_map, (List.getElem?_eq_some_iff.1 hx).2, getD_get hlt]
theorem leaf_eq (g : XGeo) (i : Int) : ((sh_impl_isArea g i).bind fun x => if (!x) = true then some true else (sh_impl_isLeaf g i).bind fun y => some (!y)) = some (!leafB g.Parents i) := by
  unfold sh_impl_isArea leafB
  simp only [isLeaf_eq, Option.bind_some]
  cases decide (0 ≤ i) <;> cases decide (i < (g.Parents.length : Int)) <;> simp
def conR (g : XGeo) (s : List XVariable) (t : XTable) (r : XRecord) : Int × Int × Bool := if allB g s t && (recB s r && leafB g.Parents r.Area) then ((conF g s t r).1, (conF g s t r).2, true) else (0, 0, false)
theorem core_ContributionOf (g : XGeo) (s : List XVariable) (t : XTable) (r : XRecord) (h0 : bulkG g ≤ 1048576) (h1 : bulkVS s ≤ 1048576) (h2 : bulkT t ≤ 1048576) (h3 : bulkR r ≤ 1048576) : ∃ x, sh_spec_ContributionOf g s t r = some x ∧ sh_impl_ContributionOf g s t r = some x := by
  refine ⟨conR g s t r, ?_, ?_⟩
  · unfold sh_spec_ContributionOf conR
    rw [uGood_eq h1 h2, Option.bind_some]
    cases h : allB g s t with
    | false => rfl
    | true =>
      have ht := allB_tab h
      simp only [Bool.not_true, Bool.false_eq_true, if_false, Bool.true_and]
      rw [rGood_eq ht.sch, Option.bind_some]
      cases hr : recB s r with
      | false => rfl
      | true =>
        simp only [Bool.not_true, Bool.false_eq_true, if_false, Bool.true_and]
        rw [gLeaves_eq ht.ok, Option.bind_some, l1Has_eq, Option.bind_some, leafB_has]
        cases hl : leafB g.Parents r.Area with
        | false => rfl
        | true =>
          simp only [Bool.not_true, Bool.false_eq_true, if_false, if_true]
          rw [uCell_eq ht hr hl, Option.bind_some]
  · unfold sh_impl_ContributionOf conR
    simp only [areTabled_eq, isRecord_eq, Option.bind_some, leaf_eq]
    cases h : allB g s t with
    | false => rfl
    | true =>
      have ht := allB_tab h
      cases hr : recB s r with
      | false => rfl
      | true =>
        cases hl : leafB g.Parents r.Area with
        | false => rfl
        | true => simp [contribution_eq ht hr hl]
/-! ### The records of a cell -/
/-! ### The table of a survey -/
/-! ### Base tables -/
end AS
namespace AS
theorem law_ContributionOf (v0 : XGeo) (v1 : List XVariable) (v2 : XTable) (v3 : XRecord) (b0 : Bd.bd v0) (b1 : Bd.bd v1) (b2 : Bd.bd v2) (b3 : Bd.bd v3) : sh_laws_FnExactContributionOf v0 v1 v2 v3 = some true := by
  unfold sh_laws_FnExactContributionOf
  rw [szGeo_eq (by omega) (by omega) b0, Option.bind_some]
  by_cases h0 : ((bulkG v0 : Nat) : Int) ≤ 1048576
  · rw [left_pos h0]
    simp only [show ¬ ((1048576 : Int) - ((bulkG v0 : Nat) : Int) < 0) by omega, decide_false, Bool.false_eq_true, if_false]
    rw [szVariableS_eq (by omega) (by omega) b1, Option.bind_some]
    by_cases h1 : ((bulkVS v1 : Nat) : Int) ≤ 1048576 - ((bulkG v0 : Nat) : Int)
    · rw [left_pos h1]
      simp only [show ¬ (1048576 - ((bulkG v0 : Nat) : Int) - ((bulkVS v1 : Nat) : Int) < 0) by omega, decide_false, Bool.false_eq_true, if_false]
      rw [szTable_eq (by omega) (by omega) b2, Option.bind_some]
      by_cases h2 : ((bulkT v2 : Nat) : Int) ≤ 1048576 - ((bulkG v0 : Nat) : Int) - ((bulkVS v1 : Nat) : Int)
      · rw [left_pos h2]
        simp only [show ¬ (1048576 - ((bulkG v0 : Nat) : Int) - ((bulkVS v1 : Nat) : Int) - ((bulkT v2 : Nat) : Int) < 0) by omega, decide_false, Bool.false_eq_true, if_false]
        rw [szRecord_eq (by omega) (by omega) b3, Option.bind_some]
        by_cases h3 : ((bulkR v3 : Nat) : Int) ≤ 1048576 - ((bulkG v0 : Nat) : Int) - ((bulkVS v1 : Nat) : Int) - ((bulkT v2 : Nat) : Int)
        · rw [left_pos h3]
          simp only [show ¬ (1048576 - ((bulkG v0 : Nat) : Int) - ((bulkVS v1 : Nat) : Int) - ((bulkT v2 : Nat) : Int) - ((bulkR v3 : Nat) : Int) < 0) by omega, decide_false, Bool.false_eq_true, if_false]
          obtain ⟨r, e1, e2⟩ := core_ContributionOf v0 v1 v2 v3 (by omega) (by omega) (by omega) (by omega)
          have n1 : v1.length ≤ bulkVS v1 := Nat.le_add_right _ _
          simp [e1, e2, toGeo_eq (g := v0) (by omega),
      eqGeo_eq (a := v0) (b := v0) (by omega),
      toVariableS_eq (s := v1) (by omega),
      eqVariableS_eq (a := v1) (b := v1) (by omega),
      toTable_eq (t := v2) (by omega),
      eqTable_eq (a := v2) (b := v2) (by omega),
      toRecord_eq (r := v3) (by omega),
      eqRecord_eq (a := v3) (b := v3) (by omega)]
        · rw [left_no h3]; simp
      · rw [left_no h2]; simp
    · rw [left_no h1]; simp
  · rw [left_no h0]; simp
end AS
