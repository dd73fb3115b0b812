/- Plain lemmas, and the law. No condition. -/
import Derived.Test.YtiohllblkcjafaaGreatQCubeOfTableS
import Derived.Test.YtiohllblkcjafaaGreatQCubeOfTableM1
set_option linter.unusedVariables false
set_option linter.unusedSimpArgs false
namespace AS
/-! ### How many base cells -/
def numP (p : Nat → Bool) (n : Nat) : Nat := ((List.range n).filter p).length
theorem numP_congr {p q : Nat → Bool} {n : Nat} (h : ∀ j, j < n → p j = q j) : numP p n = numP q n := by
  unfold numP
  rw [List.filter_congr fun j hj => h j (by simpa using hj)]
theorem numP_add (p : Nat → Bool) (m n : Nat) : numP p (m + n) = numP p m + numP (fun j => p (m + j)) n := by
  unfold numP
  rw [List.range_add, List.filter_append, List.length_append, List.filter_map, List.length_map]
  rfl
theorem numP_false (n : Nat) : numP (fun _ => false) n = 0 := by
  unfold numP; simp
theorem numP_prod {p a b : Nat → Bool} {n : Nat} : ∀ (m : Nat), (∀ k j, k < m → j < n → p (k * n + j) = (a k && b j)) → numP p (m * n) = numP a m * numP b n
  | 0, _ => by simp [numP]
  | m + 1, h => by
    have ih := numP_prod m fun k j hk hj => h k j (by omega) hj
    have e1 : numP (fun j => p (m * n + j)) n = (if a m = true then 1 else 0) * numP b n := by
      cases ha : a m with
      | true => rw [numP_congr (q := b) fun j hj => by rw [h m j (by omega) hj, ha]; rfl]; simp
      | false => rw [numP_congr (q := fun _ => false) fun j hj => by rw [h m j (by omega) hj, ha]; rfl, numP_false]; simp
    have e2 : numP a (m + 1) = numP a m + (if a m = true then 1 else 0) := by
      unfold numP
      rw [List.range_succ, List.filter_append, List.length_append]
      cases ha : a m <;> simp [ha]
    rw [Nat.succ_mul, numP_add, ih, e1, e2, Nat.add_mul]
theorem numP_ne (x : Nat) : numP (fun k => decide (((k : Nat) : Int) ≠ (x : Int))) (x + 1) = x := by
  have e : numP (fun k => decide (((k : Nat) : Int) ≠ (x : Int))) x = x := by
    rw [numP_congr (q := fun _ => true) fun j hj => by simp; omega]
    unfold numP
    rw [List.filter_eq_self.2 (fun _ _ => rfl), List.length_range]
  rw [numP_add, e]
  have : numP (fun j => decide (((x + j : Nat) : Int) ≠ (x : Int))) 1 = 0 := by
    unfold numP; simp [List.range_succ]
  omega
def prodS : List Int → Int
  | [] => 1
  | x :: l => x * prodS l
theorem bases_num : ∀ {s : List Int}, (∀ x ∈ s, 1 ≤ x ∧ x ≤ 30) → ((basesL s (vol s).toNat).length : Int) = prodS s
  | [], _ => by
    have e : (vol []).toNat = 1 := rfl
    rw [e]; rfl
  | x :: l, h => by
    have hl := vol_pow (s := l) (fun y hy => h y (by simp [hy]))
    have hx := h x (by simp)
    have ih := bases_num (s := l) fun y hy => h y (by simp [hy])
    obtain ⟨X, rfl⟩ := Int.eq_ofNat_of_zero_le (show 0 ≤ x by omega)
    obtain ⟨n, hn⟩ := Int.eq_ofNat_of_zero_le (show 0 ≤ vol l by omega)
    have hv : (vol ((X : Int) :: l)).toNat = (X + 1) * n := by
      have : vol ((X : Int) :: l) = (((X + 1) * n : Nat) : Int) := by simp only [vol, hn]; push_cast; rfl
      rw [this]; rfl
    have hvl : (vol l).toNat = n := by omega
    rw [hvl] at ih
    rw [hv]
    have key : numP (fun i => baseB (idxL ((X : Int) :: l) (i : Int)) ((X : Int) :: l)) ((X + 1) * n) = numP (fun k => decide (((k : Nat) : Int) ≠ (X : Int))) (X + 1) * numP (fun i => baseB (idxL l (i : Int)) l) n := by
      refine numP_prod (X + 1) fun k j hk hj => ?_
      have e1 : ((k * n + j : Nat) : Int) / vol l = (k : Int) := by
        rw [hn]
        have : ((k * n + j : Nat) : Int) = (j : Int) + (k : Int) * (n : Int) := by push_cast; omega
        rw [this, Int.add_mul_ediv_right _ _ (by omega), Int.ediv_eq_zero_of_lt (by omega) (by omega)]; omega
      have e2 : idxL l ((k * n + j : Nat) : Int) = idxL l (j : Int) := by
        have : ((k * n + j : Nat) : Int) = (j : Int) + (k : Int) * vol l := by rw [hn]; push_cast; omega
        rw [this, idxL_add (fun y hy => h y (by simp [hy]))]
      simp only [idxL, e1, e2]
      rw [Int.emod_eq_of_lt (by omega) (by omega)]
      rfl
    have hk : (basesL ((X : Int) :: l) ((X + 1) * n)).length = numP (fun i => baseB (idxL ((X : Int) :: l) (i : Int)) ((X : Int) :: l)) ((X + 1) * n) := rfl
    have hk2 : (basesL l n).length = numP (fun i => baseB (idxL l (i : Int)) l) n := rfl
    rw [hk, key, numP_ne, ← hk2]
    simp only [prodS]
    rw [← ih]; push_cast; rfl
/-! ### The law's two sides -/
def sizesT (g : XGeo) (s : List XVariable) (t : XTable) : List Int := ((levL g.Parents t.Level).length : Int) :: (partV s t.Vars).map (·.Levels)
theorem prodS_map : ∀ (l : List XVariable), prodS (l.map (·.Levels)) = prodV l
  | [] => rfl
  | v :: l => by simp only [List.map_cons, prodS, prodV, prodS_map l]
theorem sLevels_eq {l : List XVariable} (hl : l.length ≤ 1048576) : sh_spec_sLevels l = some (l.map (·.Levels)) := by
  unfold sh_spec_sLevels
  refine (range_sel (c := fun _ _ => true) (f := fun _ (v : XVariable) => v.Levels) ?_).trans (by rw [selF_map]; rfl)
  intro x k a next hx ha
  have hk := (List.getElem?_eq_some_iff.1 hx).1
  simp only [List.length_nil, Nat.zero_add] at ha
  rw [lnO_pos (by simp; omega)]; rfl
theorem cbSizes_eq {g : XGeo} {s : List XVariable} {t : XTable} (ht : Tab g s t) : sh_spec_cbSizes g s t = some (sizesT g s t) := by
  unfold sh_spec_cbSizes
  have h1 := levL_len g.Parents t.Level
  have h2 := (geoB_ok ht.geo).n2
  have h3 := ht.p.len
  rw [gLevel_eq ht.ok, Option.bind_some, lmO_pos (by omega), ht.p.part, Option.bind_some, sLevels_eq (by rw [partV_len]; omega), Option.bind_some, lnO_pos (by simp [partV_len]; omega)]
  rfl
theorem tab_bases {g : XGeo} {s : List XVariable} {t : XTable} {l : List XRecord} (ht : Tab g s t) (hu : survB g s l = true) (hv : valid (sizesT g s t)) : (tabL g s t l).length = (basesL (sizesT g s t) (vol (sizesT g s t)).toNat).length := by
  have h1 := bases_num hv.2
  have h2 : prodS (sizesT g s t) = cntT g s t := by simp only [sizesT, prodS, prodS_map]; rfl
  have h3 := (tabL_inv ht hu).1
  have h4 := cntT_bd ht.geo ht.p
  omega
theorem tab_small {g : XGeo} {s : List XVariable} {t : XTable} {l : List XRecord} (ht : Tab g s t) (hu : survB g s l = true) : smallL (tabL g s t l) = true := by
  have h := (tabL_inv ht hu).2
  have hl := survB_len hu
  simp only [smallL, List.all_eq_true, Bool.and_eq_true, decide_eq_true_eq]
  intro x hx
  have := h x hx
  omega
theorem core_CubeOfTable (g : XGeo) (s : List XVariable) (t : XTable) (l : List XRecord) (h0 : bulkG g ≤ 1048576) (h1 : bulkVS s ≤ 1048576) (h2 : bulkT t ≤ 1048576) (h3 : bulkRS l ≤ 1048576) :
    ∃ x, sh_spec_CubeOfTable g s t l = some x ∧ sh_impl_CubeOfTable g s t l = some x ∧ bulkC x.1 ≤ 1048576 := by
  refine ⟨if allB g s t && survB g s l then cubeOfR (sizesT g s t) (tabL g s t l) else (⟨[], []⟩, false), ?_, ?_, ?_⟩
  · unfold sh_spec_CubeOfTable
    rw [uGood_eq h1 h2, Option.bind_some]
    cases h : allB g s t with
    | false => rfl
    | true =>
      have ht := allB_tab h
      simp only [Bool.not_true, Bool.false_eq_true, if_false, Bool.true_and]
      rw [uSurvey_eq ht.geo ht.sch h1, Option.bind_some]
      cases hu : survB g s l with
      | false => rfl
      | true =>
        simp only [Bool.not_true, Bool.false_eq_true, if_false, if_true]
        rw [cbSizes_eq ht, Option.bind_some, cbCount_eq, Option.bind_some]
        by_cases hc0 : cntB (sizesT g s t) = 0
        · simp [hc0, cubeOfR]
        · have hn := cntB_nonneg (sizesT g s t)
          obtain ⟨hv, hc, hN⟩ := cntB_pos (show 0 < cntB (sizesT g s t) by omega)
          simp only [hc0, decide_false, Bool.false_eq_true, if_false, Option.bind_some]
          have hlen := tab_bases ht hu hv
          have hsm := tab_small ht hu
          rw [uTable_eq ht hu, Option.bind_some, cbOf_eq hv hc hN hlen hsm, Option.bind_some]
          unfold sh_spec_cbIf
          rw [cbGood_eq, Option.bind_some, good_tot hv hc]
          cases h2 : smallL (totL (sizesT g s t) (vol (sizesT g s t)).toNat (tabL g s t l)) with
          | false => simp [cubeOfR, hc0, cubeR, hsm, h2]
          | true => simp [cubeOfR, hc0, cubeR, hsm, h2, hlen]
  · unfold sh_impl_CubeOfTable
    rw [areTabled_eq, Option.bind_some]
    cases h : allB g s t with
    | false => rfl
    | true =>
      have ht := allB_tab h
      simp only [Bool.not_true, Bool.false_eq_true, if_false, Bool.true_and]
      rw [isSurvey_eq, Option.bind_some]
      cases hu : survB g s l with
      | false => rfl
      | true =>
        have h3 := ht.p.len
        simp only [Bool.not_true, Bool.false_eq_true, if_false, if_true]
        rw [areasAt_eq ht.ok, Option.bind_some, ht.p.cross, Option.bind_some]
        refine (range_sel (c := fun _ _ => true) (f := fun _ (v : XVariable) => v.Levels) ?_).trans ?_
        · intro x k a next hx ha
          have hk := (List.getElem?_eq_some_iff.1 hx).1
          rw [partV_len] at hk
          simp only [List.length_cons, List.length_nil] at ha
          rw [lnO_pos (by simp; omega)]; rfl
        · rw [selF_map, tableOf_eq ht hu, Option.bind_some]
          have e : [((levL g.Parents t.Level).length : Int)] ++ (partV s t.Vars).map (·.Levels) = sizesT g s t := rfl
          rw [e, implCubeOfX_eq, Option.bind_some]
  · split
    · exact cubeOfR_bulk
    · simp [bulkC]
end AS
namespace AS
theorem law_CubeOfTable (v0 : XGeo) (v1 : List XVariable) (v2 : XTable) (v3 : List XRecord) (b0 : Bd.bd v0) (b1 : Bd.bd v1) (b2 : Bd.bd v2) (b3 : Bd.bd v3) : sh_laws_FnExactCubeOfTable v0 v1 v2 v3 = some true := by
  unfold sh_laws_FnExactCubeOfTable
  rw [szGeo_eq (by omega) (by omega) b0, Option.bind_some]
  by_cases h0 : ((bulkG v0 : Nat) : Int) ≤ 1048576
  · rw [left_pos h0]
    simp only [show ¬ ((1048576 : Int) - ((bulkG v0 : Nat) : Int) < 0) by omega, decide_false, Bool.false_eq_true, if_false]
    rw [szVariableS_eq (by omega) (by omega) b1, Option.bind_some]
    by_cases h1 : ((bulkVS v1 : Nat) : Int) ≤ 1048576 - ((bulkG v0 : Nat) : Int)
    · rw [left_pos h1]
      simp only [show ¬ (1048576 - ((bulkG v0 : Nat) : Int) - ((bulkVS v1 : Nat) : Int) < 0) by omega, decide_false, Bool.false_eq_true, if_false]
      rw [szTable_eq (by omega) (by omega) b2, Option.bind_some]
      by_cases h2 : ((bulkT v2 : Nat) : Int) ≤ 1048576 - ((bulkG v0 : Nat) : Int) - ((bulkVS v1 : Nat) : Int)
      · rw [left_pos h2]
        simp only [show ¬ (1048576 - ((bulkG v0 : Nat) : Int) - ((bulkVS v1 : Nat) : Int) - ((bulkT v2 : Nat) : Int) < 0) by omega, decide_false, Bool.false_eq_true, if_false]
        rw [szRecordS_eq (by omega) (by omega) b3, Option.bind_some]
        by_cases h3 : ((bulkRS v3 : Nat) : Int) ≤ 1048576 - ((bulkG v0 : Nat) : Int) - ((bulkVS v1 : Nat) : Int) - ((bulkT v2 : Nat) : Int)
        · rw [left_pos h3]
          simp only [show ¬ (1048576 - ((bulkG v0 : Nat) : Int) - ((bulkVS v1 : Nat) : Int) - ((bulkT v2 : Nat) : Int) - ((bulkRS v3 : Nat) : Int) < 0) by omega, decide_false, Bool.false_eq_true, if_false]
          obtain ⟨r, e1, e2, q0⟩ := core_CubeOfTable v0 v1 v2 v3 (by omega) (by omega) (by omega) (by omega)
          have q0' := q0
          have n1 : v1.length ≤ bulkVS v1 := Nat.le_add_right _ _
          have m1 := marksVS_le v1
          have n3 : v3.length ≤ bulkRS v3 := Nat.le_add_right _ _
          have m3 := marksRS_le v3
          simp [e1, e2, toGeo_eq (g := v0) (by omega),
      eqGeo_eq (a := v0) (b := v0) (by omega),
      toVariableS_eq (s := v1) (by omega),
      eqVariableS_eq (a := v1) (b := v1) (by omega),
      toTable_eq (t := v2) (by omega),
      eqTable_eq (a := v2) (b := v2) (by omega),
      toRecordS_eq (l := v3) (by omega),
      eqRecordS_eq (a := v3) (b := v3) (by omega),
      markGeo_eq (g := v0) (n := 1) (by omega) (by omega),
      markVariableS_eq (l := v1) (n := 1 + ((bulkG v0 : Nat) : Int)) (by omega) (by omega) (by omega),
      markTable_eq (t := v2) (n := 1 + ((bulkG v0 : Nat) : Int) + ((marksVS v1 : Nat) : Int)) (by omega) (by omega),
      markRecordS_eq (l := v3) (n := 1 + ((bulkG v0 : Nat) : Int) + ((marksVS v1 : Nat) : Int) + ((bulkT v2 : Nat) : Int)) (by omega) (by omega) (by omega),
      show ¬ ((1 : Int) + ((bulkG v0 : Nat) : Int) + ((marksVS v1 : Nat) : Int) + ((bulkT v2 : Nat) : Int) + ((marksRS v3 : Nat) : Int) < 0) by omega,
      eqCube_eq (a := r.1) (b := r.1) (by omega),
      markCube_eq (c := r.1) (n := 1) (by omega) (by omega),
      heldCube_eq (c := r.1) (n := 1) (by omega) (by omega),
      show ¬ ((1 : Int) + ((bulkC (r.1) : Nat) : Int) < 0) by omega]
        · rw [left_no h3]; simp
      · rw [left_no h2]; simp
    · rw [left_no h1]; simp
  · rw [left_no h0]; simp
end AS
