/- Plain lemmas. No condition. -/
import Derived.Test.YtahffpadaffmdaaKc
import Derived.Test.YtahffpadaffmdaaMa
import Derived.Test.YtahffpadaffmdaaMaa
import Derived.Test.YtahffpadaffmdaaMab
import Derived.Test.YtahffpadaffmdaaMl
import Derived.Test.YtahffpadaffmdaaSdb
import Derived.Test.YtahffpadaffmdaaSdd
import Derived.Test.YtahffpadaffmdaaSdi
import Derived.Test.YtahffpadaffmdaaSdk
set_option linter.unusedVariables false
set_option linter.unusedSimpArgs false
namespace AS
def upB (k : Nat) (x : Int) : Bool := decide (k = 0) || (decide (0 ≤ x) && decide (x < (k : Int)))
def geoB (g : XGeo) : Bool := decide (1 ≤ g.Parents.length) && (decide (g.Parents.length ≤ 30) && (decide (g.Parents[0]? = some (-1)) && !anyF (fun k x => !upB k x) g.Parents 0))
structure GeoOk (p : List Int) : Prop where
  n1 : 1 ≤ p.length
  n2 : p.length ≤ 30
  z : p[0]? = some (-1)
  up : ∀ (k : Nat) (x : Int), 0 < k → p[k]? = some x → 0 ≤ x ∧ x < k
theorem geoB_ok {g : XGeo} (h : geoB g = true) : GeoOk g.Parents := by
  simp only [geoB, Bool.and_eq_true, decide_eq_true_eq, Bool.not_eq_true'] at h
  obtain ⟨h1, h2, h3, h4⟩ := h
  refine ⟨h1, h2, h3, fun k x hk hx => ?_⟩
  cases hc : upB k x with
  | true =>
    simp only [upB, Bool.or_eq_true, Bool.and_eq_true, decide_eq_true_eq] at hc
    omega
  | false =>
    have : anyF (fun k x => !upB k x) g.Parents 0 = true := anyF_iff.2 ⟨k, x, hx, by simp [hc]⟩
    rw [h4] at this; cases this
theorem gGood_eq (g : XGeo) : sh_spec_gGood g = some (geoB g) := by
  unfold sh_spec_gGood
  rw [l1In_eq, Option.bind_some]
  have e1 : decide ((1 : Int) ≤ (g.Parents.length : Int)) = decide (1 ≤ g.Parents.length) := by congr 1; apply propext; omega
  have e2 : decide ((g.Parents.length : Int) ≤ 30) = decide (g.Parents.length ≤ 30) := by congr 1; apply propext; omega
  rw [e1, e2]
  unfold geoB
  cases h1 : decide (1 ≤ g.Parents.length) with
  | false => simp
  | true =>
    cases h2 : decide (g.Parents.length ≤ 30) with
    | false => simp
    | true =>
      simp only [decide_eq_true_eq] at h1 h2
      have hx := List.getElem?_eq_getElem (show 0 < g.Parents.length by omega)
      simp only [Bool.and_self, Bool.not_true, Bool.false_eq_true, if_false, Bool.true_and]
      rw [getO_int (i := 0) (k := 0) rfl hx]
      by_cases hz : g.Parents[0] = -1
      · simp only [hz, ne_eq, not_true_eq_false, decide_false, Bool.false_eq_true, if_false]
        rw [hx, hz]
        refine (range_any (c := fun k x => !upB k x) (some false) ?_).trans ?_
        · intro x k next hxk
          by_cases hk : k = 0
          · subst hk; simp [upB]
          · simp only [show ((0 : Int) < (k : Int)) by omega, decide_true, if_true]
            rw [ckI_pos (by have := (List.getElem?_eq_some_iff.1 hxk).1; omega) (by have := (List.getElem?_eq_some_iff.1 hxk).1; omega), l1In_eq, Option.bind_some]
            have e : decide (x ≤ (k : Int) - 1) = decide (x < (k : Int)) := by congr 1; apply propext; omega
            rw [e]
            simp only [upB, hk, decide_false, Bool.false_or]
        · cases anyF (fun k x => !upB k x) g.Parents 0 <;> simp
      · simp [hz, hx]
theorem isGeo_eq (g : XGeo) : sh_impl_IsGeo g = some (geoB g) := by
  unfold sh_impl_IsGeo geoB
  by_cases h1 : 1 ≤ g.Parents.length
  · by_cases h2 : g.Parents.length ≤ 30
    · have hx := List.getElem?_eq_getElem (show 0 < g.Parents.length by omega)
      simp only [show ¬ ((g.Parents.length : Int) < 1) by omega, show ¬ ((30 : Int) < (g.Parents.length : Int)) by omega, h1, h2, decide_false, decide_true, Bool.false_eq_true, if_false, Bool.true_and]
      rw [getO_int (i := 0) (k := 0) rfl hx]
      by_cases hz : g.Parents[0] = -1
      · simp only [hz, ne_eq, not_true_eq_false, decide_false, Bool.false_eq_true, if_false]
        rw [hx, hz]
        have key := loop_up (body := fun (nx : Int → Option Bool) (s : Int) => (if (decide (s < (g.Parents.length : Int))) = true then
            getO g.Parents s fun x => (if (decide (x < (0 : Int))) = true then some false else (if (decide (s ≤ x)) = true then some false else ckI (s + (1 : Int)) <| nx (s + (1 : Int))))
            else some true)) (g.Parents.length - 1) (fun k => ((k + 1 : Nat) : Int)) (fun k => some (!anyF (fun k x => !upB k x) (g.Parents.drop (k + 1)) (k + 1))) (by omega) (by
          intro next k hk hn
          have hk' : k + 1 < g.Parents.length := by omega
          simp only [lt_dec hk', if_true]
          rw [getO_nat hk', List.drop_eq_getElem_cons hk']
          simp only [anyF]
          by_cases c1 : g.Parents[k + 1] < 0
          · simp [c1, upB, show ¬ (0 ≤ g.Parents[k + 1]) by omega]
          · by_cases c2 : ((k + 1 : Nat) : Int) ≤ g.Parents[k + 1]
            · have : upB (k + 1) g.Parents[k + 1] = false := by
                simp only [upB, Bool.or_eq_false_iff, Bool.and_eq_false_iff, decide_eq_false_iff_not]; omega
              simp only [c1, c2, decide_false, decide_true, Bool.false_eq_true, if_false, if_true, this, Bool.not_false, Bool.true_or, Bool.not_true]
            · have : upB (k + 1) g.Parents[k + 1] = true := by
                simp only [upB, Bool.or_eq_true, Bool.and_eq_true, decide_eq_true_eq]; omega
              simp only [c1, c2, decide_false, Bool.false_eq_true, if_false, this, Bool.not_true, Bool.false_or]
              rw [ckI_succ (by omega)]
              exact hn) (by
          intro next
          have e : g.Parents.length - 1 + 1 = g.Parents.length := by omega
          rw [e]
          simp only [lt_self, Bool.false_eq_true, if_false, List.drop_length, anyF, Bool.not_false])
        have e0 : anyF (fun k x => !upB k x) g.Parents 0 = anyF (fun k x => !upB k x) (g.Parents.drop 1) 1 := by
          rw [← List.drop_zero (l := g.Parents), List.drop_eq_getElem_cons (show 0 < g.Parents.length by omega)]
          simp [anyF, upB]
        rw [e0]
        exact key
      · simp [hz, hx]
    · simp [h2, show ((30 : Int) < (g.Parents.length : Int)) by omega, show ¬ ((g.Parents.length : Int) < 1) by omega]
  · simp [h1, show ((g.Parents.length : Int) < 1) by omega]

/-! ### Depths -/
def par (p : List Int) (i : Nat) : Nat := (p.getD i 0).toNat
def depF (p : List Int) : Nat → Nat → Nat
  | 0, _ => 0
  | _ + 1, 0 => 0
  | f + 1, i + 1 => depF p f (par p (i + 1)) + 1
def dep (p : List Int) (i : Nat) : Nat := depF p i i
theorem GeoOk.par {p : List Int} (h : GeoOk p) {i : Nat} (h0 : 0 < i) (hi : i < p.length) : p[i]? = some ((par p i : Nat) : Int) ∧ AS.par p i < i := by
  have hx := List.getElem?_eq_getElem hi
  have := h.up i _ h0 hx
  have e : AS.par p i = (p[i]).toNat := by simp [AS.par, List.getD_eq_getElem?_getD, hx]
  rw [hx, e]
  exact ⟨by congr 1; omega, by omega⟩
theorem depF_eq {p : List Int} (h : GeoOk p) : ∀ (i f : Nat), i ≤ f → i < p.length → depF p f i = dep p i := by
  intro i
  induction i using Nat.strongRecOn with
  | _ i ih =>
    intro f hf hi
    cases i with
    | zero => cases f <;> rfl
    | succ i =>
      obtain ⟨f, rfl⟩ := Nat.exists_eq_succ_of_ne_zero (by omega : f ≠ 0)
      have hp : par p (i + 1) < i + 1 := (h.par (Nat.succ_pos i) hi).2
      simp only [dep, depF]
      rw [ih _ hp f (by omega) (by omega), ih _ hp i (by omega) (by omega)]
theorem dep_zero (p : List Int) : dep p 0 = 0 := rfl
theorem dep_step {p : List Int} (h : GeoOk p) {i : Nat} (h0 : 0 < i) (hi : i < p.length) : dep p i = dep p (par p i) + 1 := by
  obtain ⟨i, rfl⟩ := Nat.exists_eq_succ_of_ne_zero (by omega : i ≠ 0)
  have hp : par p (i + 1) < i + 1 := (h.par h0 hi).2
  have hi : i + 1 < p.length := hi
  show depF p i (par p (i + 1)) + 1 = _
  rw [depF_eq h _ i (by omega) (by omega)]
theorem dep_le {p : List Int} (h : GeoOk p) : ∀ (i : Nat), i < p.length → dep p i ≤ i := by
  intro i
  induction i using Nat.strongRecOn with
  | _ i ih =>
    intro hi
    by_cases h0 : i = 0
    · subst h0; exact Nat.le_refl _
    · rw [dep_step h (by omega) hi]
      have hp := (h.par (show 0 < i by omega) hi).2
      have := ih _ hp (by omega)
      omega
theorem dep_pos {p : List Int} (h : GeoOk p) {i : Nat} (hi : i < p.length) : dep p i = 0 ↔ i = 0 := by
  constructor
  · intro hd
    by_cases h0 : i = 0
    · exact h0
    · rw [dep_step h (by omega) hi] at hd; omega
  · rintro rfl; rfl
theorem gDepth_eq {g : XGeo} (h : GeoOk g.Parents) {i : Nat} (hi : i < g.Parents.length) : sh_spec_gDepth g (i : Int) = some ((dep g.Parents i : Nat) : Int) := by
  unfold sh_spec_gDepth
  refine loopF_eq (I := fun s : Int × Int => ∃ a n : Nat, a < g.Parents.length ∧ s = ((a : Int), (n : Int)) ∧ n + dep g.Parents a = dep g.Parents i) (mu := fun s => s.1.toNat) (F := fun _ => some ((dep g.Parents i : Nat) : Int)) ?_ FUEL _ ⟨i, 0, hi, rfl, by omega⟩ (FUEL_big (by have := h.n2; simp; omega))
  rintro s next ⟨a, n, ha, rfl, hd⟩ hn
  by_cases h0 : a = 0
  · subst h0
    rw [dep_zero] at hd
    rw [getO_some h.z]
    simp only [show ¬ ((0 : Int) ≤ -1) by omega, decide_false, Bool.false_eq_true, if_false]
    rw [← hd]; rfl
  · obtain ⟨hp, hlt⟩ := h.par (show 0 < a by omega) ha
    have hs := dep_step h (show 0 < a by omega) ha
    have hle := dep_le h i hi
    have := h.n2
    rw [getO_some hp]
    simp only [show ((0 : Int) ≤ ((par g.Parents a : Nat) : Int)) by omega, decide_true, if_true]
    rw [ckI_pos (by omega) (by omega)]
    exact hn _ ⟨par g.Parents a, n + 1, by omega, by simp, by omega⟩ (by simp; omega)
theorem depthOf_eq {g : XGeo} (h : GeoOk g.Parents) {i : Nat} (hi : i < g.Parents.length) : sh_impl_depthOf g (i : Int) = some ((dep g.Parents i : Nat) : Int) := by
  unfold sh_impl_depthOf
  refine loopF_eq (I := fun s : Int × Int => ∃ a n : Nat, a < g.Parents.length ∧ s = ((a : Int), (n : Int)) ∧ n + dep g.Parents a = dep g.Parents i) (mu := fun s => s.1.toNat) (F := fun _ => some ((dep g.Parents i : Nat) : Int)) ?_ FUEL _ ⟨i, 0, hi, rfl, by omega⟩ (FUEL_big (by have := h.n2; simp; omega))
  rintro s next ⟨a, n, ha, rfl, hd⟩ hn
  by_cases h0 : a = 0
  · subst h0
    rw [dep_zero] at hd
    simp only [show ¬ ((0 : Int) < ((0 : Nat) : Int)) by omega, decide_false, Bool.false_eq_true, if_false]
    rw [← hd]; rfl
  · obtain ⟨hp, hlt⟩ := h.par (show 0 < a by omega) ha
    have hs := dep_step h (show 0 < a by omega) ha
    have hle := dep_le h i hi
    have := h.n2
    simp only [show ((0 : Int) < (a : Int)) by omega, decide_true, if_true]
    rw [getO_some hp, ckI_pos (by omega) (by omega)]
    exact hn _ ⟨par g.Parents a, n + 1, by omega, by simp, by omega⟩ (by simp; omega)

/-! ### Levels -/
def levL (p : List Int) (L : Int) : List Int := selF (fun k _ => decide (((dep p k : Nat) : Int) = L)) (fun k _ => (k : Int)) p 0
theorem levL_len (p : List Int) (L : Int) : (levL p L).length ≤ p.length := selF_len _ _ _ _
theorem levL_mem {p : List Int} {L x : Int} : x ∈ levL p L ↔ ∃ i, i < p.length ∧ x = (i : Int) ∧ ((dep p i : Nat) : Int) = L := by
  constructor
  · intro h
    obtain ⟨j, y, h1, h2, h3⟩ := selF_mem h
    simp only [Nat.zero_add, decide_eq_true_eq] at h2 h3
    exact ⟨j, (List.getElem?_eq_some_iff.1 h1).1, h3, h2⟩
  · rintro ⟨i, hi, rfl, h⟩
    have := mem_selF (c := fun k (_ : Int) => decide (((dep p k : Nat) : Int) = L)) (f := fun k (_ : Int) => (k : Int)) (k := 0) (List.getElem?_eq_getElem hi) (by simpa using h)
    simpa [levL] using this
theorem gLevel_eq {g : XGeo} (h : GeoOk g.Parents) (L : Int) : sh_spec_gLevel g L = some (levL g.Parents L) := by
  unfold sh_spec_gLevel
  refine (range_sel (c := fun k _ => decide (((dep g.Parents k : Nat) : Int) = L)) (f := fun k _ => (k : Int)) ?_).trans (by simp [levL])
  intro x k s next hx hs
  have hk := (List.getElem?_eq_some_iff.1 hx).1
  have := h.n2
  simp only [List.length_nil, Nat.zero_add] at hs
  rw [gDepth_eq h hk, Option.bind_some]
  by_cases hL : ((dep g.Parents k : Nat) : Int) = L
  · simp only [hL, decide_true, if_true]
    rw [lnO_pos (by simp; omega)]
  · simp only [hL, decide_false, Bool.false_eq_true, if_false]
theorem areasAt_eq {g : XGeo} (h : GeoOk g.Parents) (L : Int) : sh_impl_areasAt g L = some (levL g.Parents L) := by
  unfold sh_impl_areasAt
  refine (range_sel (c := fun k _ => decide (((dep g.Parents k : Nat) : Int) = L)) (f := fun k _ => (k : Int)) ?_).trans (by simp [levL])
  intro x k s next hx hs
  have hk := (List.getElem?_eq_some_iff.1 hx).1
  have := h.n2
  simp only [List.length_nil, Nat.zero_add] at hs
  rw [depthOf_eq h hk, Option.bind_some]
  by_cases hL : ((dep g.Parents k : Nat) : Int) = L
  · simp only [hL, decide_true, if_true]
    rw [lnO_pos (by simp; omega)]
  · simp only [hL, decide_false, Bool.false_eq_true, if_false]

/-! ### Leaves -/
def hasB (l : List Int) (n : Int) : Bool := anyF (fun _ x => decide (x = n)) l 0
theorem hasB_iff {l : List Int} {n : Int} : hasB l n = true ↔ n ∈ l := by
  unfold hasB
  rw [anyF_iff]
  constructor
  · rintro ⟨j, x, h1, h2⟩
    simp only [decide_eq_true_eq] at h2
    subst h2; exact List.mem_of_getElem? h1
  · intro h
    obtain ⟨j, hj⟩ := List.getElem?_of_mem h
    exact ⟨j, n, hj, by simp⟩
theorem l1Has_eq (l : List Int) (n : Int) : sh_spec_l1Has l n = some (hasB l n) := by
  unfold sh_spec_l1Has
  refine (range_any (c := fun _ x => decide (x = n)) (some true) fun x k next _ => rfl).trans ?_
  unfold hasB
  cases anyF (fun _ x => decide (x = n)) l 0 <;> rfl
theorem index_has {l : List Int} {n : Int} : ∀ (k : Nat), ∃ r, rangeF (fun (k18 : Nat) (x19 : Int) (s17 : Unit) (nx24 : Unit → Option Int) => (if (decide (n = x19)) = true then some (k18 : Int) else nx24 ())) (fun (s17 : Unit) => some (-1 : Int)) l k () = some r ∧ decide (0 ≤ r) = hasB l n := by
  unfold hasB
  induction l with
  | nil => intro k; exact ⟨-1, rfl, rfl⟩
  | cons x l ih =>
    intro k
    simp only [rangeF]
    by_cases h : n = x
    · exact ⟨k, by simp [h], by simp [anyF, h]⟩
    · obtain ⟨r, h1, h2⟩ := ih (k + 1)
      refine ⟨r, by simpa [h] using h1, ?_⟩
      rw [h2]
      simp only [anyF, show ¬ (x = n) from fun e => h e.symm, decide_false, Bool.false_or]
      have : ∀ (l : List Int) (a b : Nat), anyF (fun _ x => decide (x = n)) l a = anyF (fun _ x => decide (x = n)) l b := by
        intro l
        induction l with
        | nil => intro a b; rfl
        | cons y l ih => intro a b; simp only [anyF]; rw [ih (a + 1) (b + 1)]
      exact this _ _ _
theorem Contains_eq (l : List Int) (n : Int) : sh_slices_Contains_int l n = some (hasB l n) := by
  unfold sh_slices_Contains_int sh_slices_Index_int
  obtain ⟨r, h1, h2⟩ := index_has (l := l) (n := n) 0
  rw [h1, Option.bind_some, h2]
theorem isLeaf_eq (g : XGeo) (i : Int) : sh_impl_isLeaf g i = some (!hasB g.Parents i) := by
  unfold sh_impl_isLeaf
  rw [Contains_eq, Option.bind_some]
def leafL (p : List Int) : List Int := selF (fun k _ => !hasB p (k : Int)) (fun k _ => (k : Int)) p 0
theorem leafL_mem {p : List Int} {x : Int} : x ∈ leafL p ↔ ∃ i, i < p.length ∧ x = (i : Int) ∧ ¬ ((i : Int) ∈ p) := by
  constructor
  · intro h
    obtain ⟨j, y, h1, h2, h3⟩ := selF_mem h
    simp only [Nat.zero_add, Bool.not_eq_true'] at h2 h3
    exact ⟨j, (List.getElem?_eq_some_iff.1 h1).1, h3, fun hm => by rw [hasB_iff.2 hm] at h2; cases h2⟩
  · rintro ⟨i, hi, rfl, h⟩
    have := mem_selF (c := fun k (_ : Int) => !hasB p (k : Int)) (f := fun k (_ : Int) => (k : Int)) (k := 0) (List.getElem?_eq_getElem hi) (by
      simp only [Nat.zero_add, Bool.not_eq_true']
      cases hc : hasB p (i : Int) with
      | false => rfl
      | true => exact absurd (hasB_iff.1 hc) h)
    simpa [leafL] using this
theorem leavesOf_eq {g : XGeo} (h : GeoOk g.Parents) : sh_impl_leavesOf g = some (leafL g.Parents) := by
  unfold sh_impl_leavesOf
  refine (range_sel (c := fun k _ => !hasB g.Parents (k : Int)) (f := fun k _ => (k : Int)) ?_).trans (by simp [leafL])
  intro x k s next hx hs
  have hk := (List.getElem?_eq_some_iff.1 hx).1
  have := h.n2
  simp only [List.length_nil, Nat.zero_add] at hs
  rw [isLeaf_eq, Option.bind_some]
  cases hL : hasB g.Parents (k : Int) with
  | false => simp only [Bool.not_false, if_true]; rw [lnO_pos (by simp; omega)]
  | true => simp only [Bool.not_true, Bool.false_eq_true, if_false]
def kidsL (p : List Int) (i : Int) : List Int := selF (fun _ x => decide (x = i)) (fun k _ => (k : Int)) p 0
theorem gChildren_eq {g : XGeo} (h : GeoOk g.Parents) (i : Int) : sh_spec_gChildren g i = some (kidsL g.Parents i) := by
  unfold sh_spec_gChildren
  refine (range_sel (c := fun _ x => decide (x = i)) (f := fun k _ => (k : Int)) ?_).trans (by simp [kidsL])
  intro x k s next hx hs
  have hk := (List.getElem?_eq_some_iff.1 hx).1
  have := h.n2
  simp only [List.length_nil, Nat.zero_add] at hs
  by_cases hL : x = i
  · simp only [hL, decide_true, if_true]
    rw [lnO_pos (by simp; omega)]
  · simp only [hL, decide_false, Bool.false_eq_true, if_false]
theorem kidsL_nil {p : List Int} {i : Int} : ((kidsL p i).length : Int) = 0 ↔ ¬ (hasB p i = true) := by
  constructor
  · intro h hm
    have hm := hasB_iff.1 hm
    obtain ⟨j, hj⟩ := List.getElem?_of_mem hm
    have := mem_selF (c := fun _ (x : Int) => decide (x = i)) (f := fun k (_ : Int) => (k : Int)) (k := 0) hj (by simp)
    have h2 : kidsL p i = [] := List.length_eq_zero_iff.1 (by omega)
    unfold kidsL at h2
    rw [h2] at this; cases this
  · intro h
    cases hk : kidsL p i with
    | nil => rfl
    | cons y l =>
      exfalso
      have : y ∈ kidsL p i := by rw [hk]; simp
      obtain ⟨j, x, h1, h2, _⟩ := selF_mem this
      simp only [decide_eq_true_eq] at h2
      subst h2
      exact h (hasB_iff.2 (List.mem_of_getElem? h1))
theorem gLeaves_eq {g : XGeo} (h : GeoOk g.Parents) : sh_spec_gLeaves g = some (leafL g.Parents) := by
  unfold sh_spec_gLeaves
  refine (range_sel (c := fun k _ => !hasB g.Parents (k : Int)) (f := fun k _ => (k : Int)) ?_).trans (by simp [leafL])
  intro x k s next hx hs
  have hk := (List.getElem?_eq_some_iff.1 hx).1
  have := h.n2
  simp only [List.length_nil, Nat.zero_add] at hs
  rw [gChildren_eq h, Option.bind_some]
  cases hL : hasB g.Parents (k : Int) with
  | false =>
    have e : ((kidsL g.Parents (k : Int)).length : Int) = 0 := kidsL_nil.2 (by rw [hL]; decide)
    simp only [e, decide_true, if_true, Bool.not_false]; rw [lnO_pos (by simp; omega)]
  | true =>
    have : ¬ (((kidsL g.Parents (k : Int)).length : Int) = 0) := fun e => kidsL_nil.1 e hL
    simp only [this, decide_false, Bool.false_eq_true, if_false, Bool.not_true]

/-! ### Ancestors -/
def ancF (p : List Int) : Nat → Nat → Nat
  | 0, i => i
  | d + 1, i => ancF p d (par p i)
/-- The ancestor at a level, or -1. -/
def upR (p : List Int) (i : Nat) (L : Int) : Int := if 0 ≤ L ∧ L ≤ ((dep p i : Nat) : Int) then ((ancF p (dep p i - L.toNat) i : Nat) : Int) else -1
theorem anc_dep {p : List Int} (h : GeoOk p) : ∀ (d i : Nat), i < p.length → d ≤ dep p i → ancF p d i < p.length ∧ dep p (ancF p d i) = dep p i - d
  | 0, i, hi, _ => ⟨hi, rfl⟩
  | d + 1, i, hi, hd => by
    have h0 : 0 < i := by
      rcases Nat.eq_zero_or_pos i with rfl | h0
      · rw [dep_zero] at hd; omega
      · exact h0
    have hs := dep_step h h0 hi
    have hp := (h.par h0 hi).2
    have := anc_dep h d (par p i) (by omega) (by omega)
    exact ⟨this.1, by show dep p (ancF p d (par p i)) = _; rw [this.2]; omega⟩
theorem gUp_eq {g : XGeo} (h : GeoOk g.Parents) {i : Nat} (hi : i < g.Parents.length) (L : Int) : sh_spec_gUp g (i : Int) L = some (upR g.Parents i L) := by
  unfold sh_spec_gUp
  rw [gDepth_eq h hi, Option.bind_some]
  by_cases hL : L < 0
  · simp [hL, upR, show ¬ (0 ≤ L) by omega]
  · simp only [hL, decide_false, Bool.false_eq_true, if_false]
    refine loopF_eq (I := fun s : Int × Int => ∃ a d : Nat, a < g.Parents.length ∧ s = ((a : Int), (d : Int)) ∧ dep g.Parents a = d ∧ upR g.Parents a L = upR g.Parents i L) (mu := fun s => s.1.toNat) (F := fun _ => some (upR g.Parents i L)) ?_ FUEL _ ⟨i, _, hi, rfl, rfl, rfl⟩ (FUEL_big (by have := h.n2; simp; omega))
    rintro s next ⟨a, d, ha, rfl, hd, hu⟩ hn
    have hle := dep_le h a ha
    have := h.n2
    by_cases h1 : L < (d : Int)
    · have h0 : 0 < a := by
        rcases Nat.eq_zero_or_pos a with rfl | h0
        · rw [dep_zero] at hd; omega
        · exact h0
      obtain ⟨hp, hlt⟩ := h.par h0 ha
      have hs := dep_step h h0 ha
      simp only [h1, decide_true, if_true]
      rw [getO_some hp, ckI_pos (by omega) (by omega)]
      refine hn _ ⟨par g.Parents a, d - 1, by omega, by simp; omega, by omega, ?_⟩ (by simp; omega)
      rw [← hu]
      unfold upR
      rw [if_pos ⟨by omega, by omega⟩, if_pos ⟨by omega, by omega⟩]
      rw [show dep g.Parents a - L.toNat = (dep g.Parents (par g.Parents a) - L.toNat) + 1 by omega]
      rfl
    · simp only [h1, decide_false, Bool.false_eq_true, if_false]
      rw [← hu]
      by_cases h2 : (d : Int) < L
      · have e : upR g.Parents a L = -1 := by unfold upR; rw [if_neg (by omega)]
        rw [e]; simp [h2]
      · have e : upR g.Parents a L = (a : Int) := by
          unfold upR
          rw [if_pos ⟨by omega, by omega⟩, show dep g.Parents a - L.toNat = 0 by omega]; rfl
        rw [e]; simp [h2]
end AS

