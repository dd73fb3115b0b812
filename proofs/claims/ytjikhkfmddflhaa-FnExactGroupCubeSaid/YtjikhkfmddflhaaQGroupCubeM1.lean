/- Plain lemmas, and the law. No condition. -/
import Derived.Test.YtjikhkfmddflhaaQGroupCubeS
import Derived.Test.YtjikhkfmddflhaaQGroupCubeM0
set_option linter.unusedVariables false
set_option linter.unusedSimpArgs false
namespace AS
/-! ### The groups -/
def rngI (n : Nat) : List Int := (List.range n).map fun (i : Nat) => (i : Int)
theorem rngI_len (n : Nat) : (rngI n).length = n := by simp [rngI]
theorem rngI_mem {n : Nat} {x : Int} : x ∈ rngI n ↔ 0 ≤ x ∧ x < n := by
  simp only [rngI, List.mem_map, List.mem_range]
  constructor
  · rintro ⟨i, h, rfl⟩; omega
  · rintro ⟨h1, h2⟩; exact ⟨x.toNat, by omega, by omega⟩
theorem rngI_rise (n : Nat) : (rngI n).Pairwise (· < ·) := by
  rw [List.pairwise_iff_getElem]
  intro i j hi hj h
  simp only [rngI, List.getElem_map, List.getElem_range]; omega
theorem rise_gap {l : List Int} (h : l.Pairwise (· < ·)) {i : Nat} : ∀ {j : Nat} (hij : i ≤ j) (hj : j < l.length), l[i] + ((j - i : Nat) : Int) ≤ l[j]
  | 0, hij, hj => by
    have : i = 0 := by omega
    subst this; simp
  | j + 1, hij, hj => by
    by_cases e : i = j + 1
    · subst e; simp
    · have h1 := rise_gap h (i := i) (j := j) (by omega) (by omega)
      have h2 := List.pairwise_iff_getElem.1 h j (j + 1) (by omega) hj (by omega)
      omega
theorem rise_full {l : List Int} (h : l.Pairwise (· < ·)) (h0 : 0 < l.length) (h1 : l[0] = 0) (h2 : l[l.length - 1]'(by omega) = (l.length : Int) - 1) : l = rngI l.length := by
  apply List.ext_getElem
  · rw [rngI_len]
  · intro i h3 h4
    have a := rise_gap h (i := 0) (j := i) (by omega) h3
    have b := rise_gap h (i := i) (j := l.length - 1) (by omega) (by omega)
    simp only [rngI, List.getElem_map, List.getElem_range]
    omega
def metL (g : List Int) : List Int := putA [] g
def gmN (g : List Int) : Int := if metL g = rngI (metL g).length then ((metL g).length : Int) else 0
theorem metL_rise (g : List Int) : (metL g).Pairwise (· < ·) := putA_rise List.Pairwise.nil
theorem metL_mem {g : List Int} {x : Int} : x ∈ metL g ↔ x ∈ g := by
  unfold metL
  rw [putA_mem]; simp
theorem metL_len (g : List Int) : (metL g).length ≤ g.length := by have := putA_len g []; simpa [metL] using this
theorem gmN_of {g : List Int} {m : Nat} (h : ∀ x, x ∈ g ↔ 0 ≤ x ∧ x < (m : Int)) : gmN g = m := by
  have e : metL g = rngI m := rise_ext (metL_rise g) (rngI_rise m) fun x => by rw [metL_mem, rngI_mem, h]
  unfold gmN
  rw [e, rngI_len, if_pos rfl]
theorem gmN_pos {g : List Int} (h : gmN g ≠ 0) : ∃ m : Nat, gmN g = m ∧ 1 ≤ m ∧ m ≤ g.length ∧ ∀ x, x ∈ g ↔ 0 ≤ x ∧ x < (m : Int) := by
  unfold gmN at h ⊢
  by_cases e : metL g = rngI (metL g).length
  · rw [if_pos e] at h ⊢
    exact ⟨_, rfl, by omega, metL_len g, fun x => by rw [← metL_mem, ← rngI_mem, ← e]⟩
  · rw [if_neg e] at h; exact absurd rfl h
theorem gmN_out {g : List Int} {x : Int} (hx : x ∈ g) (h : x < 0 ∨ (g.length : Int) ≤ x) : gmN g = 0 := by
  by_cases e : gmN g = 0
  · exact e
  · obtain ⟨m, h1, h2, h3, h4⟩ := gmN_pos e
    have := (h4 x).1 hx
    omega
theorem gmN_hole {g : List Int} {x k : Int} (hx : x ∈ g) (h0 : 0 ≤ k) (h1 : k ≤ x) (hk : k ∉ g) : gmN g = 0 := by
  by_cases e : gmN g = 0
  · exact e
  · obtain ⟨m, _, h2, h3, h4⟩ := gmN_pos e
    have := (h4 x).1 hx
    exact absurd ((h4 k).2 ⟨h0, by omega⟩) hk
theorem foldP (xs : List Int) : ∀ (k : Nat) (V : List Int), foldF (fun _ x (V : List Int) => putL V x) xs k V = putA V xs := by
  induction xs with
  | nil => intro k V; rfl
  | cons x xs ih => intro k V; simp only [foldF]; rw [ih]; rfl
theorem cbGroups_eq {g : List Int} (hg : g.length ≤ 1048575) : sh_spec_cbGroups g = some (gmN g) := by
  unfold sh_spec_cbGroups
  rw [range_fold (I := fun k (V : List Int) => V.length ≤ k) (f := fun _ x (V : List Int) => putL V x) (Nat.zero_le _) (fun x k s _ h => by have := putL_len s x; omega) (by
    intro x k s next hx hs
    have := (List.getElem?_eq_some_iff.1 hx).1
    rw [l1Put_eq (by omega), Option.bind_some]), foldP]
  show _ = some (gmN g)
  have hm : putA [] g = metL g := rfl
  rw [hm]
  have hr := metL_rise g
  have hl := metL_len g
  unfold gmN
  generalize metL g = l at hr hl
  by_cases h0 : l.length = 0
  · have : l = [] := List.length_eq_zero_iff.1 h0
    subst this
    rfl
  · have e0 : decide ((l.length : Int) = 0) = false := by simp; intro e; subst e; simp at h0
    simp only [e0, Bool.false_eq_true, if_false]
    rw [getO_int (i := 0) (k := 0) rfl (List.getElem?_eq_getElem (show 0 < l.length by omega))]
    rw [ckI_pos (by omega) (by omega), getO_int (k := l.length - 1) (by omega) (List.getElem?_eq_getElem (show l.length - 1 < l.length by omega)), ckI_pos (by omega) (by omega)]
    by_cases h1 : l[0] = 0
    · by_cases h2 : l[l.length - 1] = (l.length : Int) - 1
      · rw [if_pos (rise_full hr (by omega) h1 h2)]
        simp [h1, h2]
      · have : ¬ l = rngI l.length := by
          intro e
          apply h2
          have e2 : l[l.length - 1]? = some ((l.length : Int) - 1) := by
            rw [e, rngI_len]
            simp only [rngI, List.getElem?_map]
            rw [List.getElem?_range (by omega)]
            simp; omega
          rw [List.getElem?_eq_getElem (by omega)] at e2
          simpa using e2
        rw [if_neg this]
        simp [h1, h2]
    · have : ¬ l = rngI l.length := by
        intro e
        apply h1
        have e2 : l[0]? = some 0 := by
          rw [e, rngI]
          simp only [List.getElem?_map]
          rw [List.getElem?_range (by omega)]
          simp
        rw [List.getElem?_eq_getElem (by omega)] at e2
        simpa using e2
      rw [if_neg this]
      simp [h1]
theorem take_mem {α : Type} {l : List α} {k : Nat} {x y : α} (h : l[k]? = some x) : y ∈ l.take (k + 1) ↔ y ∈ l.take k ∨ y = x := by
  rw [List.take_add_one, h]; simp
theorem groupNumbers_eq {g : List Int} (hg : g.length ≤ 1048575) : sh_impl_groupNumbers g = some (gmN g) := by
  unfold sh_impl_groupNumbers
  refine range_mem (I := fun k (s : Int) => (∀ x ∈ g.take k, 0 ≤ x ∧ x < (g.length : Int)) ∧ (∀ x ∈ g.take k, x < s) ∧ (s = 0 ∨ ∃ x ∈ g.take k, s = x + 1) ∧ 0 ≤ s) (G := fun _ _ _ => some (gmN g)) ?_ ?_ 0 ⟨by simp, by simp, .inl rfl, Int.le_refl _⟩
  · rintro k s ⟨h1, h2, h3, h4⟩ hk
    rw [List.take_of_length_le (by omega)] at h1 h2 h3
    obtain ⟨n, rfl⟩ := Int.eq_ofNat_of_zero_le h4
    have hn : n ≤ g.length := by
      rcases h3 with h3 | ⟨x, hx, h3⟩
      · omega
      · have := h1 x hx; omega
    refine (loop_up n (fun k : Nat => (k : Int)) (fun k => some (if (List.range' k (n - k)).all (fun j => hasB g (j : Int)) = true then (n : Int) else 0)) (by omega) ?_ ?_).trans ?_
    · intro next k hk hn
      simp only [lt_dec hk, if_true]
      rw [Contains_eq, Option.bind_some, show n - k = (n - (k + 1)) + 1 by omega, List.range'_succ, List.all_cons]
      cases hb : hasB g (k : Int) with
      | false => simp
      | true =>
        simp only [Bool.not_true, Bool.false_eq_true, if_false, Bool.true_and]
        rw [ckI_succ (by omega), ← cast_succ]; exact hn
    · intro next
      simp only [lt_self, Bool.false_eq_true, if_false]
      simp
    · congr 1
      by_cases ha : (List.range' 0 (n - 0)).all (fun j => hasB g (j : Int)) = true
      · rw [if_pos ha]
        refine (gmN_of fun x => ⟨fun hx => ⟨(h1 x hx).1, h2 x hx⟩, fun hx => ?_⟩).symm
        have := List.all_eq_true.1 ha x.toNat (by simp [List.mem_range']; omega)
        have := hasB_iff.1 this
        rwa [Int.toNat_of_nonneg hx.1] at this
      · rw [if_neg ha]
        have hne : ∃ j : Nat, j < n ∧ ((j : Nat) : Int) ∉ g := by
          by_cases hx : ∃ j : Nat, j < n ∧ ((j : Nat) : Int) ∉ g
          · exact hx
          · exfalso
            apply ha
            rw [List.all_eq_true]
            intro j hj
            have hjn : j < n := by simp [List.mem_range'] at hj; omega
            rw [hasB_iff]
            exact Decidable.byContradiction fun h => hx ⟨j, hjn, h⟩
        obtain ⟨j, hj, hjm⟩ := hne
        rcases h3 with h3 | ⟨x, hx, h3⟩
        · omega
        · exact (gmN_hole hx (by omega) (by omega) hjm).symm
  · rintro x l' k s next hx _ ⟨h1, h2, h3, h4⟩ hn
    have hxm := List.mem_of_getElem? hx
    by_cases c1 : x < 0
    · rw [gmN_out hxm (.inl c1)]; simp [c1]
    · by_cases c2 : (g.length : Int) ≤ x
      · rw [gmN_out hxm (.inr c2)]; simp [c1, c2]
      · simp only [c1, c2, decide_false, Bool.false_eq_true, if_false]
        rw [ckI_pos (by omega) (by omega)]
        refine hn _ ⟨fun y hy => ?_, fun y hy => ?_, ?_, by omega⟩
        · rcases (take_mem hx).1 hy with hy | rfl
          · exact h1 y hy
          · omega
        · rcases (take_mem hx).1 hy with hy | rfl
          · have := h2 y hy; omega
          · omega
        · right
          by_cases c3 : s ≤ x + 1
          · exact ⟨x, (take_mem hx).2 (.inr rfl), by omega⟩
          · rcases h3 with h3 | ⟨y, hy, h3⟩
            · omega
            · exact ⟨y, (take_mem hx).2 (.inl hy), by omega⟩
/-! ### The grouped cube -/
theorem vol_set : ∀ {s : List Int} {D : Nat} {m x : Int}, (∀ y ∈ s, 1 ≤ y ∧ y ≤ 30) → s[D]? = some x → 0 ≤ m → m ≤ x → vol (s.set D m) ≤ vol s
  | [], D, m, x, _, h, _, _ => by simp at h
  | y :: s, 0, m, x, hv, h, h0, h1 => by
    simp only [List.getElem?_cons_zero, Option.some.injEq] at h
    subst h
    have hv2 := vol_pow (s := s) (fun z hz => hv z (by simp [hz]))
    simp only [List.set_cons_zero, vol]
    exact Int.mul_le_mul_of_nonneg_right (by omega) (by omega)
  | y :: s, D + 1, m, x, hv, h, h0, h1 => by
    have ih := vol_set (s := s) (D := D) (m := m) (x := x) (fun z hz => hv z (by simp [hz])) (by simpa using h) h0 h1
    have hy := hv y (by simp)
    simp only [List.set_cons_succ, vol]
    exact Int.mul_le_mul_of_nonneg_left ih (by omega)
theorem Grp.vle {s g : List Int} {D : Nat} {m : Int} (h : Grp s g D m) : vol (s.set D m) ≤ vol s := vol_set h.v.2 h.sD (by have := h.m1; omega) h.m2
theorem cnt_vol {s : List Int} (h : valid s) (h2 : vol s ≤ 2000) : cntB s = vol s := by
  unfold cntB
  rw [if_pos ⟨h.1, okS_iff.2 h.2⟩, if_neg (by omega)]
theorem grp_good {c : XCube} {g : List Int} {D : Nat} {m : Int} (hc : goodB c = true) (hg : Grp c.Sizes g D m) : goodB (grpC c g D m) = smallL (grpC c g D m).Cells := by
  have F := formB_form (goodB_iff.1 hc).1
  have h1 := hg.vle
  have hv := vol_bd hg.valid'
  have hle := F.le
  have hn := F.n
  have hcn := cnt_vol hg.valid' (by omega)
  rw [Bool.eq_iff_iff, goodB_iff]
  constructor
  · rintro ⟨q, _⟩
    simp only [formB, Bool.and_eq_true] at q
    exact q.2
  · intro q
    refine ⟨?_, grp_whole hc hg⟩
    simp only [formB, Bool.and_eq_true, decide_eq_true_eq]
    refine ⟨⟨?_, ?_⟩, q⟩
    · show 0 < cntB (c.Sizes.set D m)
      omega
    · show (((grpC c g D m).Cells.length : Nat) : Int) = cntB (c.Sizes.set D m)
      simp only [grpC, List.length_map, List.length_range]; omega
theorem grp_len {c : XCube} {g : List Int} {D : Nat} {m : Int} (hc : goodB c = true) (hg : Grp c.Sizes g D m) : (grpC c g D m).Cells.length ≤ 2000 := by
  have F := formB_form (goodB_iff.1 hc).1
  have h1 := hg.vle
  have hle := F.le
  have hn := F.n
  simp only [grpC, List.length_map, List.length_range]; omega
theorem outO_bd {c : XCube} (F : Form c) (g : List Int) (D : Nat) (m : Int) {k : Nat} (hk : k ≤ c.Cells.length) (j : Nat) : -2000000000 ≤ outO c g D m k j ∧ outO c g D m k j ≤ 2000000000 := by
  have hle := F.le
  have := sumI_bd (b := 1000000) (by omega) (l := (List.range k).map fun (i : Nat) => if atL (c.Sizes.set D m) (gmI c.Sizes g D m (idxL c.Sizes (i : Int))) = (j : Int) then cellAt c (i : Int) else 0) (by
    intro x hx
    simp only [List.mem_map, List.mem_range] at hx
    obtain ⟨i, hi, rfl⟩ := hx
    split
    · exact cell_bd F (by omega) (by omega)
    · omega)
  simp only [List.length_map, List.length_range] at this
  unfold outO sumR
  omega
theorem outO_zero (c : XCube) (g : List Int) (D : Nat) (m : Int) (j : Nat) : outO c g D m 0 j = 0 := rfl
theorem outO_succ (c : XCube) (g : List Int) (D : Nat) (m : Int) (k j : Nat) : outO c g D m (k + 1) j = outO c g D m k j + (if atL (c.Sizes.set D m) (gmI c.Sizes g D m (idxL c.Sizes (k : Int))) = (j : Int) then cellAt c (k : Int) else 0) := by
  unfold outO
  exact sumR_succ _ _
theorem grp_sel {s g : List Int} {D : Nat} {m : Int} (h : Grp s g D m) {ix : List Int} (hf : fits s ix) :
    (getO ix (D : Int) fun x685 => getO s (D : Int) fun x688 => (if (decide (x685 = x688)) = true then getO (s.set D m) (D : Int) fun x692 => some (ix.set D x692) else getO g x685 fun x695 => some (ix.set D x695)) : Option (List Int)) = some (gmI s g D m ix) := by
  have hl : D < ix.length := by rw [hf.1]; exact h.hD
  have e1 : ix[D]? = some (ix.getD D 0) := by rw [getD_get hl]; exact List.getElem?_eq_getElem hl
  have hb := hf.2 D _ _ h.sD e1
  rw [getO_some e1, getO_some h.sD]
  unfold gmI
  by_cases e : ix.getD D 0 = s.getD D 0
  · rw [if_pos (by simpa using e), if_pos e, getO_some (List.getElem?_set_self h.hD)]
  · rw [if_neg (by simpa using e), if_neg e]
    have hgl : (ix.getD D 0).toNat < g.length := by have := h.len; omega
    rw [getO_int (k := (ix.getD D 0).toNat) (by omega) (List.getElem?_eq_getElem hgl), getD_get hgl]
def grpT (c : XCube) (g : List Int) (D : Nat) (m : Int) (k : Nat) : XCube := ⟨c.Sizes.set D m, (List.range (vol (c.Sizes.set D m)).toNat).map (outO c g D m k)⟩
theorem grp_step {c : XCube} {g : List Int} {D : Nat} {m : Int} (hc : goodB c = true) (hg : Grp c.Sizes g D m) {k : Nat} {x : Int} (hx : c.Cells[k]? = some x) {R : Type} {next : XCube → Option R} {r : Option R} (hn : next (grpT c g D m (k + 1)) = r) :
    (getO (grpT c g D m k).Cells (atL (c.Sizes.set D m) (gmI c.Sizes g D m (idxL c.Sizes (k : Int)))) fun x675 => ckI (x675 + x) <| next (⟨(grpT c g D m k).Sizes, ((grpT c g D m k).Cells.set (atL (c.Sizes.set D m) (gmI c.Sizes g D m (idxL c.Sizes (k : Int)))).toNat (x675 + x))⟩ : XCube)) = r := by
  have F := formB_form (goodB_iff.1 hc).1
  have hk := (List.getElem?_eq_some_iff.1 hx).1
  have hxe := cell_bd F (i := (k : Int)) (by omega) (by omega)
  have hxc : cellAt c (k : Int) = x := by
    have := cell_get (c := c) (i := (k : Int)) (by omega) (by omega)
    rw [Int.toNat_natCast, hx] at this
    simpa using this.symm
  rw [hxc] at hxe
  have hf := hg.fits (idxL_fits hg.v (show (0 : Int) ≤ k by omega))
  have hb := atL_bd hg.valid'.2 hf
  have hin : (atL (c.Sizes.set D m) (gmI c.Sizes g D m (idxL c.Sizes (k : Int)))).toNat < (vol (c.Sizes.set D m)).toNat := by omega
  have hob := outO_bd F g D m (show k ≤ c.Cells.length by omega) (atL (c.Sizes.set D m) (gmI c.Sizes g D m (idxL c.Sizes (k : Int)))).toNat
  rw [getO_int (k := (atL (c.Sizes.set D m) (gmI c.Sizes g D m (idxL c.Sizes (k : Int)))).toNat) (x := outO c g D m k (atL (c.Sizes.set D m) (gmI c.Sizes g D m (idxL c.Sizes (k : Int)))).toNat) (by omega) (by
    simp only [grpT, List.getElem?_map, List.getElem?_range hin]; rfl)]
  rw [ckI_pos (by omega) (by omega)]
  rw [← hn]
  congr 1
  unfold grpT
  congr 1
  refine map_set_add hin ?_ ?_
  · rw [outO_succ, if_pos (by omega), hxc]
  · intro i hi hne
    rw [outO_succ, if_neg (by omega)]; omega
theorem grpT_zero (c : XCube) (g : List Int) (D : Nat) (m : Int) : (⟨c.Sizes.set D m, List.replicate (vol (c.Sizes.set D m)).toNat 0⟩ : XCube) = grpT c g D m 0 := by
  unfold grpT
  congr 1
  apply List.ext_getElem
  · simp
  · intro i h1 h2; simp [outO_zero]
def grpR (c : XCube) (d : Int) (g : List Int) : XCube × Bool :=
  if goodB c && (decide (0 ≤ d) && decide (d < (c.Sizes.length : Int)) && decide ((g.length : Int) = c.Sizes.getD d.toNat 0) && !decide (gmN g = 0)) then
    (if smallL (grpC c g d.toNat (gmN g)).Cells = true then (grpC c g d.toNat (gmN g), true) else (⟨[], []⟩, false)) else (⟨[], []⟩, false)
theorem grp_mk {c : XCube} {D : Nat} {g : List Int} (F : Form c) (hD : D < c.Sizes.length) (hg : (g.length : Int) = c.Sizes[D]) (hm : gmN g ≠ 0) : Grp c.Sizes g D (gmN g) := by
  obtain ⟨m, h1, h2, h3, h4⟩ := gmN_pos hm
  rw [h1]
  exact ⟨F.v, hD, by rw [getD_get hD]; exact hg, fun x hx => (h4 x).1 hx, by omega, by rw [getD_get hD, ← hg]; omega⟩
theorem core_GroupCube (c : XCube) (d : Int) (g : List Int) (h0 : bulkC c ≤ 1048576) (_ : Bd.bd d) (h2 : g.length ≤ 1048576) : ∃ x, sh_spec_GroupCube c d g = some x ∧ sh_impl_GroupCube c d g = some x ∧ bulkC x.1 ≤ 1048576 := by
  refine ⟨grpR c d g, ?_, ?_, ?_⟩
  · unfold sh_spec_GroupCube
    rw [cbGood_eq, Option.bind_some]
    cases hc : goodB c with
    | false => simp [grpR, hc]
    | true =>
      have F := formB_form (goodB_iff.1 hc).1
      have hl4 := F.v.1
      simp only [Bool.not_true, Bool.false_eq_true, if_false]
      rw [ckI_pos (by omega) (by omega), l1In_eq, Option.bind_some]
      by_cases hd : 0 ≤ d ∧ d < c.Sizes.length
      · obtain ⟨D, rfl⟩ := Int.eq_ofNat_of_zero_le hd.1
        have hD : D < c.Sizes.length := by omega
        have e1 : (decide ((0 : Int) ≤ (D : Int)) && decide ((D : Int) ≤ (c.Sizes.length : Int) - 1)) = true := by simp; omega
        rw [e1]
        simp only [Bool.not_true, Bool.false_eq_true, if_false]
        rw [getO_some (List.getElem?_eq_getElem hD)]
        by_cases hg : (g.length : Int) = c.Sizes[D]
        · have hsz := F.v.get (List.getElem?_eq_getElem hD)
          simp only [ne_eq, hg, not_true_eq_false, decide_false, Bool.false_eq_true, if_false]
          rw [cbGroups_eq (by omega)]
          simp only [Option.bind_some]
          by_cases hm : gmN g = 0
          · simp [grpR, hm]
          · have G := grp_mk F hD hg hm
            have hvl := G.vle
            have hn := F.n
            have hle := F.le
            have hvb := vol_bd G.valid'
            simp only [hm, decide_false, Bool.false_eq_true, if_false, Int.toNat_natCast]
            rw [l1Own_eq (by omega)]
            simp only [Option.bind_some]
            rw [getO_some (List.getElem?_eq_getElem hD), cbCount_eq, cnt_vol G.valid' (by omega)]
            simp only [Option.bind_some]
            rw [mkO_pos (by omega) (by omega), grpT_zero]
            refine range_mem (I := fun k (T : XCube) => T = grpT c g D (gmN g) k) (G := fun _ _ _ => some (grpR c (D : Int) g)) ?_ ?_ _ rfl
            · intro k T hT hk
              subst hT
              have e : grpT c g D (gmN g) k = grpC c g D (gmN g) := by rw [hk]; rfl
              rw [e]
              unfold sh_spec_cbIf
              rw [cbGood_eq, Option.bind_some, grp_good hc G]
              have hD2 : decide ((D : Int) < (c.Sizes.length : Int)) = true := by simp; omega
              simp only [grpR, hc, hm, hg, getD_get hD, Int.toNat_natCast, hD2]
              cases smallL (grpC c g D (gmN g)).Cells <;> simp
            · intro x l' k T next hx _ hT hn2
              subst hT
              have hk := (List.getElem?_eq_some_iff.1 hx).1
              have hfit := idxL_fits G.v (show (0 : Int) ≤ k by omega)
              rw [cbIndices_eq G.v (by omega) (by omega), Option.bind_some]
              show (getO (idxL c.Sizes (k : Int)) (D : Int) fun x685 => getO c.Sizes (D : Int) fun x688 => (if (decide (x685 = x688)) = true then getO (c.Sizes.set D (gmN g)) (D : Int) fun x692 => some ((idxL c.Sizes (k : Int)).set D x692) else getO g x685 fun x695 => some ((idxL c.Sizes (k : Int)).set D x695)) : Option (List Int)).bind _ = _
              rw [grp_sel G hfit, Option.bind_some]
              show (sh_spec_cbAt (c.Sizes.set D (gmN g)) (gmI c.Sizes g D (gmN g) (idxL c.Sizes (k : Int)))).bind _ = _
              rw [cbAt_eq G.valid' (G.fits hfit), Option.bind_some]
              exact grp_step hc G hx (hn2 _ rfl)
        · have : decide ((g.length : Int) = c.Sizes.getD (D : Int).toNat 0) = false := by rw [Int.toNat_natCast, getD_get hD]; simpa using hg
          have e5 : grpR c (D : Int) g = (⟨[], []⟩, false) := by unfold grpR; rw [this]; simp
          rw [e5]
          simp [hg]
      · have e1 : (decide ((0 : Int) ≤ d) && decide (d ≤ (c.Sizes.length : Int) - 1)) = false := by
          rw [Bool.eq_false_iff]; intro q; simp at q; omega
        have e2 : (decide ((0 : Int) ≤ d) && decide (d < (c.Sizes.length : Int))) = false := by
          rw [Bool.eq_false_iff]; intro q; simp at q; omega
        rw [e1]
        simp [grpR, e2]
  · unfold sh_impl_GroupCube
    rw [implIsCube_eq, Option.bind_some]
    cases hc : goodB c with
    | false => simp [grpR, hc]
    | true =>
      have F := formB_form (goodB_iff.1 hc).1
      have hl4 := F.v.1
      simp only [Bool.not_true, Bool.false_eq_true, if_false]
      by_cases hd0 : d < 0
      · simp [grpR, hd0, show ¬ (0 ≤ d) by omega]
      by_cases hd1 : (c.Sizes.length : Int) ≤ d
      · simp [grpR, hd0, hd1, show ¬ (d < (c.Sizes.length : Int)) by omega]
      · obtain ⟨D, rfl⟩ := Int.eq_ofNat_of_zero_le (show 0 ≤ d by omega)
        have hD : D < c.Sizes.length := by omega
        simp only [hd0, hd1, decide_false, Bool.false_eq_true, if_false]
        rw [getO_some (List.getElem?_eq_getElem hD)]
        by_cases hg : (g.length : Int) = c.Sizes[D]
        · have hsz := F.v.get (List.getElem?_eq_getElem hD)
          simp only [ne_eq, hg, not_true_eq_false, decide_false, Bool.false_eq_true, if_false]
          rw [groupNumbers_eq (by omega)]
          simp only [Option.bind_some]
          by_cases hm : gmN g = 0
          · simp [grpR, hm]
          · have G := grp_mk F hD hg hm
            have hvl := G.vle
            have hn := F.n
            have hle := F.le
            have hvb := vol_bd G.valid'
            simp only [hm, decide_false, Bool.false_eq_true, if_false, Int.toNat_natCast]
            rw [Clone_eq (by omega)]
            simp only [Option.bind_some]
            rw [getO_some (List.getElem?_eq_getElem hD), cubeCells_eq, cnt_vol G.valid' (by omega)]
            simp only [Option.bind_some]
            rw [mkO_pos (by omega) (by omega), grpT_zero]
            refine range_mem (I := fun k (T : XCube) => T = grpT c g D (gmN g) k) (G := fun _ _ _ => some (grpR c (D : Int) g)) ?_ ?_ _ rfl
            · intro k T hT hk
              subst hT
              have e : grpT c g D (gmN g) k = grpC c g D (gmN g) := by rw [hk]; rfl
              rw [e, areCubeValues_eq, Option.bind_some]
              have hD2 : decide ((D : Int) < (c.Sizes.length : Int)) = true := by simp; omega
              simp only [grpR, hc, hm, hg, getD_get hD, Int.toNat_natCast, hD2]
              cases smallL (grpC c g D (gmN g)).Cells <;> simp
            · intro x l' k T next hx _ hT hn2
              subst hT
              have hk := (List.getElem?_eq_some_iff.1 hx).1
              have hfit := idxL_fits G.v (show (0 : Int) ≤ k by omega)
              rw [indexOf_eq G.v (by omega) (by omega), Option.bind_some]
              show (getO (idxL c.Sizes (k : Int)) (D : Int) fun x685 => getO c.Sizes (D : Int) fun x688 => (if (decide (x685 = x688)) = true then getO (c.Sizes.set D (gmN g)) (D : Int) fun x692 => some ((idxL c.Sizes (k : Int)).set D x692) else getO g x685 fun x695 => some ((idxL c.Sizes (k : Int)).set D x695)) : Option (List Int)).bind _ = _
              rw [grp_sel G hfit, Option.bind_some]
              show (sh_impl_cellOf (c.Sizes.set D (gmN g)) (gmI c.Sizes g D (gmN g) (idxL c.Sizes (k : Int)))).bind _ = _
              rw [cellOf_eq G.valid' (G.fits hfit), Option.bind_some]
              exact grp_step hc G hx (hn2 _ rfl)
        · have : decide ((g.length : Int) = c.Sizes.getD (D : Int).toNat 0) = false := by rw [Int.toNat_natCast, getD_get hD]; simpa using hg
          have e5 : grpR c (D : Int) g = (⟨[], []⟩, false) := by unfold grpR; rw [this]; simp
          rw [e5]
          simp [hg]
  · unfold grpR
    split
    · rename_i h
      simp only [Bool.and_eq_true, decide_eq_true_eq, Bool.not_eq_true', decide_eq_false_iff_not] at h
      obtain ⟨hc, ⟨⟨h3, h4⟩, h5⟩, h6⟩ := h
      have F := formB_form (goodB_iff.1 hc).1
      have hD : d.toNat < c.Sizes.length := by omega
      rw [getD_get hD] at h5
      have G := grp_mk F hD h5 h6
      have := grp_len hc G
      have hl4 := F.v.1
      split
      · simp only [bulkC]
        have e : (grpC c g d.toNat (gmN g)).Sizes.length = c.Sizes.length := by simp [grpC]
        omega
      · simp [bulkC]
    · simp [bulkC]
end AS
namespace AS
theorem law_GroupCube (v0 : XCube) (v1 : Int) (v2 : List Int) (b0 : Bd.bd v0) (b1 : Bd.bd v1) (b2 : Bd.bd v2) : sh_laws_FnExactGroupCube v0 v1 v2 = some true := by
  unfold sh_laws_FnExactGroupCube
  by_cases h2 : v2.length ≤ 1048576
  · simp only [show ¬ ((1048576 : Int) < (v2.length : Int)) by omega, decide_false, Bool.false_eq_true, if_false]
    rw [szCube_eq (by omega) (by omega) b0, Option.bind_some]
    by_cases h0 : ((bulkC v0 : Nat) : Int) ≤ 1048576
    · rw [left_pos h0]
      simp only [show ¬ ((1048576 : Int) - ((bulkC v0 : Nat) : Int) < 0) by omega, decide_false, Bool.false_eq_true, if_false]
      obtain ⟨r, e1, e2, q0⟩ := core_GroupCube v0 v1 v2 (by omega) b1 h2
      have q0' := q0
      simp [e1, e2, toCube_eq (c := v0) (by omega),
      eqCube_eq (a := v0) (b := v0) (by omega),
      toIntS_eq (l := v2) (by omega),
      eqIntS_eq (a := v2) (b := v2) (by omega),
      markCube_eq (c := v0) (n := 1) (by omega) (by omega),
      markIntS_eq (l := v2) (n := 1 + ((bulkC v0 : Nat) : Int)) (by omega) (by omega),
      show ¬ ((1 : Int) + ((bulkC v0 : Nat) : Int) + (v2.length : Int) < 0) by omega,
      eqCube_eq (a := r.1) (b := r.1) (by omega),
      markCube_eq (c := r.1) (n := 1) (by omega) (by omega),
      heldCube_eq (c := r.1) (n := 1) (by omega) (by omega),
      show ¬ ((1 : Int) + ((bulkC (r.1) : Nat) : Int) < 0) by omega]
    · rw [left_no h0]; simp
  · simp [show ((1048576 : Int) < (v2.length : Int)) by omega]
end AS
