/- Plain lemmas, and the law. No condition. -/
import Derived.Test.YtpllepipjbiefaaGreatDoorQParsePlanS
import Derived.Test.YtpllepipjbiefaaGreatDoorQParsePlanM0
import Derived.Lib.Join
set_option linter.unusedVariables false
set_option linter.unusedSimpArgs false
namespace AS
def nmV (s : List XVariable) (x : Int) : List UInt8 := (s.getD x.toNat default).Name
def wordW : List UInt8 := [32, 119, 104, 101, 114, 101, 32]
def whrT (s : List XVariable) : List Int → Nat → List UInt8 → List UInt8
  | [], _, _ => []
  | x :: l, k, w => if x = 0 then whrT s l (k + 1) w else (((w ++ nmV s (k : Int)) ++ [61]) ++ setT x.toNat) ++ whrT s l (k + 1) [32]
def headT (s : List XVariable) (t : XTable) : List UInt8 := (if (0 : Int) ≤ t.Sum then ([115, 117, 109, 32] : List UInt8) ++ nmV s t.Sum else [99, 111, 117, 110, 116]) ++ (([32, 108, 101, 118, 101, 108, 32] : List UInt8) ++ dgT t.Level.toNat)
def byT (s : List XVariable) (t : XTable) : List UInt8 := if t.Vars = [] then [] else ([32, 98, 121, 32] : List UInt8) ++ itc [44] (t.Vars.map (nmV s))
def tabT (s : List XVariable) (t : XTable) : List UInt8 := (headT s t ++ byT s t) ++ whrT s t.Where 0 wordW
theorem nmV_len {s : List XVariable} (hs : schB s = true) {x : Int} (h0 : 0 ≤ x) (h1 : x < (s.length : Int)) : (nmV s x).length ≤ 8 ∧ 1 ≤ (nmV s x).length ∧ nmV s x = (s[x.toNat]'(by omega)).Name := by
  have hx : x.toNat < s.length := by omega
  have := schB_name hs (List.getElem_mem hx)
  unfold nmV
  rw [getD_get hx]
  exact ⟨this.2, this.1, rfl⟩
theorem Tab.lev30 {g : XGeo} {s : List XVariable} {t : XTable} (h : Tab g s t) : 0 ≤ t.Level ∧ t.Level < 30 := by
  obtain ⟨i, h1, h2⟩ := Tab.lev h
  have h3 := dep_le h.ok i h1
  have h4 := h.ok.n2
  omega
theorem Tab.vars {g : XGeo} {s : List XVariable} {t : XTable} (h : Tab g s t) : (∀ v ∈ t.Vars, 0 ≤ v ∧ v < (s.length : Int)) ∧ t.Vars.length ≤ 6 := by
  have hls := schB_len h.sch
  have h1 := risB_len (by omega) h.p.ris
  refine ⟨fun v hv => ?_, by omega⟩
  have := risB_rng h.p.ris v hv
  omega
theorem head_len {s : List XVariable} {t : XTable} (hs : schB s = true) (h1 : t.Sum < (s.length : Int)) : (headT s t).length ≤ 30 := by
  have hd := dgT_len t.Level.toNat
  unfold headT
  split
  · rename_i h
    have := (nmV_len hs h h1).1
    simp only [List.length_append, List.length_cons, List.length_nil]; omega
  · simp only [List.length_append, List.length_cons, List.length_nil]; omega
theorem names_len {s : List XVariable} {l : List Int} (hs : schB s = true) (hl : ∀ v ∈ l, 0 ≤ v ∧ v < (s.length : Int)) : ∀ y ∈ l.map (nmV s), y.length ≤ 8 := fun y hy => by
  obtain ⟨x, hx, rfl⟩ := List.mem_map.1 hy
  exact (nmV_len hs (hl x hx).1 (hl x hx).2).1
theorem by_len {s : List XVariable} {t : XTable} (hs : schB s = true) (hl : ∀ v ∈ t.Vars, 0 ≤ v ∧ v < (s.length : Int)) (h6 : t.Vars.length ≤ 6) : (byT s t).length ≤ 60 ∧ (itc [44] (t.Vars.map (nmV s))).length ≤ 54 := by
  have h1 := itc_len (sep := [44]) (c := 8) (names_len hs hl)
  have h2 : (itc [44] (t.Vars.map (nmV s))).length ≤ 54 := by
    simp only [List.length_map, List.length_cons, List.length_nil] at h1
    have : t.Vars.length * (8 + (0 + 1)) ≤ 6 * 9 := Nat.mul_le_mul h6 (Nat.le_refl _)
    omega
  refine ⟨?_, h2⟩
  unfold byT
  split
  · simp
  · simp only [List.length_append, List.length_cons, List.length_nil]; omega
theorem nNames_eq {s : List XVariable} {l : List Int} (hs : schB s = true) (hl : ∀ v ∈ l, 0 ≤ v ∧ v < (s.length : Int)) (h6 : l.length ≤ 6) : sh_spec_nNames s l = some (itc [44] (l.map (nmV s))) := by
  unfold sh_spec_nNames
  refine (range_text (sep := [44]) (s0 := []) (f := nmV s) ?_).trans (by simp)
  intro x k next hx
  have hm := hl x (List.mem_of_getElem? hx)
  have hk := (List.getElem?_eq_some_iff.1 hx).1
  have hn := nmV_len hs hm.1 hm.2
  have h1 := itc_len (sep := [44]) (c := 8) (P := (l.map (nmV s)).take k) (fun y hy => names_len hs hl y (List.mem_of_mem_take hy))
  simp only [List.length_take, List.length_map, List.length_cons, List.length_nil] at h1
  have h2 : min k l.length * (8 + (0 + 1)) ≤ 6 * 9 := Nat.mul_le_mul (by omega) (Nat.le_refl _)
  simp only [List.nil_append]
  by_cases e : k = 0
  · subst e
    simp only [Int.natCast_zero, Int.lt_irrefl, decide_false, Bool.false_eq_true, if_false, Option.bind_some, if_true]
    rw [getO_pos hm.1 (by omega), ← hn.2.2, lnO_pos (by omega)]
  · simp only [show ((0 : Int) < (k : Int)) by omega, decide_true, if_true, e, if_false]
    rw [lnO_pos (by simp only [List.length_cons, List.length_nil]; omega), Option.bind_some, getO_pos hm.1 (by omega), ← hn.2.2, lnO_pos (by simp only [List.length_append, List.length_cons, List.length_nil]; omega)]
theorem nTable_eq {g : XGeo} {s : List XVariable} {t : XTable} (ht : Tab g s t) : sh_spec_nTable s t = some (tabT s t) := by
  have hs := ht.sch
  have hls := schB_len hs
  have hlv := ht.lev30
  have hvs := ht.vars
  have hd := dgT_len t.Level.toNat
  have hhl := head_len hs ht.s1
  have hbl := by_len hs hvs.1 hvs.2
  unfold sh_spec_nTable
  have e1 : ((if (decide ((0 : Int) ≤ t.Sum)) = true then getO s t.Sum fun x1117 => lnO (([115, 117, 109, 32] : List UInt8).length + x1117.Name.length) <| some (([115, 117, 109, 32] : List UInt8) ++ x1117.Name) else some ([99, 111, 117, 110, 116] : List UInt8)) : Option (List UInt8)) = some (if (0 : Int) ≤ t.Sum then ([115, 117, 109, 32] : List UInt8) ++ nmV s t.Sum else [99, 111, 117, 110, 116]) := by
    by_cases h : (0 : Int) ≤ t.Sum
    · have hn := nmV_len hs h ht.s1
      simp only [h, decide_true, if_true]
      rw [getO_pos h (by have := ht.s1; omega), ← hn.2.2, lnO_pos (by simp only [List.length_cons, List.length_nil]; omega)]
    · simp [h]
  rw [e1, Option.bind_some, l1Num_eq hlv.1 (by omega), Option.bind_some, lnO_pos (by simp only [List.length_cons, List.length_nil]; omega)]
  have e2 : (if (0 : Int) ≤ t.Sum then ([115, 117, 109, 32] : List UInt8) ++ nmV s t.Sum else [99, 111, 117, 110, 116]) ++ (([32, 108, 101, 118, 101, 108, 32] : List UInt8) ++ dgT t.Level.toNat) = headT s t := rfl
  rw [lnO_pos (by rw [← List.length_append, e2]; omega), e2]
  have e3 : ((if (decide ((0 : Int) < (t.Vars.length : Int))) = true then (sh_spec_nNames s t.Vars).bind fun x1112 => lnO (([32, 98, 121, 32] : List UInt8).length + x1112.length) <| lnO ((headT s t).length + (([32, 98, 121, 32] : List UInt8) ++ x1112).length) <| some (headT s t ++ (([32, 98, 121, 32] : List UInt8) ++ x1112)) else some (headT s t)) : Option (List UInt8)) = some (headT s t ++ byT s t) := by
    unfold byT
    cases hv : t.Vars with
    | nil => simp
    | cons x l =>
      rw [← hv]
      have hne : t.Vars ≠ [] := by rw [hv]; simp
      have hpos : ((0 : Int) < (t.Vars.length : Int)) := by rw [hv]; simp
      simp only [hpos, decide_true, if_true, hne, if_false]
      rw [nNames_eq hs hvs.1 hvs.2, Option.bind_some, lnO_pos (by simp only [List.length_cons, List.length_nil]; omega), lnO_pos (by simp only [List.length_append, List.length_cons, List.length_nil]; omega)]
  rw [e3, Option.bind_some]
  refine range_mem (I := fun k (st : List UInt8 × Bool) => st.1.length ≤ 100 + 45 * k) (G := fun l' k st => some (st.1 ++ whrT s l' k (if st.2 = true then wordW else [32]))) ?_ ?_ (headT s t ++ byT s t, true) (by simp only [List.length_append]; omega)
  · intro k st _ _; simp [whrT]
  · intro x l' k st next hx _ hst hn
    have hk := (List.getElem?_eq_some_iff.1 hx).1
    have hwl := whB_len ht.w
    have hks : k < s.length := by omega
    obtain ⟨v, hv, h0, h1⟩ := whB_get ht.w hx
    have hf := full_256 (schB_lev hs (List.mem_of_getElem? hv))
    have hnm := nmV_len hs (show (0 : Int) ≤ (k : Int) by omega) (by omega)
    have hst8 := setT_len x.toNat
    simp only [whrT]
    by_cases hx0 : x = 0
    · simp only [hx0, decide_true, if_true]
      exact hn _ (by simp only; omega)
    · simp only [hx0, decide_false, Bool.false_eq_true, if_false]
      have e4 : ((if st.2 = true then lnO (st.1.length + ([32, 119, 104, 101, 114, 101] : List UInt8).length) <| some ((st.1 ++ ([32, 119, 104, 101, 114, 101] : List UInt8)), false) else some (st.1, st.2)) : Option ((List UInt8) × Bool)) = some ((if st.2 = true then st.1 ++ [32, 119, 104, 101, 114, 101] else st.1), false) := by
        cases h2 : st.2 with
        | false => simp
        | true => simp only [if_true]; rw [lnO_pos (by simp only [List.length_cons, List.length_nil]; omega)]
      rw [e4, Option.bind_some]
      have hn8 := schB_name hs (List.getElem_mem hks)
      have hl2 : (if st.2 = true then st.1 ++ [32, 119, 104, 101, 114, 101] else st.1).length ≤ 100 + 45 * k + 6 := by
        split
        · simp only [List.length_append, List.length_cons, List.length_nil]; omega
        · omega
      rw [getO_nat hks, lnO_pos (by simp only [List.length_cons, List.length_nil]; omega), lnO_pos (by simp only [List.length_append, List.length_cons, List.length_nil]; omega), lnO_pos (by simp only [List.length_append, List.length_cons, List.length_nil]; omega), eLevels_eq (by omega) (by omega), Option.bind_some]
      refine (spec_setT (by simp only [List.length_append, List.length_cons, List.length_nil]; omega)).trans ?_
      rw [hn _ (by simp only [List.length_append, List.length_cons, List.length_nil]; omega)]
      have hnk : nmV s (k : Int) = s[k].Name := by rw [hnm.2.2]; simp only [Int.toNat_natCast]
      rw [hnk]
      cases st.2 <;> simp [wordW]
theorem tableText_eq {g : XGeo} {s : List XVariable} {t : XTable} (ht : Tab g s t) : sh_impl_tableText s t = some (tabT s t) := by
  have hs := ht.sch
  have hls := schB_len hs
  have hlv := ht.lev30
  have hvs := ht.vars
  have hd := dgT_len t.Level.toNat
  have hhl := head_len hs ht.s1
  have hbl := by_len hs hvs.1 hvs.2
  unfold sh_impl_tableText
  have e1 : ((if (decide ((0 : Int) ≤ t.Sum)) = true then getO s t.Sum fun x1117 => lnO (([115, 117, 109, 32] : List UInt8).length + x1117.Name.length) <| some (([115, 117, 109, 32] : List UInt8) ++ x1117.Name) else some ([99, 111, 117, 110, 116] : List UInt8)) : Option (List UInt8)) = some (if (0 : Int) ≤ t.Sum then ([115, 117, 109, 32] : List UInt8) ++ nmV s t.Sum else [99, 111, 117, 110, 116]) := by
    by_cases h : (0 : Int) ≤ t.Sum
    · have hn := nmV_len hs h ht.s1
      simp only [h, decide_true, if_true]
      rw [getO_pos h (by have := ht.s1; omega), ← hn.2.2, lnO_pos (by simp only [List.length_cons, List.length_nil]; omega)]
    · simp [h]
  rw [e1, Option.bind_some, Itoa_eq hlv.1 (by omega), Option.bind_some, lnO_pos (by simp only [List.length_cons, List.length_nil]; omega)]
  have e2 : (if (0 : Int) ≤ t.Sum then ([115, 117, 109, 32] : List UInt8) ++ nmV s t.Sum else [99, 111, 117, 110, 116]) ++ (([32, 108, 101, 118, 101, 108, 32] : List UInt8) ++ dgT t.Level.toNat) = headT s t := rfl
  rw [lnO_pos (by rw [← List.length_append, e2]; omega), e2]
  have e3 : ((if (decide ((0 : Int) < (t.Vars.length : Int))) = true then
      rangeF (fun (k381 : Nat) (x382 : Int) (s380 : (List (List UInt8))) (nx401 : (List (List UInt8)) → Option (List UInt8)) =>
        getO s x382 fun x412 => lnO (s380.length + [x412.Name].length) <| nx401 (s380 ++ [x412.Name]))
        (fun (s380 : (List (List UInt8))) => (sh_strings_Join s380 ([44] : List UInt8)).bind fun x404 => lnO (([32, 98, 121, 32] : List UInt8).length + x404.length) <| lnO ((headT s t).length + (([32, 98, 121, 32] : List UInt8) ++ x404).length) <| some (headT s t ++ (([32, 98, 121, 32] : List UInt8) ++ x404))) t.Vars 0 ([] : List (List UInt8))
      else some (headT s t)) : Option (List UInt8)) = some (headT s t ++ byT s t) := by
    unfold byT
    cases hv : t.Vars with
    | nil => simp
    | cons x l =>
      rw [← hv]
      have hne : t.Vars ≠ [] := by rw [hv]; simp
      have hpos : ((0 : Int) < (t.Vars.length : Int)) := by rw [hv]; simp
      simp only [hpos, decide_true, if_true, hne, if_false]
      refine range_mem (I := fun k a => a = (t.Vars.map (nmV s)).take k) (G := fun _ _ _ => some (headT s t ++ (([32, 98, 121, 32] : List UInt8) ++ itc [44] (t.Vars.map (nmV s))))) ?_ ?_ [] (by simp)
      · intro k a ha hk
        subst ha
        rw [List.take_of_length_le (by simp; omega), Join_eq (by simp; omega) (by omega), Option.bind_some, lnO_pos (by simp only [List.length_cons, List.length_nil]; omega), lnO_pos (by simp only [List.length_append, List.length_cons, List.length_nil]; omega)]
      · intro y l' k a next hy _ ha hn
        subst ha
        have hm := hvs.1 y (List.mem_of_getElem? hy)
        have hk := (List.getElem?_eq_some_iff.1 hy).1
        have hnm := nmV_len hs hm.1 hm.2
        rw [getO_pos hm.1 (by omega), ← hnm.2.2, lnO_pos (by simp only [List.length_take, List.length_map, List.length_cons, List.length_nil]; omega)]
        refine hn _ ?_
        rw [List.take_add_one]
        simp [hy]
  rw [e3, Option.bind_some]
  refine range_mem (I := fun k (st : List UInt8 × List UInt8) => st.1.length ≤ 100 + 45 * k ∧ st.2.length ≤ 7) (G := fun l' k st => some (st.1 ++ whrT s l' k st.2)) ?_ ?_ (headT s t ++ byT s t, wordW) ⟨by simp only [List.length_append]; omega, by simp [wordW]⟩
  · intro k st _ _; simp [whrT]
  · intro x l' k st next hx _ hst hn
    have hk := (List.getElem?_eq_some_iff.1 hx).1
    have hwl := whB_len ht.w
    have hks : k < s.length := by omega
    obtain ⟨v, hv, h0, h1⟩ := whB_get ht.w hx
    have hf := full_256 (schB_lev hs (List.mem_of_getElem? hv))
    have hnm := nmV_len hs (show (0 : Int) ≤ (k : Int) by omega) (by omega)
    have hnk : nmV s (k : Int) = s[k].Name := by rw [hnm.2.2]; simp only [Int.toNat_natCast]
    have hst8 := setT_len x.toNat
    have hn8 := schB_name hs (List.getElem_mem hks)
    simp only [whrT]
    by_cases hx0 : x = 0
    · simp only [hx0, ne_eq, not_true_eq_false, decide_false, Bool.false_eq_true, if_false, if_true]
      exact hn _ ⟨by simp only; omega, hst.2⟩
    · simp only [hx0, ne_eq, not_false_eq_true, decide_true, if_true, if_false]
      rw [getO_nat hks, lnO_pos (by omega), lnO_pos (by simp only [List.length_append, List.length_cons, List.length_nil]; omega), setText_eq (by omega) (by omega), Option.bind_some, lnO_pos (by simp only [List.length_append, List.length_cons, List.length_nil]; omega), lnO_pos (by simp only [List.length_append, List.length_cons, List.length_nil]; omega)]
      rw [hn _ ⟨by simp only [List.length_append, List.length_cons, List.length_nil]; omega, by simp⟩, hnk]
      simp
end AS
namespace AS
/-! ### Words -/
def flT (sep : UInt8) (l : List (List UInt8)) : List UInt8 := (l.map (sep :: ·)).flatten
theorem flT_nil (sep : UInt8) : flT sep [] = [] := rfl
theorem flT_cons (sep : UInt8) (p : List UInt8) (l : List (List UInt8)) : flT sep (p :: l) = sep :: (p ++ flT sep l) := by simp [flT]
theorem flT_app (sep : UInt8) (a b : List (List UInt8)) : flT sep (a ++ b) = flT sep a ++ flT sep b := by simp [flT]
theorem itc_cons (sep : UInt8) (a : List UInt8) (l : List (List UInt8)) : itc [sep] (a :: l) = a ++ flT sep l := by
  have e : itc [sep] (a :: l) = a ++ Go.Lib.joinTail [sep] l := Go.Lib.join_cons a l [sep]
  rw [e]; simp [Go.Lib.joinTail, flT]
theorem splA_fl {sep : UInt8} : ∀ {l : List (List UInt8)} {a : List UInt8}, (∀ c ∈ a, c ≠ sep) → (∀ p ∈ l, ∀ c ∈ p, c ≠ sep) → splA sep [] (a ++ flT sep l) = a :: l
  | [], a, ha, _ => by rw [flT_nil, List.append_nil, splA_none ha, List.nil_append]
  | p :: l, a, ha, hl => by
    rw [flT_cons, splA_app ha, List.nil_append, splA_fl (hl p (by simp)) fun q hq => hl q (by simp [hq])]
theorem splA_itc {sep : UInt8} {l : List (List UInt8)} (hn : l ≠ []) (hl : ∀ p ∈ l, ∀ c ∈ p, c ≠ sep) : splA sep [] (itc [sep] l) = l := by
  cases l with
  | nil => exact absurd rfl hn
  | cons a l => rw [itc_cons, splA_fl (hl a (by simp)) fun q hq => hl q (by simp [hq])]
theorem pcsA_spl (sep : UInt8) : ∀ (x cur : List UInt8), pcsA sep cur x = splA sep cur x
  | [], cur => rfl
  | c :: x, cur => by
    simp only [pcsA, splA]
    split
    · rw [pcsA_spl sep x []]
    · rw [pcsA_spl sep x _]
theorem pcs_spl (sep : UInt8) (x : List UInt8) : pcs sep x = splA sep [] x := pcsA_spl sep x []
/-! ### The words of a table -/
def cndW (s : List XVariable) : List Int → Nat → List (List UInt8)
  | [], _ => []
  | x :: l, k => if x = 0 then cndW s l (k + 1) else (nmV s (k : Int) ++ 61 :: setT x.toNat) :: cndW s l (k + 1)
def lvlW (t : XTable) : List (List UInt8) := [[108, 101, 118, 101, 108], dgT t.Level.toNat]
def byW (s : List XVariable) (t : XTable) : List (List UInt8) := if t.Vars = [] then [] else [[98, 121], itc [44] (t.Vars.map (nmV s))]
def whrW (s : List XVariable) (t : XTable) : List (List UInt8) := if cndW s t.Where 0 = [] then [] else [119, 104, 101, 114, 101] :: cndW s t.Where 0
def wdsT (s : List XVariable) (t : XTable) : List (List UInt8) := (if (0 : Int) ≤ t.Sum then [[115, 117, 109], nmV s t.Sum] else [[99, 111, 117, 110, 116]]) ++ (lvlW t ++ (byW s t ++ whrW s t))
theorem whr_fl (s : List XVariable) : ∀ (l : List Int) (k : Nat), whrT s l k [32] = flT 32 (cndW s l k)
  | [], _ => rfl
  | x :: l, k => by
    simp only [whrT, cndW]
    split
    · exact whr_fl s l (k + 1)
    · rw [whr_fl s l (k + 1), flT_cons]; simp
theorem whr_wl (s : List XVariable) : ∀ (l : List Int) (k : Nat), whrT s l k wordW = (if cndW s l k = [] then [] else [32, 119, 104, 101, 114, 101] ++ flT 32 (cndW s l k))
  | [], _ => rfl
  | x :: l, k => by
    simp only [whrT, cndW]
    split
    · exact whr_wl s l (k + 1)
    · rw [whr_fl s l (k + 1), if_neg (by simp), flT_cons]; simp [wordW]
theorem tabT_wds (s : List XVariable) (t : XTable) : ∃ a l, wdsT s t = a :: l ∧ tabT s t = a ++ flT 32 l := by
  have e1 : byT s t = flT 32 (byW s t) := by
    unfold byT byW
    split
    · rfl
    · simp [flT]
  have e2 : whrT s t.Where 0 wordW = flT 32 (whrW s t) := by
    rw [whr_wl]; unfold whrW
    split
    · rfl
    · rw [flT_cons]; simp
  unfold tabT headT wdsT
  rw [e1, e2]
  by_cases h : (0 : Int) ≤ t.Sum
  · refine ⟨[115, 117, 109], nmV s t.Sum :: (lvlW t ++ (byW s t ++ whrW s t)), by rw [if_pos h]; rfl, ?_⟩
    rw [if_pos h, flT_cons, flT_app, flT_app]
    simp [lvlW, flT]
  · refine ⟨[99, 111, 117, 110, 116], lvlW t ++ (byW s t ++ whrW s t), by rw [if_neg h]; rfl, ?_⟩
    rw [if_neg h, flT_app, flT_app]
    simp [lvlW, flT]
/-- A byte of a word. -/
def wch (c : UInt8) : Bool := (decide (48 ≤ c.toNat) && decide (c.toNat ≤ 57)) || ((decide (97 ≤ c.toNat) && decide (c.toNat ≤ 122)) || (c == 44 || c == 61))
theorem wch_ne {c : UInt8} (h : wch c = true) : c ≠ 32 ∧ c ≠ 10 := by
  constructor <;> (rintro rfl; revert h; decide)
theorem nm_low {s : List XVariable} (hs : schB s = true) {x : Int} (h0 : 0 ≤ x) (h1 : x < (s.length : Int)) : ∀ c ∈ nmV s x, 97 ≤ c.toNat ∧ c.toNat ≤ 122 := by
  intro c hc
  rw [(nmV_len hs h0 h1).2.2] at hc
  have hw := schB_word hs (List.getElem_mem (show x.toNat < s.length by omega))
  simp only [wordB, Bool.and_eq_true] at hw
  have := List.all_eq_true.1 hw.1 c hc
  simp only [Bool.and_eq_true, decide_eq_true_eq] at this
  omega
theorem dgT_dig : ∀ n : Nat, n < 100 → ∀ c ∈ dgT n, 48 ≤ c.toNat ∧ c.toNat ≤ 57 := by decide +kernel
theorem setT_chr : ∀ m : Nat, m < 256 → ∀ c ∈ setT m, c = (44 : UInt8) ∨ (48 ≤ c.toNat ∧ c.toNat ≤ 57) := by decide +kernel
theorem setT_wch {m : Nat} (hm : m < 256) : ∀ c ∈ setT m, wch c = true := by
  intro c hc
  rcases setT_chr m hm c hc with rfl | h
  · decide
  · simp [wch, h.1, h.2]
theorem nm_wch {s : List XVariable} (hs : schB s = true) {x : Int} (h0 : 0 ≤ x) (h1 : x < (s.length : Int)) : ∀ c ∈ nmV s x, wch c = true := by
  intro c hc
  have := nm_low hs h0 h1 c hc
  simp [wch, this.1, this.2]
theorem itc_chr {p : UInt8 → Prop} {sep : UInt8} (hp : p sep) : ∀ {l : List (List UInt8)}, (∀ y ∈ l, ∀ c ∈ y, p c) → ∀ c ∈ itc [sep] l, p c := by
  have key : ∀ {l : List (List UInt8)}, (∀ y ∈ l, ∀ c ∈ y, p c) → ∀ c ∈ flT sep l, p c := by
    intro l hl c hc
    simp only [flT, List.mem_flatten, List.mem_map] at hc
    obtain ⟨_, ⟨y, hy, rfl⟩, hc⟩ := hc
    rcases List.mem_cons.1 hc with rfl | hc
    · exact hp
    · exact hl y hy c hc
  intro l hl c hc
  cases l with
  | nil => simp [itc] at hc
  | cons a l =>
    rw [itc_cons, List.mem_append] at hc
    rcases hc with hc | hc
    · exact hl a (by simp) c hc
    · exact key (fun y hy => hl y (by simp [hy])) c hc
theorem whB_rng {s : List XVariable} {w : List Int} (hs : schB s = true) (hw : whB s w = true) {k : Nat} {x : Int} (hx : w[k]? = some x) : 0 ≤ x ∧ x < 256 ∧ k < s.length := by
  obtain ⟨v, h1, h2, h3⟩ := whB_get hw hx
  have h4 := full_bd (schB_lev hs (List.mem_of_getElem? h1))
  exact ⟨h2, by omega, (List.getElem?_eq_some_iff.1 h1).1⟩
theorem cnd_wch {s : List XVariable} (hs : schB s = true) : ∀ {l : List Int} {k : Nat}, (∀ j x, l[j]? = some x → 0 ≤ x ∧ x < 256 ∧ k + j < s.length) → ∀ y ∈ cndW s l k, ∀ c ∈ y, wch c = true
  | [], _, _, y, hy => by simp [cndW] at hy
  | x :: l, k, h, y, hy => by
    have ih := cnd_wch hs (l := l) (k := k + 1) fun j z hz => by
      have := h (j + 1) z (by simpa using hz); omega
    have h0 := h 0 x rfl
    simp only [cndW] at hy
    split at hy
    · exact ih y hy
    · rcases List.mem_cons.1 hy with rfl | hy
      · intro c hc
        rw [List.mem_append] at hc
        rcases hc with hc | hc
        · exact nm_wch hs (by omega) (by omega) c hc
        · rcases List.mem_cons.1 hc with rfl | hc
          · decide
          · exact setT_wch (by omega) c hc
      · exact ih y hy
theorem wds_wch {g : XGeo} {s : List XVariable} {t : XTable} (ht : Tab g s t) : ∀ y ∈ wdsT s t, ∀ c ∈ y, wch c = true := by
  have hs := ht.sch
  have hlv := ht.lev30
  have hvs := ht.vars
  have hcw := cnd_wch hs (l := t.Where) (k := 0) fun j x hx => by
    have := whB_rng hs ht.w hx; omega
  intro y hy
  unfold wdsT at hy
  rw [List.mem_append, List.mem_append, List.mem_append] at hy
  rcases hy with hy | hy | hy | hy
  · split at hy
    · rename_i h
      simp only [List.mem_cons, List.not_mem_nil, or_false] at hy
      rcases hy with rfl | rfl
      · decide
      · exact nm_wch hs h ht.s1
    · simp only [List.mem_cons, List.not_mem_nil, or_false] at hy
      subst hy; decide
  · simp only [lvlW, List.mem_cons, List.not_mem_nil, or_false] at hy
    rcases hy with rfl | rfl
    · decide
    · intro c hc
      have := dgT_dig _ (by omega) c hc
      simp [wch, this.1, this.2]
  · unfold byW at hy
    split at hy
    · simp at hy
    · simp only [List.mem_cons, List.not_mem_nil, or_false] at hy
      rcases hy with rfl | rfl
      · decide
      · refine itc_chr (p := fun c => wch c = true) (by decide) ?_
        intro z hz c hc
        obtain ⟨v, hv, rfl⟩ := List.mem_map.1 hz
        exact nm_wch hs (hvs.1 v hv).1 (hvs.1 v hv).2 c hc
  · unfold whrW at hy
    split at hy
    · simp at hy
    · rcases List.mem_cons.1 hy with rfl | hy
      · decide
      · exact hcw y hy
theorem spl_tab {g : XGeo} {s : List XVariable} {t : XTable} (ht : Tab g s t) : splA 32 [] (tabT s t) = wdsT s t := by
  obtain ⟨a, l, h1, h2⟩ := tabT_wds s t
  have h := wds_wch ht
  rw [h1] at h ⊢
  rw [h2, splA_fl]
  · exact fun c hc => (wch_ne (h a (by simp) c hc)).1
  · exact fun p hp c hc => (wch_ne (h p (by simp [hp]) c hc)).1
/-! ### Names -/
theorem findI_lt : ∀ (l : List XVariable) (n : List UInt8) (k : Nat), findI l n k < ((k + l.length : Nat) : Int) ∧ -1 ≤ findI l n k
  | [], n, k => by simp [findI]; omega
  | v :: l, n, k => by
    simp only [findI]
    split
    · simp; omega
    · have := findI_lt l n (k + 1)
      simp only [List.length_cons]; omega
theorem findI_at {n : List UInt8} {v : XVariable} : ∀ {l : List XVariable} {k j : Nat}, l[j]? = some v → v.Name = n → hasName (l.take j) n = false → findI l n k = ((k + j : Nat) : Int)
  | [], _, _, h, _, _ => by simp at h
  | u :: l, k, 0, h, hn, _ => by
    simp only [List.getElem?_cons_zero, Option.some.injEq] at h
    subst h
    simp [findI, hn]
  | u :: l, k, j + 1, h, hn, hh => by
    simp only [List.getElem?_cons_succ] at h
    simp only [List.take_succ_cons, hasName, List.any_cons, Bool.or_eq_false_iff, decide_eq_false_iff_not] at hh
    simp only [findI, hh.1, if_false]
    rw [findI_at h hn hh.2]; omega
theorem schFrom_uniq {s : List XVariable} : ∀ {l : List XVariable} {k j : Nat} {v : XVariable}, schFrom s l k = true → l[j]? = some v → hasName (s.take (k + j)) v.Name = false
  | [], _, _, _, _, h => by simp at h
  | u :: l, k, 0, v, h, hv => by
    simp only [List.getElem?_cons_zero, Option.some.injEq] at hv
    subst hv
    simp only [schFrom, Bool.and_eq_true, Bool.not_eq_true'] at h
    exact h.2.2.1
  | u :: l, k, j + 1, v, h, hv => by
    simp only [schFrom, Bool.and_eq_true] at h
    rw [show k + (j + 1) = k + 1 + j by omega]
    exact schFrom_uniq h.2.2.2 (by simpa using hv)
theorem find_nm {s : List XVariable} (hs : schB s = true) {x : Int} (h0 : 0 ≤ x) (h1 : x < (s.length : Int)) : findI s (nmV s x) 0 = x := by
  have hx : x.toNat < s.length := by omega
  have h2 := List.getElem?_eq_getElem hx
  have hs' := hs
  simp only [schB, Bool.and_eq_true] at hs'
  have h3 := schFrom_uniq (j := x.toNat) hs'.2 h2
  rw [Nat.zero_add] at h3
  rw [(nmV_len hs h0 h1).2.2, findI_at h2 rfl h3]; omega
/-! ### The reference reads a number -/
def rdL : Int → List UInt8 → Int
  | n, [] => n
  | n, c :: r => if (c.toNat : Int) < 48 then -1 else if (57 : Int) < (c.toNat : Int) then -1 else rdL (10 * n + ((c.toNat : Int) - 48)) r
def l1R (x : List UInt8) : Int := if x.length < 1 ∨ 6 < x.length then -1 else if x.headD 0 = 48 ∧ 1 < x.length then -1 else rdL 0 x
theorem l1Read_eq (x : List UInt8) : sh_spec_l1Read x = some (l1R x) := by
  unfold sh_spec_l1Read l1R
  simp only [jn]
  rw [l1In_eq, Option.bind_some]
  by_cases h : x.length < 1 ∨ 6 < x.length
  · have e : (decide ((1 : Int) ≤ (x.length : Int)) && decide ((x.length : Int) ≤ 6)) = false := by
      simp only [Bool.and_eq_false_iff, decide_eq_false_iff_not]; omega
    simp only [e, Bool.not_false, if_true]
    rw [if_pos h]
  · have e : (decide ((1 : Int) ≤ (x.length : Int)) && decide ((x.length : Int) ≤ 6)) = true := by
      simp only [Bool.and_eq_true, decide_eq_true_eq]; omega
    have loop : loopF (fun (nx291 : (Int × Int) → Option Int) (s184 : (Int × Int)) =>
        (if (decide (s184.2 < (x.length : Int))) = true then
        getO x s184.2 fun x335 =>
        (if (decide ((x335.toNat : Int) < (48 : Int))) = true then
        some (-1 : Int)
        else
        (if (decide ((57 : Int) < (x335.toNat : Int))) = true then
        some (-1 : Int)
        else
        ckI ((10 : Int) * s184.1) <|
        ckU ((x335.toNat : Int) - (48 : Int)) <|
        ckI ((x335.toNat : Int) - (48 : Int)) <|
        ckI (((10 : Int) * s184.1) + ((x335.toNat : Int) - (48 : Int))) <|
        ckI (s184.2 + (1 : Int)) <|
        nx291 ((((10 : Int) * s184.1) + ((x335.toNat : Int) - (48 : Int))), (s184.2 + (1 : Int)))))
        else
        some s184.1)) FUEL ((0 : Int), (0 : Int)) = some (rdL 0 x) := by
      refine (loopF_eq (I := fun s : Int × Int => ∃ i : Nat, s.2 = (i : Int) ∧ 0 ≤ s.1 ∧ s.1 < 10 ^ i ∧ i ≤ x.length) (mu := fun s => x.length - s.2.toNat)
        (F := fun s => some (rdL s.1 (x.drop s.2.toNat))) ?_ FUEL (0, 0) ⟨0, rfl, by simp, by simp, by omega⟩ (FUEL_big (by simp; omega))).trans (by simp)
      rintro ⟨n, _⟩ next ⟨i, rfl, h1, h2, h3⟩ hnx
      simp only at h1 h2 hnx
      simp only [Int.toNat_natCast]
      by_cases hi : i < x.length
      · have hp := pow10 (i := i) (by omega)
        have hb := (x[i]).toNat_lt
        simp only [lt_dec hi, if_true]
        rw [getO_nat hi, List.drop_eq_getElem_cons hi]
        simp only [rdL]
        by_cases c1 : ((x[i].toNat : Nat) : Int) < 48
        · simp only [c1, decide_true, if_true]
        · by_cases c2 : (57 : Int) < ((x[i].toNat : Nat) : Int)
          · simp only [c1, c2, decide_true, decide_false, Bool.false_eq_true, if_false, if_true]
          · simp only [c1, c2, decide_false, Bool.false_eq_true, if_false]
            rw [ckI_pos (by omega) (by omega), ckU_pos (by omega) (by omega), ckI_pos (by omega) (by omega), ckI_pos (by omega) (by omega), ckI_succ (by omega), ← cast_succ,
              hnx _ ⟨i + 1, rfl, by simp only; omega, by simp only [Int.pow_succ]; omega, by omega⟩ (by simp only [Int.toNat_natCast]; omega)]
            simp only [Int.toNat_natCast]
      · have e : i = x.length := by omega
        subst e
        simp only [lt_self, Bool.false_eq_true, if_false, List.drop_length, rdL]
    simp only [e, Bool.not_true, Bool.false_eq_true, if_false]
    rw [if_neg h]
    have hx0 : 0 < x.length := by omega
    rw [getO_int (i := 0) (k := 0) rfl (List.getElem?_eq_getElem hx0)]
    have hh : x.headD 0 = x[0] := by cases x with
      | nil => simp at hx0
      | cons c r => rfl
    rw [hh]
    by_cases c1 : x[0] = 48
    · have d1 : decide (((x[0].toNat : Nat) : Int) = 48) = true := by rw [c1]; decide
      rw [if_pos d1]
      by_cases c2 : 1 < x.length
      · rw [if_pos (by simp; omega), if_pos ⟨c1, c2⟩]
      · rw [if_neg (by simp; omega), if_neg (by omega)]; exact loop
    · have d1 : decide (((x[0].toNat : Nat) : Int) = 48) = false := by
        simp only [decide_eq_false_iff_not]
        intro e2; apply c1; apply UInt8.toNat_inj.1
        have : ((48 : UInt8).toNat) = 48 := rfl
        omega
      rw [if_neg (by rw [d1]; decide), if_neg (by simp [c1])]; exact loop
theorem l1R_dg : ∀ n : Nat, n < 100 → l1R (dgT n) = (n : Int) := by decide +kernel
/-! ### The reference reads a condition -/
def setF (v : Nat) (L : Int) (t : XTable) (x : List UInt8) : XTable :=
  if 0 ≤ l1R x ∧ l1R x ≤ L - 1 then ⟨t.Level, t.Vars, t.Where.set v (((t.Where.getD v 0).toNat ||| 2 ^ (l1R x).toNat : Nat) : Int), t.Sum⟩ else t
def nsF (s : List XVariable) (t : XTable) (w : List UInt8) : XTable :=
  if (splA 61 [] w).length = 2 ∧ 0 ≤ findI s ((splA 61 [] w).getD 0 []) 0 then
    (splA 44 [] ((splA 61 [] w).getD 1 [])).foldl (setF (findI s ((splA 61 [] w).getD 0 []) 0).toNat (s.getD (findI s ((splA 61 [] w).getD 0 []) 0).toNat default).Levels) t
  else t
/-- The conditions of a table that is being read. -/
structure WOk (s : List XVariable) (w : List Int) : Prop where
  len : w.length = s.length
  rng : ∀ x ∈ w, 0 ≤ x ∧ x < 256
theorem or_256 {a b : Nat} (ha : a < 256) (hb : b < 256) : a ||| b < 256 := Nat.or_lt_two_pow (n := 8) ha hb
theorem pow_256 {n : Nat} (h : n ≤ 7) : 2 ^ n < 256 := by
  have : n = 0 ∨ n = 1 ∨ n = 2 ∨ n = 3 ∨ n = 4 ∨ n = 5 ∨ n = 6 ∨ n = 7 := by omega
  rcases this with rfl | rfl | rfl | rfl | rfl | rfl | rfl | rfl <;> decide
theorem WOk.set {s : List XVariable} {w : List Int} (h : WOk s w) (v : Nat) {y : Int} (h0 : 0 ≤ y) (h1 : y < 256) : WOk s (w.set v y) :=
  ⟨by rw [List.length_set]; exact h.len, fun x hx => by
    rcases List.mem_or_eq_of_mem_set hx with hx | rfl
    · exact h.rng x hx
    · exact ⟨h0, h1⟩⟩
theorem setF_ok {s : List XVariable} {v : Nat} {L : Int} {t : XTable} (x : List UInt8) (hL : L ≤ 8) (hv : v < s.length) (h : WOk s t.Where) : WOk s (setF v L t x).Where ∧ (setF v L t x).Vars = t.Vars := by
  unfold setF
  split
  · rename_i hc
    have hvw : v < t.Where.length := by rw [h.len]; exact hv
    have hg := h.rng _ (List.getElem_mem hvw)
    have h1 := or_256 (a := (t.Where.getD v 0).toNat) (b := 2 ^ (l1R x).toNat) (by rw [getD_get hvw]; omega) (pow_256 (by omega))
    exact ⟨h.set v (by omega) (by omega), rfl⟩
  · exact ⟨h, rfl⟩
theorem nSet_eq {s : List XVariable} (hs : schB s = true) {t : XTable} (h : WOk s t.Where) {w : List UInt8} (hw : w.length ≤ 1048576) :
    sh_spec_nSet s t w = some (nsF s t w, ()) ∧ WOk s (nsF s t w).Where ∧ (nsF s t w).Vars = t.Vars := by
  have hsl := splA_len (sep := 61) w []
  have hlen := schB_len hs
  unfold sh_spec_nSet nsF
  rw [l1Split_eq (n := 61) (sep := 61) rfl (by omega), Option.bind_some, getO_int (i := 0) (k := 0) rfl (List.getElem?_eq_getElem (show 0 < (splA 61 [] w).length by omega)), sFind_eq, Option.bind_some]
  have e0 : (splA 61 [] w).getD 0 [] = (splA 61 [] w)[0]'(by omega) := getD_get (by omega)
  rw [e0]
  have hf := findI_lt s ((splA 61 [] w)[0]'(by omega)) 0
  generalize findI s ((splA 61 [] w)[0]'(by omega)) 0 = v at hf ⊢
  rw [Nat.zero_add] at hf
  by_cases h2 : (splA 61 [] w).length = 2
  · have d2 : decide (((splA 61 [] w).length : Int) ≠ 2) = false := by simp [h2]
    rw [if_neg (by rw [d2]; decide)]
    by_cases hv : v < 0
    · rw [if_pos (by simpa using hv), if_neg (by omega)]
      exact ⟨rfl, h, rfl⟩
    · have hvn : v.toNat < s.length := by omega
      have hL := schB_lev hs (List.getElem_mem hvn)
      have e1 : (splA 61 [] w).getD 1 [] = (splA 61 [] w)[1]'(by omega) := getD_get (by omega)
      have hl1 := hsl.2.2 _ (List.getElem_mem (show 1 < (splA 61 [] w).length by omega))
      simp only [List.length_nil, Nat.zero_add] at hl1
      rw [if_neg (by simpa using hv), if_pos ⟨h2, by omega⟩, getO_int (i := 1) (k := 1) rfl (List.getElem?_eq_getElem (show 1 < (splA 61 [] w).length by omega)), e1, l1Split_eq (n := 44) (sep := 44) rfl (by omega), Option.bind_some]
      generalize splA 44 [] ((splA 61 [] w)[1]'(by omega)) = P
      have e2 : s.getD v.toNat default = s[v.toNat] := getD_get hvn
      rw [e2]
      have inv : ∀ (P : List (List UInt8)) (t : XTable), WOk s t.Where → WOk s (P.foldl (setF v.toNat s[v.toNat].Levels) t).Where ∧ (P.foldl (setF v.toNat s[v.toNat].Levels) t).Vars = t.Vars := by
        intro P
        induction P with
        | nil => intro t h; exact ⟨h, rfl⟩
        | cons p P ih =>
          intro t h
          have h1 := setF_ok (v := v.toNat) (L := s[v.toNat].Levels) p hL.2 hvn h
          have h2 := ih _ h1.1
          exact ⟨h2.1, h2.2.trans h1.2⟩
      refine ⟨?_, inv P t h⟩
      refine range_mem (I := fun _ (t : XTable) => WOk s t.Where) (G := fun l' _ t => some (l'.foldl (setF v.toNat s[v.toNat].Levels) t, ())) ?_ ?_ t h
      · intro k t _ _; rfl
      · intro x l' k t next hx _ ht hn
        have hs1 := setF_ok (v := v.toNat) (L := s[v.toNat].Levels) x hL.2 hvn ht
        have hnn := hn _ hs1.1
        have hvw : v.toNat < t.Where.length := by rw [ht.len]; exact hvn
        have hg := ht.rng _ (List.getElem_mem hvw)
        rw [l1Read_eq, Option.bind_some, getO_pos (by omega) hvn, ckI_pos (by omega) (by omega), l1In_eq, Option.bind_some]
        rw [List.foldl_cons, ← hnn]
        unfold setF
        by_cases hc : 0 ≤ l1R x ∧ l1R x ≤ s[v.toNat].Levels - 1
        · have hp := pow_256 (n := (l1R x).toNat) (by omega)
          have hpi : (2 : Int) ^ (l1R x).toNat = ((2 ^ (l1R x).toNat : Nat) : Int) := by simp
          have e3 : ((1 : Int) * 2 ^ (l1R x).toNat) = ((2 ^ (l1R x).toNat : Nat) : Int) := by rw [Int.one_mul, hpi]
          rw [if_pos (by simp [hc.1, hc.2]), if_pos hc, getO_pos (by omega) hvw, e3]
          generalize (2 ^ (l1R x).toNat : Nat) = q at hp ⊢
          simp only [ckK]
          rw [if_pos ⟨by omega, by omega⟩, ck_pos ⟨by omega, by omega⟩, ckI_pos (by omega) (by omega), ck_pos (by omega), if_pos ⟨by omega, by omega⟩, ck_pos (by omega), if_pos ⟨by omega, by omega⟩, getD_get hvw, Int.toNat_natCast]
        · rw [if_neg (by simpa using hc), if_neg hc]
  · have d2 : decide (((splA 61 [] w).length : Int) ≠ 2) = true := by simp; omega
    rw [if_pos d2, if_neg (by omega)]
    exact ⟨rfl, h, rfl⟩
end AS
namespace AS
def guF (s : List XVariable) : Bool → XTable → List (List UInt8) → XTable
  | _, t, [] => t
  | true, t, w :: r => guF s true (nsF s t w) r
  | false, t, [_] => t
  | false, t, w :: a :: r =>
    if w = [119, 104, 101, 114, 101] then guF s true t (a :: r)
    else if w = [115, 117, 109] then guF s false ⟨t.Level, t.Vars, t.Where, findI s a 0⟩ r
    else if w = [108, 101, 118, 101, 108] then guF s false ⟨l1R a, t.Vars, t.Where, t.Sum⟩ r
    else if w = [98, 121] then guF s false ⟨t.Level, t.Vars ++ (splA 44 [] a).map (fun n => findI s n 0), t.Where, t.Sum⟩ r
    else guF s false t (a :: r)
theorem guF_two (s : List XVariable) (t : XTable) (w a : List UInt8) (r : List (List UInt8)) : guF s false t (w :: a :: r) =
    (if w = [119, 104, 101, 114, 101] then guF s true t (a :: r)
    else if w = [115, 117, 109] then guF s false ⟨t.Level, t.Vars, t.Where, findI s a 0⟩ r
    else if w = [108, 101, 118, 101, 108] then guF s false ⟨l1R a, t.Vars, t.Where, t.Sum⟩ r
    else if w = [98, 121] then guF s false ⟨t.Level, t.Vars ++ (splA 44 [] a).map (fun n => findI s n 0), t.Where, t.Sum⟩ r
    else guF s false t (a :: r)) := rfl
theorem guF_tr (s : List XVariable) (t : XTable) (w : List UInt8) (r : List (List UInt8)) : guF s true t (w :: r) = guF s true (nsF s t w) r := rfl
theorem guF_nil (s : List XVariable) (c : Bool) (t : XTable) : guF s c t [] = t := by cases c <;> simp only [guF]
theorem nsF_vars (s : List XVariable) (t : XTable) (w : List UInt8) : (nsF s t w).Vars = t.Vars := by
  have h1 : ∀ (v : Nat) (L : Int) (x : List UInt8) (t : XTable), (setF v L t x).Vars = t.Vars := by
    intro v L x t; unfold setF; split <;> rfl
  have h2 : ∀ (v : Nat) (L : Int) (P : List (List UInt8)) (t : XTable), (P.foldl (setF v L) t).Vars = t.Vars := by
    intro v L P
    induction P with
    | nil => intro t; rfl
    | cons p P ih => intro t; rw [List.foldl_cons, ih, h1]
  unfold nsF
  split
  · exact h2 _ _ _ _
  · rfl
def wl : List (List UInt8) → Nat
  | [] => 0
  | w :: r => w.length + 1 + wl r
theorem splA_wl (sep : UInt8) : ∀ (x cur : List UInt8), wl (splA sep cur x) = cur.length + x.length + 1
  | [], cur => by simp [splA, wl]
  | c :: x, cur => by
    simp only [splA]
    split
    · simp only [wl, splA_wl sep x [], List.length_nil, List.length_cons]; omega
    · simp only [splA_wl sep x (cur ++ [c]), List.length_append, List.length_nil, List.length_cons]; omega
theorem guF_vars {s : List XVariable} : ∀ (n : Nat) {l : List (List UInt8)} {c : Bool} {t : XTable}, l.length ≤ n → (guF s c t l).Vars.length ≤ t.Vars.length + wl l
  | n, [], c, t, _ => by rw [guF_nil]; omega
  | 0, w :: r, c, t, h => by simp at h
  | n + 1, w :: r, true, t, h => by
    simp only [List.length_cons] at h
    have := guF_vars n (s := s) (l := r) (c := true) (t := nsF s t w) (by omega)
    rw [nsF_vars] at this
    rw [guF_tr]
    simp only [wl]; omega
  | n + 1, [w], false, t, h => by simp only [guF]; omega
  | n + 1, w :: a :: r, false, t, h => by
    simp only [List.length_cons] at h
    have h1 : ∀ t' : XTable, (guF s false t' r).Vars.length ≤ t'.Vars.length + wl r := fun t' => guF_vars n (by omega)
    have h2 : ∀ (c : Bool) (t' : XTable), (guF s c t' (a :: r)).Vars.length ≤ t'.Vars.length + wl (a :: r) := fun c t' => guF_vars n (by simp only [List.length_cons]; omega)
    simp only [wl] at h2
    have hsl := (splA_len (sep := 44) a []).2.1
    rw [guF_two]
    simp only [wl]
    split
    · have := h2 true t; omega
    · split
      · have := h1 ⟨t.Level, t.Vars, t.Where, findI s a 0⟩; simp only at this; omega
      · split
        · have := h1 ⟨l1R a, t.Vars, t.Where, t.Sum⟩; simp only at this; omega
        · split
          · have := h1 ⟨t.Level, t.Vars ++ (splA 44 [] a).map (fun n => findI s n 0), t.Where, t.Sum⟩
            simp only [List.length_append, List.length_map] at this; omega
          · have := h2 false t; omega
theorem dcF {p : Prop} [Decidable p] (h : ¬ p) : ¬ (decide p = true) := fun h' => h (of_decide_eq_true h')
def t0F (s : List XVariable) : XTable := ⟨0, [], List.replicate s.length 0, -1⟩
theorem t0_ok (s : List XVariable) : WOk s (t0F s).Where := ⟨by simp [t0F], fun x hx => by
  simp only [t0F, List.mem_replicate] at hx; omega⟩
theorem nGuess_eq {s : List XVariable} (hs : schB s = true) {x : List UInt8} (hx : x.length ≤ 1048576) : sh_spec_nGuess s x = some (guF s false (t0F s) (splA 32 [] x)) := by
  have hsl := splA_len (sep := 32) x []
  have hwl := splA_wl 32 x []
  have hls := schB_len hs
  unfold sh_spec_nGuess
  rw [mkO_pos (by omega) (by omega), l1Split_eq (n := 32) (sep := 32) rfl (by omega), Option.bind_some]
  generalize splA 32 [] x = W at hsl hwl ⊢
  simp only [List.length_nil] at hwl
  have hW : ∀ w ∈ W, w.length ≤ 1048576 := fun w hw => by
    have := hsl.2.2 w hw; simp only [List.length_nil] at this; omega
  have hWl : 1 ≤ W.length ∧ W.length ≤ 1048577 := ⟨hsl.1, by omega⟩
  clear hsl
  refine (loopF_eq (I := fun st : XTable × Bool × Int => ∃ j : Nat, st.2.2 = (j : Int) ∧ j ≤ W.length ∧ WOk s st.1.Where ∧ st.1.Vars.length + wl (W.drop j) ≤ 1048577) (mu := fun st => W.length - st.2.2.toNat)
    (F := fun st => some (guF s st.2.1 st.1 (W.drop st.2.2.toNat))) ?_ FUEL _ ⟨0, rfl, by omega, ?_, by simp only [List.drop_zero, List.length_nil]; omega⟩ (FUEL_big (by simp; omega))).trans ?_
  · rintro ⟨t, c, _⟩ next ⟨j, rfl, h1, h2, h3⟩ hnx
    simp only at h2 h3 hnx
    simp only [Int.toNat_natCast]
    by_cases hj : j < W.length
    · have hd := List.drop_eq_getElem_cons hj
      have hwj := hW _ (List.getElem_mem hj)
      rw [hd] at h3
      simp only [wl] at h3
      have go : ∀ (t' : XTable) (c' : Bool) (i : Nat), j ≤ i → i + 1 ≤ W.length → WOk s t'.Where → t'.Vars.length + wl (W.drop (i + 1)) ≤ 1048577 → (ckI ((i : Int) + 1) <| next (t', c', (i : Int) + 1)) = some (guF s c' t' (W.drop (i + 1))) := by
        intro t' c' i a1 a2 a3 a4
        rw [ckI_succ (by omega), ← cast_succ, hnx _ ⟨i + 1, rfl, by omega, a3, a4⟩ (by simp only [Int.toNat_natCast]; omega)]
        simp only [Int.toNat_natCast]
      simp only [lt_dec hj, if_true]
      rw [ckI_pos (by omega) (by omega)]
      cases c with
      | true =>
        have hn := nSet_eq hs h2 hwj
        simp only [if_true]
        rw [getO_nat hj, hn.1, Option.bind_some, Option.bind_some, hd, guF_tr]
        exact go _ _ j (by omega) (by omega) hn.2.1 (by rw [hn.2.2]; omega)
      | false =>
        simp only [Bool.false_eq_true, if_false]
        rw [getO_nat hj]
        by_cases hl : j + 1 = W.length
        · have e1 : decide ((j : Int) = (W.length : Int) - 1) = true := by simp only [decide_eq_true_eq]; omega
          have e2 : W.drop (j + 1) = [] := List.drop_of_length_le (by omega)
          have g1 := go t true j (by omega) (by omega) h2 (by omega)
          have g2 := go t false j (by omega) (by omega) h2 (by omega)
          rw [e2, guF_nil] at g1 g2
          rw [hd, e2]
          simp only [e1, Bool.not_true, ite_self, Option.bind_some, Bool.false_eq_true, if_false]
          by_cases c1 : W[j] = [119, 104, 101, 114, 101]
          · rw [if_pos (decide_eq_true c1), Option.bind_some]; exact g1
          · rw [if_neg (dcF c1), Option.bind_some]; exact g2
        · have hj1 : j + 1 < W.length := by omega
          have e1 : decide ((j : Int) = (W.length : Int) - 1) = false := by simp only [decide_eq_false_iff_not]; omega
          have hd1 := List.drop_eq_getElem_cons hj1
          have hwa := hW _ (List.getElem_mem hj1)
          have h4 := h3
          rw [hd1] at h4
          simp only [wl] at h4
          have ga : ∀ {R : Type} {f : List UInt8 → Option R}, getO W ((j : Int) + 1) f = f W[j + 1] := fun {R f} => getO_int (i := (j : Int) + 1) (k := j + 1) rfl (List.getElem?_eq_getElem hj1)
          rw [hd, hd1, guF_two]
          by_cases c1 : W[j] = [119, 104, 101, 114, 101]
          · rw [if_pos (decide_eq_true c1), if_pos c1, Option.bind_some]
            rw [go t true j (by omega) (by omega) h2 (by omega), hd1]
          · rw [if_neg (dcF c1), if_neg c1]
            simp only [e1, Bool.not_false]
            by_cases c2 : W[j] = [115, 117, 109]
            · rw [if_pos (decide_eq_true c2), if_pos c2, Option.bind_some, if_pos rfl]
              rw [ckI_succ (by omega), ga, sFind_eq, Option.bind_some, Option.bind_some]
              have gg := go ⟨t.Level, t.Vars, t.Where, findI s W[j + 1] 0⟩ false (j + 1) (by omega) (by omega) h2 (by simp only; omega)
              rw [cast_succ] at gg
              exact gg
            · rw [if_neg (dcF c2), if_neg c2, Option.bind_some, if_neg (by decide)]
              by_cases c3 : W[j] = [108, 101, 118, 101, 108]
              · rw [if_pos (decide_eq_true c3), if_pos c3, Option.bind_some, if_pos rfl]
                rw [ckI_succ (by omega), ga, l1Read_eq, Option.bind_some, Option.bind_some]
                have gg := go ⟨l1R W[j + 1], t.Vars, t.Where, t.Sum⟩ false (j + 1) (by omega) (by omega) h2 (by simp only; omega)
                rw [cast_succ] at gg
                exact gg
              · rw [if_neg (dcF c3), if_neg c3, Option.bind_some, if_neg (by decide)]
                by_cases c4 : W[j] = [98, 121]
                · have hsp := (splA_len (sep := 44) W[j + 1] []).2.1
                  rw [if_pos (decide_eq_true c4), if_pos c4, Option.bind_some, if_pos rfl]
                  rw [ckI_succ (by omega), ga, l1Split_eq (n := 44) (sep := 44) rfl (by omega), Option.bind_some]
                  generalize splA 44 [] W[j + 1] = P at hsp ⊢
                  have hr : rangeF (fun (k1061 : Nat) (x1062 : (List UInt8)) (s1060 : XTable) (nx1077 : XTable → Option (XTable × Bool × Int)) =>
                      (sh_spec_sFind s x1062).bind fun x1083 =>
                      lnO (s1060.Vars.length + [x1083].length) <|
                      nx1077 (⟨s1060.Level, (s1060.Vars ++ [x1083]), s1060.Where, s1060.Sum⟩ : XTable))
                      (fun (s1060 : XTable) => some (s1060, false, (j : Int) + 1)) P 0 t = some ((⟨t.Level, t.Vars ++ P.map (fun n => findI s n 0), t.Where, t.Sum⟩ : XTable), false, (j : Int) + 1) := by
                    refine range_mem (I := fun k (st : XTable) => st.Vars.length ≤ t.Vars.length + k) (G := fun l' _ st => some ((⟨st.Level, st.Vars ++ l'.map (fun n => findI s n 0), st.Where, st.Sum⟩ : XTable), false, (j : Int) + 1)) ?_ ?_ t (by omega)
                    · intro k st _ _; simp
                    · intro y l' k st nx2 hy _ hI hn
                      have hk := (List.getElem?_eq_some_iff.1 hy).1
                      rw [sFind_eq, Option.bind_some, lnO_pos (by simp only [List.length_cons, List.length_nil]; omega), hn _ (by simp only [List.length_append, List.length_cons, List.length_nil]; omega)]
                      simp
                  rw [hr, Option.bind_some]
                  have gg := go ⟨t.Level, t.Vars ++ P.map (fun n => findI s n 0), t.Where, t.Sum⟩ false (j + 1) (by omega) (by omega) h2 (by simp only [List.length_append, List.length_map]; omega)
                  rw [cast_succ] at gg
                  exact gg
                · rw [if_neg (dcF c4), if_neg c4, Option.bind_some, if_neg (by decide), Option.bind_some]
                  rw [go t false j (by omega) (by omega) h2 (by omega), hd1]
    · have e : j = W.length := by omega
      subst e
      simp only [lt_self, Bool.false_eq_true, if_false, List.drop_length, guF_nil]
  · simp only [Int.toNat_natCast]; exact t0_ok s
  · simp only [Int.toNat_natCast, Int.toNat_zero, List.drop_zero, t0F]
/-! ### The guess of a table's text -/
theorem orL_all : ∀ m : Nat, m < 256 → (lev8 m).foldl (fun a (d : Int) => a ||| 2 ^ d.toNat) 0 = m ∧ (m ≠ 0 → lev8 m ≠ []) := by decide +kernel
theorem lev8_lt {m L : Nat} (h : m < 2 ^ L) : ∀ d ∈ lev8 m, 0 ≤ d ∧ d < (L : Int) ∧ d < 8 := by
  intro d hd
  obtain ⟨i, h1, h2, rfl⟩ := lev8_mem.1 hd
  refine ⟨by omega, ?_, by omega⟩
  by_cases hi : i < L
  · omega
  · have := Nat.testBit_lt_two_pow (Nat.lt_of_lt_of_le h (Nat.pow_le_pow_right (by decide) (show L ≤ i by omega)))
    rw [this] at h2; cases h2
theorem fold_dig {v : Nat} {L : Int} : ∀ {ds : List Int} {t : XTable} {a : Nat}, (∀ d ∈ ds, 0 ≤ d ∧ d < L ∧ d < 8) → t.Where[v]? = some (a : Int) →
    (ds.map fun d => dgT d.toNat).foldl (setF v L) t = ⟨t.Level, t.Vars, t.Where.set v ((ds.foldl (fun a (d : Int) => a ||| 2 ^ d.toNat) a : Nat) : Int), t.Sum⟩
  | [], t, a, _, h => by
    obtain ⟨hv, he⟩ := List.getElem?_eq_some_iff.1 h
    simp only [List.map_nil, List.foldl_nil, ← he, List.set_getElem_self]
  | d :: ds, t, a, hd, h => by
    have h0 := hd d (by simp)
    obtain ⟨hv, he⟩ := List.getElem?_eq_some_iff.1 h
    have e1 : l1R (dgT d.toNat) = d := by rw [l1R_dg _ (by omega)]; omega
    have e2 : setF v L t (dgT d.toNat) = ⟨t.Level, t.Vars, t.Where.set v ((a ||| 2 ^ d.toNat : Nat) : Int), t.Sum⟩ := by
      unfold setF
      rw [e1, if_pos ⟨h0.1, by omega⟩, getD_get hv, he, Int.toNat_natCast]
    rw [List.map_cons, List.foldl_cons, e2, fold_dig (a := a ||| 2 ^ d.toNat) (fun y hy => hd y (by simp [hy])) (by simp only; rw [List.getElem?_set_self hv])]
    simp only [List.set_set, List.foldl_cons]
theorem spl_set {m : Nat} (hm : m < 256) (h0 : m ≠ 0) : splA 44 [] (setT m) = (lev8 m).map fun x => dgT x.toNat := by
  unfold setT
  refine splA_itc (by simpa using (orL_all m hm).2 h0) ?_
  intro p hp c hc
  obtain ⟨x, hx, rfl⟩ := List.mem_map.1 hp
  obtain ⟨i, hi, _, rfl⟩ := lev8_mem.1 hx
  have := dgT_dig _ (by omega) c hc
  rintro rfl
  revert this; decide
theorem full_pow {v : XVariable} {x : Int} (h : 2 ≤ v.Levels ∧ v.Levels ≤ 8) (h0 : 0 ≤ x) (h1 : x ≤ full v) : x.toNat < 2 ^ v.Levels.toNat := by
  unfold full at h1
  have hp : (2 : Int) ^ v.Levels.toNat = ((2 ^ v.Levels.toNat : Nat) : Int) := by simp
  rw [hp] at h1
  generalize 2 ^ v.Levels.toNat = q at h1 ⊢
  omega
theorem spl_cnd {s : List XVariable} (hs : schB s = true) {k : Nat} (hk : k < s.length) {m : Nat} (hm : m < 256) : splA 61 [] (nmV s (k : Int) ++ 61 :: setT m) = [nmV s (k : Int), setT m] := by
  have hl := nm_low hs (show (0 : Int) ≤ (k : Int) by omega) (by omega)
  rw [splA_app, splA_none]
  · rfl
  · intro c hc
    rcases setT_chr m hm c hc with rfl | h
    · decide
    · rintro rfl; revert h; decide
  · intro c hc
    have := hl c hc
    rintro rfl; revert this; decide
theorem ns_cnd {s : List XVariable} (hs : schB s = true) {k : Nat} {v : XVariable} (hv : s[k]? = some v) {x : Int} (h0 : 0 ≤ x) (h1 : x ≤ full v) (hx : x ≠ 0) {t : XTable} (hw : t.Where[k]? = some 0) :
    nsF s t (nmV s (k : Int) ++ 61 :: setT x.toNat) = ⟨t.Level, t.Vars, t.Where.set k x, t.Sum⟩ := by
  obtain ⟨hk, he⟩ := List.getElem?_eq_some_iff.1 hv
  have hlv := schB_lev hs (List.mem_of_getElem? hv)
  have hf := full_bd hlv
  have hfp := full_pow hlv h0 h1
  unfold nsF
  rw [spl_cnd hs hk (by omega)]
  simp only [List.length_cons, List.length_nil, List.getD_cons_zero, List.getD_cons_succ]
  rw [find_nm hs (by omega) (by omega), if_pos ⟨trivial, by omega⟩, Int.toNat_natCast, getD_get hk, he, spl_set (by omega) (by omega), fold_dig (a := 0) ?_ (by simpa using hw), (orL_all _ (by omega)).1]
  · congr 2; omega
  · intro d hd
    have := lev8_lt hfp d hd
    omega
theorem gu_cnd {s : List XVariable} (hs : schB s = true) : ∀ {l pre : List Int} {t : XTable}, t.Where = pre ++ List.replicate l.length 0 → (∀ j x, l[j]? = some x → ∃ v, s[pre.length + j]? = some v ∧ 0 ≤ x ∧ x ≤ full v) →
    guF s true t (cndW s l pre.length) = ⟨t.Level, t.Vars, pre ++ l, t.Sum⟩
  | [], pre, t, h, _ => by
    simp only [cndW, guF, List.append_nil]
    simp only [List.length_nil, List.replicate_zero, List.append_nil] at h
    rw [← h]
  | x :: l, pre, t, h, hl => by
    obtain ⟨v, h1, h2, h3⟩ := hl 0 x rfl
    have ih := fun (t' : XTable) (ht' : t'.Where = (pre ++ [x]) ++ List.replicate l.length 0) => gu_cnd hs (l := l) (pre := pre ++ [x]) (t := t') ht' fun j y hy => by
      have := hl (j + 1) y (by simpa using hy)
      simpa [Nat.add_assoc, Nat.add_comm 1 j] using this
    simp only [List.length_append, List.length_cons, List.length_nil, Nat.zero_add, List.append_assoc, List.cons_append, List.nil_append] at ih
    simp only [List.length_cons, List.replicate_succ] at h
    simp only [cndW]
    by_cases hx : x = 0
    · rw [if_pos hx, ih t (by rw [h, hx])]
    · rw [if_neg hx, guF_tr, ns_cnd hs (k := pre.length) (by simpa using h1) h2 h3 hx (by rw [h]; simp), ih _ (by simp only [h]; simp)]
theorem gu_tab {g : XGeo} {s : List XVariable} {t : XTable} (ht : Tab g s t) : guF s false (t0F s) (wdsT s t) = t := by
  have hs := ht.sch
  have hlv := ht.lev30
  have hvs := ht.vars
  have hwl := whB_len ht.w
  have hC : ∀ u : XTable, u.Where = List.replicate s.length 0 → guF s true u (cndW s t.Where 0) = ⟨u.Level, u.Vars, t.Where, u.Sum⟩ := fun u hu =>
    gu_cnd hs (l := t.Where) (pre := []) (by rw [hu, hwl]; rfl) fun j x hx => by
      obtain ⟨v, h1, h2, h3⟩ := whB_get ht.w hx
      exact ⟨v, by simpa using h1, h2, h3⟩
  have hW : ∀ u : XTable, u.Where = List.replicate s.length 0 → guF s false u (whrW s t) = ⟨u.Level, u.Vars, t.Where, u.Sum⟩ := by
    intro u hu
    have h1 := hC u hu
    unfold whrW
    split
    · rename_i h
      rw [h, guF_nil] at h1
      rw [guF_nil]; exact h1
    · cases hc : cndW s t.Where 0 with
      | nil => rename_i h; exact absurd hc h
      | cons a r => rw [← h1, hc, guF_two, if_pos rfl]
  have hB : ∀ u : XTable, u.Where = List.replicate s.length 0 → u.Vars = [] → guF s false u (byW s t ++ whrW s t) = ⟨u.Level, t.Vars, t.Where, u.Sum⟩ := by
    intro u hu hv
    unfold byW
    split
    · rename_i h
      rw [List.nil_append, hW u hu, hv, h]
    · rename_i h
      have e1 : splA 44 [] (itc [44] (t.Vars.map (nmV s))) = t.Vars.map (nmV s) := by
        refine splA_itc (by simpa using h) ?_
        intro p hp c hc
        obtain ⟨x, hx, rfl⟩ := List.mem_map.1 hp
        have := nm_low hs (hvs.1 x hx).1 (hvs.1 x hx).2 c hc
        rintro rfl; revert this; decide
      have e2 : (t.Vars.map (nmV s)).map (fun n => findI s n 0) = t.Vars := by
        rw [List.map_map]
        conv => rhs; rw [← List.map_id t.Vars]
        refine List.map_congr_left fun x hx => ?_
        exact find_nm hs (hvs.1 x hx).1 (hvs.1 x hx).2
      simp only [List.cons_append, List.nil_append]
      rw [guF_two, if_neg (by decide), if_neg (by decide), if_neg (by decide), if_pos rfl, e1, e2, hv, List.nil_append, hW ⟨u.Level, t.Vars, u.Where, u.Sum⟩ hu]
  have hL : ∀ u : XTable, u.Where = List.replicate s.length 0 → u.Vars = [] → guF s false u (lvlW t ++ (byW s t ++ whrW s t)) = ⟨t.Level, t.Vars, t.Where, u.Sum⟩ := by
    intro u hu hv
    simp only [lvlW, List.cons_append, List.nil_append]
    rw [guF_two, if_neg (by decide), if_neg (by decide), if_pos rfl, l1R_dg _ (by omega), Int.toNat_of_nonneg hlv.1, hB ⟨t.Level, u.Vars, u.Where, u.Sum⟩ hu hv]
  unfold wdsT
  by_cases h : (0 : Int) ≤ t.Sum
  · rw [if_pos h]
    simp only [List.cons_append, List.nil_append]
    rw [guF_two, if_neg (by decide), if_pos rfl, find_nm hs h ht.s1, hL _ rfl rfl]
  · rw [if_neg h]
    have e : (-1 : Int) = t.Sum := by have := ht.s0; omega
    have h2 := hL (t0F s) rfl rfl
    simp only [lvlW, List.cons_append, List.nil_append] at h2 ⊢
    rw [guF_two, if_neg (by decide), if_neg (by decide), if_neg (by decide), if_neg (by decide), h2]
    simp only [t0F, e]
end AS
namespace AS
/-! ### Mixed radix -/
/-- A list of variables that can be counted. -/
structure Vs (s : List XVariable) : Prop where
  len : s.length ≤ 6
  lev : ∀ v ∈ s, 2 ≤ v.Levels ∧ v.Levels ≤ 8
theorem Vs.drop {s : List XVariable} (h : Vs s) (k : Nat) : Vs (s.drop k) := ⟨by simp; have := h.len; omega, fun v hv => h.lev v (List.mem_of_mem_drop hv)⟩
theorem Vs.bd {s : List XVariable} (h : Vs s) : 1 ≤ prodV s ∧ prodV s ≤ 262144 := by
  have := prodV_bd h.len h.lev
  omega
theorem Vs.tail {v : XVariable} {s : List XVariable} (h : Vs (v :: s)) : Vs s := h.drop 1
/-! ### Positions -/
end AS
namespace AS
theorem Tab.bulk {g : XGeo} {s : List XVariable} {t : XTable} (h : Tab g s t) : bulkT t ≤ 12 := by
  have h1 := h.p.len
  have h2 := whB_len h.w
  have h3 := schB_len h.sch
  unfold bulkT; omega
end AS
namespace AS
theorem jn_step {R σ : Type} {f : σ → Option R} {k : (σ → Option R) → Option R} {r : Option R} (P : σ → Prop) (G : σ → Option R) (h : ∀ s, P s → f s = G s) (hk : ∀ f' : σ → Option R, (∀ s, P s → f' s = G s) → k f' = r) : jn f k = r := hk f h
theorem nameIndex_eq (l : List XVariable) (n : List UInt8) : sh_impl_nameIndex l n = some (findI l n 0) := by
  unfold sh_impl_nameIndex sh_slices_IndexFunc_impl_Variable_impl_Variable_impl_nameIndex_1
  have h : ∀ v : XVariable, sh_impl_nameIndex_1 v n = some (decide (v.Name = n)) := fun v => rfl
  simp only [h, Option.bind_some]
  have := range_all (body := fun (k34 : Nat) (x35 : XVariable) (s33 : Unit) (nx48 : Unit → Option Int) => if decide (x35.Name = n) = true then some (k34 : Int) else nx48 ()) (fin := fun _ => some (-1 : Int)) (l := l) (G := fun l k _ => some (findI l n k)) (fun _ _ => rfl) (by
    intro x l k s next ih
    simp only [ih, findI]
    by_cases h : x.Name = n <;> simp [h]) 0 ()
  rw [this]; rfl
/-! ### A cut -/
def cutF (c : UInt8) : List UInt8 → List UInt8 × List UInt8 × Bool
  | [] => ([], [], false)
  | b :: l => if b = c then ([], l, true) else (b :: (cutF c l).1, (cutF c l).2.1, (cutF c l).2.2)
theorem cutF_t {c : UInt8} : ∀ {w : List UInt8}, (cutF c w).2.2 = true → w = (cutF c w).1 ++ c :: (cutF c w).2.1 ∧ sh_ixB c w = ((cutF c w).1.length : Int)
  | [], h => by cases h
  | b :: l, h => by
    simp only [cutF, sh_ixB] at h ⊢
    by_cases hb : b = c
    · simp [hb]
    · rw [if_neg hb] at h
      obtain ⟨h1, h2⟩ := cutF_t h
      simp only [hb, if_false]
      refine ⟨by rw [List.cons_append, ← h1], ?_⟩
      rw [h2, if_neg (by omega), List.length_cons]; omega
theorem cutF_f {c : UInt8} : ∀ {w : List UInt8}, (cutF c w).2.2 = false → cutF c w = (w, [], false) ∧ sh_ixB c w = -1
  | [], h => ⟨rfl, rfl⟩
  | b :: l, h => by
    simp only [cutF, sh_ixB] at h ⊢
    by_cases hb : b = c
    · simp [hb] at h
    · rw [if_neg hb] at h
      obtain ⟨h1, h2⟩ := cutF_f h
      simp only [hb, if_false, h1, h2, if_true, and_self]
theorem cutF_app {c : UInt8} {q : List UInt8} : ∀ {p : List UInt8}, (∀ b ∈ p, b ≠ c) → cutF c (p ++ c :: q) = (p, q, true)
  | [], _ => by simp [cutF]
  | b :: p, h => by
    simp only [List.cons_append, cutF]
    rw [if_neg (h b (by simp)), cutF_app fun d hd => h d (by simp [hd])]
theorem cutF_len (c : UInt8) : ∀ (w : List UInt8), (cutF c w).1.length ≤ w.length ∧ (cutF c w).2.1.length ≤ w.length
  | [] => by simp [cutF]
  | b :: l => by
    have := cutF_len c l
    simp only [cutF]
    split
    · simp
    · simp only [List.length_cons]; omega
theorem Cut_eq {c : UInt8} {w : List UInt8} (hw : w.length ≤ 1048576) : sh_strings_Cut w [c] = some (cutF c w) := by
  unfold sh_strings_Cut sh_stringslite_Cut sh_stringslite_Index
  simp only [Option.bind_some]
  cases h : (cutF c w).2.2 with
  | true =>
    obtain ⟨h1, h2⟩ := cutF_t h
    have h3 : (cutF c w) = ((cutF c w).1, (cutF c w).2.1, true) := by rw [← h]
    generalize (cutF c w).1 = p at h1 h2 h3
    generalize (cutF c w).2.1 = q at h1 h2 h3
    rw [h2, h3]
    have hl : w.length = p.length + (q.length + 1) := by rw [h1]; simp
    have e1 : w.take p.length = p := by rw [h1, List.take_left]
    have e2 : w.drop (p.length + 1) = q := by rw [h1, ← List.drop_drop, List.drop_left]; rfl
    rw [if_pos (by simp), ck_pos ⟨by omega, by omega, by omega⟩, lmO_pos (by simp), ckI_pos (by simp only [List.length_cons, List.length_nil]; omega) (by simp only [List.length_cons, List.length_nil]; omega), ck_pos ⟨by omega, by simp only [List.length_cons, List.length_nil]; omega, by omega⟩]
    simp only [Option.bind_some, List.length_cons, List.length_nil, Int.toNat_natCast, List.take_length, List.drop_zero, e1]
    rw [show (((p.length : Nat) : Int) + ((0 + 1 : Nat) : Int)).toNat = p.length + 1 by omega, e2]
  | false =>
    obtain ⟨h1, h2⟩ := cutF_f h
    rw [h2, h1]; rfl
/-! ### The program reads a set -/
def pset (L : Int) : List (List UInt8) → Int → Int → Int
  | [], a, _ => a
  | p :: r, a, b => if p.length ≠ 1 then 0 else if ((p.headD 0).toNat : Int) - 48 ≤ b then 0 else if L ≤ ((p.headD 0).toNat : Int) - 48 then 0
    else pset L r ((a.toNat ||| 2 ^ (((p.headD 0).toNat : Int) - 48).toNat : Nat) : Int) (((p.headD 0).toNat : Int) - 48)
theorem pset_one (L : Int) (c : UInt8) (r : List (List UInt8)) (a b : Int) : pset L ([c] :: r) a b = (if ((c.toNat : Nat) : Int) - 48 ≤ b then 0 else if L ≤ ((c.toNat : Nat) : Int) - 48 then 0
    else pset L r ((a.toNat ||| 2 ^ (((c.toNat : Nat) : Int) - 48).toNat : Nat) : Int) (((c.toNat : Nat) : Int) - 48)) := rfl
theorem pset_bad {L : Int} {p : List UInt8} {r : List (List UInt8)} {a b : Int} (h : p.length ≠ 1) : pset L (p :: r) a b = 0 := by
  simp only [pset]; rw [if_pos h]
theorem SplitSeq_eq (x : List UInt8) (c : UInt8) : sh_strings_SplitSeq x [c] = some ([c], x, 0) := rfl
theorem parseSet_eq {x : List UInt8} {L : Int} (hL : L ≤ 8) : sh_impl_parseSet x L = some (pset L (splA 44 [] x) 0 (-1)) := by
  unfold sh_impl_parseSet
  rw [SplitSeq_eq, Option.bind_some, ck_pos ⟨rfl, rfl⟩]
  simp only [List.headD_cons]
  rw [pcs_spl]
  refine range_mem (I := fun _ (st : Int × Int) => 0 ≤ st.1 ∧ st.1 < 256 ∧ -1 ≤ st.2) (G := fun l' _ st => some (pset L l' st.1 st.2)) (fun _ _ _ _ => rfl) ?_ (0, -1) (by decide)
  rintro p l' k ⟨a, b⟩ next hp _ ⟨h1, h2, h3⟩ hn
  simp only at h1 h2 h3 hn ⊢
  by_cases c1 : p.length = 1
  · obtain ⟨c, rfl⟩ : ∃ c, p = [c] := List.length_eq_one_iff.1 c1
    have hc := c.toNat_lt
    rw [pset_one, if_neg (by simp), getO_int (i := 0) (k := 0) rfl rfl]
    rw [ckI_pos (by omega) (by omega), ckI_pos (by omega) (by omega)]
    by_cases c2 : ((c.toNat : Nat) : Int) - 48 ≤ b
    · rw [if_pos (decide_eq_true c2), if_pos c2]
    · rw [if_neg (dcF c2), if_neg c2]
      by_cases c3 : L ≤ ((c.toNat : Nat) : Int) - 48
      · rw [if_pos (decide_eq_true c3), if_pos c3]
      · have hp := pow_256 (n := (((c.toNat : Nat) : Int) - 48).toNat) (by omega)
        have hpi : ((1 : Int) * 2 ^ (((c.toNat : Nat) : Int) - 48).toNat) = ((2 ^ (((c.toNat : Nat) : Int) - 48).toNat : Nat) : Int) := by rw [Int.one_mul]; simp
        have ho := or_256 (a := a.toNat) (by omega) hp
        rw [if_neg (dcF c3), if_neg c3, ck_pos ⟨by omega, by omega⟩, hpi]
        generalize (2 ^ (((c.toNat : Nat) : Int) - 48).toNat : Nat) = q at hp ho ⊢
        simp only [ckK]
        rw [ckI_pos (by omega) (by omega), ck_pos h1, if_pos ⟨by omega, by omega⟩, ck_pos (by omega), if_pos ⟨by omega, by omega⟩, Int.toNat_natCast, hn _ ⟨by simp only; omega, by simp only; omega, by simp only; omega⟩]
  · rw [if_pos (decide_eq_true (show ((p.length : Nat) : Int) ≠ 1 by omega)), pset_bad c1]
theorem pset_all : ∀ L : Nat, L < 9 → ∀ m : Nat, m < 2 ^ L → pset (L : Int) (splA 44 [] (setT m)) 0 (-1) = (m : Int) := by decide +kernel
/-! ### The program reads a table -/
def cdF (s : List XVariable) : List (List UInt8) → XTable → Option XTable
  | [], t => some t
  | w :: r, t => if findI s (cutF 61 w).1 0 < 0 then none else cdF s r ⟨t.Level, t.Vars, t.Where.set (findI s (cutF 61 w).1 0).toNat (pset (s.getD (findI s (cutF 61 w).1 0).toNat default).Levels (splA 44 [] (cutF 61 w).2.1) 0 (-1)), t.Sum⟩
def zeT : XTable := ⟨0, [], [], 0⟩
def cvO : Option XTable → XTable × Bool
  | none => (zeT, false)
  | some t => (t, true)
def psW (s : List XVariable) (ws : List (List UInt8)) (t : XTable) : Option XTable :=
  if ws = [] then some t else if ws.headD [] ≠ [119, 104, 101, 114, 101] then none else cdF s ws.tail t
def psB (s : List XVariable) (ws : List (List UInt8)) (t : XTable) : Option XTable :=
  if ws.headD [] = [98, 121] then (if (splA 44 [] (ws.tail.headD [])).any (fun n => decide (findI s n 0 < 0)) then none else psW s ws.tail.tail ⟨t.Level, t.Vars ++ (splA 44 [] (ws.tail.headD [])).map (fun n => findI s n 0), t.Where, t.Sum⟩) else psW s ws t
def whN (b : List UInt8) : Option Nat := match rdN 30 0 0 b with
  | some (n, []) => some n
  | _ => none
def psL (s : List XVariable) (ws : List (List UInt8)) (t : XTable) : Option XTable :=
  if ws.headD [] = [108, 101, 118, 101, 108] then (match whN (ws.tail.headD []) with | some n => psB s ws.tail.tail ⟨(n : Int), t.Vars, t.Where, t.Sum⟩ | none => none) else none
def psH (s : List XVariable) (ws : List (List UInt8)) (t : XTable) : Option XTable :=
  if ws.headD [] = [99, 111, 117, 110, 116] then psL s ws.tail t
  else if ws.headD [] = [115, 117, 109] then (if findI s (ws.tail.headD []) 0 < 0 then none else psL s ws.tail.tail ⟨t.Level, t.Vars, t.Where, findI s (ws.tail.headD []) 0⟩)
  else none
theorem psW_cons (s : List XVariable) (w : List UInt8) (r : List (List UInt8)) (t : XTable) : psW s (w :: r) t = (if w = [119, 104, 101, 114, 101] then cdF s r t else none) := by
  unfold psW
  rw [if_neg (show ¬ (w :: r = []) by simp)]
  by_cases c : w = [119, 104, 101, 114, 101]
  · rw [if_pos c]; exact if_neg (fun e => e c)
  · rw [if_neg c, if_pos (show (w :: r).headD [] ≠ [119, 104, 101, 114, 101] from c)]
theorem psB_by (s : List XVariable) (a : List UInt8) (r : List (List UInt8)) (t : XTable) : psB s ([98, 121] :: a :: r) t = (if (splA 44 [] a).any (fun n => decide (findI s n 0 < 0)) = true then none else psW s r ⟨t.Level, t.Vars ++ (splA 44 [] a).map (fun n => findI s n 0), t.Where, t.Sum⟩) := by
  unfold psB; exact if_pos rfl
theorem psB_no {s : List XVariable} {ws : List (List UInt8)} {t : XTable} (h : ws.headD [] ≠ [98, 121]) : psB s ws t = psW s ws t := by
  unfold psB; rw [if_neg h]
theorem psL_lv (s : List XVariable) (b : List UInt8) (r : List (List UInt8)) (t : XTable) : psL s ([108, 101, 118, 101, 108] :: b :: r) t = (match whN b with | some n => psB s r ⟨(n : Int), t.Vars, t.Where, t.Sum⟩ | none => none) := by
  unfold psL; exact if_pos rfl
theorem psH_ct (s : List XVariable) (r : List (List UInt8)) (t : XTable) : psH s ([99, 111, 117, 110, 116] :: r) t = psL s r t := by
  unfold psH; exact if_pos rfl
theorem psH_sm (s : List XVariable) (a : List UInt8) (r : List (List UInt8)) (t : XTable) : psH s ([115, 117, 109] :: a :: r) t = (if findI s a 0 < 0 then none else psL s r ⟨t.Level, t.Vars, t.Where, findI s a 0⟩) := by
  unfold psH; rw [if_neg (show ¬ (([115, 117, 109] :: a :: r).headD [] = [99, 111, 117, 110, 116]) by simp only [List.headD_cons]; decide)]; exact if_pos rfl
/-- Words of a bounded text. -/
structure Wds (ws : List (List UInt8)) : Prop where
  n : ws.length ≤ 1048577
  l : ∀ w ∈ ws, w.length ≤ 1048576
theorem Wds.tail {ws : List (List UInt8)} (h : Wds ws) : Wds ws.tail :=
  ⟨by have := h.n; simp; omega, fun w hw => h.l w (List.mem_of_mem_tail hw)⟩
theorem Wds.head {ws : List (List UInt8)} (h : Wds ws) : (ws.headD []).length ≤ 1048576 := by
  cases ws with
  | nil => simp
  | cons a r => exact h.l a (by simp)
theorem nx_eq (ws : List (List UInt8)) : sh_impl_parseTable_1 ws = some (ws.tail, ws.headD []) := by
  unfold sh_impl_parseTable_1
  cases ws with
  | nil => rfl
  | cons a r =>
    rw [if_neg (dcF (by simp only [List.length_cons]; omega)), getO_int (i := 0) (k := 0) rfl rfl, ck_pos ⟨by omega, by simp only [List.length_cons]; omega, by omega⟩, List.take_length]
    rfl
theorem wholeNatIf_eq {ok : Bool} {b : List UInt8} (hb : b.length ≤ 1048576) : sh_impl_wholeNaturalIf ok b 30 = some (match whN b with | some n => ((n : Int), ok) | none => (0, false)) := by
  unfold sh_impl_wholeNaturalIf sh_impl_wholeNatural
  have e := readNatural_eq (x := b) (lim := 30) (by omega) (by omega)
  rw [show ((30 : Nat) : Int) = 30 from rfl] at e
  rw [e, Option.bind_some]
  unfold whN
  cases h : rdN 30 0 0 b with
  | none => simp only [cvN, Bool.not_false, if_true, Option.bind_some]; cases ok <;> rfl
  | some p =>
    obtain ⟨n, r⟩ := p
    simp only [cvN, Bool.not_true, Bool.false_eq_true, if_false]
    cases r with
    | nil => cases ok <;> rfl
    | cons c r => cases ok <;> rfl
theorem parseTable_eq {s : List XVariable} (hs : schB s = true) {x : List UInt8} (hx : x.length ≤ 1048576) : sh_impl_parseTable s x = some (cvO (psH s (splA 32 [] x) (t0F s))) := by
  have hsl := splA_len (sep := 32) x []
  have hls := schB_len hs
  have hWd : Wds (splA 32 [] x) := ⟨by omega, fun w hw => by have := hsl.2.2 w hw; simp only [List.length_nil] at this; omega⟩
  unfold sh_impl_parseTable
  have hsp : sh_strings_Split x [32] = some (splA 32 [] x) := by
    unfold sh_strings_Split sh_strings_genSplit
    simp only
    rw [if_pos ⟨hx, trivial, trivial⟩, Option.bind_some, pcs_spl]
  rw [mkO_pos (by omega) (by omega), hsp, Option.bind_some]
  clear hsp hsl
  generalize splA 32 [] x = W at hWd ⊢
  refine jn_step (fun st : XTable × List (List UInt8) => st.1.Where.length = s.length ∧ Wds st.2 ∧ st.1.Vars = []) (fun st => some (cvO (psL s st.2 st.1))) ?_ ?_
  · rintro ⟨t, ws⟩ ⟨h1, h2, h3⟩
    simp only at h1 h2 h3 ⊢
    rw [nx_eq, Option.bind_some]
    simp only
    rw [nx_eq, Option.bind_some]
    simp only
    rw [wholeNatIf_eq h2.tail.head, Option.bind_some]
    unfold psL
    cases hw : whN (ws.tail.headD []) with
    | none => simp only [Bool.not_false, if_true, ite_self]; rfl
    | some n =>
      simp only
      by_cases c1 : ws.headD [] = [108, 101, 118, 101, 108]
      · rw [decide_eq_true c1, if_neg (by decide), if_pos c1]
        have h2t := h2.tail.tail
        generalize ws.tail.tail = ws at h2t ⊢
        refine jn_step (fun st : XTable × List (List UInt8) => st.1.Where.length = s.length ∧ Wds st.2) (fun st => some (cvO (psW s st.2 st.1))) ?_ ?_
        · rintro ⟨t, ws⟩ ⟨h1, h2⟩
          simp only at h1 h2 ⊢
          refine jn_step (fun ws' : List (List UInt8) => Wds ws') (fun ws' => some (cvO (cdF s ws' t))) ?_ ?_
          · intro ws h2
            refine loopF_eq (I := fun st : XTable × List (List UInt8) => st.1.Where.length = s.length ∧ Wds st.2) (mu := fun st => st.2.length) (F := fun st => some (cvO (cdF s st.2 st.1))) ?_ FUEL (t, ws) ⟨h1, h2⟩ (FUEL_big (by have := h2.n; simp only; omega))
            rintro ⟨t, ws⟩ next ⟨h1, h2⟩ hnx
            simp only at h1 h2 hnx ⊢
            cases ws with
            | nil => rfl
            | cons w r =>
              have hw := h2.l w (by simp)
              have hf := findI_lt s (cutF 61 w).1 0
              have hr : Wds r := h2.tail
              rw [if_pos (decide_eq_true (by simp only [List.length_cons]; omega)), nx_eq, Option.bind_some]
              simp only [List.headD_cons, List.tail_cons]
              rw [Cut_eq hw, Option.bind_some, nameIndex_eq, Option.bind_some]
              simp only [cdF]
              by_cases c2 : findI s (cutF 61 w).1 0 < 0
              · rw [if_pos (decide_eq_true c2), if_pos c2]; rfl
              · have hv : (findI s (cutF 61 w).1 0).toNat < s.length := by omega
                have hL := schB_lev hs (List.getElem_mem hv)
                rw [if_neg (dcF c2), if_neg c2, getO_pos (by omega) hv, parseSet_eq hL.2, Option.bind_some, getO_pos (by omega) (by omega), getD_get hv, hnx _ ⟨by simp only [List.length_set]; exact h1, hr⟩ (by simp only [List.length_cons]; omega)]
          · intro f hf
            cases ws with
            | nil => rw [if_neg (by simp), hf [] h2]; rfl
            | cons w r =>
              rw [if_pos (decide_eq_true (by simp only [List.length_cons]; omega)), nx_eq, Option.bind_some, psW_cons]
              change (if decide (w ≠ [119, 104, 101, 114, 101]) = true then some (zeT, false) else f r) = _
              by_cases c2 : w = [119, 104, 101, 114, 101]
              · rw [if_neg (dcF (fun e => e c2)), if_pos c2, hf r h2.tail]
              · rw [if_pos (decide_eq_true c2), if_neg c2]; rfl
        · intro f hf
          have e1 : ((if (decide ((0 : Int) < (ws.length : Int))) = true then getO ws (0 : Int) fun x354 => some (decide (x354 = ([98, 121] : List UInt8))) else some false) : Option Bool) = some (decide (ws.headD [] = [98, 121])) := by
            cases ws with
            | nil => rfl
            | cons w r => rw [if_pos (decide_eq_true (by simp only [List.length_cons]; omega)), getO_int (i := 0) (k := 0) rfl rfl]; rfl
          rw [e1, Option.bind_some]
          unfold psB
          by_cases c2 : ws.headD [] = [98, 121]
          · rw [if_pos (decide_eq_true c2), if_pos c2, nx_eq, Option.bind_some]
            simp only
            rw [nx_eq, Option.bind_some]
            simp only
            rw [SplitSeq_eq, Option.bind_some, ck_pos ⟨rfl, rfl⟩]
            simp only [List.headD_cons]
            rw [pcs_spl]
            have hsp := (splA_len (sep := 44) (ws.tail.headD []) []).2.1
            have hhd := h2t.tail.head
            generalize splA 44 [] (ws.tail.headD []) = P at hsp ⊢
            refine (range_mem (I := fun k (st : XTable) => st.Where.length = s.length ∧ st.Vars.length ≤ k) (G := fun l' _ st => some (cvO (if l'.any (fun n => decide (findI s n 0 < 0)) then none else psW s ws.tail.tail ⟨st.Level, st.Vars ++ l'.map (fun n => findI s n 0), st.Where, st.Sum⟩))) ?_ ?_ (⟨(n : Int), t.Vars, t.Where, t.Sum⟩ : XTable) ⟨h1, by simp only [h3, List.length_nil]; omega⟩).trans ?_
            · intro k st hI _
              rw [hf _ ⟨hI.1, h2t.tail.tail⟩]; simp
            · intro y l' k st next hy _ hI hn
              have hk := (List.getElem?_eq_some_iff.1 hy).1
              rw [nameIndex_eq, Option.bind_some]
              simp only [List.any_cons, List.map_cons]
              by_cases c3 : findI s y 0 < 0
              · rw [if_pos (decide_eq_true c3), decide_eq_true c3, Bool.true_or, if_pos rfl]; rfl
              · rw [if_neg (dcF c3), lnO_pos (by simp only [List.length_cons, List.length_nil]; omega), hn ⟨st.Level, st.Vars ++ [findI s y 0], st.Where, st.Sum⟩ ⟨hI.1, by simp only [List.length_append, List.length_cons, List.length_nil]; omega⟩, decide_eq_false c3, Bool.false_or]
                simp
            · rfl
          · rw [if_neg (dcF c2), if_neg c2, hf _ ⟨h1, h2t⟩]
      · rw [decide_eq_false c1, if_pos (by decide), if_neg c1]; rfl
  · intro f hf
    have hw0 : (t0F s).Where.length = s.length := (t0_ok s).len
    unfold psH
    rw [nx_eq, Option.bind_some]
    simp only
    by_cases c1 : W.headD [] = [99, 111, 117, 110, 116]
    · rw [if_pos (decide_eq_true c1), if_pos c1, hf _ ⟨by simp, hWd.tail, rfl⟩]
      simp only [Int.toNat_natCast, t0F]
    · rw [if_neg (dcF c1), if_neg c1]
      by_cases c2 : W.headD [] = [115, 117, 109]
      · rw [if_pos (decide_eq_true c2), if_pos c2, nx_eq, Option.bind_some]
        simp only
        rw [nameIndex_eq, Option.bind_some]
        by_cases c3 : findI s (W.tail.headD []) 0 < 0
        · rw [if_pos (decide_eq_true c3), if_pos c3]; rfl
        · rw [if_neg (dcF c3), if_neg c3, hf _ ⟨by simp, hWd.tail.tail, rfl⟩]
          simp only [Int.toNat_natCast, t0F]
      · rw [if_neg (dcF c2), if_neg c2]; rfl
/-! ### The program reads a table's text -/
theorem whN_all : ∀ n : Nat, n < 31 → whN (dgT n) = some n := by decide +kernel
theorem cut_cnd {s : List XVariable} (hs : schB s = true) {k : Nat} (hk : k < s.length) (q : List UInt8) : cutF 61 (nmV s (k : Int) ++ 61 :: q) = (nmV s (k : Int), q, true) := by
  refine cutF_app fun c hc => ?_
  have := nm_low hs (show (0 : Int) ≤ (k : Int) by omega) (by omega) c hc
  rintro rfl; revert this; decide
theorem cd_cnd {s : List XVariable} (hs : schB s = true) : ∀ {l pre : List Int} {t : XTable}, t.Where = pre ++ List.replicate l.length 0 → (∀ j x, l[j]? = some x → ∃ v, s[pre.length + j]? = some v ∧ 0 ≤ x ∧ x ≤ full v) →
    cdF s (cndW s l pre.length) t = some ⟨t.Level, t.Vars, pre ++ l, t.Sum⟩
  | [], pre, t, h, _ => by
    simp only [cndW, cdF, List.append_nil]
    simp only [List.length_nil, List.replicate_zero, List.append_nil] at h
    rw [← h]
  | x :: l, pre, t, h, hl => by
    obtain ⟨v, h1, h2, h3⟩ := hl 0 x rfl
    have ih := fun (t' : XTable) (ht' : t'.Where = (pre ++ [x]) ++ List.replicate l.length 0) => cd_cnd hs (l := l) (pre := pre ++ [x]) (t := t') ht' fun j y hy => by
      have := hl (j + 1) y (by simpa using hy)
      simpa [Nat.add_assoc, Nat.add_comm 1 j] using this
    simp only [List.length_append, List.length_cons, List.length_nil, Nat.zero_add, List.append_assoc, List.cons_append, List.nil_append] at ih
    simp only [List.length_cons, List.replicate_succ] at h
    simp only [cndW]
    by_cases hx : x = 0
    · rw [if_pos hx, ih t (by rw [h, hx])]
    · obtain ⟨hk, he⟩ := List.getElem?_eq_some_iff.1 h1
      simp only [Nat.add_zero] at hk he
      have hlv := schB_lev hs (List.mem_of_getElem? h1)
      have hp := pset_all v.Levels.toNat (by omega) x.toNat (full_pow hlv h2 h3)
      rw [Int.toNat_of_nonneg (by omega), Int.toNat_of_nonneg h2] at hp
      rw [if_neg hx]
      simp only [cdF, cut_cnd hs hk]
      rw [find_nm hs (by omega) (by omega), if_neg (by omega), Int.toNat_natCast, getD_get hk, he, hp, ih _ (by simp only [h]; simp)]
theorem ps_tab {g : XGeo} {s : List XVariable} {t : XTable} (ht : Tab g s t) : psH s (wdsT s t) (t0F s) = some t := by
  have hs := ht.sch
  have hlv := ht.lev30
  have hvs := ht.vars
  have hwl := whB_len ht.w
  have hC : ∀ u : XTable, u.Where = List.replicate s.length 0 → cdF s (cndW s t.Where 0) u = some ⟨u.Level, u.Vars, t.Where, u.Sum⟩ := fun u hu =>
    cd_cnd hs (l := t.Where) (pre := []) (by rw [hu, hwl]; rfl) fun j x hx => by
      obtain ⟨v, h1, h2, h3⟩ := whB_get ht.w hx
      exact ⟨v, by simpa using h1, h2, h3⟩
  have hW : ∀ u : XTable, u.Where = List.replicate s.length 0 → psW s (whrW s t) u = some ⟨u.Level, u.Vars, t.Where, u.Sum⟩ := by
    intro u hu
    have h1 := hC u hu
    unfold psW whrW
    by_cases h : cndW s t.Where 0 = []
    · rw [if_pos h, if_pos rfl, ← h1, h]; rfl
    · rw [if_neg h, if_neg (by simp), if_neg (by simp)]; exact h1
  have hB : ∀ u : XTable, u.Where = List.replicate s.length 0 → u.Vars = [] → psB s (byW s t ++ whrW s t) u = some ⟨u.Level, t.Vars, t.Where, u.Sum⟩ := by
    intro u hu hv
    have hWu := hW u hu
    unfold byW
    by_cases h : t.Vars = []
    · rw [if_pos h, List.nil_append, psB_no ?_, hWu, hv, h]
      unfold whrW
      split
      · decide
      · simp only [List.headD_cons]; decide
    · have e1 : splA 44 [] (itc [44] (t.Vars.map (nmV s))) = t.Vars.map (nmV s) := by
        refine splA_itc (by simpa using h) ?_
        intro p hp c hc
        obtain ⟨x, hx, rfl⟩ := List.mem_map.1 hp
        have := nm_low hs (hvs.1 x hx).1 (hvs.1 x hx).2 c hc
        rintro rfl; revert this; decide
      have e2 : (t.Vars.map (nmV s)).map (fun n => findI s n 0) = t.Vars := by
        rw [List.map_map]
        conv => rhs; rw [← List.map_id t.Vars]
        refine List.map_congr_left fun x hx => ?_
        exact find_nm hs (hvs.1 x hx).1 (hvs.1 x hx).2
      have e3 : (t.Vars.map (nmV s)).any (fun n => decide (findI s n 0 < 0)) = false := by
        rw [List.any_eq_false]
        intro n hn
        obtain ⟨x, hx, rfl⟩ := List.mem_map.1 hn
        rw [find_nm hs (hvs.1 x hx).1 (hvs.1 x hx).2]
        have := (hvs.1 x hx).1
        simp; omega
      rw [if_neg h]
      simp only [List.cons_append, List.nil_append]
      rw [psB_by, e1, e3, if_neg (by decide), e2, hv, List.nil_append, hW ⟨u.Level, t.Vars, u.Where, u.Sum⟩ hu]
  have hL : ∀ u : XTable, u.Where = List.replicate s.length 0 → u.Vars = [] → psL s (lvlW t ++ (byW s t ++ whrW s t)) u = some ⟨t.Level, t.Vars, t.Where, u.Sum⟩ := by
    intro u hu hv
    simp only [lvlW, List.cons_append, List.nil_append]
    rw [psL_lv, whN_all _ (by omega)]
    simp only
    rw [Int.toNat_of_nonneg hlv.1, hB ⟨t.Level, u.Vars, u.Where, u.Sum⟩ hu hv]
  unfold wdsT
  by_cases h : (0 : Int) ≤ t.Sum
  · rw [if_pos h]
    simp only [List.cons_append, List.nil_append]
    rw [psH_sm, find_nm hs h ht.s1, if_neg (by omega), hL ⟨(t0F s).Level, (t0F s).Vars, (t0F s).Where, t.Sum⟩ rfl rfl]
  · rw [if_neg h]
    have e : (-1 : Int) = t.Sum := by have := ht.s0; omega
    simp only [List.cons_append, List.nil_append]
    rw [psH_ct, hL (t0F s) rfl rfl]
    simp only [t0F, e]
/-! ### ParseTable -/
def parR (g : XGeo) (s : List XVariable) (x : List UInt8) : XTable × Bool :=
  if allB g s (guF s false (t0F s) (splA 32 [] x)) && decide (tabT s (guF s false (t0F s) (splA 32 [] x)) = x) then (guF s false (t0F s) (splA 32 [] x), true) else (zeT, false)
theorem parR_iff {g : XGeo} {s : List XVariable} {t : XTable} (ht : allB g s t = true) : parR g s (tabT s t) = (t, true) := by
  have h := allB_tab ht
  unfold parR
  rw [spl_tab h, gu_tab h, ht]; simp
theorem parR_tab {g : XGeo} {s : List XVariable} {x : List UInt8} (h : (parR g s x).2 = true) : allB g s (parR g s x).1 = true ∧ tabT s (parR g s x).1 = x := by
  unfold parR at h ⊢
  split at h
  · rename_i hc
    rw [if_pos hc]
    simp only [Bool.and_eq_true, decide_eq_true_eq] at hc
    exact hc
  · cases h
theorem parR_bulk (g : XGeo) (s : List XVariable) (x : List UInt8) : bulkT (parR g s x).1 ≤ 12 := by
  cases h : (parR g s x).2 with
  | true => exact Tab.bulk (allB_tab (parR_tab h).1)
  | false =>
    unfold parR at h ⊢
    split at h
    · cases h
    · rename_i hc; rw [if_neg hc]; simp [zeT, bulkT]
theorem nParse_eq {g : XGeo} {s : List XVariable} {x : List UInt8} (hs : schB s = true) (h1 : bulkVS s ≤ 1048576) (h2 : x.length ≤ 1048576) : sh_spec_nParse g s x = some (parR g s x) := by
  have hv := guF_vars (s := s) (c := false) (t := t0F s) (l := splA 32 [] x) _ (Nat.le_refl _)
  rw [splA_wl] at hv
  simp only [t0F, List.length_nil] at hv
  unfold sh_spec_nParse parR
  rw [nGuess_eq hs h2, Option.bind_some, uGood_big h1 (by simp only [t0F]; omega), Option.bind_some]
  generalize guF s false (t0F s) (splA 32 [] x) = t
  cases h : allB g s t with
  | false => rfl
  | true =>
    simp only [Bool.not_true, Bool.false_eq_true, if_false, Bool.true_and]
    rw [nTable_eq (allB_tab h), Option.bind_some]
    by_cases c : tabT s t = x
    · rw [if_neg (dcF (fun e => e c)), if_pos (decide_eq_true c)]
    · rw [if_pos (decide_eq_true c), if_neg (dcF c)]; rfl
theorem implParse_eq {g : XGeo} {s : List XVariable} {x : List UInt8} (h2 : x.length ≤ 1048576) : sh_impl_ParseTable g s x = some (if geoB g && schB s then parR g s x else (zeT, false)) := by
  unfold sh_impl_ParseTable
  rw [isGeo_eq, Option.bind_some]
  cases hg : geoB g with
  | false => rfl
  | true =>
    rw [isSchema_eq, Option.bind_some]
    cases hs : schB s with
    | false => rfl
    | true =>
      simp only [Bool.not_true, Bool.false_eq_true, if_false, Bool.and_self, if_true]
      rw [parseTable_eq hs h2, Option.bind_some]
      have key : ∀ t, psH s (splA 32 [] x) (t0F s) = some t → tabB g s t = true → tabT s t = x → parR g s x = (t, true) := by
        intro t _ hb he
        rw [← he]; exact parR_iff (by unfold allB; rw [hg, hs, hb]; rfl)
      have key2 : (parR g s x).2 = true → psH s (splA 32 [] x) (t0F s) = some (parR g s x).1 ∧ tabB g s (parR g s x).1 = true ∧ tabT s (parR g s x).1 = x := by
        intro h
        obtain ⟨ha, he⟩ := parR_tab h
        have hp := ps_tab (allB_tab ha)
        rw [← spl_tab (allB_tab ha), he] at hp
        refine ⟨hp, ?_, he⟩
        unfold allB at ha
        rw [hg, hs] at ha
        simpa using ha
      have fin : (parR g s x).2 = false → parR g s x = (zeT, false) := by
        intro h
        unfold parR at h ⊢
        split at h
        · cases h
        · rename_i hc; rw [if_neg hc]
      cases hp : psH s (splA 32 [] x) (t0F s) with
      | none =>
        have : (parR g s x).2 = false := by
          cases h : (parR g s x).2 with
          | false => rfl
          | true => rw [(key2 h).1] at hp; cases hp
        rw [fin this]; rfl
      | some t =>
        simp only [cvO, Bool.not_true, Bool.false_eq_true, if_false]
        rw [isTable_eq hg hs, Option.bind_some]
        cases hb : tabB g s t with
        | false =>
          have : (parR g s x).2 = false := by
            cases h : (parR g s x).2 with
            | false => rfl
            | true =>
              obtain ⟨q1, q2, _⟩ := key2 h
              rw [hp] at q1
              simp only [Option.some.injEq] at q1
              rw [← q1, hb] at q2; cases q2
          rw [fin this]; rfl
        | true =>
          simp only [Bool.not_true, Bool.false_eq_true, if_false]
          rw [tableText_eq (allB_tab (show allB g s t = true by unfold allB; rw [hg, hs, hb]; rfl)), Option.bind_some]
          by_cases c : tabT s t = x
          · rw [if_neg (dcF (fun e => e c)), key t hp hb c]
          · have : (parR g s x).2 = false := by
              cases h : (parR g s x).2 with
              | false => rfl
              | true =>
                obtain ⟨q1, _, q3⟩ := key2 h
                rw [hp] at q1
                simp only [Option.some.injEq] at q1
                rw [← q1] at q3; exact absurd q3 c
            rw [if_pos (decide_eq_true c), fin this]; rfl
theorem nInput_eq {g : XGeo} {s : List XVariable} (h1 : bulkVS s ≤ 1048576) : sh_spec_nInput g s = some (geoB g && schB s) := by
  unfold sh_spec_nInput
  rw [gGood_eq, Option.bind_some]
  cases geoB g with
  | false => rfl
  | true => rw [if_pos rfl, sGood_eq (names_of_bulk h1), Option.bind_some]; rfl
end AS
namespace AS
def plF (g : XGeo) (s : List XVariable) : Nat → List (List UInt8) → List XTable → List XTable × Int × Bool
  | _, [], out => (out, 0, true)
  | k, [w], out => if w = [] then (out, 0, true) else ([], (k : Int) + 1, false)
  | k, w :: a :: r, out => if (parR g s w).2 = true ∧ k ≠ 20 then plF g s (k + 1) (a :: r) (out ++ [(parR g s w).1]) else ([], (k : Int) + 1, false)
theorem plF_one (g : XGeo) (s : List XVariable) (k : Nat) (w : List UInt8) (out : List XTable) : plF g s k [w] out = (if w = [] then (out, 0, true) else ([], (k : Int) + 1, false)) := rfl
theorem plF_two (g : XGeo) (s : List XVariable) (k : Nat) (w a : List UInt8) (r : List (List UInt8)) (out : List XTable) :
    plF g s k (w :: a :: r) out = (if (parR g s w).2 = true ∧ k ≠ 20 then plF g s (k + 1) (a :: r) (out ++ [(parR g s w).1]) else ([], (k : Int) + 1, false)) := rfl
theorem plF_bulk {g : XGeo} {s : List XVariable} : ∀ {W : List (List UInt8)} {k : Nat} {out : List XTable}, k ≤ 20 → out.length ≤ k → (∀ t ∈ out, bulkT t ≤ 12) → (plF g s k W out).1.length ≤ 20 ∧ ∀ t ∈ (plF g s k W out).1, bulkT t ≤ 12
  | [], k, out, h1, h2, h3 => ⟨by simp only [plF]; omega, h3⟩
  | [w], k, out, h1, h2, h3 => by
    simp only [plF]
    split
    · exact ⟨by simp only; omega, h3⟩
    · simp
  | w :: a :: r, k, out, h1, h2, h3 => by
    simp only [plF]
    split
    · rename_i hc
      refine plF_bulk (by omega) (by simp only [List.length_append, List.length_cons, List.length_nil]; omega) fun t ht => ?_
      rcases List.mem_append.1 ht with ht | ht
      · exact h3 t ht
      · simp only [List.mem_singleton] at ht; subst ht; exact parR_bulk g s w
    · simp
theorem splA_cut (c : UInt8) : ∀ (x cur : List UInt8), splA c cur x = (if (cutF c x).2.2 = true then (cur ++ (cutF c x).1) :: splA c [] (cutF c x).2.1 else [cur ++ x])
  | [], cur => by simp [splA, cutF]
  | b :: l, cur => by
    simp only [splA, cutF]
    by_cases h : b = c
    · simp [h]
    · rw [if_neg h, splA_cut c l (cur ++ [b])]
      simp [h]
theorem implPlan {g : XGeo} {s : List XVariable} (hg : geoB g = true) (hs : schB s = true) {x : List UInt8} (hx : x.length ≤ 1048576) :
    loopF (fun (nx226 : ((List UInt8) × (List XTable)) → Option ((List XTable) × Int × Bool)) (s145 : ((List UInt8) × (List XTable))) =>
      (if (decide (s145.1 ≠ ([] : List UInt8))) = true then
      (sh_strings_Cut s145.1 ([10] : List UInt8)).bind fun x233 =>
      (sh_impl_ParseTable g s x233.1).bind fun x237 =>
      (((if (!x233.2.2) = true then
      some true
      else
      (if (!x237.2) = true then
      some true
      else
      some (decide ((s145.2.length : Int) = (20 : Int))))) : Option Bool).bind fun (s255 : Bool) =>
      (if s255 = true then
      ckI ((s145.2.length : Int) + (1 : Int)) <|
      some (([] : List XTable), ((s145.2.length : Int) + (1 : Int)), false)
      else
      lnO (s145.2.length + [x237.1].length) <|
      nx226 (x233.2.1, (s145.2 ++ [x237.1]))))
      else
      some (s145.2, (0 : Int), true))) FUEL (x, ([] : List XTable)) = some (plF g s 0 (splA 10 [] x) []) := by
  refine loopF_eq (I := fun st : List UInt8 × List XTable => st.1.length ≤ 1048576 ∧ st.2.length ≤ 20) (mu := fun st => st.1.length) (F := fun st => some (plF g s st.2.length (splA 10 [] st.1) st.2)) ?_ FUEL (x, []) ⟨hx, by simp⟩ (FUEL_big (by simp only; omega))
  rintro ⟨x, out⟩ next ⟨h1, h2⟩ hnx
  simp only at h1 h2 hnx ⊢
  by_cases hx0 : x = []
  · subst hx0
    rw [if_neg (dcF (fun e => e rfl))]; rfl
  · have hl := cutF_len 10 x
    rw [if_pos (decide_eq_true hx0), Cut_eq h1, Option.bind_some, implParse_eq (by omega), Option.bind_some, splA_cut, hg, hs, Bool.and_self, if_pos rfl, List.nil_append]
    cases hc : (cutF 10 x).2.2 with
    | false =>
      rw [if_pos (show (!false) = true from rfl), Option.bind_some, if_pos (show true = true from rfl), ckI_pos (by omega) (by omega), if_neg (show ¬ (false = true) by decide), List.nil_append, plF_one, if_neg hx0]
    | true =>
      have hw := (cutF_t hc).1
      have hwl : x.length = (cutF 10 x).1.length + ((cutF 10 x).2.1.length + 1) := by
        have := congrArg List.length hw
        simpa using this
      obtain ⟨a, r, har⟩ : ∃ a r, splA 10 [] (cutF 10 x).2.1 = a :: r := by
        have := (splA_len (sep := 10) (cutF 10 x).2.1 []).1
        cases hq : splA 10 [] (cutF 10 x).2.1 with
        | nil => rw [hq] at this; simp at this
        | cons a r => exact ⟨a, r, rfl⟩
      rw [if_neg (show ¬ ((!true) = true) by decide), if_pos (show true = true from rfl), har, plF_two]
      cases hp : (parR g s (cutF 10 x).1).2 with
      | false =>
        rw [if_pos (show (!false) = true from rfl), Option.bind_some, if_pos (show true = true from rfl), ckI_pos (by omega) (by omega), if_neg (fun e : false = true ∧ _ => Bool.noConfusion e.1)]
      | true =>
        rw [if_neg (show ¬ ((!true) = true) by decide), Option.bind_some]
        by_cases h20 : out.length = 20
        · rw [if_pos (decide_eq_true (show ((out.length : Nat) : Int) = 20 by omega)), ckI_pos (by omega) (by omega), if_neg (fun e => e.2 h20)]
        · rw [if_neg (dcF (show ¬ ((out.length : Nat) : Int) = 20 by omega)), lnO_pos (by simp only [List.length_cons, List.length_nil]; omega), if_pos (⟨rfl, h20⟩ : true = true ∧ out.length ≠ 20),
            hnx _ ⟨by simp only; omega, by simp only [List.length_append, List.length_cons, List.length_nil]; omega⟩ (by simp only; omega)]
          simp only [har, List.length_append, List.length_cons, List.length_nil, Nat.zero_add]
theorem specPlan {g : XGeo} {s : List XVariable} (hs : schB s = true) (h1 : bulkVS s ≤ 1048576) {W : List (List UInt8)} (hW : W.length ≤ 1048577) (hw : ∀ w ∈ W, w.length ≤ 1048576) :
    rangeF (fun (k274 : Nat) (x275 : (List UInt8)) (s273 : (List XTable)) (nx442 : (List XTable) → Option ((List XTable) × Int × Bool)) =>
      ckI ((W.length : Int) - (1 : Int)) <|
      (if (decide ((k274 : Int) = ((W.length : Int) - (1 : Int)))) = true then
      (if (decide (x275 ≠ ([] : List UInt8))) = true then
      ckI ((k274 : Int) + (1 : Int)) <|
      some (([] : List XTable), ((k274 : Int) + (1 : Int)), false)
      else
      some (s273, (0 : Int), true))
      else
      (sh_spec_nParse g s x275).bind fun x510 =>
      (((if (!x510.2) = true then
      some true
      else
      some (decide ((k274 : Int) = (20 : Int)))) : Option Bool).bind fun (s520 : Bool) =>
      (if s520 = true then
      ckI ((k274 : Int) + (1 : Int)) <|
      some (([] : List XTable), ((k274 : Int) + (1 : Int)), false)
      else
      lnO (s273.length + [x510.1].length) <|
      nx442 (s273 ++ [x510.1])))))
      (fun (s273 : (List XTable)) =>
      some (s273, (0 : Int), true)) W 0 ([] : List XTable) = some (plF g s 0 W []) := by
  refine range_mem (I := fun k (st : List XTable) => st.length ≤ k) (G := fun l' k st => some (plF g s k l' st)) ?_ ?_ [] (by simp)
  · intro k st _ _; simp only [plF]
  · intro x l' k st next hx hd hI hn
    have hk := (List.getElem?_eq_some_iff.1 hx).1
    have hdl : W.length - k = 1 + l'.length := by
      have := congrArg List.length hd
      simp only [List.length_drop, List.length_cons] at this; omega
    rw [ckI_pos (by omega) (by omega)]
    cases l' with
    | nil =>
      simp only [List.length_nil] at hdl
      rw [if_pos (decide_eq_true (show (k : Int) = (W.length : Int) - 1 by omega))]
      rw [plF_one]
      by_cases hx0 : x = []
      · rw [if_neg (dcF (fun e => e hx0)), if_pos hx0]
      · rw [if_pos (decide_eq_true hx0), if_neg hx0, ckI_pos (by omega) (by omega)]
    | cons a r =>
      simp only [List.length_cons] at hdl
      rw [if_neg (dcF (show ¬ (k : Int) = (W.length : Int) - 1 by omega)), nParse_eq hs h1 (hw x (List.mem_of_getElem? hx)), Option.bind_some]
      rw [plF_two]
      cases hp : (parR g s x).2 with
      | false =>
        rw [if_pos (show (!false) = true from rfl), Option.bind_some, if_pos (show true = true from rfl), ckI_pos (by omega) (by omega), if_neg (fun e : false = true ∧ _ => Bool.noConfusion e.1)]
      | true =>
        rw [if_neg (show ¬ ((!true) = true) by decide), Option.bind_some]
        by_cases h20 : k = 20
        · rw [if_pos (decide_eq_true (show (k : Int) = 20 by omega)), ckI_pos (by omega) (by omega), if_neg (fun e => e.2 h20)]
        · rw [if_neg (dcF (show ¬ (k : Int) = 20 by omega)), lnO_pos (by simp only [List.length_cons, List.length_nil]; omega), if_pos (⟨rfl, h20⟩ : true = true ∧ k ≠ 20),
            hn _ (by simp only [List.length_append, List.length_cons, List.length_nil]; omega)]
theorem core_ParsePlan (g : XGeo) (s : List XVariable) (x : List UInt8) (h0 : bulkG g ≤ 1048576) (h1 : bulkVS s ≤ 1048576) (h2 : x.length ≤ 1048576) :
    ∃ r, sh_spec_ParsePlan g s x = some r ∧ sh_impl_ParsePlan g s x = some r ∧ bulkTS r.1 ≤ 1048576 := by
  refine ⟨if geoB g && schB s then plF g s 0 (splA 10 [] x) [] else ([], 0, false), ?_, ?_, ?_⟩
  · unfold sh_spec_ParsePlan
    rw [nInput_eq h1, Option.bind_some]
    cases h : geoB g && schB s with
    | false => rfl
    | true =>
      simp only [Bool.and_eq_true] at h
      have hsl := splA_len (sep := 10) x []
      simp only [Bool.not_true, Bool.false_eq_true, if_false, if_true]
      rw [l1Split_eq (n := 10) (sep := 10) rfl (by omega), Option.bind_some]
      exact specPlan h.2 h1 (by omega) fun w hw => by
        have := hsl.2.2 w hw; simp only [List.length_nil] at this; omega
  · unfold sh_impl_ParsePlan
    rw [isGeo_eq, Option.bind_some]
    cases hg : geoB g with
    | false => rfl
    | true =>
      rw [isSchema_eq, Option.bind_some]
      cases hs : schB s with
      | false => rfl
      | true =>
        simp only [Bool.not_true, Bool.false_eq_true, if_false, Bool.and_self, if_true]
        exact implPlan hg hs h2
  · split
    · have hb := plF_bulk (g := g) (s := s) (W := splA 10 [] x) (k := 0) (out := []) (by omega) (by simp) (by simp)
      have := sumL_bd (sz := bulkT) (b := 12) hb.2
      simp only [bulkTS]; omega
    · simp [bulkTS, sumL]
end AS
namespace AS
theorem law_ParsePlan (v0 : XGeo) (v1 : List XVariable) (v2 : List UInt8) (b0 : Bd.bd v0) (b1 : Bd.bd v1) (b2 : Bd.bd v2) : sh_laws_FnExactParsePlan v0 v1 v2 = some true := by
  unfold sh_laws_FnExactParsePlan
  by_cases h2 : v2.length ≤ 1048576
  · simp only [show ¬ ((1048576 : Int) < (v2.length : Int)) by omega, decide_false, Bool.false_eq_true, if_false]
    rw [szGeo_eq (by omega) (by omega) b0, Option.bind_some]
    by_cases h0 : ((bulkG v0 : Nat) : Int) ≤ 1048576
    · rw [left_pos h0]
      simp only [show ¬ ((1048576 : Int) - ((bulkG v0 : Nat) : Int) < 0) by omega, decide_false, Bool.false_eq_true, if_false]
      rw [szVariableS_eq (by omega) (by omega) b1, Option.bind_some]
      by_cases h1 : ((bulkVS v1 : Nat) : Int) ≤ 1048576 - ((bulkG v0 : Nat) : Int)
      · rw [left_pos h1]
        simp only [show ¬ (1048576 - ((bulkG v0 : Nat) : Int) - ((bulkVS v1 : Nat) : Int) < 0) by omega, decide_false, Bool.false_eq_true, if_false]
        obtain ⟨r, e1, e2, q0⟩ := core_ParsePlan v0 v1 v2 (by omega) (by omega) h2
        have q0' := q0
        have n1 : v1.length ≤ bulkVS v1 := Nat.le_add_right _ _
        have m1 := marksVS_le v1
        have p0 : (r.1).length ≤ bulkTS (r.1) := Nat.le_add_right _ _
        have o0 := marksTS_le (r.1)
        simp [e1, e2, toGeo_eq (g := v0) (by omega),
      eqGeo_eq (a := v0) (b := v0) (by omega),
      toVariableS_eq (s := v1) (by omega),
      eqVariableS_eq (a := v1) (b := v1) (by omega),
      markGeo_eq (g := v0) (n := 1) (by omega) (by omega),
      markVariableS_eq (l := v1) (n := 1 + ((bulkG v0 : Nat) : Int)) (by omega) (by omega) (by omega),
      show ¬ ((1 : Int) + ((bulkG v0 : Nat) : Int) + ((marksVS v1 : Nat) : Int) < 0) by omega,
      eqTableS_eq (a := r.1) (b := r.1) (by omega),
      markTableS_eq (l := r.1) (n := 1) (by omega) (by omega) (by omega),
      heldTableS_eq (l := r.1) (n := 1) (by omega) (by omega) (by omega),
      show ¬ ((1 : Int) + ((marksTS (r.1) : Nat) : Int) < 0) by omega]
      · rw [left_no h1]; simp
    · rw [left_no h0]; simp
  · simp [show ((1048576 : Int) < (v2.length : Int)) by omega]
end AS
