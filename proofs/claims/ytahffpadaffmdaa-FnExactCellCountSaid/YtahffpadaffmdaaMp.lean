/- Plain lemmas. No condition. -/
import Derived.Test.YtahffpadaffmdaaKc
import Derived.Test.YtahffpadaffmdaaMa
import Derived.Test.YtahffpadaffmdaaMaa
import Derived.Test.YtahffpadaffmdaaMad
import Derived.Test.YtahffpadaffmdaaMb
import Derived.Test.YtahffpadaffmdaaSda
import Derived.Test.YtahffpadaffmdaaSdb
import Derived.Test.YtahffpadaffmdaaSdd
import Derived.Test.YtahffpadaffmdaaSdf
import Derived.Test.YtahffpadaffmdaaSdh
import Derived.Test.YtahffpadaffmdaaSdj
set_option linter.unusedVariables false
set_option linter.unusedSimpArgs false
namespace AS
theorem left_nn {a : Int} {n : Nat} (h : 0 ≤ a) : (left a n < 0) = ¬ ((n : Int) ≤ a) := propext (left_neg h)
theorem sz_end {a : Int} {n : Nat} : (if (decide (left a n < (0 : Int))) = true then some (-1 : Int) else some (left a n)) = some (left a n) := by
  by_cases h : (n : Int) ≤ a
  · rw [left_pos h]; simp [show ¬ (a - (n : Int) < 0) by omega]
  · rw [left_no h]; rfl
theorem sz_next {a : Int} {m n : Nat} {K : Int → Option Int} (h0 : 0 ≤ a) (hK : (m : Int) ≤ a → K (a - m) = some (left (a - m) n)) : (if (decide (left a m < (0 : Int))) = true then some (-1 : Int) else K (left a m)) = some (left a (m + n)) := by
  by_cases h : (m : Int) ≤ a
  · rw [left_pos h, hK h, left_left h]
    simp only [show ¬ (a - (m : Int) < 0) by omega, decide_false, Bool.false_eq_true, if_false]
  · rw [left_no h, left_out h]; simp
theorem getO_set {R α : Type} {l : List α} {k : Nat} {x : α} {f : α → Option R} (h : k < l.length) : getO (l.set k x) (k : Int) f = f x := getO_some (by rw [List.getElem?_set_self h])
theorem mark_loop2 {α : Type} {mk : α → Int → α} {sz : α → Nat} {body : ((List α × Int × Int) → Option (List α × Int)) → (List α × Int × Int) → Option (List α × Int)} {l : List α} {n : Int} (B : Int) (hB : B ≤ 4611686018427387904) (hl : l.length ≤ 1099511627776) (h0 : 0 ≤ n) (h : n + (sumL sz l : Nat) ≤ B)
    (hb : ∀ nx (s : List α) (m : Int) (k : Nat) (x : α), k < s.length → s.length = l.length → s[k]? = some x → 0 ≤ m → m + sz x ≤ B → body nx (s, m, (k : Int)) = nx (s.set k (mk x m), m + sz x, (k : Int) + 1))
    (he : ∀ nx (s : List α) (m : Int), body nx (s, m, (s.length : Int)) = some (s, m)) :
    loopF body FUEL (l, n, (0 : Int)) = some (mkL mk sz l n, n + (sumL sz l : Nat)) := by
  have e0 : ((l, n, (0 : Int)) : List α × Int × Int) = (fun k : Nat => (mixL (mkL mk sz l n) l k, n + (sumL sz (l.take k) : Nat), (k : Int))) 0 := by simp [mixL_zero, sumL]
  rw [e0]
  refine (loop_up l.length (fun k : Nat => (mixL (mkL mk sz l n) l k, n + (sumL sz (l.take k) : Nat), (k : Int))) (fun _ => some (mkL mk sz l n, n + (sumL sz l : Nat))) (by omega) ?_ ?_)
  · intro next k hk hn
    have hlen := mkL_len mk sz l n
    have hm : k < (mkL mk sz l n).length := by rw [hlen]; exact hk
    have h1 := sumL_take_le sz l (k + 1)
    rw [sumL_take sz hk] at h1 hn
    have hmix := mixL_len hlen k
    rw [hb next _ _ k l[k] (by rw [hmix]; exact hk) hmix (mixL_get hlen hk) (by omega) (by omega)]
    rw [← mkL_get mk sz l n k hk, mixL_set hlen hm, ← hn]
    simp only [cast_succ, Int.add_assoc, Int.natCast_add]
  · intro next
    have hlen := mkL_len mk sz l n
    have := mixL_end hlen
    rw [hlen] at this
    rw [this]
    have h2 := he next (mkL mk sz l n) (n + (sumL sz (l.take l.length) : Nat))
    rw [hlen] at h2
    rw [h2]; simp
theorem held_loop2 {α : Type} {mk : α → Int → α} {sz : α → Nat} {body : ((Int × Int) → Option Int) → (Int × Int) → Option Int} {l : List α} {n : Int} (B : Int) (hB : B ≤ 4611686018427387904) (hl : l.length ≤ 1099511627776) (h0 : 0 ≤ n) (h : n + (sumL sz l : Nat) ≤ B)
    (hb : ∀ nx (m : Int) (k : Nat) (x : α), k < l.length → (mkL mk sz l n)[k]? = some (mk x m) → x ∈ l → 0 ≤ m → m + sz x ≤ B → body nx (m, (k : Int)) = nx (m + sz x, (k : Int) + 1))
    (he : ∀ nx (m : Int), body nx (m, (l.length : Int)) = some m) :
    loopF body FUEL (n, (0 : Int)) = some (n + (sumL sz l : Nat)) := by
  have e0 : ((n, (0 : Int)) : Int × Int) = (fun k : Nat => (n + (sumL sz (l.take k) : Nat), (k : Int))) 0 := by simp [sumL]
  rw [e0]
  refine (loop_up l.length (fun k : Nat => (n + (sumL sz (l.take k) : Nat), (k : Int))) (fun _ => some (n + (sumL sz l : Nat))) (by omega) ?_ ?_)
  · intro next k hk hn
    have hlen := mkL_len mk sz l n
    have hm : k < (mkL mk sz l n).length := by rw [hlen]; exact hk
    have h1 := sumL_take_le sz l (k + 1)
    rw [sumL_take sz hk] at h1 hn
    rw [hb next _ k l[k] hk (by rw [List.getElem?_eq_getElem hm, mkL_get mk sz l n k hk]) (List.getElem_mem hk) (by omega) (by omega)]
    rw [← hn]
    simp only [cast_succ, Int.add_assoc, Int.natCast_add]
  · intro next
    rw [he next]; simp

/-! ### Geographies -/
def bulkG (g : XGeo) : Nat := g.Parents.length
theorem szGeo_eq {g : XGeo} {a : Int} (h0 : 0 ≤ a) (h1 : a ≤ 1048576) (hb : Bd.bd g) : sh_laws_szGeo g a = some (left a (bulkG g)) := by
  unfold sh_laws_szGeo
  have hl : Bd.bd g.Parents := hb
  rw [szIntS_eq h0 h1 hl.1, Option.bind_some]
  exact sz_end
theorem toGeo_eq {g : XGeo} (h : bulkG g ≤ 1048576) : sh_laws_toGeo g = some g := by
  unfold sh_laws_toGeo; unfold bulkG at h
  rw [toIntS_eq h, Option.bind_some]
theorem eqGeo_eq {a b : XGeo} (h : bulkG a ≤ 1048576) : sh_laws_eqGeo a b = some (decide (a = b)) := by
  unfold sh_laws_eqGeo; unfold bulkG at h
  rw [eqIntS_eq (by omega), Option.bind_some]
  cases a; cases b; simp only [XGeo.mk.injEq]
  split <;> simp_all
def mkGeo (g : XGeo) (n : Int) : XGeo := ⟨mks n g.Parents.length⟩
theorem markGeo_eq {g : XGeo} {n : Int} (h0 : 0 ≤ n) (h : n + bulkG g ≤ 4611686018427387904) : sh_laws_markGeo g n = some (mkGeo g n, n + bulkG g) := by
  unfold sh_laws_markGeo; unfold bulkG at h ⊢
  rw [markIntS_eq h0 (by omega), Option.bind_some]; rfl

/-! ### Tables -/
def bulkT (t : XTable) : Nat := t.Vars.length + t.Where.length
theorem szTable_eq {t : XTable} {a : Int} (h0 : 0 ≤ a) (h1 : a ≤ 1048576) (hb : Bd.bd t) : sh_laws_szTable t a = some (left a (bulkT t)) := by
  unfold sh_laws_szTable
  obtain ⟨_, hv, hw, _⟩ := hb
  rw [szIntS_eq h0 h1 hv.1, Option.bind_some]
  refine sz_next (K := fun x => (sh_laws_szIntS t.Where x).bind fun x9 => if (decide (x9 < (0 : Int))) = true then some (-1 : Int) else some x9) h0 fun h => ?_
  rw [szIntS_eq (by omega) (by omega) hw.1, Option.bind_some]
  exact sz_end
theorem toTable_eq {t : XTable} (h : bulkT t ≤ 1048576) : sh_laws_toTable t = some t := by
  unfold sh_laws_toTable; unfold bulkT at h
  rw [toIntS_eq (by omega), Option.bind_some, toIntS_eq (by omega), Option.bind_some]
theorem eqTable_eq {a b : XTable} (h : bulkT a ≤ 1048576) : sh_laws_eqTable a b = some (decide (a = b)) := by
  unfold sh_laws_eqTable; unfold bulkT at h
  simp only [eqIntS_eq (a := a.Vars) (b := b.Vars) (by omega), eqIntS_eq (a := a.Where) (b := b.Where) (by omega), Option.bind_some]
  cases a; cases b; simp only [XTable.mk.injEq]
  rename_i l1 v1 w1 s1 l2 v2 w2 s2
  by_cases h1 : l1 = l2 <;> by_cases h2 : v1 = v2 <;> by_cases h3 : w1 = w2 <;> by_cases h4 : s1 = s2 <;> simp [h1, h2, h3, h4]
def mkTable (t : XTable) (n : Int) : XTable := ⟨t.Level, mks n t.Vars.length, mks (n + t.Vars.length) t.Where.length, t.Sum⟩
theorem markTable_eq {t : XTable} {n : Int} (h0 : 0 ≤ n) (h : n + bulkT t ≤ 4611686018427387904) : sh_laws_markTable t n = some (mkTable t n, n + bulkT t) := by
  unfold sh_laws_markTable; unfold bulkT at h ⊢
  rw [markIntS_eq h0 (by omega), Option.bind_some, markIntS_eq (by omega) (by omega), Option.bind_some]
  simp only [mkTable, Option.some.injEq, Prod.mk.injEq, true_and]; omega
theorem heldTable_eq {t : XTable} {n : Int} (h0 : 0 ≤ n) (h : n + bulkT t ≤ 4611686018427387904) : sh_laws_heldTable (mkTable t n) n = some (n + bulkT t) := by
  unfold sh_laws_heldTable; unfold bulkT at h ⊢
  simp only [mkTable]
  rw [heldIntS_eq h0 (by omega), Option.bind_some, heldIntS_eq (by omega) (by omega), Option.bind_some]
  simp [show ¬ (n + (t.Vars.length : Int) < 0) by omega, show ¬ (n + (t.Vars.length : Int) + (t.Where.length : Int) < 0) by omega]; omega
def bulkTS (l : List XTable) : Nat := l.length + sumL bulkT l
theorem szTableS_eq {l : List XTable} {a : Int} (h0 : 0 ≤ a) (h1 : a ≤ 1048576) (hb : Bd.bd l) : sh_laws_szTableS l a = some (left a (bulkTS l)) := by
  unfold sh_laws_szTableS
  exact sz_loop h0 h1 hb.1 fun x hx m hm hm2 => szTable_eq hm hm2 (hb.2 x hx)
theorem bulkT_mem {l : List XTable} {t : XTable} (h : t ∈ l) : bulkT t ≤ bulkTS l := by
  have := sumL_mem bulkT h; unfold bulkTS; omega
theorem toTableS_eq {l : List XTable} (h : bulkTS l ≤ 1048576) : sh_laws_toTableS l = some l := by
  unfold sh_laws_toTableS
  exact to_loop (by unfold bulkTS at h; omega) fun x hx => toTable_eq (by have := bulkT_mem hx; omega)
theorem eqTableS_eq {a b : List XTable} (h : bulkTS a ≤ 1048576) : sh_laws_eqTableS a b = some (decide (a = b)) := by
  unfold sh_laws_eqTableS
  exact eq_loop (by unfold bulkTS at h; omega) fun x hx y => eqTable_eq (by have := bulkT_mem hx; omega)
def mkET (t : XTable) (n : Int) : XTable := ⟨n, mks (n + 1) t.Vars.length, mks (n + 1 + t.Vars.length) t.Where.length, n + 1 + t.Vars.length + t.Where.length⟩
def szET (t : XTable) : Nat := bulkT t + 2
def marksTS (l : List XTable) : Nat := sumL szET l
theorem marksTS_le : ∀ (l : List XTable), marksTS l ≤ 2 * bulkTS l
  | [] => by simp [marksTS, sumL, bulkTS]
  | t :: l => by
    have := marksTS_le l
    simp only [marksTS, bulkTS, sumL_cons, List.length_cons, szET] at this ⊢
    omega
theorem markTableS_eq {l : List XTable} {n : Int} (hl : l.length ≤ 1099511627776) (h0 : 0 ≤ n) (h : n + marksTS l ≤ 4611686018427387904) : sh_laws_markTableS l n = some (mkL mkET szET l n, n + marksTS l) := by
  unfold sh_laws_markTableS
  refine mark_loop2 (mk := mkET) (sz := szET) 4611686018427387904 (by omega) hl h0 h ?_ ?_
  · intro nx s m k x hk hs hx hm hB
    unfold szET bulkT at hB
    simp only [lt_dec hk, if_true, Int.toNat_natCast]
    rw [getO_some hx, ckI_pos (by omega) (by omega), getO_set hk]
    simp only [List.set_set]
    rw [markIntS_eq (by omega) (by omega), Option.bind_some, getO_set hk]
    simp only
    rw [markIntS_eq (by omega) (by omega), Option.bind_some, getO_set hk]
    simp only
    rw [ckI_pos (by omega) (by omega), ckI_succ (by omega)]
    congr 1
    simp only [mkET, szET, bulkT, Prod.mk.injEq, and_true, true_and]
    omega
  · intro nx s m
    simp only [lt_self, Bool.false_eq_true, if_false]
/-! ### Records -/
def bulkR (r : XRecord) : Nat := r.Values.length
theorem szRecord_eq {r : XRecord} {a : Int} (h0 : 0 ≤ a) (h1 : a ≤ 1048576) (hb : Bd.bd r) : sh_laws_szRecord r a = some (left a (bulkR r)) := by
  unfold sh_laws_szRecord
  obtain ⟨_, _, hv⟩ := hb
  rw [szIntS_eq h0 h1 hv.1, Option.bind_some]
  exact sz_end
theorem toRecord_eq {r : XRecord} (h : bulkR r ≤ 1048576) : sh_laws_toRecord r = some r := by
  unfold sh_laws_toRecord; unfold bulkR at h
  rw [toIntS_eq h, Option.bind_some]
theorem eqRecord_eq {a b : XRecord} (h : bulkR a ≤ 1048576) : sh_laws_eqRecord a b = some (decide (a = b)) := by
  unfold sh_laws_eqRecord; unfold bulkR at h
  simp only [eqIntS_eq (a := a.Values) (b := b.Values) (by omega), Option.bind_some]
  cases a; cases b; simp only [XRecord.mk.injEq]
  rename_i l1 v1 w1 l2 v2 w2
  by_cases h1 : l1 = l2 <;> by_cases h2 : v1 = v2 <;> by_cases h3 : w1 = w2 <;> simp [h1, h2, h3]
def bulkRS (l : List XRecord) : Nat := l.length + sumL bulkR l
theorem szRecordS_eq {l : List XRecord} {a : Int} (h0 : 0 ≤ a) (h1 : a ≤ 1048576) (hb : Bd.bd l) : sh_laws_szRecordS l a = some (left a (bulkRS l)) := by
  unfold sh_laws_szRecordS
  exact sz_loop h0 h1 hb.1 fun x hx m hm hm2 => szRecord_eq hm hm2 (hb.2 x hx)
theorem bulkR_mem {l : List XRecord} {t : XRecord} (h : t ∈ l) : bulkR t ≤ bulkRS l := by
  have := sumL_mem bulkR h; unfold bulkRS; omega
theorem toRecordS_eq {l : List XRecord} (h : bulkRS l ≤ 1048576) : sh_laws_toRecordS l = some l := by
  unfold sh_laws_toRecordS
  exact to_loop (by unfold bulkRS at h; omega) fun x hx => toRecord_eq (by have := bulkR_mem hx; omega)
theorem eqRecordS_eq {a b : List XRecord} (h : bulkRS a ≤ 1048576) : sh_laws_eqRecordS a b = some (decide (a = b)) := by
  unfold sh_laws_eqRecordS
  exact eq_loop (by unfold bulkRS at h; omega) fun x hx y => eqRecord_eq (by have := bulkR_mem hx; omega)
def mkER (r : XRecord) (n : Int) : XRecord := ⟨n, n + 1, mks (n + 1 + 1) r.Values.length⟩
def szER (r : XRecord) : Nat := bulkR r + 2
def marksRS (l : List XRecord) : Nat := sumL szER l
theorem marksRS_le : ∀ (l : List XRecord), marksRS l ≤ 2 * bulkRS l
  | [] => by simp [marksRS, sumL, bulkRS]
  | t :: l => by
    have := marksRS_le l
    simp only [marksRS, bulkRS, sumL_cons, List.length_cons, szER] at this ⊢
    omega
/-! ### Variables: marks -/
theorem markText_some {n : Int} (h0 : 0 ≤ n) (h1 : n ≤ 1000000000) : ∃ r, sh_laws_markText n = some r := by
  unfold sh_laws_markText
  by_cases hn : n ≤ 0
  · exact ⟨[109, 48], by simp [hn]⟩
  · simp only [hn, decide_false, Bool.false_eq_true, if_false]
    suffices H : ∀ (k : Nat) (m : Int) (t : List UInt8), 0 ≤ m → m < k → m + t.length ≤ 1000000000 → ∃ r, loopF (fun (nx : (Int × (List UInt8)) → Option (List UInt8)) (s : (Int × (List UInt8))) =>
        (if (decide ((0 : Int) < s.1)) = true then
          ck ((10 : Int) ≠ 0) <| ckI ((48 : Int) + (s.1.tmod (10 : Int))) <| ckU ((48 : Int) + (s.1.tmod (10 : Int))) <|
          ck ([((48 : Int) + (s.1.tmod (10 : Int)))] = (bytesOf [((48 : Int) + (s.1.tmod (10 : Int)))]).map fun b => ((b.toNat : Nat) : Int)) <|
          lnO ((bytesOf [((48 : Int) + (s.1.tmod (10 : Int)))]).length + s.2.length) <| ck ((10 : Int) ≠ 0) <| ckI (s.1.tdiv (10 : Int)) <|
          nx ((s.1.tdiv (10 : Int)), ((bytesOf [((48 : Int) + (s.1.tmod (10 : Int)))]) ++ s.2))
        else lnO (([109] : List UInt8).length + s.2.length) <| some (([109] : List UInt8) ++ s.2))) k (m, t) = some r by
      have hF : (1000000001 : Nat) ≤ FUEL := by decide +kernel
      obtain ⟨d, hd⟩ := Nat.exists_eq_add_of_le hF
      have := H FUEL n [] h0 (by omega) (by simpa using h1)
      exact this
    intro k
    induction k with
    | zero => intro m t h0 h1; omega
    | succ k ih =>
      intro m t h0 h1 h2
      simp only [loopF]
      by_cases hm : 0 < m
      · simp only [hm, decide_true, if_true]
        have e1 : m.tmod 10 = m % 10 := Int.tmod_eq_emod_of_nonneg h0
        have e2 : m.tdiv 10 = m / 10 := Int.tdiv_eq_ediv_of_nonneg h0
        rw [e1, e2, ck_pos (by decide), ckI_pos (by omega) (by omega), ckU_pos (by omega) (by omega), ck_pos, lnO_pos (by simp [bytesOf]; omega), ck_pos (by decide), ckI_pos (by omega) (by omega)]
        · exact ih _ _ (by omega) (by omega) (by simp [bytesOf]; omega)
        · simp only [bytesOf, List.map_cons, List.map_nil, UInt8.toNat_ofNat', List.cons.injEq, and_true]
          omega
      · simp only [hm, decide_false, Bool.false_eq_true, if_false]
        rw [lnO_pos (by simp; omega)]
        exact ⟨_, rfl⟩
def mt (n : Int) : List UInt8 := (sh_laws_markText n).getD []
theorem markText_eq {n : Int} (h0 : 0 ≤ n) (h1 : n ≤ 1000000000) : sh_laws_markText n = some (mt n) := by
  obtain ⟨r, hr⟩ := markText_some h0 h1
  unfold mt; rw [hr]; rfl
def mkEV (v : XVariable) (n : Int) : XVariable := ⟨mt n, n + 1⟩
def marksVS (l : List XVariable) : Nat := sumL (fun _ => 2) l
theorem marksVS_le : ∀ (l : List XVariable), marksVS l ≤ 2 * l.length
  | [] => by simp [marksVS, sumL]
  | t :: l => by
    have := marksVS_le l
    simp only [marksVS, sumL_cons, List.length_cons] at this ⊢
    omega
theorem markVariableS_eq {l : List XVariable} {n : Int} (hl : l.length ≤ 1099511627776) (h0 : 0 ≤ n) (h : n + marksVS l ≤ 1000000000) : sh_laws_markVariableS l n = some (mkL mkEV (fun _ => 2) l n, n + marksVS l) := by
  unfold sh_laws_markVariableS
  refine mark_loop2 (mk := mkEV) (sz := fun _ => 2) 1000000000 (by omega) hl h0 h ?_ ?_
  · intro nx s m k x hk hs hx hm hB
    simp only [lt_dec hk, if_true, Int.toNat_natCast]
    rw [markText_eq hm (by omega), Option.bind_some, getO_some hx, ckI_pos (by omega) (by omega), getO_set hk]
    simp only [List.set_set]
    rw [ckI_pos (by omega) (by omega), ckI_succ (by omega)]
    congr 1
    simp only [mkEV, Prod.mk.injEq, and_true, true_and]
    omega
  · intro nx s m
    simp only [lt_self, Bool.false_eq_true, if_false]
end AS

