/- Plain lemmas, and the law. No condition. -/
import Derived.Test.YtiohllblkcjafaaQJoinTablesS
import Derived.Test.YtiohllblkcjafaaQJoinTablesM0
set_option linter.unusedVariables false
set_option linter.unusedSimpArgs false
namespace AS
theorem set_same {α : Type} {l : List α} {k : Nat} {x : α} (h : l[k]? = some x) : l.set k x = l := by
  obtain ⟨h1, rfl⟩ := List.getElem?_eq_some_iff.1 h
  exact List.set_getElem_self _
theorem bind_to {α R : Type} {o : Option α} {x : α} {f : α → Option R} {X : Option R} (h : o = some x) (k : f x = X) : o.bind f = X := by rw [h]; exact k
/-! ### Ordered lists -/
def putL : List Int → Int → List Int
  | [], x => [x]
  | y :: l, x => if y < x then y :: putL l x else if y = x then y :: l else x :: y :: l
theorem putL_len : ∀ (l : List Int) (x : Int), (putL l x).length ≤ l.length + 1
  | [], _ => by simp [putL]
  | y :: l, x => by
    have := putL_len l x
    simp only [putL]
    split
    · simp; omega
    · split <;> simp
theorem putL_mem : ∀ {l : List Int} {x y : Int}, y ∈ putL l x ↔ y = x ∨ y ∈ l
  | [], x, y => by simp [putL]
  | z :: l, x, y => by
    simp only [putL]
    split
    · simp only [List.mem_cons, putL_mem (l := l)]
      constructor
      · rintro (h | h | h)
        · exact .inr (.inl h)
        · exact .inl h
        · exact .inr (.inr h)
      · rintro (h | h | h)
        · exact .inr (.inl h)
        · exact .inl h
        · exact .inr (.inr h)
    · split
      · rename_i h; subst h
        simp only [List.mem_cons]
        constructor
        · exact .inr
        · rintro (h | h)
          · exact .inl h
          · exact h
      · simp only [List.mem_cons]
theorem putL_rise : ∀ {l : List Int} {x : Int}, l.Pairwise (· < ·) → (putL l x).Pairwise (· < ·)
  | [], _, _ => by simp [putL]
  | y :: l, x, h => by
    have h1 := List.pairwise_cons.1 h
    simp only [putL]
    split
    · rename_i hlt
      refine List.pairwise_cons.2 ⟨fun z hz => ?_, putL_rise h1.2⟩
      rcases putL_mem.1 hz with rfl | hz
      · exact hlt
      · exact h1.1 z hz
    · split
      · exact h
      · refine List.pairwise_cons.2 ⟨fun z hz => ?_, h⟩
        rcases List.mem_cons.1 hz with rfl | hz
        · omega
        · have := h1.1 z hz; omega
theorem putL_split (l : List Int) (x : Int) : ∃ k, k ≤ l.length ∧ (∀ j (hj : j < k) (hl : j < l.length), l[j] < x) ∧ (∀ (hk : k < l.length), ¬ l[k] < x) ∧
    putL l x = (if ∃ h : k < l.length, l[k] = x then l else l.take k ++ [x] ++ l.drop k) := by
  induction l with
  | nil => exact ⟨0, Nat.le_refl _, fun j hj => absurd hj (Nat.not_lt_zero _), fun h => absurd h (Nat.not_lt_zero _), by simp [putL]⟩
  | cons y l ih =>
    by_cases h : y < x
    · obtain ⟨k, h1, h2, h3, h4⟩ := ih
      refine ⟨k + 1, by simpa using h1, fun j hj hl => ?_, fun hk => ?_, ?_⟩
      · cases j with
        | zero => exact h
        | succ j => exact h2 j (by omega) (by simpa using hl)
      · simpa using h3 (by simpa using hk)
      · simp only [putL, h, if_true, h4]
        by_cases hc : ∃ h : k < l.length, l[k] = x
        · have hc' : ∃ h : k + 1 < (y :: l).length, (y :: l)[k + 1] = x := ⟨by simpa using hc.1, by simpa using hc.2⟩
          rw [if_pos hc, if_pos hc']
        · have hc' : ¬ ∃ h : k + 1 < (y :: l).length, (y :: l)[k + 1] = x := fun ⟨a, b⟩ => hc ⟨by simpa using a, by simpa using b⟩
          rw [if_neg hc, if_neg hc']; simp
    · refine ⟨0, Nat.zero_le _, fun j hj => absurd hj (Nat.not_lt_zero _), fun _ => h, ?_⟩
      simp only [putL, h, if_false]
      by_cases he : y = x
      · simp [he]
      · simp [he]
theorem l1Put_eq {l : List Int} {x : Int} (hl : l.length ≤ 1048576) : sh_spec_l1Put l x = some (putL l x) := by
  unfold sh_spec_l1Put
  obtain ⟨k, h1, h2, h3, h4⟩ := putL_split l x
  rw [loopF_eq (I := fun s : Int => ∃ j : Nat, s = (j : Int) ∧ j ≤ k) (mu := fun s => (k - s.toNat)) (F := fun _ => some (k : Int)) (by
    rintro s next ⟨j, rfl, hj⟩ hn
    by_cases hjl : j < l.length
    · simp only [lt_dec hjl, if_true]
      rw [getO_nat hjl]
      by_cases hjk : j < k
      · have := h2 j hjk hjl
        simp only [this, decide_true, if_true]
        rw [ckI_succ (by omega)]
        exact hn _ ⟨j + 1, by simp, by omega⟩ (by simp; omega)
      · obtain rfl : j = k := by omega
        have := h3 hjl
        simp only [this, decide_false, Bool.false_eq_true, if_false]
    · obtain rfl : j = k := by omega
      have : j = l.length := by omega
      subst this
      simp only [lt_self, Bool.false_eq_true, if_false]) FUEL 0 ⟨0, rfl, Nat.zero_le _⟩ (FUEL_big (by simp; omega)), Option.bind_some]
  refine jn_eq (r := some (l.take k ++ [x] ++ l.drop k)) ?_ ?_
  · rw [ck_pos ⟨by omega, by omega, by omega⟩, lnO_pos (by simp; omega), lnO_pos (by simp; omega), ck_pos ⟨by omega, by omega, Nat.le_refl _⟩, lnO_pos (by simp; omega)]
    simp
  · intro af haf
    by_cases hk : k < l.length
    · simp only [lt_dec hk, if_true]
      rw [getO_nat hk]
      by_cases he : l[k] = x
      · have e4 : putL l x = l := by rw [h4, if_pos ⟨hk, he⟩]
        rw [e4]; simp [he]
      · have hc : ¬ ∃ h : k < l.length, l[k] = x := fun ⟨a, b⟩ => he b
        rw [h4, if_neg hc]
        simp only [he, decide_false, Bool.false_eq_true, if_false]; exact haf
    · have hc : ¬ ∃ h : k < l.length, l[k] = x := fun ⟨a, b⟩ => hk a
      rw [h4, if_neg hc]
      simp only [show decide ((k : Int) < (l.length : Int)) = false by simp; omega, Bool.false_eq_true, if_false]; exact haf
theorem rise_ext : ∀ {a b : List Int}, a.Pairwise (· < ·) → b.Pairwise (· < ·) → (∀ x, x ∈ a ↔ x ∈ b) → a = b
  | [], [], _, _, _ => rfl
  | [], y :: b, _, _, h => by have := (h y).2 List.mem_cons_self; cases this
  | x :: a, [], _, _, h => by have := (h x).1 List.mem_cons_self; cases this
  | x :: a, y :: b, ha, hb, h => by
    have a1 := List.pairwise_cons.1 ha
    have b1 := List.pairwise_cons.1 hb
    have hxy : x = y := by
      have h1 := (h x).1 List.mem_cons_self
      have h2 := (h y).2 List.mem_cons_self
      rcases List.mem_cons.1 h1 with e | h1
      · exact e
      · rcases List.mem_cons.1 h2 with e | h2
        · exact e.symm
        · have := a1.1 y h2; have := b1.1 x h1; omega
    subst hxy
    congr 1
    refine rise_ext a1.2 b1.2 fun z => ?_
    have hz := h z
    simp only [List.mem_cons] at hz
    constructor
    · intro hza
      have := a1.1 z hza
      rcases hz.1 (.inr hza) with e | e
      · omega
      · exact e
    · intro hzb
      have := b1.1 z hzb
      rcases hz.2 (.inr hzb) with e | e
      · omega
      · exact e
/-! ### The join by the reference -/
def putA (V : List Int) (xs : List Int) : List Int := xs.foldl putL V
theorem putA_mem : ∀ {xs V : List Int} {y : Int}, y ∈ putA V xs ↔ y ∈ V ∨ y ∈ xs
  | [], V, y => by simp [putA]
  | x :: xs, V, y => by
    show y ∈ putA (putL V x) xs ↔ _
    rw [putA_mem, putL_mem, List.mem_cons]
    constructor
    · rintro ((h | h) | h)
      · exact .inr (.inl h)
      · exact .inl h
      · exact .inr (.inr h)
    · rintro (h | h | h)
      · exact .inl (.inr h)
      · exact .inl (.inl h)
      · exact .inr h
theorem putA_rise : ∀ {xs V : List Int}, V.Pairwise (· < ·) → (putA V xs).Pairwise (· < ·)
  | [], V, h => h
  | x :: xs, V, h => putA_rise (V := putL V x) (putL_rise h)
theorem putA_len : ∀ (xs V : List Int), (putA V xs).length ≤ V.length + xs.length
  | [], V => Nat.le_refl _
  | x :: xs, V => by
    have h1 := putA_len xs (putL V x)
    have h2 := putL_len V x
    show (putA (putL V x) xs).length ≤ _
    simp only [List.length_cons]; omega
def orC (s : List XVariable) (a b : XTable) (k : Nat) : Int := (((setC s a k).toNat ||| (setC s b k).toNat : Nat) : Int)
def putD (s : List XVariable) (a b : XTable) : Nat → List Int → List Int
  | 0, V => V
  | n + 1, V => if setC s a n ≠ setC s b n then putL (putD s a b n V) (n : Int) else putD s a b n V
theorem putD_mem {s : List XVariable} {a b : XTable} {V : List Int} {y : Int} : ∀ {n : Nat}, y ∈ putD s a b n V ↔ y ∈ V ∨ ∃ k, k < n ∧ y = (k : Int) ∧ setC s a k ≠ setC s b k
  | 0 => by simp [putD]
  | n + 1 => by
    simp only [putD]
    split
    · rename_i h
      rw [putL_mem, putD_mem (n := n)]
      constructor
      · rintro (rfl | h1 | ⟨k, h1, h2, h3⟩)
        · exact .inr ⟨n, by omega, rfl, h⟩
        · exact .inl h1
        · exact .inr ⟨k, by omega, h2, h3⟩
      · rintro (h1 | ⟨k, h1, h2, h3⟩)
        · exact .inr (.inl h1)
        · by_cases hk : k = n
          · subst hk; exact .inl h2
          · exact .inr (.inr ⟨k, by omega, h2, h3⟩)
    · rename_i h
      rw [putD_mem (n := n)]
      constructor
      · rintro (h1 | ⟨k, h1, h2, h3⟩)
        · exact .inl h1
        · exact .inr ⟨k, by omega, h2, h3⟩
      · rintro (h1 | ⟨k, h1, h2, h3⟩)
        · exact .inl h1
        · by_cases hk : k = n
          · subst hk; exact absurd h3 h
          · exact .inr ⟨k, by omega, h2, h3⟩
theorem putD_rise {s : List XVariable} {a b : XTable} {V : List Int} (h : V.Pairwise (· < ·)) : ∀ {n : Nat}, (putD s a b n V).Pairwise (· < ·)
  | 0 => h
  | n + 1 => by
    simp only [putD]
    split
    · exact putL_rise (putD_rise h)
    · exact putD_rise h
theorem putD_len {s : List XVariable} {a b : XTable} {V : List Int} : ∀ (n : Nat), (putD s a b n V).length ≤ V.length + n
  | 0 => Nat.le_refl _
  | n + 1 => by
    have h1 := putD_len (s := s) (a := a) (b := b) (V := V) n
    simp only [putD]
    split
    · have := putL_len (putD s a b n V) (n : Int); omega
    · omega
def orL (s : List XVariable) (a b : XTable) (n : Nat) : List Int := (List.range n).map (orC s a b)
theorem orL_succ (s : List XVariable) (a b : XTable) (n : Nat) : orL s a b (n + 1) = orL s a b n ++ [orC s a b n] := by
  simp [orL, List.range_succ]
def put2 (V : List Int) (x : Int) : List Int := if 0 ≤ x then putL V x else V
def jV0 (a b : XTable) : List Int := putA [] (a.Vars ++ b.Vars)
def jV1 (a b : XTable) : List Int := if a.Sum ≠ b.Sum then put2 (put2 (jV0 a b) a.Sum) b.Sum else jV0 a b
def jSum (a b : XTable) : Int := if a.Sum ≠ b.Sum then -1 else a.Sum
def joinT (s : List XVariable) (a b : XTable) : XTable := ⟨max a.Level b.Level, putD s a b s.length (jV1 a b), orL s a b s.length, jSum a b⟩
theorem put2_len (V : List Int) (x : Int) : (put2 V x).length ≤ V.length + 1 := by
  unfold put2
  split
  · exact putL_len V x
  · omega
theorem or_full {s : List XVariable} {a b : XTable} (hs : schB s = true) (ha : whB s a.Where = true) (hb : whB s b.Where = true) {k : Nat} (hk : k < s.length) : 0 ≤ orC s a b k ∧ orC s a b k ≤ full s[k] := by
  have h1 := setC_bd hs ha hk
  have h2 := setC_bd hs hb hk
  refine ⟨Int.natCast_nonneg _, ?_⟩
  have hp := pow_bd (schB_lev hs (List.getElem_mem hk))
  have hpow : ((2 ^ s[k].Levels.toNat : Nat) : Int) = (2 : Int) ^ s[k].Levels.toNat := by rw [Int.natCast_pow]; rfl
  unfold full at h1 h2 ⊢
  have := Nat.or_lt_two_pow (n := s[k].Levels.toNat) (x := (setC s a k).toNat) (y := (setC s b k).toNat) (by omega) (by omega)
  unfold orC
  omega
theorem joinT_wh {s : List XVariable} {a b : XTable} (hs : schB s = true) (ha : whB s a.Where = true) (hb : whB s b.Where = true) : whB s (joinT s a b).Where = true := by
  simp only [whB, joinT, Bool.and_eq_true, decide_eq_true_eq, Bool.not_eq_true']
  refine ⟨by simp [orL], ?_⟩
  cases hc : anyF (fun k x => !(decide (0 ≤ x) && decide (x ≤ full (s.getD k default)))) (orL s a b s.length) 0 with
  | false => rfl
  | true =>
    obtain ⟨j, x, h1, h2⟩ := anyF_iff.1 hc
    have hj : j < s.length := by have := (List.getElem?_eq_some_iff.1 h1).1; simpa [orL] using this
    have hx : x = orC s a b j := by
      simp only [orL, List.getElem?_map, List.getElem?_range hj, Option.map_some, Option.some.injEq] at h1; exact h1.symm
    have := or_full hs ha hb hj
    simp only [Nat.zero_add, getD_get hj, hx] at h2
    simp only [Bool.not_eq_true', Bool.and_eq_false_iff, decide_eq_false_iff_not] at h2
    omega
theorem l1Most_eq (x y : Int) : sh_spec_l1Most x y = some (max x y) := by
  unfold sh_spec_l1Most
  by_cases h : y < x
  · simp [h]; omega
  · simp [h]; omega
theorem put2_mem {V : List Int} {x y : Int} : y ∈ put2 V x ↔ y ∈ V ∨ (0 ≤ x ∧ y = x) := by
  unfold put2
  split
  · rename_i h
    rw [putL_mem]
    constructor
    · rintro (e | e)
      · exact .inr ⟨h, e⟩
      · exact .inl e
    · rintro (e | ⟨_, e⟩)
      · exact .inr e
      · exact .inl e
  · rename_i h
    exact ⟨.inl, fun q => q.resolve_right fun ⟨a, _⟩ => h a⟩
theorem put2_rise {V : List Int} {x : Int} (h : V.Pairwise (· < ·)) : (put2 V x).Pairwise (· < ·) := by
  unfold put2
  split
  · exact putL_rise h
  · exact h
theorem jV0_len {a b : XTable} : (jV0 a b).length ≤ a.Vars.length + b.Vars.length := by
  have := putA_len (a.Vars ++ b.Vars) []
  simpa [jV0] using this
theorem jV1_len {a b : XTable} : (jV1 a b).length ≤ a.Vars.length + b.Vars.length + 2 := by
  have := jV0_len (a := a) (b := b)
  unfold jV1
  split
  · have h1 := put2_len (jV0 a b) a.Sum
    have h2 := put2_len (put2 (jV0 a b) a.Sum) b.Sum
    omega
  · omega
theorem jV1_rise {a b : XTable} : (jV1 a b).Pairwise (· < ·) := by
  have h0 : (jV0 a b).Pairwise (· < ·) := putA_rise .nil
  unfold jV1
  split
  · exact put2_rise (put2_rise h0)
  · exact h0
theorem jV1_mem {a b : XTable} {y : Int} : y ∈ jV1 a b ↔ y ∈ a.Vars ∨ y ∈ b.Vars ∨ (a.Sum ≠ b.Sum ∧ 0 ≤ y ∧ (y = a.Sum ∨ y = b.Sum)) := by
  have h0 : y ∈ jV0 a b ↔ y ∈ a.Vars ∨ y ∈ b.Vars := by
    unfold jV0; rw [putA_mem]; simp
  unfold jV1
  split
  · rename_i h
    rw [put2_mem, put2_mem, h0]
    constructor
    · rintro (((q | q) | ⟨q1, q2⟩) | ⟨q1, q2⟩)
      · exact .inl q
      · exact .inr (.inl q)
      · exact .inr (.inr ⟨h, by omega, .inl q2⟩)
      · exact .inr (.inr ⟨h, by omega, .inr q2⟩)
    · rintro (q | q | ⟨_, q1, q2 | q2⟩)
      · exact .inl (.inl (.inl q))
      · exact .inl (.inl (.inr q))
      · exact .inl (.inr ⟨by omega, q2⟩)
      · exact .inr ⟨by omega, q2⟩
  · rename_i h
    rw [h0]
    constructor
    · rintro (q | q)
      · exact .inl q
      · exact .inr (.inl q)
    · rintro (q | q | ⟨q, _⟩)
      · exact .inl q
      · exact .inr q
      · exact absurd q h
theorem foldV (xs : List Int) : ∀ (k : Nat) (T : XTable), foldF (fun _ x (T : XTable) => (⟨T.Level, putL T.Vars x, T.Where, T.Sum⟩ : XTable)) xs k T = ⟨T.Level, putA T.Vars xs, T.Where, T.Sum⟩ := by
  induction xs with
  | nil => intro k T; rfl
  | cons x xs ih => intro k T; simp only [foldF, ih]; rfl
theorem lJoin_eq {g : XGeo} {s : List XVariable} {a b : XTable} (ta : Tab g s a) (tb : Tab g s b) : sh_spec_lJoin g s a b = some (nrmT s (joinT s a b)) := by
  unfold sh_spec_lJoin
  have la := ta.p.len
  have lb := tb.p.len
  have ls := schB_len ta.sch
  rw [l1Most_eq, Option.bind_some, l1Own_eq (by omega), Option.bind_some, lnO_pos (by omega), lmO_pos (by simp; omega)]
  refine (range_fold (I := fun k T => T.Vars.length ≤ k) (f := fun _ x (T : XTable) => (⟨T.Level, putL T.Vars x, T.Where, T.Sum⟩ : XTable)) (Nat.le_refl _) ?_ ?_).trans ?_
  · intro x k T hx hI
    have := putL_len T.Vars x
    simp only; omega
  · intro x k T next hx hI
    have hk := (List.getElem?_eq_some_iff.1 hx).1
    simp only [List.length_append] at hk
    rw [l1Put_eq (by omega), Option.bind_some]
  · rw [foldV]
    have l0 := jV0_len (a := a) (b := b)
    have l1 := jV1_len (a := a) (b := b)
    have e0 : putA [] (a.Vars ++ b.Vars) = jV0 a b := rfl
    simp only [e0]
    refine bind_to (x := (⟨max a.Level b.Level, jV1 a b, [], jSum a b⟩ : XTable)) ?_ ?_
    · unfold jV1 jSum
      by_cases hS : a.Sum = b.Sum
      · simp [hS]
      · have p1 := put2_len (jV0 a b) a.Sum
        simp only [hS, ne_eq, not_false_eq_true, decide_true, if_true, rangeF]
        unfold put2 at p1 ⊢
        by_cases ha : 0 ≤ a.Sum <;> by_cases hb : 0 ≤ b.Sum
        · simp only [ha, hb, decide_true, if_true] at p1 ⊢
          rw [l1Put_eq (by omega), Option.bind_some, l1Put_eq (by omega), Option.bind_some]
        · simp only [ha, hb, decide_true, decide_false, Bool.false_eq_true, if_true, if_false] at p1 ⊢
          rw [l1Put_eq (by omega), Option.bind_some]
        · simp only [ha, hb, decide_true, decide_false, Bool.false_eq_true, if_true, if_false] at p1 ⊢
          rw [l1Put_eq (by omega), Option.bind_some]
        · simp only [ha, hb, decide_false, Bool.false_eq_true, if_false]
    · refine range_mem (I := fun k T => T = (⟨max a.Level b.Level, putD s a b k (jV1 a b), orL s a b k, jSum a b⟩ : XTable)) (G := fun _ _ _ => some (nrmT s (joinT s a b))) ?_ ?_ _ rfl
      · intro k T hT hk
        subst hT
        have e : (⟨max a.Level b.Level, putD s a b k (jV1 a b), orL s a b k, jSum a b⟩ : XTable) = joinT s a b := by rw [hk]; rfl
        have hd := putD_len (s := s) (a := a) (b := b) (V := jV1 a b) s.length
        rw [e, nNormal_eq ta.sch (joinT_wh ta.sch ta.w tb.w) (by simp only [bulkT, joinT, orL, List.length_map, List.length_range]; omega), Option.bind_some]
      · intro v l' k T next hx _ hT hn
        subst hT
        have hk := (List.getElem?_eq_some_iff.1 hx).1
        have b1 := setC_bd ta.sch ta.w hk
        have b2 := setC_bd tb.sch tb.w hk
        have hd := putD_len (s := s) (a := a) (b := b) (V := jV1 a b) k
        rw [lSet_eq ta.sch ta.w hk, Option.bind_some, lSet_eq tb.sch tb.w hk, Option.bind_some]
        have hor : (orL s a b k).length = k := by simp [orL]
        have hstep : (⟨max a.Level b.Level, putD s a b (k + 1) (jV1 a b), orL s a b (k + 1), jSum a b⟩ : XTable) = ⟨max a.Level b.Level, if setC s a k ≠ setC s b k then putL (putD s a b k (jV1 a b)) (k : Int) else putD s a b k (jV1 a b), orL s a b k ++ [orC s a b k], jSum a b⟩ := by
          rw [orL_succ]; rfl
        by_cases he : setC s a k = setC s b k
        · simp only [he, ne_eq, not_true_eq_false, decide_false, Bool.false_eq_true, if_false, Option.bind_some] at hstep ⊢
          rw [ck_pos (by omega), ckK_i64 (by omega) (by omega), ck_pos (by omega), ckK_i64 (by omega) (by omega), lnO_pos (by simp [hor]; omega)]
          refine hn _ ?_
          rw [hstep]
          simp only [orC, he]
        · simp only [he, ne_eq, not_false_eq_true, decide_true, if_true, Option.bind_some] at hstep ⊢
          rw [l1Put_eq (by omega)]
          simp only [Option.bind_some]
          rw [ck_pos (by omega), ckK_i64 (by omega) (by omega), ck_pos (by omega), ckK_i64 (by omega) (by omega), lnO_pos (by simp [hor]; omega)]
          refine hn _ ?_
          rw [hstep]
          rfl
/-! ### The join by the program -/
def condJ (s : List XVariable) (a b : XTable) (k : Nat) : Bool :=
  hasB a.Vars (k : Int) || (hasB b.Vars (k : Int) || (decide (setC s a k ≠ setC s b k) || (decide (a.Sum ≠ b.Sum) && (decide (a.Sum = (k : Int)) || decide (b.Sum = (k : Int))))))
def impV (c : Nat → Bool) : Nat → List Int
  | 0 => []
  | n + 1 => if c n = true then impV c n ++ [(n : Int)] else impV c n
theorem impV_mem {c : Nat → Bool} {y : Int} : ∀ {n : Nat}, y ∈ impV c n ↔ ∃ k, k < n ∧ y = (k : Int) ∧ c k = true
  | 0 => by simp [impV]
  | n + 1 => by
    simp only [impV]
    split
    · rename_i h
      rw [List.mem_append, impV_mem (n := n), List.mem_singleton]
      constructor
      · rintro (⟨k, h1, h2, h3⟩ | rfl)
        · exact ⟨k, by omega, h2, h3⟩
        · exact ⟨n, by omega, rfl, h⟩
      · rintro ⟨k, h1, h2, h3⟩
        by_cases hk : k = n
        · subst hk; exact .inr h2
        · exact .inl ⟨k, by omega, h2, h3⟩
    · rename_i h
      rw [impV_mem (n := n)]
      constructor
      · rintro ⟨k, h1, h2, h3⟩; exact ⟨k, by omega, h2, h3⟩
      · rintro ⟨k, h1, h2, h3⟩
        by_cases hk : k = n
        · subst hk; exact absurd h3 h
        · exact ⟨k, by omega, h2, h3⟩
theorem impV_rise {c : Nat → Bool} : ∀ {n : Nat}, (impV c n).Pairwise (· < ·)
  | 0 => .nil
  | n + 1 => by
    simp only [impV]
    split
    · rw [List.pairwise_append]
      refine ⟨impV_rise, by simp, fun x hx y hy => ?_⟩
      obtain ⟨k, h1, h2, _⟩ := impV_mem.1 hx
      have := List.mem_singleton.1 hy
      omega
    · exact impV_rise
theorem impV_len (c : Nat → Bool) : ∀ (n : Nat), (impV c n).length ≤ n
  | 0 => Nat.le_refl _
  | n + 1 => by
    have := impV_len c n
    simp only [impV]
    split
    · simp; omega
    · omega
theorem join_vars {g : XGeo} {s : List XVariable} {a b : XTable} (ta : Tab g s a) (tb : Tab g s b) : impV (condJ s a b) s.length = putD s a b s.length (jV1 a b) := by
  refine rise_ext impV_rise (putD_rise jV1_rise) fun y => ?_
  rw [impV_mem, putD_mem, jV1_mem]
  simp only [condJ, Bool.or_eq_true, Bool.and_eq_true, decide_eq_true_eq, hasB_iff]
  constructor
  · rintro ⟨k, h1, rfl, h | h | h | ⟨h, h2⟩⟩
    · exact .inl (.inl h)
    · exact .inl (.inr (.inl h))
    · exact .inr ⟨k, h1, rfl, h⟩
    · exact .inl (.inr (.inr ⟨h, by omega, by omega⟩))
  · rintro ((h | h | ⟨h, h0, h2⟩) | ⟨k, h1, h2, h3⟩)
    · have := ta.p.rng y h
      exact ⟨y.toNat, by omega, by omega, .inl (by rw [show ((y.toNat : Nat) : Int) = y by omega]; exact h)⟩
    · have := tb.p.rng y h
      exact ⟨y.toNat, by omega, by omega, .inr (.inl (by rw [show ((y.toNat : Nat) : Int) = y by omega]; exact h))⟩
    · have h3 := ta.s1
      have h4 := tb.s1
      exact ⟨y.toNat, by omega, by omega, .inr (.inr (.inr ⟨h, by omega⟩))⟩
    · exact ⟨k, h1, h2, .inr (.inr (.inl h3))⟩
theorem nrm_at {s : List XVariable} {a b : XTable} {k : Nat} (hk : k < s.length) : (nrmL s (orL s a b s.length) 0)[k]'(by rw [nrmL_len]; simpa [orL] using hk) = (if orC s a b k = full s[k] then 0 else orC s a b k) := by
  rw [nrmL_get s (orL s a b s.length) 0 k (by simpa [orL] using hk), Nat.zero_add, getD_get hk]
  simp only [orL, List.getElem_map, List.getElem_range]
theorem core_JoinTables (g : XGeo) (s : List XVariable) (a b : XTable) (h0 : bulkG g ≤ 1048576) (h1 : bulkVS s ≤ 1048576) (h2 : bulkT a ≤ 1048576) (h3 : bulkT b ≤ 1048576) : ∃ x, sh_spec_JoinTables g s a b = some x ∧ sh_impl_JoinTables g s a b = some x ∧ bulkT x.1 ≤ 1048576 := by
  have hbulk : ∀ {g : XGeo} {s : List XVariable} {a b : XTable}, Tab g s a → Tab g s b → bulkT (nrmT s (joinT s a b)) ≤ 1048576 := by
    intro g s a b ta tb
    have la := ta.p.len
    have lb := tb.p.len
    have ls := schB_len ta.sch
    have l1 := jV1_len (a := a) (b := b)
    have hd := putD_len (s := s) (a := a) (b := b) (V := jV1 a b) s.length
    simp only [bulkT, nrmT, joinT, nrmL_len, orL, List.length_map, List.length_range]; omega
  refine ⟨if (allB g s a && allB g s b) && (allB g s (nrmT s (joinT s a b)) && (folB g s a (nrmT s (joinT s a b)) && folB g s b (nrmT s (joinT s a b)))) then (nrmT s (joinT s a b), true) else (⟨0, [], [], 0⟩, false), ?_, ?_, ?_⟩
  · unfold sh_spec_JoinTables
    rw [uGood_eq h1 h2, Option.bind_some]
    cases ha : allB g s a with
    | false => rfl
    | true =>
      rw [uGood_eq h1 h3, Option.bind_some]
      cases hb : allB g s b with
      | false => rfl
      | true =>
        have ta := allB_tab ha
        have tb := allB_tab hb
        simp only [Bool.not_true, Bool.false_eq_true, if_false, Bool.and_self, Bool.true_and]
        rw [lJoin_eq ta tb, Option.bind_some, uGood_eq h1 (hbulk ta tb), Option.bind_some]
        cases hc : allB g s (nrmT s (joinT s a b)) with
        | false => rfl
        | true =>
          have tc := allB_tab hc
          simp only [Bool.not_true, Bool.false_eq_true, if_false, Bool.true_and]
          rw [lFollows_eq ta tc, Option.bind_some]
          cases folB g s a (nrmT s (joinT s a b)) with
          | false => rfl
          | true =>
            simp only [Bool.not_true, Bool.false_eq_true, if_false, Bool.true_and]
            rw [lFollows_eq tb tc, Option.bind_some]
            cases folB g s b (nrmT s (joinT s a b)) <;> rfl
  · unfold sh_impl_JoinTables
    rw [areTabled_eq, Option.bind_some]
    cases ha : allB g s a with
    | false => rfl
    | true =>
      have ta := allB_tab ha
      rw [isTable_eq ta.geo ta.sch, Option.bind_some]
      have e : ∀ t, allB g s t = tabB g s t := fun t => by simp [allB, ta.geo, ta.sch]
      rw [← e]
      cases hb : allB g s b with
      | false => rfl
      | true =>
        have tb := allB_tab hb
        have ls := schB_len ta.sch
        simp only [Bool.not_true, Bool.false_eq_true, if_false, Bool.and_self, Bool.true_and]
        rw [lmO_pos (by omega), mkO_pos (by omega) (by omega), Int.toNat_natCast]
        refine bind_to (x := (⟨max a.Level b.Level, [], List.replicate s.length (0 : Int), jSum a b⟩ : XTable)) ?_ ?_
        · unfold jSum
          by_cases hS : a.Sum = b.Sum <;> simp [hS]
        · have hz : (nrmL s (orL s a b s.length) 0).length = (List.replicate s.length (0 : Int)).length := by rw [nrmL_len]; simp [orL]
          have hzl : (nrmL s (orL s a b s.length) 0).length = s.length := by rw [nrmL_len]; simp [orL]
          refine range_mem (I := fun k T => T = (⟨max a.Level b.Level, impV (condJ s a b) k, mixL (nrmL s (orL s a b s.length) 0) (List.replicate s.length (0 : Int)) k, jSum a b⟩ : XTable))
            (G := fun _ _ _ => some (if (allB g s (nrmT s (joinT s a b)) && (folB g s a (nrmT s (joinT s a b)) && folB g s b (nrmT s (joinT s a b)))) = true then (nrmT s (joinT s a b), true) else (⟨0, [], [], 0⟩, false))) ?_ ?_ _ ?_
          · intro k T hT hk
            subst hT
            have hm := mixL_end hz
            rw [hzl] at hm
            have eT : (⟨max a.Level b.Level, impV (condJ s a b) k, mixL (nrmL s (orL s a b s.length) 0) (List.replicate s.length (0 : Int)) k, jSum a b⟩ : XTable) = nrmT s (joinT s a b) := by
              rw [hk, hm, join_vars ta tb]; rfl
            rw [eT, isTable_eq ta.geo ta.sch, Option.bind_some, ← e]
            cases hc : allB g s (nrmT s (joinT s a b)) with
            | false => rfl
            | true =>
              have tc := allB_tab hc
              simp only [Bool.not_true, Bool.false_eq_true, if_false, Bool.true_and]
              rw [followsFrom_eq ta tc, Option.bind_some]
              cases folB g s a (nrmT s (joinT s a b)) with
              | false => rfl
              | true =>
                simp only [Bool.not_true, Bool.false_eq_true, if_false, Bool.true_and]
                rw [followsFrom_eq tb tc, Option.bind_some]
                cases folB g s b (nrmT s (joinT s a b)) <;> rfl
          · intro v l' k T next hx _ hT hn
            subst hT
            have hk := (List.getElem?_eq_some_iff.1 hx).1
            have hv := (List.getElem?_eq_some_iff.1 hx).2
            have b1 := setC_bd ta.sch ta.w hk
            have b2 := setC_bd tb.sch tb.w hk
            have hkn : k < (nrmL s (orL s a b s.length) 0).length := by rw [hzl]; exact hk
            have hset := mixL_set hz hkn
            have hat := nrm_at (s := s) (a := a) (b := b) hk
            have hil := impV_len (condJ s a b) k
            rw [conditionOf_eq ta.sch ta.w hk, Option.bind_some, conditionOf_eq tb.sch tb.w hk, Option.bind_some]
            refine bind_to (x := (⟨max a.Level b.Level, impV (condJ s a b) k, mixL (nrmL s (orL s a b s.length) 0) (List.replicate s.length (0 : Int)) (k + 1), jSum a b⟩ : XTable)) ?_ ?_
            · rw [ck_pos (by omega), ckK_i64 (by omega) (by omega), ck_pos (by omega), ckK_i64 (by omega) (by omega), ← hv, fullSet_eq (schB_lev ta.sch (List.getElem_mem hk)), Option.bind_some]
              by_cases hf : orC s a b k = full s[k]
              · have hf' : (((setC s a k).toNat ||| (setC s b k).toNat : Nat) : Int) = full s[k] := hf
                simp only [hf', ne_eq, not_true_eq_false, decide_false, Bool.false_eq_true, if_false]
                rw [if_pos hf] at hat
                have hm := mixL_get hz (show k < (List.replicate s.length (0 : Int)).length by simpa using hk)
                rw [List.getElem_replicate] at hm
                rw [← hset, hat, set_same hm]
              · have hf' : ¬ (((setC s a k).toNat ||| (setC s b k).toNat : Nat) : Int) = full s[k] := hf
                simp only [hf', ne_eq, not_false_eq_true, decide_true, if_true]
                rw [ck_pos (by omega), ckK_i64 (by omega) (by omega), ck_pos (by omega), ckK_i64 (by omega) (by omega), getO_some (mixL_get hz (show k < (List.replicate s.length (0 : Int)).length by simpa using hk)), Int.toNat_natCast]
                rw [if_neg hf] at hat
                rw [← hset, hat]; rfl
            · refine bind_to (x := condJ s a b k) ?_ ?_
              · simp only [Contains_eq, Option.bind_some]
                unfold condJ
                cases hasB a.Vars (k : Int) <;> cases hasB b.Vars (k : Int) <;> cases decide (setC s a k ≠ setC s b k) <;> cases decide (a.Sum ≠ b.Sum) <;> cases decide (a.Sum = (k : Int)) <;> simp
              · cases hc : condJ s a b k with
                | true =>
                  simp only [if_true]
                  rw [lnO_pos (by simp; omega)]
                  refine hn _ ?_
                  simp only [impV, hc, if_true]
                | false =>
                  simp only [Bool.false_eq_true, if_false]
                  refine hn _ ?_
                  simp only [impV, hc, Bool.false_eq_true, if_false]
          · rw [mixL_zero]; rfl
  · split
    · rename_i h
      simp only [Bool.and_eq_true] at h
      exact hbulk (allB_tab h.1.1) (allB_tab h.1.2)
    · simp [bulkT]
end AS
namespace AS
theorem law_JoinTables (v0 : XGeo) (v1 : List XVariable) (v2 : XTable) (v3 : XTable) (b0 : Bd.bd v0) (b1 : Bd.bd v1) (b2 : Bd.bd v2) (b3 : Bd.bd v3) : sh_laws_FnExactJoinTables v0 v1 v2 v3 = some true := by
  unfold sh_laws_FnExactJoinTables
  rw [szGeo_eq (by omega) (by omega) b0, Option.bind_some]
  by_cases h0 : ((bulkG v0 : Nat) : Int) ≤ 1048576
  · rw [left_pos h0]
    simp only [show ¬ ((1048576 : Int) - ((bulkG v0 : Nat) : Int) < 0) by omega, decide_false, Bool.false_eq_true, if_false]
    rw [szVariableS_eq (by omega) (by omega) b1, Option.bind_some]
    by_cases h1 : ((bulkVS v1 : Nat) : Int) ≤ 1048576 - ((bulkG v0 : Nat) : Int)
    · rw [left_pos h1]
      simp only [show ¬ (1048576 - ((bulkG v0 : Nat) : Int) - ((bulkVS v1 : Nat) : Int) < 0) by omega, decide_false, Bool.false_eq_true, if_false]
      rw [szTable_eq (by omega) (by omega) b2, Option.bind_some]
      by_cases h2 : ((bulkT v2 : Nat) : Int) ≤ 1048576 - ((bulkG v0 : Nat) : Int) - ((bulkVS v1 : Nat) : Int)
      · rw [left_pos h2]
        simp only [show ¬ (1048576 - ((bulkG v0 : Nat) : Int) - ((bulkVS v1 : Nat) : Int) - ((bulkT v2 : Nat) : Int) < 0) by omega, decide_false, Bool.false_eq_true, if_false]
        rw [szTable_eq (by omega) (by omega) b3, Option.bind_some]
        by_cases h3 : ((bulkT v3 : Nat) : Int) ≤ 1048576 - ((bulkG v0 : Nat) : Int) - ((bulkVS v1 : Nat) : Int) - ((bulkT v2 : Nat) : Int)
        · rw [left_pos h3]
          simp only [show ¬ (1048576 - ((bulkG v0 : Nat) : Int) - ((bulkVS v1 : Nat) : Int) - ((bulkT v2 : Nat) : Int) - ((bulkT v3 : Nat) : Int) < 0) by omega, decide_false, Bool.false_eq_true, if_false]
          obtain ⟨r, e1, e2, q0⟩ := core_JoinTables v0 v1 v2 v3 (by omega) (by omega) (by omega) (by omega)
          have q0' := q0
          have n1 : v1.length ≤ bulkVS v1 := Nat.le_add_right _ _
          have m1 := marksVS_le v1
          simp [e1, e2, toGeo_eq (g := v0) (by omega),
      eqGeo_eq (a := v0) (b := v0) (by omega),
      toVariableS_eq (s := v1) (by omega),
      eqVariableS_eq (a := v1) (b := v1) (by omega),
      toTable_eq (t := v2) (by omega),
      eqTable_eq (a := v2) (b := v2) (by omega),
      toTable_eq (t := v3) (by omega),
      eqTable_eq (a := v3) (b := v3) (by omega),
      markGeo_eq (g := v0) (n := 1) (by omega) (by omega),
      markVariableS_eq (l := v1) (n := 1 + ((bulkG v0 : Nat) : Int)) (by omega) (by omega) (by omega),
      markTable_eq (t := v2) (n := 1 + ((bulkG v0 : Nat) : Int) + ((marksVS v1 : Nat) : Int)) (by omega) (by omega),
      markTable_eq (t := v3) (n := 1 + ((bulkG v0 : Nat) : Int) + ((marksVS v1 : Nat) : Int) + ((bulkT v2 : Nat) : Int)) (by omega) (by omega),
      show ¬ ((1 : Int) + ((bulkG v0 : Nat) : Int) + ((marksVS v1 : Nat) : Int) + ((bulkT v2 : Nat) : Int) + ((bulkT v3 : Nat) : Int) < 0) by omega,
      eqTable_eq (a := r.1) (b := r.1) (by omega),
      markTable_eq (t := r.1) (n := 1) (by omega) (by omega),
      heldTable_eq (t := r.1) (n := 1) (by omega) (by omega),
      show ¬ ((1 : Int) + ((bulkT (r.1) : Nat) : Int) < 0) by omega]
        · rw [left_no h3]; simp
      · rw [left_no h2]; simp
    · rw [left_no h1]; simp
  · rw [left_no h0]; simp
end AS
