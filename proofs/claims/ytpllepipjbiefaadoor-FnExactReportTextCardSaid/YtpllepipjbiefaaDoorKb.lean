/- A calculus of values over the block heap, second part: soundness, regions, code, contracts. No condition. -/
import Derived.Test.YtpllepipjbiefaaDoorKa
import Derived.Great.FillDense
import Derived.Orders
import Derived.Tactics
import Derived.KernelRfl
import Derived.StillTail
set_option linter.unusedVariables false
set_option linter.unusedSimpArgs false
set_option linter.unusedVariables false
set_option linter.unusedSimpArgs false
namespace AS
open Go

theorem RepV.oneCell {w : World} {Z : Nat → Prop} {x : D} {v : Value} {f : FP} (h : RepV w Z x v f) : ∀ u ∈ v.cells.toList, u.oneCell' = true := RepX.oneCell x h.2
theorem RepV.len {w : World} {Z : Nat → Prop} {x : D} {v : Value} {f : FP} (h : RepV w Z x v f) : v.cells.size = x.size := by
  have := RepX.len x h.2; simpa using this

section
variable {P : Program} {w0 : World} {tk : FP} {n : Nat} {Z0 Z : Nat → Prop} {F : Nat → FP} {T : Nat → SV} {a : Act} {w : World} {o : Oper}

theorem Core.keepsAlloc {S : FP} (h : Core w0 tk n Z0 Z F S T a w) {w' : World} (hfr : Fr (fun _ => 0) w w') {f : FP} (hf : ∀ b, f b ≤ S b) : Keeps Z Z f w w' :=
  ⟨fun b hb => ⟨hb, hfr.block b (h.zf b hb).1 rfl⟩, fun b hb => hfr.block b (h.own b (.inl (by have := hf b; omega))).1 rfl⟩

theorem sv_asg (h : Core w0 tk n Z0 Z F (fun _ => 0) T a w) {x : Operand} {x' : Opd} (hop : o.op = .assign x) (hx : okOpd x x' = true) {y : D} {T' : Nat → SV} (hs : srcTake T x' = some (y, T')) {d : Nat} (hdst : o.dst = some d) (hd : d < n)
    {Q : Exit → Act → World → Prop} :
    o.wp P a w (fun a' w' => ∃ Z' F', Core w0 tk n Z0 Z' F' (fun _ => 0) (AS.put T' d (.d y)) a' w') Q := by
  obtain ⟨F1, f, h1, hr⟩ := h.src hx hs
  refine wp_value (w' := w) (v := a.eval x) (by simp [execOp, hop]) ?_
  rw [hdst]
  exact ⟨Z, _, h1.putAll hd rfl (f := f) hr (fun b => by simp)⟩

theorem sv_box (h : Core w0 tk n Z0 Z F (fun _ => 0) T a w) {t : TypeId} {x : Operand} {x' : Opd} (hop : o.op = .box t x) (hx : okOpd x x' = true) {y : D} {T' : Nat → SV} (hs : srcTake T x' = some (y, T')) {d : Nat} (hdst : o.dst = some d) (hd : d < n)
    {Q : Exit → Act → World → Prop} :
    o.wp P a w (fun a' w' => ∃ Z' F', Core w0 tk n Z0 Z' F' (fun _ => 0) (AS.put T' d (.box y)) a' w') Q := by
  obtain ⟨F1, f, h1, hr⟩ := h.src hx hs
  have hrun : (execOp a.eval o).run P w = .ok (.value (.pointer (some ⟨w.heap.size, 0, none⟩))) (w.alloc (.cells (a.eval x).cells t)) := by
    simp [execOp, hop, Instr.box, newVar, newRow]
  refine wp_value hrun ?_
  rw [hdst]
  have hk := h1.keepsAlloc (Fr.alloc w (.cells (a.eval x).cells t) _) (f := f) (fun b => by simp)
  have h2 := h1.newBlock (Fr.alloc w (.cells (a.eval x).cells t) _) (by simp)
  refine ⟨Z, _, h2.putAll hd rfl (f := fun b => (if b = w.heap.size then 1 else 0) + f b) ?_ (fun b => by simp [ind]; omega)⟩
  exact ⟨w.heap.size, (a.eval x).cells, t, f, rfl, heap_alloc_new w _, RepX.mono hk.z y hk.k hr.2, fun b => rfl⟩

theorem sv_boxm (h : Core w0 tk n Z0 Z F (fun _ => 0) T a w) {t : TypeId} {m : Nat} (hop : o.op = .box t (.tmp m)) {y : D} (hT : T m = .d y) {d : Nat} (hdst : o.dst = some d) (hd : d < n) (hne : m ≠ d)
    {Q : Exit → Act → World → Prop} :
    o.wp P a w (fun a' w' => ∃ Z' F', Core w0 tk n Z0 Z' F' (fun _ => 0) (AS.put T d (.mad m [])) a' w') Q := by
  have hrun : (execOp a.eval o).run P w = .ok (.value (.pointer (some ⟨w.heap.size, 0, none⟩))) (w.alloc (.cells (tmOf a m).cells t)) := by
    simp [execOp, hop, Instr.box, newVar, newRow, Act.eval, tmOf]
  refine wp_value hrun ?_
  rw [hdst]
  have h1 := h.step (w' := w.alloc (.cells (tmOf a m).cells t)) (Z' := fun b => Z b ∨ b = w.heap.size) (S' := fun _ => 0) (Fr.alloc _ _ _) (fun _ => Nat.zero_le _) (fun b hb => by simp at hb) (fun b hb => .inl hb)
    (fun b hb => by
      rcases hb with hb | rfl
      · exact .inl hb
      · exact .inr ⟨by simp, .inl (Nat.le_refl _), rfl⟩)
  refine ⟨_, _, h1.putR hd (r := m) rfl hne ?_⟩
  refine ⟨y, (tmOf a m).cells.toList, none, y, (tmOf a m).cells.toList, none, .inl ⟨hT, rfl, rfl⟩, by simp [SV.path, At], by simp [SV.path, ownP], ?_⟩
  refine ⟨w.heap.size, 0, rfl, .inr rfl, fun j u hu => ?_⟩
  have hnew := heap_alloc_new w (.cells (tmOf a m).cells t)
  simp only [World.cell?, hnew, Nat.zero_add]
  simpa using hu

theorem run_storeAt {t : TypeId} {g ofs : Nat} {v : Value} {cur : Array Value} {e : TypeId} {sz : Nat} (ht : okInfo P t (fun i => i.size == sz) = true) (hg : w.heap[g]? = some (.cells cur e (0, 0))) (hl : v.cells.size = sz) (hfit : ofs + v.cells.size ≤ cur.size)
    (h1 : ∀ u ∈ v.cells.toList, u.oneCell' = true) :
    (Instr.storeAt t (.pointer (some ⟨g, ofs, none⟩)) v).run P w = .ok () (w.setRow g (spliced cur ofs v.cells.toList)) := by
  obtain ⟨i, hi, hz⟩ := okInfo_iff ht
  simp only [beq_iff_eq] at hz
  have hst := run_storeCells_at P g ofs e v.cells.toList 0 cur w hg (by simpa using hfit) h1
  simp only [Nat.add_zero] at hst
  simp [Instr.storeAt, Instr.sureAddr, storeVar, Go.sizeOf, typeInfo, hi, hz, hl, hst, spliced]

/-- A store, once the place is known. -/
theorem Core.storeAt {S : FP} (h : Core w0 tk n Z0 Z F S T a w) {t : TypeId} {m : Nat} {v : Operand} {sz : Nat} (hop : o.op = .store t (.tmp m) v) (ht : okInfo P t (fun i => i.size == sz) = true) {y' : D} {f : FP} (hr : RepV w Z y' (a.eval v) f) (hfS : ∀ b, f b ≤ S b)
    {r : Nat} {p : List Step} {x y : D} {cs c : List Value} {oa : Option (Nat × Nat)} {g ofs : Nat} (hroot : RootOf w T (tmOf a) r x cs oa) (ha : At w p x cs oa y c (some (g, ofs))) (hown : ownP p x = true)
    (hm : tmOf a m = .pointer (some ⟨g, ofs, none⟩)) (hc : c.length = sz) (hy : y.size = sz) (hy' : y'.size = sz) (hdst : o.dst = none) {Q : Exit → Act → World → Prop} :
    o.wp P a w (fun a' w' => ∃ Z' F', Core w0 tk n Z0 Z' F' (fun _ => 0) (stT T r p y') a' w') Q := by
  obtain ⟨cur, e, q1, q2, q3⟩ := h.store hroot ha hown
  have hvl := hr.len
  obtain ⟨F', h2⟩ := q3 y' (a.eval v).cells.toList f (by simp; omega) (by omega) hr.2 hfS
  have hrun : (execOp a.eval o).run P w = .ok .skip (w.setRow g (spliced cur ofs (a.eval v).cells.toList)) := by
    have := run_storeAt (P := P) (w := w) (ofs := ofs) (v := a.eval v) ht q1 (by omega) (by omega) hr.oneCell
    have he : a.eval (.tmp m) = .pointer (some ⟨g, ofs, none⟩) := hm
    simp [execOp, hop, he, this]
  refine wp_skipped hrun ?_
  rw [hdst]
  exact ⟨Z, F', h2.less fun b => Nat.zero_le _⟩

theorem sv_st_box {S : FP} (h : Core w0 tk n Z0 Z F S T a w) {t : TypeId} {m : Nat} {v : Operand} {sz : Nat} (hop : o.op = .store t (.tmp m) v) (ht : okInfo P t (fun i => i.size == sz) = true) {y' : D} {f : FP} (hr : RepV w Z y' (a.eval v) f) (hfS : ∀ b, f b ≤ S b)
    {x : D} (hT : T m = .box x) (hx : x.size = sz) (hy' : y'.size = sz) (hdst : o.dst = none) {Q : Exit → Act → World → Prop} :
    o.wp P a w (fun a' w' => ∃ Z' F', Core w0 tk n Z0 Z' F' (fun _ => 0) (stT T m [] y') a' w') Q := by
  obtain ⟨cs, oa, hroot⟩ := rootD_root h (r := m) (x := x) (by simp [rootD, hT])
  obtain ⟨f1, hx1, _, _⟩ := h.root hroot
  rcases hroot with ⟨h1, _⟩ | ⟨b, cur, e, h1, h2, h3, h4, h5⟩
  · rw [hT] at h1; cases h1
  · subst h5
    exact h.storeAt hop ht hr hfS (r := m) (p := []) (x := x) (y := x) (c := cs) (.inr ⟨b, cur, e, h1, h2, h3, h4, rfl⟩) (by simp [At]) (by simp [ownP]) h2 (by rw [RepX.len _ hx1, hx]) hx hy' hdst

theorem sv_st_adr {S : FP} (h : Core w0 tk n Z0 Z F S T a w) {t : TypeId} {m : Nat} {v : Operand} {sz : Nat} (hop : o.op = .store t (.tmp m) v) (ht : okInfo P t (fun i => i.size == sz) = true) {y' : D} {f : FP} (hr : RepV w Z y' (a.eval v) f) (hfS : ∀ b, f b ≤ S b)
    {r : Nat} {p : List Step} (hT : T m = .adr r p) {y : D} (hw : wayD T r p = some y) (hy : y.size = sz) (hy' : y'.size = sz) (hdst : o.dst = none) {Q : Exit → Act → World → Prop} :
    o.wp P a w (fun a' w' => ∃ Z' F', Core w0 tk n Z0 Z' F' (fun _ => 0) (stT T r p y') a' w') Q := by
  have hr0 : (T m).root = some r := by rw [hT]; rfl
  obtain ⟨x, cs, oa, y2, c, ob, fr, fy, k1, k2, k3, k4, k5, k6, k7, k8⟩ := h.way hr0
  rw [hT] at k3 k4 k5 k6
  obtain ⟨g, ofs, rfl, hm⟩ := k5
  have : y2 = y := by rw [show (SV.adr r p).path = p from rfl, hw] at k6; cases k6; rfl
  subst this
  exact h.storeAt hop ht hr hfS k1 k3 k4 hm (by rw [RepX.len _ k7, hy]) hy hy' hdst

theorem spliced_at (cur : Array Value) (ofs : Nat) (c : List Value) (hfit : ofs + c.length ≤ cur.size) {j : Nat} {u : Value} (hu : c[j]? = some u) : (spliced cur ofs c)[ofs + j]? = some u := by
  have hj : j < c.length := (List.getElem?_eq_some_iff.1 hu).1
  simp only [spliced, List.getElem?_toArray]
  rw [List.append_assoc, List.getElem?_append_right (by simp; omega), List.getElem?_append_left (by simp; omega)]
  simp only [List.length_take, Array.length_toList]
  rw [show ofs + j - min ofs cur.size = j from by omega]; exact hu

theorem sv_stm (h : Core w0 tk n Z0 Z F (fun _ => 0) T a w) {t : TypeId} {m v : Nat} {sz : Nat} (hop : o.op = .store t (.tmp m) (.tmp v)) (ht : okInfo P t (fun i => i.size == sz) = true)
    {x : D} (hT : T m = .box x) {r : Nat} {p : List Step} (hV : T v = .ref r p) (hne : m ≠ r) (hx : x.size = sz) {y : D} (hw : wayD T r p = some y) (hy : y.size = sz) (hdst : o.dst = none) {Q : Exit → Act → World → Prop} :
    o.wp P a w (fun a' w' => ∃ Z' F', Core w0 tk n Z0 Z' F' (fun _ => 0) (AS.put T m (.mad r p)) a' w') Q := by
  have hrep := h.rep m
  rw [hT, SRep.none rfl] at hrep
  obtain ⟨g, cur, e, f1, k1, k2, k3, k4⟩ := hrep
  have hcl := RepX.len _ k3
  simp only [Array.length_toList] at hcl
  -- the block given up
  have h1 := h.set (dst := m) (a' := a) (s := .un) (f := fun _ => 0) (S' := F m) h.size h.dfr (fun _ _ => rfl) (by simp [SRep, SV.root, SRepN]) (fun b => by simp) (fun _ => rfl)
  have hFg : F m g = 1 := by have := k4 g; have := h.one m g; simp at *; omega
  have hg := (h1.own g (.inl (by omega))).1
  obtain ⟨hv1, hv2⟩ : (tmOf a v).cells.size = sz ∧ ∀ u ∈ (tmOf a v).cells.toList, u.oneCell' = true := by
    obtain ⟨x2, cs, oa, y2, c, ob, fr, fy, j1, j2, j3, j4, j5, j6, j7, j8⟩ := h.way (t := v) (r := r) (by rw [hV]; rfl)
    rw [hV] at j5 j6
    have : y2 = y := by rw [show (SV.ref r p).path = p from rfl, hw] at j6; cases j6; rfl
    subst this
    have hl := RepX.len _ j7
    have e5 : (tmOf a v).cells.toList = c := j5.1
    exact ⟨by rw [← Array.length_toList, e5, hl, hy], by rw [e5]; exact RepX.oneCell _ j7⟩
  have hrun : (execOp a.eval o).run P w = .ok .skip (w.setRow g (spliced cur 0 (tmOf a v).cells.toList)) := by
    have := run_storeAt (P := P) (w := w) (t := t) (ofs := 0) (v := tmOf a v) ht k2 hv1 (by omega) hv2
    have he : a.eval (.tmp m) = .pointer (some ⟨g, 0, none⟩) := k1
    have he2 : a.eval (.tmp v) = tmOf a v := rfl
    simp [execOp, hop, he, he2, this]
  refine wp_skipped hrun ?_
  rw [hdst]
  have hsize : (w.setRow g (spliced cur 0 (tmOf a v).cells.toList)).heap.size = w.heap.size := by simp [World.setRow]
  have h2 := h1.step (w' := w.setRow g (spliced cur 0 (tmOf a v).cells.toList)) (Z' := fun b => Z b ∨ b = g) (S' := fun _ => 0)
    ⟨rfl, rfl, rfl, by rw [hsize]; exact Nat.le_refl _, fun k _ hk => by rw [heap_setRow k2, if_neg (by intro e; subst e; omega)]⟩
    (fun _ => Nat.zero_le _) (fun b hb => by simp at hb) (fun b hb => .inl hb)
    (fun b hb => by
      rcases hb with hb | rfl
      · exact .inl hb
      · exact .inr ⟨by rw [hsize]; exact hg, .inr (by omega), rfl⟩)
  have hvm : v ≠ m := by intro e; subst e; rw [hT] at hV; cases hV
  have hV' : AS.put T m .un v = .ref r p := by simp [AS.put, hvm, hV, SV.root, Ne.symm hne]
  obtain ⟨x2, cs, oa, y2, c, ob, fr, fy, j1, j2, j3, j4, j5, j6, j7, j8⟩ := h2.way (t := v) (r := r) (by rw [hV']; rfl)
  rw [hV'] at j3 j4 j5
  have h3 := h2.set (dst := m) (a' := a) (s := .mad r p) (f := fun _ => 0) (S' := fun _ => 0) h.size h.dfr (fun _ _ => rfl)
    (by
      rw [SRep.some (r := r) rfl]
      refine ⟨fun _ => rfl, SRepR.put ⟨x2, cs, oa, y2, c, ob, j1, j3, j4, ?_⟩ (Ne.symm hne) rfl⟩
      refine ⟨g, 0, k1, .inr rfl, fun j u hu => ?_⟩
      have e5 : (tmOf a v).cells.toList = c := j5.1
      simp only [World.cell?]
      rw [heap_setRow k2, if_pos rfl]
      have := spliced_at cur 0 (tmOf a v).cells.toList (by simp; omega) (j := j) (u := u) (by rw [e5]; exact hu)
      simpa using this)
    (fun b => by simp) (fun hm => by have := h.lt m hm; rw [hT] at this; cases this)
  have e : AS.put (AS.put T m .un) m (.mad r p) = AS.put T m (.mad r p) := by
    funext t
    simp only [AS.put]
    by_cases ht : t = m
    · simp [ht]
    · simp only [ht, if_false]
      split <;> simp_all [SV.root]
  rw [e] at h3
  exact ⟨_, _, h3⟩

theorem sv_extO (h : Core w0 tk n Z0 Z F (fun _ => 0) T a w) {m i : Nat} (hop : o.op = .extract (.tmp m) i) {l : List (Option D)} {y : D} (hT : T m = .tup l) (hy : l[i]? = some (some y)) {d : Nat} (hdst : o.dst = some d) (hd : d < n)
    {Q : Exit → Act → World → Prop} :
    o.wp P a w (fun a' w' => ∃ Z' F', Core w0 tk n Z0 Z' F' (fun _ => 0) (AS.put (AS.put T m (.tup (l.set i none))) d (.d y)) a' w') Q := by
  have h1 := h.rep m
  rw [hT, SRep.none rfl] at h1
  obtain ⟨vs, hv, htup⟩ := h1
  obtain ⟨v, fr, fx, e1, e2, e3, e4⟩ := TupRep.get htup hy
  have he : a.eval (.tmp m) = .tuple vs := hv
  have e1' : vs[i]? = some v := by simpa using e1
  refine wp_value (v := v) (w' := w) (by simp [execOp, hop, he, Instr.extract, e1']) ?_
  rw [hdst]
  have h2 := h.set (dst := m) (a' := a) (s := .tup (l.set i none)) (f := fr) (S' := fx) h.size h.dfr (fun _ _ => rfl) (by rw [SRep.none rfl]; exact ⟨vs, hv, e4⟩) (fun b => by have := e3 b; omega)
    (fun hm => by have := h.lt m hm; rw [hT] at this; cases this)
  exact ⟨Z, _, h2.putAll hd rfl (f := fx) e2 (fun _ => Nat.le_refl _)⟩

/-- What only computes. -/
theorem sv_ex (h : Core w0 tk n Z0 Z F (fun _ => 0) T a w) {s : SV} (hex : Ex P w Z T a o s) (hd : ∀ d, o.dst = some d → d < n) {Q : Exit → Act → World → Prop} :
    o.wp P a w (fun a' w' => ∃ Z' F', Core w0 tk n Z0 Z' F' (fun _ => 0) (match o.dst with | some d => AS.put T d (s.safe d) | none => T) a' w') Q := by
  obtain ⟨v, hrun, hr⟩ := hex
  refine wp_value hrun ?_
  cases hdst : o.dst with
  | none => exact ⟨Z, F, h⟩
  | some d =>
    have hdn := hd d hdst
    cases hroot : s.root with
    | none =>
      rw [SRep.none hroot] at hr
      show ∃ Z' F', Core w0 tk n Z0 Z' F' (fun _ => 0) (AS.put T d (s.safe d)) (a.put (some d) v) w
      rw [SV.safe_none hroot]
      exact ⟨Z, _, h.putAll hdn hroot hr (fun _ => Nat.le_refl _)⟩
    | some r =>
      rw [SRep.some hroot] at hr
      show ∃ Z' F', Core w0 tk n Z0 Z' F' (fun _ => 0) (AS.put T d (s.safe d)) (a.put (some d) v) w
      by_cases hrd : r = d
      · subst hrd
        have e : s.safe r = .un := by cases s <;> simp_all [SV.root, SV.safe]
        rw [e]
        exact ⟨Z, _, h.putAll hdn rfl (f := fun _ => 0) (fun _ => rfl) (fun _ => Nat.le_refl _)⟩
      · have e : s.safe d = s := by cases s <;> simp_all [SV.root, SV.safe]
        rw [e]
        exact ⟨Z, _, h.putR hdn hroot hrd hr.2⟩
end
end AS
set_option linter.unusedVariables false
set_option linter.unusedSimpArgs false
namespace AS
open Go

theorem isRange_zip {α : Type} (ev : Operand → α) : ∀ (l : List (Nat × Operand)) (k : Nat), isRange k l = true → l.map (fun p => (p.1, ev p.2)) = ((l.map (fun p => ev p.2)).zipIdx k).map fun x => (x.2, x.1)
  | [], _, _ => rfl
  | (i, x) :: l, k, h => by
    simp only [isRange, Bool.and_eq_true, beq_iff_eq] at h
    obtain ⟨rfl, h⟩ := h
    simp [isRange_zip ev l (i + 1) h]

theorem RepVs.cells {w : World} {Z : Nat → Prop} : ∀ {l : List D} {vs : List Value} {f : FP}, RepVs w Z l vs f → RepXs w Z l (vs.flatMap fun v => v.cells.toList) f ∧ vs.length = l.length ∧ ∀ sz, sizesAll sz l → ∀ v ∈ vs, v.cells.size = sz
  | [], vs, f, h => by
    obtain ⟨rfl, h2⟩ := h
    exact ⟨⟨rfl, h2⟩, rfl, fun _ _ v hv => by simp at hv⟩
  | x :: l, vs, f, h => by
    obtain ⟨v, vs2, f1, f2, rfl, h2, h3, h4⟩ := h
    obtain ⟨k1, k2, k3⟩ := RepVs.cells h4
    refine ⟨?_, by simp [k2], fun sz hs u hu => ?_⟩
    · simp only [List.flatMap_cons, RepXs]
      exact ⟨_, _, f1, f2, rfl, h2, h3.2, k1⟩
    · rcases List.mem_cons.1 hu with rfl | hu
      · rw [h3.len]; exact hs x (by simp)
      · exact k3 sz (fun y hy => hs y (by simp [hy])) u hu

section
variable {P : Program} {w0 : World} {tk : FP} {n : Nat} {Z0 Z : Nat → Prop} {F : Nat → FP} {T : Nat → SV} {a : Act} {w : World} {o : Oper}

theorem RepX.mkOwn {w : World} {Z : Nat → Prop} {l : List D} {sz g cap : Nat} {cur : Array Value} {e : TypeId} {xs : List Value} {f1 : FP} (hs : sizesAll sz l) (hx : RepXs w Z l xs f1) (hg : w.heap[g]? = some (.cells cur e (0, 0)))
    (hc : cur.size = cap * sz) (hcap : cap ≤ maxLen) (hl : l.length ≤ cap) (ht : cur.toList.take (l.length * sz) = xs) (hnil : l = [] → cap = 0) :
    ∃ f : FP, RepX w Z (.slice true l) [.slice (some ⟨g, 0, none⟩) l.length cap] f ∧ ∀ b, f b ≤ (if b = g then 1 else 0) + f1 b := by
  by_cases hne : l = []
  · subst hne
    refine ⟨fun _ => 0, ?_, fun b => Nat.zero_le _⟩
    simp only [RepX]
    exact .inl ⟨trivial, fun _ => trivial, some ⟨g, 0, none⟩, cap, rfl, hcap, by simp, fun _ => hnil rfl⟩
  · refine ⟨fun b => (if b = g then 1 else 0) + f1 b, ?_, fun b => Nat.le_refl _⟩
    simp only [RepX]
    refine .inr ⟨hne, g, 0, cap, xs, sz, f1, rfl, hcap, hl, ?_, hs, hx, .inr ⟨trivial, rfl, fun b => rfl, cur, e, hg, hc, ht⟩⟩
    rw [RepXs.len _ hx, sizes_uniform hs]

theorem sv_bsl (h : Core w0 tk n Z0 Z F (fun _ => 0) T a w) {t : TypeId} {m : Nat} {parts : Array (Nat × Operand)} {ps : List Opd} {sz : Nat} (hop : o.op = .buildSlice t m parts) (hm : parts.size = m) (hr : isRange 0 parts.toList = true)
    (hps : okOpds (parts.toList.map (·.2)) ps = true) (ht : okElem P t (fun i => i.size == sz && (decide (sz ≤ 64)) && sz != 0 && match i.zero with | some z => z.cells.size == sz | none => false) = true)
    {ys : List D} {T' : Nat → SV} (hs : takes T ps = some (ys, T')) (hlen : ys.length ≤ 1024) (hsz : sizesAll sz ys) {d : Nat} (hdst : o.dst = some d) (hd : d < n) {Q : Exit → Act → World → Prop} :
    o.wp P a w (fun a' w' => ∃ Z' F', Core w0 tk n Z0 Z' F' (fun _ => 0) (AS.put T' d (.d (.slice true ys))) a' w') Q := by
  obtain ⟨e, i, hu, hi, hp⟩ := okElem_iff ht
  simp only [Bool.and_eq_true, beq_iff_eq, decide_eq_true_eq, bne_iff_ne, ne_eq] at hp
  obtain ⟨⟨⟨hi1, hi2⟩, hi3⟩, hz⟩ := hp
  cases hzv : i.zero with
  | none => simp [hzv] at hz
  | some z =>
    simp only [hzv, beq_iff_eq] at hz
    obtain ⟨F1, f, h1, hrep⟩ := h.srcs hps hs
    obtain ⟨c1, c2, c3⟩ := hrep.cells
    have hlen2 : parts.toList.length = ys.length := by rw [← c2]; simp
    have hmy : m = ys.length := by rw [← hm, ← hlen2]; simp
    let vs : List Value := (parts.toList.map (·.2)).map a.eval
    have hvs : ∀ v ∈ vs, v.cells.size = sz := c3 sz hsz
    have hvl : vs.length = ys.length := c2
    have hparts : (parts.map fun x => (x.1, a.eval x.2)).toList = (vs.zipIdx 0).map fun x => (x.2, x.1) := by
      have := isRange_zip a.eval parts.toList 0 hr
      simp only [Array.toList_map, vs, List.map_map]
      exact this
    have hbig : ¬ (2 ^ 24 < m * sz) := by
      have : m * sz ≤ 1024 * 64 := Nat.mul_le_mul (by omega) hi2
      omega
    let cells : Array Value := (vs.flatMap fun v => v.cells.toList).toArray
    have hcl : cells.size = m * sz := by
      have h5 := RepXs.len _ c1
      rw [sizes_uniform hsz, ← hmy] at h5
      simpa [cells, vs] using h5
    have hfill : ∀ cs0 : Array Value, cs0.size = m * sz → Instr.fill (fun i => some (i * sz, sz)) cs0 (parts.toList.map fun x => (x.1, a.eval x.2)) = some cells := by
      intro cs0 h0
      rw [← Array.toList_map, hparts]
      exact Great.fill_whole (by omega) vs cs0 hvs (by rw [hvl, h0, hmy])
    have hrun : (execOp a.eval o).run P w = .ok (.value (.slice (some ⟨w.heap.size, 0, none⟩) m m)) (w.alloc (.cells cells e)) := by
      by_cases hm0 : m * sz = 0
      · simp [execOp, hop, Instr.buildSlice, run_underlying hu, Go.sizeOf, typeInfo, hi, hi1, hm0, hfill, newRow]
      · simp [execOp, hop, Instr.buildSlice, run_underlying hu, Go.sizeOf, typeInfo, zeroValue, hi, hi1, hzv, hm0, hbig, hfill, newRow]
    refine wp_value hrun ?_
    rw [hdst]
    have hk := h1.keepsAlloc (Fr.alloc w (.cells cells e) _) (f := f) (fun b => by simp)
    have h2 := h1.newBlock (Fr.alloc w (.cells cells e) _) (by simp)
    have hxs := RepXs.mono hk.z ys hk.k c1
    obtain ⟨f2, r1, r2⟩ := RepX.mkOwn (g := w.heap.size) (cap := m) (cur := cells) (e := e) hsz hxs (heap_alloc_new w _) hcl (by rw [hmy]; simp [maxLen]; omega) (by omega)
      (by rw [← hmy, List.take_of_length_le (by simp [hcl])]) (fun e => by rw [hmy, e]; rfl)
    refine ⟨Z, _, h2.putAll hd rfl (f := f2) ⟨rfl, ?_⟩ (fun b => by have := r2 b; simp [ind]; omega)⟩
    rw [← hmy] at r1
    exact r1

theorem okParts_iff : ∀ {xs : List (Nat × Operand)} {ys : List (Nat × Opd)}, okParts xs ys = true → xs.map (·.1) = ys.map (·.1) ∧ okOpds (xs.map (·.2)) (ys.map (·.2)) = true
  | [], [], _ => ⟨rfl, rfl⟩
  | (i, x) :: xs, (j, y) :: ys, h => by
    simp only [okParts, Bool.and_eq_true, beq_iff_eq] at h
    obtain ⟨⟨rfl, h2⟩, h3⟩ := h
    obtain ⟨k1, k2⟩ := okParts_iff h3
    simp [k1, okOpds, h2, k2]
  | [], _ :: _, h => by simp [okParts] at h
  | _ :: _, [], h => by simp [okParts] at h

theorem setIf_list (cells : Array Value) (i : Nat) (v : Value) : (cells.setIfInBounds i v).toList = cells.toList.set i v := by simp

theorem fill_flatD {w : World} {Z : Nat → Prop} {place : Nat → Option (Nat × Nat)} {m : Nat} (hpl : ∀ i, i < m → place i = some (i, 1)) :
    ∀ (is : List Nat) {ys : List D} {vs : List Value} {l : List D} {cells : Array Value} {f g : FP}, is.length = ys.length → (∀ i ∈ is, i < m) → sizesAll 1 ys → RepVs w Z ys vs f → l.length = m → sizesAll 1 l → RepXs w Z l cells.toList g →
    ∃ (r : Array Value) (k : FP), Instr.fill place cells (is.zip vs) = some r ∧ RepXs w Z ((is.zip ys).foldl (fun l p => l.set p.1 p.2) l) r.toList k ∧ ∀ b, k b ≤ g b + f b
  | [], ys, vs, l, cells, f, g, hl, _, _, _, _, _, hc => by
    refine ⟨cells, g, rfl, by simpa using hc, fun b => by omega⟩
  | i :: is, [], _, _, _, _, _, hl, _, _, _, _, _, _ => by simp at hl
  | i :: is, y :: ys, vs, l, cells, f, g, hl, hi, hs, hv, hlm, hsl, hc => by
    obtain ⟨v, vs2, f1, f2, rfl, h2, h3, h4⟩ := hv
    have him := hi i (by simp)
    have hy1 : y.size = 1 := hs y (by simp)
    have hv1 : v.cells.size = 1 := by rw [h3.len, hy1]
    have hcs : cells.size = m := by
      have := RepXs.len _ hc
      rw [sizes_uniform hsl] at this
      simpa [hlm] using this
    obtain ⟨u, hu⟩ : ∃ u, v.cells = #[u] := by
      have : v.cells.toList.length = 1 := by simpa using hv1
      match hq : v.cells.toList with
      | [u] => exact ⟨u, by apply Array.ext'; rw [hq]⟩
      | [] => rw [hq] at this; simp at this
      | _ :: _ :: _ => rw [hq] at this; simp at this
    obtain ⟨z, hz⟩ : ∃ z, l[i]? = some z := ⟨l[i]'(by omega), by simp⟩
    obtain ⟨c1, c2, c3, fr, fy, e1, e2, e3, e4, e5⟩ := RepXs.split l i hc hz
    have hc2 : c2.length = 1 := by rw [RepX.len _ e3]; exact hsl z (List.mem_of_getElem? hz)
    have hc1 : c1.length = i := by
      rw [e2, sizes_uniform (sz := 1) (fun x hx => hsl x (List.mem_of_mem_take hx))]
      simp; omega
    have hset : (cells.setIfInBounds i u).toList = c1 ++ [u] ++ c3 := by
      rw [setIf_list, e1]
      match c2, hc2 with
      | [q], _ =>
        rw [← hc1]
        simp [List.set_append]
    have h6 := e5 w Z y [u] f1 ⟨fun b hb => ⟨hb, rfl⟩, fun b hb => rfl⟩ (by have := h3.2; rw [hu] at this; exact this)
    rw [← hset] at h6
    obtain ⟨r, k, q1, q2, q3⟩ := fill_flatD hpl is (cells := cells.setIfInBounds i u) (l := l.set i y) (by simpa using hl) (fun j hj => hi j (by simp [hj])) (fun x hx => hs x (by simp [hx])) h4 (by simp [hlm])
      (fun x hx => by
        rcases List.mem_or_eq_of_mem_set hx with hx | rfl
        · exact hsl x hx
        · exact hy1) h6
    refine ⟨r, k, ?_, by simpa using q2, fun b => by have := q3 b; have := h2 b; have := e4 b; omega⟩
    simp only [List.zip_cons_cons]
    unfold Instr.fill
    simp only [hpl i him, hv1]
    rw [if_neg (by simp; omega)]
    rw [← q1]
    congr 1
    simp [hu]

theorem bld_run (h : Core w0 tk n Z0 Z F (fun _ => 0) T a w) {t : TypeId} {parts : Array (Nat × Operand)} {ps : List (Nat × Opd)} {z : List D} (hop : o.op = .build t parts)
    (hps : okParts parts.toList ps = true) (hf : okFlat P t z.length = true) (ht : okInfo P t (fun i => match i.zero with | some v => okCells v.cells.toList z | none => false) = true)
    {ys : List D} {T' : Nat → SV} (hs : takes T (ps.map (·.2)) = some (ys, T')) (hz1 : sizesAll 1 z) (hsz : sizesAll 1 ys) (hin : ∀ i ∈ ps.map (·.1), i < z.length) :
    ∃ (r : Array Value) (k f : FP) (F1 : Nat → FP) (place : Nat → Option (Nat × Nat)) (cells : Array Value), (execOp a.eval o).run P w = .ok (.value (.agg r)) w ∧ Core w0 tk n Z0 Z F1 (fun b => 0 + f b) T' a w ∧
      RepXs w Z (((ps.map (·.1)).zip ys).foldl (fun l p => l.set p.1 p.2) z) r.toList k ∧ (∀ b, k b ≤ f b) ∧ cells.size = z.length ∧ (∀ k, k < z.length → place k = some (k, 1)) ∧
      Instr.fill place cells ((ps.map (·.1)).zip ((parts.toList.map (·.2)).map a.eval)) = some r := by
  obtain ⟨hp1, hp2⟩ := okParts_iff hps
  obtain ⟨i, hi, hz⟩ := okInfo_iff ht
  cases hzv : i.zero with
  | none => simp [hzv] at hz
  | some zv =>
    simp only [hzv] at hz
    obtain ⟨F1, f, h1, hrep⟩ := h.srcs hp2 hs
    obtain ⟨c1, c2, c3⟩ := hrep.cells
    unfold okFlat at hf
    split at hf
    · rename_i fs hfs
      simp only [Bool.and_eq_true, beq_iff_eq, List.all_eq_true, List.mem_range] at hf
      obtain ⟨hfsz, hall⟩ := hf
      let places : Array (Nat × Nat) := (Array.range z.length).map fun i => (i, 1)
      have hmap : (fs.mapM (fun f => do pure (f.offset, ← Go.sizeOf f.type) : Field → Sem (Nat × Nat))).run P w = .ok places w := by
        have hper : ∀ (k : Nat) (fd : Field), fs[k]? = some fd → ((do pure (fd.offset, ← Go.sizeOf fd.type) : Sem (Nat × Nat))).run P w = .ok (k, 1) w := by
          intro k fd hk
          have hkl : k < z.length := by rw [← hfsz]; exact (Array.getElem?_eq_some_iff.1 hk).1
          have := hall k hkl
          rw [hk] at this
          simp only [Bool.and_eq_true, beq_iff_eq] at this
          obtain ⟨i2, hi2, hi3⟩ := okInfo_iff this.2
          simp only [beq_iff_eq] at hi3
          simp [Go.sizeOf, typeInfo, hi2, hi3, this.1]
        have gen : ∀ (l : List Field) (k : Nat), (∀ (j : Nat) (fd : Field), l[j]? = some fd → ((do pure (fd.offset, ← Go.sizeOf fd.type) : Sem (Nat × Nat))).run P w = .ok (k + j, 1) w) →
            (l.mapM (fun f => do pure (f.offset, ← Go.sizeOf f.type) : Field → Sem (Nat × Nat))).run P w = .ok ((List.range' k l.length).map fun i => (i, 1)) w := by
          intro l
          induction l with
          | nil => intro k _; rfl
          | cons x l ih =>
            intro k hk
            have h0 := hk 0 x rfl
            have ih' := ih (k + 1) (fun j fd hj => by have := hk (j + 1) fd (by simpa using hj); rw [this]; congr 2; omega)
            simp only [List.mapM_cons, Sem.run_bind, Nat.add_zero] at h0 ⊢
            rw [h0]
            simp only [Result.andThen_ok, Sem.run_bind, ih']
            simp [List.range'_succ]
        have := gen fs.toList 0 (fun j fd hj => by rw [Nat.zero_add]; exact hper j fd (by simpa using hj))
        rw [Array.mapM_eq_mapM_toList]
        have hpl : ((List.range' 0 fs.toList.length).map fun i => (i, 1)).toArray = places := by
          apply Array.ext'
          simp [places, hfsz, List.range_eq_range']
        have hb : ∀ (s : Sem (List (Nat × Nat))), (List.toArray <$> s) = (s >>= fun x => pure x.toArray) := fun _ => rfl
        rw [hb, Sem.run_bind, this, Result.andThen_ok, Sem.run_pure, hpl]
      have hplace : ∀ k, k < z.length → places[k]? = some (k, 1) := by
        intro k hk; simp [places, hk]
      have hz0 : RepXs w Z z zv.cells.toList (fun _ => 0) := okCells_rep hz
      have hylen : (ps.map (·.1)).length = ys.length := by
        have := okOpds_len hp2
        simp at c2 this ⊢
        omega
      obtain ⟨r, k, q1, q2, q3⟩ := fill_flatD (w := w) (Z := Z) (place := (places[·]?)) hplace (ps.map (·.1)) (cells := zv.cells) hylen hin hsz hrep rfl hz1 hz0
      have hparts : (parts.map fun x => (x.1, a.eval x.2)).toList = (ps.map (·.1)).zip ((parts.toList.map (·.2)).map a.eval) := by
        rw [← hp1]
        simp only [Array.toList_map]
        generalize parts.toList = l
        induction l with
        | nil => rfl
        | cons x l ih => simp [ih]
      have hrun : (execOp a.eval o).run P w = .ok (.value (.agg r)) w := by
        simp only [execOp, hop, Instr.build, Sem.run_bind, zeroValue, typeInfo]
        rw [Array.toList_map] at hparts
        have hmap' : (Array.mapM (fun f : Field => Prod.mk f.offset <$> Go.sizeOf f.type) fs).run P w = .ok places w := by
          have e : (fun f : Field => Prod.mk f.offset <$> Go.sizeOf f.type) = (fun f : Field => (do pure (f.offset, ← Go.sizeOf f.type) : Sem (Nat × Nat))) := by
            funext f; simp
          rw [e]; exact hmap
        simp [hi, hzv, run_underlying hfs, hmap', hparts]
        have q1' : Instr.fill (fun x => places[x]?) zv.cells ((ps.map (·.1)).zip ((parts.toList.map (·.2)).map a.eval)) = some r := q1
        simp only [List.map_map] at q1'
        simp [Function.comp_def] at q1' ⊢
        rw [q1']
        rfl
      exact ⟨r, k, f, F1, _, zv.cells, hrun, h1, q2, fun b => by have := q3 b; omega, by
        have := RepXs.len _ hz0
        rw [sizes_uniform hz1] at this
        simpa using this, hplace, q1⟩
    · cases hf

theorem sv_bld (h : Core w0 tk n Z0 Z F (fun _ => 0) T a w) {t : TypeId} {parts : Array (Nat × Operand)} {ps : List (Nat × Opd)} {z : List D} (hop : o.op = .build t parts)
    (hps : okParts parts.toList ps = true) (hf : okFlat P t z.length = true) (ht : okInfo P t (fun i => match i.zero with | some v => okCells v.cells.toList z | none => false) = true)
    {ys : List D} {T' : Nat → SV} (hs : takes T (ps.map (·.2)) = some (ys, T')) (hz1 : sizesAll 1 z) (hsz : sizesAll 1 ys) (hin : ∀ i ∈ ps.map (·.1), i < z.length) {d : Nat} (hdst : o.dst = some d) (hd : d < n) {Q : Exit → Act → World → Prop} :
    o.wp P a w (fun a' w' => ∃ Z' F', Core w0 tk n Z0 Z' F' (fun _ => 0) (AS.put T' d (.d (.agg (((ps.map (·.1)).zip ys).foldl (fun l p => l.set p.1 p.2) z)))) a' w') Q := by
  obtain ⟨r, k, f, F1, _, _, hrun, h1, q2, q3, _⟩ := bld_run h hop hps hf ht hs hz1 hsz hin
  refine wp_value hrun ?_
  rw [hdst]
  exact ⟨Z, _, h1.putAll hd rfl (f := k) ⟨rfl, q2⟩ (fun b => by have := q3 b; omega)⟩
end
end AS
set_option linter.unusedVariables false
set_option linter.unusedSimpArgs false
namespace AS
open Go

section
variable {P : Program} {w0 : World} {tk : FP} {n : Nat} {Z0 Z : Nat → Prop} {F : Nat → FP} {T : Nat → SV} {a : Act} {w : World} {o : Oper}

/-- A slice's cells, read. -/
theorem sliceParts {w : World} {Z : Nat → Prop} {o : Bool} {l : List D} {v : Value} {f : FP} {sz : Nat} (h : RepV w Z (.slice o l) v f) (hs : sizesAll sz l) :
    ∃ (ax : Option Addr) (cap : Nat) (xs : List Value) (f1 : FP), v = .slice ax l.length cap ∧ xs.length = l.length * sz ∧ (ax = none → xs = []) ∧ (∀ b, ax = some b → ∀ j u, xs[j]? = some u → w.cell? (b.add j) = some u) ∧ RepXs w Z l xs f1 ∧ (∀ b, f1 b ≤ f b) ∧
      l.length ≤ cap ∧ cap ≤ maxLen ∧ (o = true → (l = [] ∧ cap = 0) ∨ ∃ (g : Nat) (cur : Array Value) (e : TypeId), l ≠ [] ∧ ax = some ⟨g, 0, none⟩ ∧ w.heap[g]? = some (.cells cur e (0, 0)) ∧ cur.size = cap * sz ∧ cur.toList.take (l.length * sz) = xs ∧ ∀ b, f b = (if b = g then 1 else 0) + f1 b) := by
  obtain ⟨h1, h2⟩ := h
  simp only [RepX] at h2
  rcases h2 with ⟨rfl, h0, ax, cap, h3, h4, h5, h6⟩ | ⟨hne, g, off, cap, xs, sz', f1, h3, h4, h5, h6, h7, h8, h9⟩
  · exact ⟨ax, cap, [], fun _ => 0, cells_single h1 h3, by simp, fun _ => rfl, fun b _ j u hu => by simp at hu, ⟨rfl, fun _ => rfl⟩, fun b => Nat.zero_le _, Nat.zero_le _, h4, fun ho => .inl ⟨rfl, h6 ho⟩⟩
  · have hsz : sz' = sz := by
      cases l with
      | nil => exact absurd rfl hne
      | cons x l => exact (h7 x (by simp)).symm.trans (hs x (by simp))
    subst hsz
    refine ⟨_, cap, xs, f1, cells_single h1 h3, h6, by simp, ?_, h8, ?_, h5, h4, ?_⟩
    · intro b hb j u hu
      cases hb
      rw [addr_add]
      rcases h9 with ⟨_, _, _, _, hc⟩ | ⟨_, hoff, _, cur, e, hh, _, hx⟩
      · exact hc j u hu
      · rw [hoff, Nat.zero_add]; exact cell_of_take hh (by rw [hx]; exact hu)
    · intro b
      rcases h9 with ⟨_, _, h0, h10, _⟩ | ⟨_, _, he, _⟩
      · rw [h10]; exact Nat.zero_le _
      · rw [he]; omega
    · intro ho
      rcases h9 with ⟨ho', _⟩ | ⟨_, hoff, he, cur, e, hh, hc, hx⟩
      · rw [ho'] at ho; cases ho
      · exact .inr ⟨g, cur, e, hne, by rw [hoff], hh, hc, hx, he⟩

theorem sizesAll.append {sz : Nat} {l m : List D} (h1 : sizesAll sz l) (h2 : sizesAll sz m) : sizesAll sz (l ++ m) := fun x hx => (List.mem_append.1 hx).elim (h1 x) (h2 x)

/-- Appending, the parts in hand. -/
theorem sv_app_core {S : FP} (h : Core w0 tk n Z0 Z F S T a w) {t : TypeId} {s x : Operand} {sz : Nat} (hop : o.op = .call { callee := .builtin .append, args := #[s, x], argTypes := #[t, t] })
    (ht : okElem P t (fun i => i.size == sz && sz != 0 && decide (i.bytes ≤ 128) && match i.zero with | some z => z.cells.size == sz | none => false) = true)
    {l es : List D} {f fe fq : FP} {oe : Bool} (hl : RepV w Z (.slice true l) (a.eval s) f) (he : RepV w Z (.slice oe es) (a.eval x) fe)
    (hsl : sizesAll sz l) (hse : sizesAll sz es) (hlen : l.length + es.length ≤ 1099511627776)
    (hq : ∀ b, f b + fq b ≤ S b) (hfe : oe = false ∨ D.imms es = true ∨ ∀ b, fe b ≤ fq b) {d : Nat} (hdst : o.dst = some d) (hd : d < n) {Q : Exit → Act → World → Prop} :
    o.wp P a w (fun a' w' => ∃ Z' F', Core w0 tk n Z0 Z' F' (fun _ => 0) (AS.put T d (.d (.slice true (l ++ es)))) a' w') Q := by
  obtain ⟨e, i, hu, hi, hp⟩ := okElem_iff ht
  simp only [Bool.and_eq_true, beq_iff_eq, decide_eq_true_eq, bne_iff_ne, ne_eq] at hp
  obtain ⟨⟨⟨hi1, hi2⟩, hi3⟩, hz⟩ := hp
  subst hi1
  cases hzv : i.zero with
  | none => simp [hzv] at hz
  | some z =>
  simp only [hzv, beq_iff_eq] at hz
  obtain ⟨ax, cap, xs, f1, v1, x1, x2, x3, x4, x5, x6, x7, x8⟩ := sliceParts hl hsl
  obtain ⟨bx, cap', ys, fe1, v2, y1, y2, y3, y4, y5, y6, y7, y8⟩ := sliceParts he hse
  have hfe1 : ∀ b, fe1 b ≤ fq b := by
    rcases hfe with ho | hi | hh
    · subst ho
      intro b
      -- a shared slice's elements own nothing
      have h0 : ∀ b, fe b = 0 := by
        obtain ⟨_, k⟩ := he
        simp only [RepX] at k
        rcases k with ⟨_, k, _⟩ | ⟨_, _, _, _, _, _, _, _, _, _, _, _, _, k⟩
        · exact k
        · rcases k with ⟨_, _, k, _⟩ | ⟨k, _⟩
          · exact k
          · cases k
      have := y5 b; have := h0 b; omega
    · intro b; rw [RepXs.imm0 es hi y4 b]; exact Nat.zero_le _
    · intro b; exact Nat.le_trans (y5 b) (hh b)
  have hrunOf : ∀ {r : Value} {w' : World}, (Builtin.append_ #[t, t] o.type #[a.eval s, a.eval x]).run P w = .ok r w' → (execOp a.eval o).run P w = .ok (.value r) w' := by
    intro r w' hr
    simp [execOp, hop, resolve, invoke, builtin, hr]
  have hm : w.heap.size < w.heap.size + 1 := by omega
  have hmax : maxLen = 9223372036854775807 := rfl
  by_cases he0 : es.length = 0
  · -- nothing to append
    have hes : es = [] := List.length_eq_zero_iff.1 he0
    subst hes
    have := app_none (P := P) (w := w) (t := t) (ty := o.type) hu hi (base := ax) (ax := bx) (sLen := l.length) (sCap := cap) (c := cap') x6
    refine wp_value (hrunOf (by rw [v1, v2]; exact this)) ?_
    rw [hdst, List.append_nil, ← v1]
    exact ⟨Z, _, h.putAll hd rfl (f := f) hl (fun b => by have := hq b; omega)⟩
  · have hene : es ≠ [] := by intro e; rw [e] at he0; exact he0 rfl
    by_cases hroom : l.length + es.length ≤ cap
    · -- in place
      rcases x8 rfl with ⟨hl0, hc0⟩ | ⟨g, cur, e', hne, rfl, hg, hcs, hxs, hf⟩
      · omega
      · have hfit : l.length * i.size + ys.length ≤ cur.size := by
          rw [y1, ← Nat.add_mul, hcs]; exact Nat.mul_le_mul_right _ hroom
        have := app_room (P := P) (w := w) (t := t) (ty := o.type) (e := e) hu hi (g := g) (sLen := l.length) (sCap := cap) (c := cap') hg y1 y2 y3 (RepXs.oneCell es y4) hroom hfit
        refine wp_value (hrunOf (by rw [v1, v2]; exact this)) ?_
        rw [hdst]
        have hSg : S g = 1 := by have := hq g; have := hf g; have := h.one 0 g; simp at *; omega
        have hfg : f1 g = 0 ∧ fq g = 0 := by have := hq g; have := hf g; have := h.one 0 g; simp at *; omega
        have hsize : (w.setRow g (spliced cur (l.length * i.size) ys)).heap.size = w.heap.size := by simp [World.setRow]
        have hoth : ∀ b, b ≠ g → (w.setRow g (spliced cur (l.length * i.size) ys)).heap[b]? = w.heap[b]? := fun b hb => by rw [heap_setRow hg, if_neg hb]
        have hzg : ∀ b, Z b → Z b ∧ (w.setRow g (spliced cur (l.length * i.size) ys)).heap[b]? = w.heap[b]? := fun b hb =>
          ⟨hb, hoth b (by intro e; subst e; have := (h.zf b hb).2.1; omega)⟩
        have h2 := h.step (w' := w.setRow g (spliced cur (l.length * i.size) ys)) (Z' := Z) (S' := S)
          ⟨rfl, rfl, rfl, by rw [hsize]; exact Nat.le_refl _, fun k _ hk => hoth k (by intro e; subst e; omega)⟩
          (fun b => by have := h.one 0 b; omega) (fun b hb => ⟨by rw [hsize]; exact (h.own b (.inl hb)).1, .inr hb⟩) (fun b hb => hb) (fun b hb => .inl hb)
        have hall : RepXs (w.setRow g (spliced cur (l.length * i.size) ys)) Z (l ++ es) (xs ++ ys) (fun b => f1 b + fe1 b) :=
          (RepXs.append l).2 ⟨xs, ys, f1, fe1, rfl, fun _ => rfl, RepXs.mono hzg l (fun b hb => hoth b (by intro e; subst e; omega)) x4, RepXs.mono hzg es (fun b hb => hoth b (by intro e; subst e; have := hfe1 b; omega)) y4⟩
        have hsp : (spliced cur (l.length * i.size) ys).toList.take ((l ++ es).length * i.size) = xs ++ ys := by
          simp only [spliced, List.length_append]
          rw [hxs, List.take_append_of_le_length (by simp; rw [x1, y1, Nat.add_mul]; exact Nat.le_refl _), List.take_of_length_le (by simp; rw [x1, y1, Nat.add_mul]; exact Nat.le_refl _)]
        obtain ⟨f2, r1, r2⟩ := RepX.mkOwn (g := g) (cap := cap) (cur := spliced cur (l.length * i.size) ys) (e := e') (hsl.append hse) hall (by rw [heap_setRow hg, if_pos rfl])
          (by rw [spliced_size hfit, hcs]) x7 (by simpa using hroom) hsp (fun e => absurd (List.append_eq_nil_iff.1 e).1 hne)
        rw [List.length_append] at r1
        exact ⟨Z, _, h2.putAll hd rfl (f := f2) ⟨rfl, r1⟩ (fun b => by have := r2 b; have := hfe1 b; have := hq b; have := hf b; omega)⟩
    · -- into a new block
      have hbytes : (l.length + es.length) * i.bytes ≤ 140737488355328 := by
        have := Nat.mul_le_mul hlen hi3; omega
      have := app_grow (P := P) (w := w) (t := t) (ty := o.type) (e := e) hu hi hzv (base := ax) (ax := bx) (sLen := l.length) (sCap := cap) (c := cap') x1 x2 x3 y1 y2 y3 (by omega) hbytes hlen
      refine wp_value (hrunOf (by rw [v1, v2]; exact this)) ?_
      rw [hdst]
      have hge := grownCap_ge w (l.length + es.length) cap e
      have hle := grownCap_le_maxLen w (l.length + es.length) cap e (by rw [hmax]; omega)
      generalize hcap : grownCap w (l.length + es.length) cap e = cap2 at *
      generalize hobj : Obj.cells (xs.toArray ++ ys.toArray ++ Builtin.zeroCells z.cells (cap2 - (l.length + es.length))) e = ob
      have hk := h.keepsAlloc (Fr.allocD w ob _) (f := S) (fun b => Nat.le_refl _)
      have h2 := h.newBlock (Fr.allocD w ob _) (by simp)
      have hall : RepXs (w.drew.alloc ob) Z (l ++ es) (xs ++ ys) (fun b => f1 b + fe1 b) :=
        (RepXs.append l).2 ⟨xs, ys, f1, fe1, rfl, fun _ => rfl, RepXs.mono hk.z l (fun b hb => hk.k b (by have := hq b; have := x5 b; omega)) x4, RepXs.mono hk.z es (fun b hb => hk.k b (by have := hfe1 b; have := hq b; omega)) y4⟩
      have hnew : (w.drew.alloc ob).heap[w.heap.size]? = some ob := heap_alloc_new w.drew ob
      rw [← hobj] at hnew hall h2 hk ⊢
      have hzc : (Builtin.zeroCells z.cells (cap2 - (l.length + es.length))).size = (cap2 - (l.length + es.length)) * i.size := by
        simp [Builtin.zeroCells, hz]
      obtain ⟨f2, r1, r2⟩ := RepX.mkOwn (g := w.heap.size) (cap := cap2) (e := e) (hsl.append hse) hall hnew
        (by simp only [Array.size_append, List.size_toArray, hzc, x1, y1]; rw [← Nat.add_mul, ← Nat.add_mul]; congr 1; omega) hle (by simpa using hge)
        (by
          simp only [Array.toList_append, List.length_append]
          rw [List.take_append_of_le_length (by simp; rw [x1, y1, Nat.add_mul]; exact Nat.le_refl _), List.take_of_length_le (by simp; rw [x1, y1, Nat.add_mul]; exact Nat.le_refl _)])
        (fun e => absurd (List.append_eq_nil_iff.1 e).2 hene)
      rw [List.length_append] at r1
      exact ⟨Z, _, h2.putAll hd rfl (f := f2) ⟨rfl, r1⟩ (fun b => by have := r2 b; have := hfe1 b; have := hq b; have := x5 b; simp only [ind]; omega)⟩
end
end AS
set_option linter.unusedVariables false
set_option linter.unusedSimpArgs false
namespace AS
open Go

theorem put_put (T : Nat → SV) {m : Nat} {s : SV} : AS.put (AS.put T m .un) m s = AS.put T m s := by
  funext t
  simp only [AS.put]
  by_cases ht : t = m
  · simp [ht]
  · simp only [ht, if_false]
    split <;> simp_all [SV.root]

theorem RepV.nilSlice {w : World} {Z : Nat → Prop} {v : Value} {f : FP} (o : Bool) (h : RepV w Z .nil v f) : RepV w Z (.slice o []) v f := by
  obtain ⟨rfl, h2⟩ := h.nil
  refine ⟨rfl, ?_⟩
  simp only [RepX]
  exact .inl ⟨trivial, h2, none, 0, by simp [Value.cells], Nat.zero_le _, fun _ => rfl, fun _ => rfl⟩

theorem RepV.niloSlice {w : World} {Z : Nat → Prop} {v : Value} {f : FP} (o : Bool) (h : RepV w Z .nilo v f) : RepV w Z (.slice o []) v f :=
  RepV.nilSlice o (by obtain ⟨rfl, h2⟩ := h.nilo; exact ⟨rfl, by simp only [RepX]; exact ⟨rfl, h2⟩⟩)

section
variable {P : Program} {w0 : World} {tk : FP} {n : Nat} {Z0 Z : Nat → Prop} {F : Nat → FP} {T : Nat → SV} {a : Act} {w : World} {o : Oper}

theorem sv_app (h : Core w0 tk n Z0 Z F (fun _ => 0) T a w) {t : TypeId} {s x : Operand} {s' x' : Opd} {sz : Nat} (hop : o.op = .call { callee := .builtin .append, args := #[s, x], argTypes := #[t, t] })
    (hs : okOpd s s' = true) (hx : okOpd x x' = true)
    (ht : okElem P t (fun i => i.size == sz && sz != 0 && decide (i.bytes ≤ 128) && match i.zero with | some z => z.cells.size == sz | none => false) = true)
    {y : D} {T' T'' : Nat → SV} {l es : List D} (h1 : srcTake T s' = some (y, T')) (h2 : baseOf y = some l) (h3 : tailOf T' x' = some (es, T'')) (hlen : l.length + es.length ≤ 1099511627776)
    (hsl : sizesAll sz l) (hse : sizesAll sz es) {d : Nat} (hdst : o.dst = some d) (hd : d < n) {Q : Exit → Act → World → Prop} :
    o.wp P a w (fun a' w' => ∃ Z' F', Core w0 tk n Z0 Z' F' (fun _ => 0) (AS.put T'' d (.d (.slice true (l ++ es)))) a' w') Q := by
  obtain ⟨F1, f, k1, r1⟩ := h.src hs h1
  have r2 : RepV w Z (.slice true l) (a.eval s) f := by
    unfold baseOf at h2
    split at h2
    · cases h2; exact r1.nilSlice true
    · cases h2; exact r1
    · cases h2
  have fin : ∀ {S : FP} {F2 : Nat → FP} {T2 : Nat → SV} {fe fq : FP} {oe : Bool}, Core w0 tk n Z0 Z F2 S T2 a w → T2 = T'' → RepV w Z (.slice oe es) (a.eval x) fe → (∀ b, f b + fq b ≤ S b) → (oe = false ∨ D.imms es = true ∨ ∀ b, fe b ≤ fq b) →
      o.wp P a w (fun a' w' => ∃ Z' F', Core w0 tk n Z0 Z' F' (fun _ => 0) (AS.put T'' d (.d (.slice true (l ++ es)))) a' w') Q := by
    intro S F2 T2 fe fq oe hc hT hr hq hfe
    subst hT
    exact sv_app_core hc hop ht r2 hr hsl hse hlen hq hfe hdst hd
  cases x' with
  | t m =>
    cases x <;> simp only [okOpd] at hx <;> try (cases hx)
    rename_i m'
    simp only [beq_iff_eq] at hx
    subst hx
    have he : a.eval (.tmp m') = tmOf a m' := rfl
    rw [he] at fin
    simp only [tailOf] at h3
    split at h3
    · rename_i es' hT
      split at h3
      · rename_i hi
        simp only [Option.some.injEq, Prod.mk.injEq] at h3
        obtain ⟨rfl, rfl⟩ := h3
        have hr := k1.rep m'
        rw [hT, SRep.none rfl] at hr
        exact fin k1 rfl hr (fq := fun _ => 0) (fun b => by simp) (.inr (.inl hi))
      · simp only [Option.some.injEq, Prod.mk.injEq] at h3
        obtain ⟨rfl, rfl⟩ := h3
        obtain ⟨q1, q2⟩ := k1.take hT
        exact fin q1 rfl q2 (fq := F1 m') (fun b => by simp) (.inr (.inr fun b => Nat.le_refl _))
    · rename_i es' hT
      simp only [Option.some.injEq, Prod.mk.injEq] at h3
      obtain ⟨rfl, rfl⟩ := h3
      have hr := k1.rep m'
      rw [hT, SRep.none rfl] at hr
      exact fin k1 rfl hr (fq := fun _ => 0) (fun b => by simp) (.inl rfl)
    · rename_i hT
      simp only [Option.some.injEq, Prod.mk.injEq] at h3
      obtain ⟨rfl, rfl⟩ := h3
      have hr := k1.rep m'
      rw [hT, SRep.none rfl] at hr
      exact fin k1 rfl (RepV.nilSlice false hr) (fq := fun _ => 0) (fun b => by simp) (.inl rfl)
    · rename_i r p hT
      split at h3
      · rename_i oe es' hw
        split at h3
        · rename_i hi
          simp only [Option.some.injEq, Prod.mk.injEq] at h3
          obtain ⟨rfl, rfl⟩ := h3
          have hr : (T' m').root = some r := by rw [hT]; rfl
          obtain ⟨x2, cs, oa, y2, c, ob, fr, fy, j1, j2, j3, j4, j5, j6, j7, j8⟩ := k1.way hr
          rw [hT] at j5 j6
          have : y2 = .slice oe es' := by rw [show (SV.ref r p).path = p from rfl, hw] at j6; cases j6; rfl
          subst this
          exact fin k1 rfl (fe := fy) ⟨j5.2, by rw [j5.1]; exact j7⟩ (fq := fun _ => 0) (fun b => by simp) (.inr (.inl hi))
        · cases h3
      · cases h3
    · cases h3
  | c z =>
    cases x <;> simp only [okOpd] at hx <;> try (cases hx)
    rotate_left
    · cases z <;> simp [okFn, tailOf] at hx h3
    rename_i v
    have hr := okConst_rep hx w Z
    have he : a.eval (.const v) = v := rfl
    rw [he] at fin
    cases z with
    | nil =>
      simp only [tailOf, Option.some.injEq, Prod.mk.injEq] at h3
      obtain ⟨rfl, rfl⟩ := h3
      exact fin k1 rfl (RepV.nilSlice false hr) (fq := fun _ => 0) (fun b => by simp) (.inl rfl)
    | slice oe l2 =>
      cases l2 with
      | nil =>
        simp only [tailOf, Option.some.injEq, Prod.mk.injEq] at h3
        obtain ⟨rfl, rfl⟩ := h3
        exact fin k1 rfl hr (fq := fun _ => 0) (fun b => by simp) (.inr (.inl rfl))
      | cons => simp [tailOf] at h3
    | int => simp [tailOf] at h3
    | hole => simp [tailOf] at h3
    | nilo => simp [tailOf] at h3
    | bool => simp [tailOf] at h3
    | str => simp [tailOf] at h3
    | agg => simp [tailOf] at h3
    | ptr => simp [tailOf] at h3
    | fn => simp [tailOf] at h3

def takenX : List Operand → List (Bool × Opd) → List Operand
  | x :: xs, (true, _) :: ys => x :: takenX xs ys
  | _ :: xs, (false, _) :: ys => takenX xs ys
  | _, _ => []

theorem okOpds_taken : ∀ {xs : List Operand} {ys : List (Bool × Opd)}, okOpds xs (ys.map (·.2)) = true → okOpds (takenX xs ys) (takenOf ys) = true
  | [], [], _ => rfl
  | x :: xs, (true, y) :: ys, h => by
    simp only [List.map_cons, okOpds, Bool.and_eq_true] at h
    simp [takenX, takenOf, okOpds, h.1, okOpds_taken h.2]
  | x :: xs, (false, y) :: ys, h => by
    simp only [List.map_cons, okOpds, Bool.and_eq_true] at h
    simp [takenX, takenOf, okOpds_taken h.2]
  | [], _ :: _, h => by simp [okOpds] at h
  | _ :: _, [], h => by simp [okOpds] at h

theorem mergeRep {S : FP} (h : Core w0 tk n Z0 Z F S T a w) {Zc : Nat → Prop} (hz : ∀ b, Z b → Zc b) (hs : ∀ b, b < w.heap.size → S b = 0 → Zc b) :
    ∀ {xs : List Operand} {ys : List (Bool × Opd)} {ds0 ds : List D} {f : FP}, okOpds xs (ys.map (·.2)) = true → mergeA T ys ds0 = some ds → RepVs w Z ds0 ((takenX xs ys).map a.eval) f → RepVs w Zc ds (xs.map a.eval) f
  | [], [], ds0, ds, f, _, hm, hr => by
    cases ds0 with
    | nil => simp only [mergeA, Option.some.injEq] at hm; subst hm; exact hr
    | cons => simp [mergeA] at hm
  | x :: xs, (true, y) :: ys, ds0, ds, f, ho, hm, hr => by
    simp only [List.map_cons, okOpds, Bool.and_eq_true] at ho
    cases ds0 with
    | nil => simp [mergeA] at hm
    | cons d0 ds0 =>
      simp only [mergeA] at hm
      cases hm2 : mergeA T ys ds0 with
      | none => simp [hm2] at hm
      | some ds2 =>
        simp only [hm2, Option.map_some, Option.some.injEq] at hm
        subst hm
        simp only [takenX, List.map_cons, RepVs] at hr
        obtain ⟨v, vs2, f1, f2, hv, h2, h3, h4⟩ := hr
        simp only [List.cons.injEq] at hv
        obtain ⟨rfl, rfl⟩ := hv
        simp only [List.map_cons, RepVs]
        exact ⟨_, _, f1, f2, rfl, h2, RepV.mono (fun b hb => ⟨hz b hb, rfl⟩) (fun b _ => rfl) h3, mergeRep h hz hs ho.2 hm2 h4⟩
  | x :: xs, (false, y) :: ys, ds0, ds, f, ho, hm, hr => by
    simp only [List.map_cons, okOpds, Bool.and_eq_true] at ho
    have hm' : ((rd T y).bind fun y => (mergeA T ys ds0).map (y.toImm :: ·)) = some ds := by
      cases ds0 <;> exact hm
    cases hy : rd T y with
    | none => simp [hy] at hm'
    | some z =>
      cases hm2 : mergeA T ys ds0 with
      | none => simp [hy, hm2] at hm'
      | some ds2 =>
        simp only [hy, hm2, Option.bind_some, Option.map_some, Option.some.injEq] at hm'
        subst hm'
        simp only [takenX] at hr
        obtain ⟨fy, q1, q2⟩ := h.rdBlock ho.1 hy
        simp only [List.map_cons, RepVs]
        exact ⟨_, _, fun _ => 0, f, rfl, fun b => by simp, q1.toImm hz (fun b hb => hs b (q2 b hb).1 (q2 b hb).2), mergeRep h hz hs ho.2 hm2 hr⟩
  | [], _ :: _, _, _, _, ho, _, _ => by simp [okOpds] at ho
  | _ :: _, [], _, _, _, ho, _, _ => by simp [okOpds] at ho

theorem sv_callT (h : Core w0 tk n Z0 Z F (fun _ => 0) T a w) {f : Nat} {xs : Array Operand} {ts : Array TypeId} {ys : List (Bool × Opd)} (hop : o.op = .call { callee := .value (.func f), args := xs, argTypes := ts })
    (hok : okOpds xs.toList (ys.map (·.2)) = true) {ds : List D} {T' : Nat → SV} (hat : argTakes T ys = some (ds, T')) {r : List D} (hcon : Con P f ds [] r) (hsol : D.solids r = true) {d : Nat} (hdst : o.dst = some d) (hd : d < n) {Q : Exit → Act → World → Prop} :
    o.wp P a w (fun a' w' => ∃ Z' F', Core w0 tk n Z0 Z' F' (fun _ => 0) (AS.put T' d (resSV r)) a' w') Q := by
  obtain ⟨hfn, hcon⟩ := hcon
  simp only [argTakes] at hat
  cases htk : takes T (takenOf ys) with
  | none => simp [htk] at hat
  | some q =>
    obtain ⟨ds0, T1⟩ := q
    cases hmg : mergeA T1 ys ds0 with
    | none => simp [htk, hmg] at hat
    | some ds2 =>
      simp only [htk, hmg, Option.bind_some, Option.map_some, Option.some.injEq, Prod.mk.injEq] at hat
      obtain ⟨rfl, rfl⟩ := hat
      obtain ⟨F1, f1, h1, r1⟩ := h.srcs (okOpds_taken hok) htk
      have e : (fun b => 0 + f1 b) = f1 := by funext b; simp
      rw [e] at h1
      have hrep := mergeRep h1 (Zc := fun b => b < w.heap.size ∧ f1 b = 0) (fun b hb => ⟨(h1.zf b hb).1, (h1.zf b hb).2.1⟩) (fun b hb hb2 => ⟨hb, hb2⟩) hok hmg r1
      have hcalls := hcon w _ _ f1 hrep (fun b => by have := h1.one 0 b; omega) (fun b hb => (h1.own b (.inl hb)).1) (fun b hb => hb) (h1.tz.le fun b hb => ⟨(h1.zf b hb).1, (h1.zf b hb).2.1⟩)
      have hvs : (xs.toList.map a.eval).toArray = xs.map a.eval := by apply Array.ext'; simp
      rw [hvs] at hcalls
      refine wp_enter (run_enter hop hfn) hcalls ?_
      rintro e w' ⟨v, Z', G, H, rfl, hret⟩
      refine ⟨v, rfl, ?_⟩
      obtain ⟨Z2, h2, h3⟩ := h1.called hret (.inl hsol)
      rw [hdst]
      exact ⟨Z2, _, h2.putAll hd (resSV_root r) h3.sv (fun _ => Nat.le_refl _)⟩

theorem callO_aux {f : Nat} {xs : Array Operand} {ts : Array TypeId} {m : Nat} {ys : List Opd} (hop : o.op = .call { callee := .value (.func f), args := xs, argTypes := ts })
    (hok : okOpds xs.toList (.t m :: ys) = true) : ∃ xs', xs.toList = .tmp m :: xs' ∧ okOpds xs' ys = true ∧ (xs.map a.eval) = (tmOf a m :: xs'.map a.eval).toArray := by
  cases hx : xs.toList with
  | nil => rw [hx] at hok; simp [okOpds] at hok
  | cons x xs' =>
    rw [hx] at hok
    simp only [okOpds, Bool.and_eq_true] at hok
    have : x = .tmp m := by
      have h1 := hok.1
      cases x <;> simp [okOpd] at h1
      rw [h1]
    subst this
    refine ⟨xs', rfl, hok.2, ?_⟩
    apply Array.ext'
    simp [hx]
    rfl

theorem Core.lt_of (h : Core w0 tk n Z0 Z F (fun _ => 0) T a w) {t : Nat} (ht : T t ≠ .un) : t < n := by
  by_cases hn : t < n
  · exact hn
  · exact absurd (h.lt t (by omega)) ht

theorem Core.wr {S : FP} (h : Core w0 tk n Z0 Z F S T a w) {t r : Nat} (hr : (T t).root = some r) : ∃ x, rootD T r = some x ∧ T r ≠ .un ∧ (T r).root = none := by
  obtain ⟨x, cs, oa, y, c, ob, fr, fy, k1, k2, _⟩ := h.way hr
  refine ⟨x, k2, ?_, ?_⟩
  · rcases k1 with ⟨h1, _⟩ | ⟨_, _, _, h1, _⟩ <;> rw [h1] <;> simp
  · rcases k1 with ⟨h1, _⟩ | ⟨_, _, _, h1, _⟩ <;> rw [h1] <;> rfl

theorem Core.readd {S : FP} (h : Core w0 tk n Z0 Z F S T a w) {T2 : Nat → SV} (h2 : ∀ t, T2 t = T t ∨ (T t = .un ∧ t < n ∧ ∃ r, (T2 t).root = some r ∧ SRepR w Z T (tmOf a) (tmOf a t) (T2 t) r)) :
    Core w0 tk n Z0 Z F S T2 a w := by
  have hro : ∀ {r x cs oa}, RootOf w T (tmOf a) r x cs oa → RootOf w T2 (tmOf a) r x cs oa := by
    intro r x cs oa hr
    have hne : T r ≠ .un := by rcases hr with ⟨u, _⟩ | ⟨_, _, _, u, _⟩ <;> rw [u] <;> simp
    have e : T2 r = T r := (h2 r).resolve_right fun hh => hne hh.1
    rcases hr with ⟨u1, u2⟩ | ⟨b, cur, e', u1, u2⟩
    · exact .inl ⟨by rw [e]; exact u1, u2⟩
    · exact .inr ⟨b, cur, e', by rw [e]; exact u1, u2⟩
  refine ⟨h.size, h.dfr, ?_, ?_, h.dis, h.one, h.zf, h.own, h.zz, h.zn, h.fr, h.tz⟩
  · intro t
    have h1 := h.rep t
    rcases h2 t with e | ⟨hu, _, r, hr, hs⟩
    · rw [e]
      cases hrt : (T t).root with
      | none => rw [SRep.none hrt] at h1 ⊢; exact h1
      | some r =>
        rw [SRep.some hrt] at h1 ⊢
        obtain ⟨h0, x, cs, oa, y, c, ob, k1, k2⟩ := h1
        exact ⟨h0, x, cs, oa, y, c, ob, hro k1, k2⟩
    · rw [hu, SRep.none rfl] at h1
      rw [SRep.some hr]
      obtain ⟨x, cs, oa, y, c, ob, k1, k2⟩ := hs
      exact ⟨h1, x, cs, oa, y, c, ob, hro k1, k2⟩
  · intro t ht
    rcases h2 t with e | ⟨_, hn, _⟩
    · rw [e]; exact h.lt t ht
    · omega

/-- A call that writes through its first argument: the way to it in general. -/
theorem sv_callO_core {f : Nat} {xs : Array Operand} {ts : Array TypeId} {m rt : Nat} {ys : List Opd} (h : Core w0 tk n Z0 Z F (fun _ => 0) T a w) (hop : o.op = .call { callee := .value (.func f), args := xs, argTypes := ts })
    (hok : okOpds xs.toList (.t m :: ys) = true) {ds : List D} (hds : rds (AS.put T rt .un) ys = some ds) {y y' : D} {r : List D} (hcon : Con P f (y :: D.toImms ds) [(0, y')] r)
    (hsz : y'.size = y.size) (hsol' : y'.solid = true) (hsol : D.solids r = true) {fy fr : FP} {c : List Value} (hcell : (tmOf a m).cells.toList = c) (hagg : vAgg (tmOf a m) = y.isAgg) (hy : RepX w Z y c fy) (hF : ∀ b, fr b + fy b ≤ F rt b)
    {s : SV} (hroot : s.root = none) (hrt : rt < n)
    (hback : ∀ (w' : World) (f' : FP), Keeps Z Z fr w w' → RepX w' Z y' c f' → SRepN w' Z (tmOf a rt) s (fun b => fr b + f' b))
    (hroots : ∀ (w' : World) (T2 : Nat → SV) (tm2 : Nat → Value) (x : D) (cs : List Value) (oa : Option (Nat × Nat)), Keeps Z Z fr w w' → T2 rt = s → tm2 rt = tmOf a rt → RootOf w T (tmOf a) rt x cs oa → ∃ x', RootOf w' T2 tm2 rt x' cs oa)
    {d : Nat} (hdst : o.dst = some d) (hd : d < n) {Q : Exit → Act → World → Prop} :
    o.wp P a w (fun a' w' => ∃ Z' F', Core w0 tk n Z0 Z' F' (fun _ => 0) (keepM T (AS.put (AS.put T rt s) d (resSV r)) rt d) a' w') Q := by
  obtain ⟨hfn, hcon⟩ := hcon
  obtain ⟨xs', hx1, hx2, hx3⟩ := callO_aux (a := a) hop hok
  have h1 := h.set (dst := rt) (a' := a) (s := .un) (f := fun _ => 0) (S' := F rt) h.size h.dfr (fun _ _ => rfl) (by simp [SRep, SV.root, SRepN]) (fun b => by simp) (fun _ => rfl)
  have hone : ∀ b, F rt b ≤ 1 := fun b => by have := h.one rt b; omega
  have hrest := rds_rep h1 (Z' := fun b => b < w.heap.size ∧ F rt b = 0) (fun b hb => ⟨(h.zf b hb).1, (h.zf b hb).2.2 rt⟩) (fun b hb hb2 => ⟨hb, hb2⟩) hx2 hds
  have hrep : RepVs w (fun b => b < w.heap.size ∧ F rt b = 0) (y :: D.toImms ds) (tmOf a m :: xs'.map a.eval) fy :=
    ⟨_, _, fy, fun _ => 0, rfl, fun b => by simp, ⟨hagg, by rw [hcell]; exact RepX.mono (fun b hb => ⟨⟨(h.zf b hb).1, (h.zf b hb).2.2 rt⟩, rfl⟩) y (fun _ _ => rfl) hy⟩, hrest⟩
  have hcalls := hcon w _ _ fy hrep (fun b => by have := hF b; have := hone b; omega) (fun b hb => (h.own b (.inr ⟨rt, by have := hF b; omega⟩)).1) (fun b hb => ⟨hb.1, by have := hF b; have := hb.2; omega⟩) (h.tz.le fun b hb => ⟨(h.zf b hb).1, (h.zf b hb).2.2 rt⟩)
  rw [← hx3] at hcalls
  refine wp_enter (run_enter hop hfn) hcalls ?_
  rintro e w' ⟨v, Z', G, H, rfl, hret⟩
  refine ⟨v, rfl, ?_⟩
  rw [hdst]
  obtain ⟨v0, g1, g2, o1, o2, o3, o4⟩ := hret.outs
  simp only [List.getElem?_cons_zero, Option.some.injEq] at o1
  subst o1
  have hH : H = g1 := by funext b; have := o2 b; have := o4 b; omega
  subst hH
  have hy2 : RepX w' Z y' c H := by have := RepX.solid (Z' := Z) y' hsol' o3.2; rw [hcell] at this; exact this
  have hfr := hret.fr
  have hown := hret.own
  have hS : ∀ b, (F rt b - fy b) + (G b + H b) ≤ 1 := by
    intro b
    have := hret.one b; have := hone b; have := hF b
    by_cases h0 : 0 < G b + H b
    · have h3 := hown b h0
      by_cases h4 : 0 < F rt b - fy b
      · have h5 := (h.own b (.inr ⟨rt, by omega⟩)).1; omega
      · omega
    · omega
  have h2 := h1.step (w' := w') (Z' := Z) (S' := fun b => (F rt b - fy b) + (G b + H b)) ⟨hfr.os, hfr.tape, hfr.output, hfr.size, fun k hk hk2 => hfr.block k hk (by have := hF k; omega)⟩
    hS (fun b hb => by
      by_cases h0 : 0 < G b + H b
      · have h3 := hown b h0; have := hF b; exact ⟨h3.1, h3.2.imp id fun h => by omega⟩
      · have h5 := (h.own b (.inr ⟨rt, by omega⟩)).1
        have := hfr.size
        exact ⟨by omega, .inr (by omega)⟩) (fun b hb => hb) (fun b hb => .inl hb)
  have hkeep : Keeps Z Z fr w w' := ⟨fun b hb => ⟨hb, hfr.block b (h.zf b hb).1 (by have := hF b; have := (h.zf b hb).2.2 rt; omega)⟩,
    fun b hb => hfr.block b (h.own b (.inr ⟨rt, by have := hF b; omega⟩)).1 (by have := hF b; have := hone b; omega)⟩
  have h3 := h2.set (dst := rt) (a' := a) (s := s) (f := fun b => fr b + H b) (S' := G) h.size h.dfr (fun _ _ => rfl) (by rw [SRep.none hroot]; exact hback w' H hkeep hy2) (fun b => by have := hF b; omega) (fun hn => by omega)
  rw [put_put] at h3
  refine ⟨Z, _, (h3.putAll hd (resSV_root r) (hret.res.solid hsol).sv (fun _ => Nat.le_refl _)).readd ?_⟩
  intro t
  by_cases hc : t ≠ d ∧ rt ≠ d ∧ isMad (T t) rt = true
  · obtain ⟨htd, hrd, hm⟩ := hc
    have hTt : T t = .mad rt [] := by
      unfold isMad at hm
      split at hm
      · rename_i r' e; simp only [beq_iff_eq] at hm; rw [e, hm]
      · cases hm
    have hrt0 : (T t).root = some rt := by rw [hTt]; rfl
    have htr : t ≠ rt := by
      intro e; subst e
      obtain ⟨x, _, _, q⟩ := h.wr hrt0
      rw [hTt] at q; cases q
    right
    have ek : keepM T (AS.put (AS.put T rt s) d (resSV r)) rt d t = .mad rt [] := by
      simp only [keepM]; rw [if_pos ⟨htd, hrd, hm⟩, hTt]
    refine ⟨?_, h.lt_of (by rw [hTt]; simp), rt, ?_, ?_⟩
    · simp only [AS.put, if_neg htd, if_neg htr, hrt0, if_true]; simp [SV.root]
    · rw [ek]; rfl
    · rw [ek]
      have h5 := h.rep t
      rw [SRep.some hrt0] at h5
      obtain ⟨_, x, cs, oa, y, c0, ob, k1, k2, k3, k4⟩ := h5
      rw [hTt] at k2 k3 k4
      simp only [SV.path, At] at k2
      obtain ⟨rfl, rfl, rfl⟩ := k2
      obtain ⟨g, o', j1, j2, j3⟩ := k4
      have etm : ∀ t', t' ≠ d → tmOf (a.put (some d) v) t' = tmOf a t' := fun t' ht' => by rw [tmOf_put (by rw [h.size]; exact hd), if_neg ht']
      obtain ⟨x', hx'⟩ := hroots w' (AS.put (AS.put T rt s) d (resSV r)) (tmOf (a.put (some d) v)) _ _ _ hkeep (by
        simp only [AS.put, if_neg hrd, if_true, hroot]; simp) (etm rt hrd) k1
      refine ⟨x', c0, ob, x', c0, ob, hx', ⟨rfl, rfl, rfl⟩, rfl, g, o', by rw [etm t htd]; exact j1, j2, fun j u hu => ?_⟩
      have := j3 j u hu
      simp only [World.cell?] at this ⊢
      rw [(hkeep.z g j2).2]; exact this
  · exact .inl (by simp only [keepM, if_neg hc])

theorem sv_callO_d {f : Nat} {xs : Array Operand} {ts : Array TypeId} {m : Nat} {ys : List Opd} (h : Core w0 tk n Z0 Z F (fun _ => 0) T a w) (hop : o.op = .call { callee := .value (.func f), args := xs, argTypes := ts })
    (hok : okOpds xs.toList (.t m :: ys) = true) {ds : List D} (hds : rds (AS.put T m .un) ys = some ds) {y y' : D} {r : List D} (hcon : Con P f (y :: D.toImms ds) [(0, y')] r) (hT : T m = .d y)
    (hsz : y'.size = y.size) (hag : y'.isAgg = y.isAgg) (hsol' : y'.solid = true) (hsol : D.solids r = true)
    {d : Nat} (hdst : o.dst = some d) (hd : d < n) {Q : Exit → Act → World → Prop} :
    o.wp P a w (fun a' w' => ∃ Z' F', Core w0 tk n Z0 Z' F' (fun _ => 0) (keepM T (AS.put (AS.put T m (.d y')) d (resSV r)) m d) a' w') Q := by
  have hr := h.rep m
  rw [hT, SRep.none rfl] at hr
  exact sv_callO_core h hop hok hds hcon hsz hsol' hsol rfl hr.1 hr.2 (fr := fun _ => 0) (fun b => by simp) (s := .d y') rfl (h.lt_of (by rw [hT]; simp))
    (fun w' f' _ hx => by
      have e : (fun b => (fun _ => 0 : FP) b + f' b) = f' := by funext b; simp
      rw [e]
      exact ⟨by rw [hag]; exact hr.1, hx⟩)
    (fun w' T2 tm2 x cs oa _ h1 h2 h3 => by
      rcases h3 with ⟨u1, u2, u3⟩ | ⟨_, _, _, u1, _⟩
      · exact ⟨y', .inl ⟨h1, by rw [h2]; exact u2, u3⟩⟩
      · rw [hT] at u1; cases u1) hdst hd

theorem sv_callO_ref {f : Nat} {xs : Array Operand} {ts : Array TypeId} {m rt : Nat} {p : List Step} {ys : List Opd} (h : Core w0 tk n Z0 Z F (fun _ => 0) T a w) (hop : o.op = .call { callee := .value (.func f), args := xs, argTypes := ts })
    (hok : okOpds xs.toList (.t m :: ys) = true) {ds : List D} (hds : rds (AS.put T rt .un) ys = some ds) {y y' : D} {r : List D} (hcon : Con P f (y :: D.toImms ds) [(0, y')] r) (hT : T m = .ref rt p) (hw : wayD T rt p = some y)
    (hsz : y'.size = y.size) (hag : y'.isAgg = y.isAgg) (hsol' : y'.solid = true) (hsol : D.solids r = true)
    {d : Nat} (hdst : o.dst = some d) (hd : d < n) {Q : Exit → Act → World → Prop} :
    o.wp P a w (fun a' w' => ∃ Z' F', Core w0 tk n Z0 Z' F' (fun _ => 0) (keepM T (AS.put (AS.put T rt ((T rt).setR p y')) d (resSV r)) rt d) a' w') Q := by
  have hr0 : (T m).root = some rt := by rw [hT]; rfl
  have h1 := h.rep m
  rw [SRep.some hr0] at h1
  obtain ⟨_, x, cs, oa, y2, c, ob, k1, k2, k3, k4⟩ := h1
  rw [hT] at k2 k3 k4
  obtain ⟨f1, r1, r2, r3⟩ := h.root k1
  obtain ⟨fr, fy, q1, q2, q3⟩ := At.focus p r1 k2 k3
  have hx := root_rootD k1
  have : y2 = y := by
    have e := At.get p k2
    simp only [wayD, hx, Option.bind_some, e, Option.some.injEq] at hw
    exact hw
  subst this
  have hsetAgg : (setP p x y').isAgg = x.isAgg := by
    by_cases hp : p = []
    · subst hp
      simp only [SV.path, At] at k2
      simp only [setP]; rw [hag, k2.1]
    · exact setP_isAgg p hp
  rcases k1 with ⟨ht, rfl, rfl⟩ | ⟨g, cur, e, ht, hp, hh, rfl, rfl⟩
  · have hrep := h.rep rt
    rw [ht, SRep.none rfl] at hrep
    refine sv_callO_core h hop hok hds hcon hsz hsol' hsol k4.1 k4.2 q1 (fr := fr) (fun b => by have := r2 b; have := q2 b; omega) (by rw [ht]; rfl) (h.lt_of (by rw [ht]; simp)) ?_ ?_ hdst hd
    · intro w' f' hk hx'
      rw [ht]
      exact ⟨by rw [hsetAgg]; exact hrep.1, q3 w' Z y' f' hsz hk hx'⟩
    · intro w' T2 tm2 x0 cs0 oa0 _ h1 h2 h3
      rw [ht] at h1
      rcases h3 with ⟨u1, u2, u3⟩ | ⟨_, _, _, u1, _⟩
      · exact ⟨_, .inl ⟨h1, by rw [h2]; exact u2, u3⟩⟩
      · rw [ht] at u1; cases u1
  · rcases r3 with ⟨hn, _⟩ | ⟨g2, hg2, he⟩
    · cases hn
    · cases hg2
      refine sv_callO_core h hop hok hds hcon hsz hsol' hsol k4.1 k4.2 q1 (fr := fun b => (if b = g then 1 else 0) + fr b) (fun b => by have := he b; have := q2 b; omega) (by rw [ht]; rfl) (h.lt_of (by rw [ht]; simp)) ?_ ?_ hdst hd
      · intro w' f' hk hx'
        rw [ht]
        exact ⟨g, cur, e, _, hp, by rw [hk.k g (by simp; omega)]; exact hh, q3 w' Z y' f' hsz (hk.le fun b hb => by omega) hx', fun b => Nat.add_assoc _ _ _⟩
      · intro w' T2 tm2 x0 cs0 oa0 hk h1 h2 h3
        rw [ht] at h1
        rcases h3 with ⟨u1, _⟩ | ⟨g0, cur0, e0, u1, u2, u3, u4, u5⟩
        · rw [ht] at u1; cases u1
        · rw [hp] at u2; cases u2
          rw [hh] at u3; cases u3
          exact ⟨_, .inr ⟨g, cur, e, h1, by rw [h2]; exact hp, by rw [hk.k g (by simp; omega)]; exact hh, u4, u5⟩⟩
end
end AS
set_option linter.unusedVariables false
set_option linter.unusedSimpArgs false
namespace AS
open Go

theorem Core.lt_of' {w0 : World} {tk : FP} {n : Nat} {Z0 Z : Nat → Prop} {F : Nat → FP} {S : FP} {T : Nat → SV} {a : Act} {w : World} (h : Core w0 tk n Z0 Z F S T a w) {t : Nat} (ht : T t ≠ .un) : t < n := by
  by_cases hn : t < n
  · exact hn
  · exact absurd (h.lt t (by omega)) ht

theorem RepVs.append {w : World} {Z : Nat → Prop} : ∀ {l1 l2 : List D} {v1 v2 : List Value} {f1 f2 : FP}, RepVs w Z l1 v1 f1 → RepVs w Z l2 v2 f2 → RepVs w Z (l1 ++ l2) (v1 ++ v2) (fun b => f1 b + f2 b)
  | [], l2, v1, v2, f1, f2, h1, h2 => by
    obtain ⟨rfl, h0⟩ := h1
    have e : (fun b => f1 b + f2 b) = f2 := by funext b; simp [h0 b]
    rw [e]; exact h2
  | x :: l1, l2, v1, v2, f1, f2, h1, h2 => by
    obtain ⟨v, vs2, g1, g2, rfl, h3, h4, h5⟩ := h1
    exact ⟨v, vs2 ++ v2, g1, fun b => g2 b + f2 b, rfl, fun b => by have := h3 b; dsimp only; omega, h4, RepVs.append h5 h2⟩

theorem RepX.ptr_one {w : World} {Z : Nat → Prop} {o : Bool} {x : D} {cs : List Value} {f : FP} (h : RepX w Z (.ptr o x) cs f) : ∃ g off, cs = [.pointer (some ⟨g, off, none⟩)] := by
  simp only [RepX] at h
  obtain ⟨g, off, c, f1, h1, _⟩ := h
  exact ⟨g, off, h1⟩

theorem capsLike.cons {x : D} {l m : List D} (h : capsLike (x :: l) m) : ∃ o y c m', x = .ptr o y ∧ m = c :: m' ∧ capsLike l m' ∧ ((o = false ∧ c = x ∧ y.imm = true) ∨ (o = true ∧ ∃ z, c = .ptr true z ∧ z.solid = true)) := by
  cases x with
  | ptr o y =>
    cases m with
    | nil => cases o <;> simp [capsLike] at h
    | cons c m' =>
      cases o with
      | false => simp only [capsLike] at h; exact ⟨false, y, c, m', rfl, rfl, h.2, .inl ⟨rfl, h.1.1, h.1.2⟩⟩
      | true => simp only [capsLike] at h; exact ⟨true, y, c, m', rfl, rfl, h.2, .inr ⟨rfl, h.1⟩⟩
  | _ => simp [capsLike] at h

theorem capsLike.nil {m : List D} (h : capsLike [] m) : m = [] := by
  cases m with
  | nil => rfl
  | cons => simp [capsLike] at h

theorem capsLike.size : ∀ {l m : List D}, capsLike l m → (∀ x ∈ l, x.size = 1) ∧ (∀ x ∈ m, x.size = 1) ∧ l.length = m.length
  | [], m, h => by obtain rfl := h.nil; simp
  | x :: l, m, h => by
    obtain ⟨o, y, c, m', rfl, rfl, h2, h3⟩ := h.cons
    obtain ⟨k1, k2, k3⟩ := capsLike.size h2
    have hc : c.size = 1 := by
      rcases h3 with ⟨_, rfl, _⟩ | ⟨_, z, rfl, _⟩ <;> simp [D.size]
    refine ⟨?_, ?_, by simp [k3]⟩
    · intro x hx
      rcases List.mem_cons.1 hx with rfl | hx
      · simp [D.size]
      · exact k1 x hx
    · intro x hx
      rcases List.mem_cons.1 hx with rfl | hx
      · exact hc
      · exact k2 x hx

theorem caps_vs {w : World} {Z : Nat → Prop} : ∀ {l m : List D} {cs : List Value} {f : FP}, capsLike l m → RepXs w Z l cs f → RepVs w Z l cs f
  | [], m, cs, f, _, h => by simp only [RepXs] at h; exact h
  | x :: l, m, cs, f, hl, h => by
    obtain ⟨o, y, c, m', rfl, rfl, h2, _⟩ := hl.cons
    simp only [RepXs] at h
    obtain ⟨c1, c2, f1, f2, rfl, h3, h4, h5⟩ := h
    obtain ⟨g, off, rfl⟩ := h4.ptr_one
    exact ⟨_, c2, f1, f2, rfl, h3, ⟨rfl, by simpa [Value.cells] using h4⟩, caps_vs h2 h5⟩

/-- What a call that got the captured variables leaves. -/
theorem caps_back {w w' : World} {Z Z' : Nat → Prop} (hz : ∀ b, Z b → w'.heap[b]? = w.heap[b]?) {vs : List Value} : ∀ {l m : List D} {cs : List Value} {f H : FP} {i : Nat}, capsLike l m → RepXs w Z l cs f →
    (∀ (j : Nat) (u : Value), cs[j]? = some u → vs[i + j]? = some u) → OutsRep w' Z' vs (capOuts i m) H → RepXs w' Z m cs H
  | [], m, cs, f, H, i, hl, h, hv, ho => by
    obtain rfl := hl.nil
    simp only [RepXs] at h ⊢
    exact ⟨h.1, ho⟩
  | x :: l, m, cs, f, H, i, hl, h, hv, ho => by
    obtain ⟨o, y, c, m', rfl, rfl, h2, h3⟩ := hl.cons
    simp only [RepXs] at h ⊢
    obtain ⟨c1, c2, f1, f2, rfl, h4, h5, h6⟩ := h
    obtain ⟨g, off, rfl⟩ := h5.ptr_one
    have hv2 : ∀ (j : Nat) (u : Value), c2[j]? = some u → vs[i + 1 + j]? = some u := fun j u hu => by
      have := hv (j + 1) u (by simpa using hu)
      rw [show i + 1 + j = i + (j + 1) by omega]; exact this
    rcases h3 with ⟨rfl, rfl, hi⟩ | ⟨rfl, z, rfl, hs⟩
    · have h0 : ∀ b, f1 b = 0 := RepX.imm0 (.ptr false y) (by simp [D.imm, hi]) h5
      have h7 := RepX.mono (w' := w') (Z' := Z) (fun b hb => ⟨hb, hz b hb⟩) _ (fun b hb => by rw [h0] at hb; omega) h5
      exact ⟨_, c2, f1, H, rfl, fun b => by rw [h0]; omega, h7, caps_back hz h2 h6 hv2 ho⟩
    · simp only [capOuts, OutsRep] at ho
      obtain ⟨v, g1, g2, o1, o2, o3, o4⟩ := ho
      have hv1 := hv 0 (.pointer (some ⟨g, off, none⟩)) (by simp)
      rw [Nat.add_zero, o1] at hv1
      simp only [Option.some.injEq] at hv1
      subst hv1
      have h7 := RepX.solid (Z' := Z) _ (by simp [D.solid, hs]) o3.2
      exact ⟨_, c2, g1, g2, rfl, o2, by simpa [Value.cells] using h7, caps_back hz h2 h6 hv2 o4⟩

theorem caps_back2 {w w' : World} {Z Z' : Nat → Prop} (hz : ∀ b, Z b → w'.heap[b]? = w.heap[b]?) : ∀ {l m : List D} {cs : List Value} {f H : FP}, capsLike l m → RepXs w Z l cs f → RepXs w' Z' m cs H → RepXs w' Z m cs H
  | [], m, cs, f, H, hl, h, ho => by
    obtain rfl := hl.nil
    simp only [RepXs] at ho ⊢
    exact ho
  | x :: l, m, cs, f, H, hl, h, ho => by
    obtain ⟨o, y, c, m', rfl, rfl, h2, h3⟩ := hl.cons
    simp only [RepXs] at h ho ⊢
    obtain ⟨c1, c2, f1, f2, rfl, h4, h5, h6⟩ := h
    obtain ⟨d1, d2, g1, g2, he, k4, k5, k6⟩ := ho
    have hd : c1 = d1 ∧ c2 = d2 := by
      refine List.append_inj he ?_
      rw [RepX.len _ h5, RepX.len _ k5]
      rcases h3 with ⟨_, rfl, _⟩ | ⟨_, z, rfl, _⟩ <;> simp [D.size]
    obtain ⟨rfl, rfl⟩ := hd
    rcases h3 with ⟨rfl, rfl, hi⟩ | ⟨rfl, z, rfl, hs⟩
    · have h0 : ∀ b, f1 b = 0 := RepX.imm0 (.ptr false y) (by simp [D.imm, hi]) h5
      have h0' : ∀ b, g1 b = 0 := RepX.imm0 (.ptr false y) (by simp [D.imm, hi]) k5
      have h7 := RepX.mono (w' := w') (Z' := Z) (fun b hb => ⟨hb, hz b hb⟩) _ (fun b hb => by rw [h0] at hb; omega) h5
      exact ⟨_, c2, g1, g2, rfl, k4, h7.congr (fun b => by rw [h0, h0']), caps_back2 hz h2 h6 k6⟩
    · exact ⟨_, c2, g1, g2, rfl, k4, RepX.solid (Z' := Z) _ (by simp [D.solid, hs]) k5, caps_back2 hz h2 h6 k6⟩

theorem capsLike.get : ∀ {l m : List D} {j : Nat} {x : D}, capsLike l m → l[j]? = some (.ptr true x) → ∃ y, m[j]? = some (.ptr true y)
  | [], m, j, x, _, hj => by simp at hj
  | z :: l, m, j, x, h, hj => by
    obtain ⟨o, y, c, m', rfl, rfl, h2, h3⟩ := h.cons
    cases j with
    | zero =>
      simp only [List.getElem?_cons_zero, Option.some.injEq, D.ptr.injEq] at hj
      obtain ⟨rfl, rfl⟩ := hj
      rcases h3 with ⟨q, _⟩ | ⟨_, z, rfl, _⟩
      · cases q
      · exact ⟨z, rfl⟩
    | succ j => simpa using capsLike.get h2 (by simpa using hj)

/-- The way to a variable that a function value holds. -/
theorem fn_way {w : World} {Z : Nat → Prop} {k : Nat} {l : List D} {cs : List Value} {f : FP} (h : RepX w Z (.fn k l) cs f) (oa : Option (Nat × Nat)) {j : Nat} {x : D} (hj : l[j]? = some (.ptr true x)) :
    ∃ (cp : Array Value) (g : Nat) (c : List Value), cs = [.func (.func k) #[] cp] ∧ cp[j]? = some (.pointer (some ⟨g, 0, none⟩)) ∧ At w [.cap j, .dr] (.fn k l) cs oa x c (some (g, 0)) ∧ ownP [.cap j, .dr] (.fn k l) = true := by
  obtain ⟨cp, u, c1, c3, fr, fy, e1, e2, e3, _, e4, _, _⟩ := fn_cap h hj
  have e4' := e4
  simp only [RepX] at e4'
  obtain ⟨g, off, c, f1, q1, q2, q3⟩ := e4'
  simp only [List.cons.injEq, and_true] at q1
  subst q1
  rcases q3 with ⟨q, _⟩ | ⟨_, rfl, _⟩
  · cases q
  · obtain ⟨g', off', c2, fy2, p1, p2, p3, _⟩ := ptr_cells e4
    simp only [List.cons.injEq, Value.pointer.injEq, Option.some.injEq, Addr.mk.injEq, and_true] at p1
    obtain ⟨rfl, rfl⟩ := p1
    refine ⟨cp, g, c2, e1, e2, ?_, by simp [ownP, D.sub, hj]⟩
    simp only [At]
    exact ⟨k, l, _, cp, _, rfl, hj, e1, e2, e3, true, x, g, 0, c2, rfl, rfl, p2, p3, rfl, rfl, rfl⟩

section
variable {P : Program} {w0 : World} {tk : FP} {n : Nat} {Z0 Z : Nat → Prop} {F : Nat → FP} {S : FP} {T : Nat → SV} {a : Act} {w : World} {o : Oper}

/-- A variable's block becomes what all may read and none writes any more. -/
theorem Core.freezeBox (h : Core w0 tk n Z0 Z F S T a w) {m : Nat} {x : D} (hx : T m = .box x) :
    ∃ (Z' : Nat → Prop) (F' : Nat → FP), Core w0 tk n Z0 Z' F' S (AS.put T m (.ima x.toImm)) a w ∧ (∀ b, Z b → Z' b) ∧ RepX w Z' (.ptr false x.toImm) [tmOf a m] (fun _ => 0) := by
  have hrep := h.rep m
  rw [hx, SRep.none rfl] at hrep
  obtain ⟨g, cur, e, f1, q1, q2, q3, q4⟩ := hrep
  have hlt := h.lt_of' (t := m) (by rw [hx]; simp)
  have k1 : Core w0 tk n Z0 Z (updF F m fun _ => 0) (fun b => S b + F m b) (AS.put T m .un) a w := h.set (dst := m) (s := .un) (f := fun _ => 0) (S' := fun b => S b + F m b) h.size h.dfr (fun _ _ => rfl) (by simp [SRep, SV.root, SRepN]) (fun b => by simp) (fun _ => rfl)
  have k2 : Core w0 tk n Z0 (fun b => Z b ∨ 0 < F m b) (updF F m fun _ => 0) S (AS.put T m .un) a w :=
    k1.step (Fr.refl _ _) (fun b => by have := h.one m b; omega) (fun b hb => ⟨(h.own b (.inl hb)).1, .inr (by omega)⟩) (fun b hb => .inl hb)
      (fun b hb => hb.imp id fun hb => ⟨(h.own b (.inr ⟨m, hb⟩)).1, .inr (by omega), by have := h.one m b; omega⟩)
  have hg : 0 < F m g := by rw [q4]; simp; omega
  have hR : RepX w (fun b => Z b ∨ 0 < F m b) x.toImm cur.toList (fun _ => 0) := RepX.toImm (fun b hb => .inl hb) x (fun b hb => .inr (by rw [q4]; omega)) q3
  have hC : ∀ j u, cur.toList[j]? = some u → w.cell? ⟨g, 0 + j, none⟩ = some u := fun j u hu => by
    rw [Nat.zero_add]; exact cell_of_take (m := cur.toList.length) q2 (by rw [List.take_length]; exact hu)
  refine ⟨fun b => Z b ∨ 0 < F m b, updF (updF F m fun _ => 0) m (fun _ => 0), ?_, fun b hb => .inl hb, ?_⟩
  · have k3 := k2.set (dst := m) (a' := a) (s := .ima x.toImm) (f := fun _ => 0) (S' := S) k2.size k2.dfr (fun _ _ => rfl) (by
      rw [SRep.none rfl]
      exact ⟨fun _ => rfl, g, 0, cur.toList, q1, .inr hg, hC, hR⟩) (fun b => by simp [updF]) (fun hn => by omega)
    rw [put_put] at k3
    exact k3
  · simp only [RepX]
    exact ⟨g, 0, cur.toList, fun _ => 0, by rw [q1], hR, .inl ⟨by simp, .inr hg, by simp, by simp, hC⟩⟩

theorem capT_rep (h : Core w0 tk n Z0 Z F S T a w) {c : Bool × Nat} {y : D} {T' : Nat → SV} (hc : capT T c = some (y, T')) :
    ∃ (Z' : Nat → Prop) (F' : Nat → FP) (f : FP), Core w0 tk n Z0 Z' F' (fun b => S b + f b) T' a w ∧ (∀ b, Z b → Z' b) ∧ RepX w Z' y [tmOf a c.2] f ∧ y.size = 1 := by
  obtain ⟨b, m⟩ := c
  cases b with
  | true =>
    simp only [capT] at hc
    split at hc
    · rename_i x hx
      simp only [Option.some.injEq, Prod.mk.injEq] at hc
      obtain ⟨rfl, rfl⟩ := hc
      have hrep := h.rep m
      rw [hx, SRep.none rfl] at hrep
      obtain ⟨g, cur, e, f1, q1, q2, q3, q4⟩ := hrep
      refine ⟨Z, _, F m, h.set (dst := m) (s := .un) (f := fun _ => 0) (S' := fun b => S b + F m b) h.size h.dfr (fun _ _ => rfl) (by simp [SRep, SV.root, SRepN]) (fun b => by simp) (fun _ => rfl), fun _ h => h, ?_, by simp [D.size]⟩
      simp only [RepX]
      exact ⟨g, 0, cur.toList, f1, by rw [q1], q3, .inr ⟨by simp, rfl, q4, cur, e, q2, rfl⟩⟩
    · cases hc
  | false =>
    simp only [capT] at hc
    split at hc
    · rename_i x hx
      simp only [Option.some.injEq, Prod.mk.injEq] at hc
      obtain ⟨rfl, rfl⟩ := hc
      obtain ⟨Z', F', k1, k2, k3⟩ := h.freezeBox hx
      exact ⟨Z', F', fun _ => 0, k1.less (fun b => by simp), k2, k3, by simp [D.size]⟩
    · rename_i x hx
      simp only [Option.some.injEq, Prod.mk.injEq] at hc
      obtain ⟨rfl, rfl⟩ := hc
      have hrep := h.rep m
      rw [hx, SRep.none rfl] at hrep
      obtain ⟨h0, g, ofs, c, q1, q2, q3, q4⟩ := hrep
      refine ⟨Z, F, fun _ => 0, h.less (fun b => by simp), fun _ h => h, ?_, by simp [D.size]⟩
      simp only [RepX]
      exact ⟨g, ofs, c, fun _ => 0, by rw [q1], q4, .inl ⟨by simp, q2, by simp, by simp, q3⟩⟩
    · cases hc

theorem capT_un {T T' : Nat → SV} {c : Bool × Nat} {y : D} (hc : capT T c = some (y, T')) {t : Nat} (ht : T t = .un) : T' t = .un := by
  obtain ⟨b, m⟩ := c
  cases b with
  | true =>
    simp only [capT] at hc
    split at hc
    · rename_i x hx
      simp only [Option.some.injEq, Prod.mk.injEq] at hc
      obtain ⟨rfl, rfl⟩ := hc
      simp only [AS.put]; split
      · rfl
      · simp [ht, SV.root]
    · cases hc
  | false =>
    simp only [capT] at hc
    split at hc
    · rename_i x hx
      simp only [Option.some.injEq, Prod.mk.injEq] at hc
      obtain ⟨rfl, rfl⟩ := hc
      simp only [AS.put]; split
      · rename_i e; subst e; rw [hx] at ht; cases ht
      · simp [ht, SV.root]
    · simp only [Option.some.injEq, Prod.mk.injEq] at hc
      obtain ⟨rfl, rfl⟩ := hc
      exact ht
    · cases hc

theorem capsT_un : ∀ {l : List (Bool × Nat)} {T T' : Nat → SV} {ds : List D}, capsT T l = some (ds, T') → ∀ {t : Nat}, T t = .un → T' t = .un
  | [], T, T', ds, hc, t, ht => by simp only [capsT, Option.some.injEq, Prod.mk.injEq] at hc; obtain ⟨_, rfl⟩ := hc; exact ht
  | c :: l, T, T', ds, hc, t, ht => by
    simp only [capsT] at hc
    cases h1 : capT T c with
    | none => simp [h1] at hc
    | some p =>
      obtain ⟨y, T1⟩ := p
      cases h2 : capsT T1 l with
      | none => simp [h1, h2] at hc
      | some q =>
        obtain ⟨ds2, T2⟩ := q
        simp only [h1, h2, Option.bind_some, Option.map_some, Option.some.injEq, Prod.mk.injEq] at hc
        obtain ⟨_, rfl⟩ := hc
        exact capsT_un h2 (capT_un h1 ht)

theorem capsT_at : ∀ {l : List (Bool × Nat)} {T T' : Nat → SV} {ds : List D}, capsT T l = some (ds, T') → ∀ {i m : Nat}, l[i]? = some (true, m) → T m ≠ .un ∧ T' m = .un ∧ ∃ x, ds[i]? = some (.ptr true x)
  | [], T, T', ds, hc, i, m, hi => by simp at hi
  | c :: l, T, T', ds, hc, i, m, hi => by
    simp only [capsT] at hc
    cases h1 : capT T c with
    | none => simp [h1] at hc
    | some p =>
      obtain ⟨y, T1⟩ := p
      cases h2 : capsT T1 l with
      | none => simp [h1, h2] at hc
      | some q =>
        obtain ⟨ds2, T2⟩ := q
        simp only [h1, h2, Option.bind_some, Option.map_some, Option.some.injEq, Prod.mk.injEq] at hc
        obtain ⟨rfl, rfl⟩ := hc
        cases i with
        | zero =>
          simp only [List.getElem?_cons_zero, Option.some.injEq] at hi
          subst hi
          simp only [capT] at h1
          split at h1
          · rename_i x hx
            simp only [Option.some.injEq, Prod.mk.injEq] at h1
            obtain ⟨rfl, rfl⟩ := h1
            exact ⟨by rw [hx]; simp, capsT_un h2 (by simp [AS.put]), x, rfl⟩
          · cases h1
        | succ i =>
          obtain ⟨k1, k2, k3⟩ := capsT_at h2 (i := i) (m := m) (by simpa using hi)
          exact ⟨fun e => k1 (capT_un h1 e), k2, by simpa using k3⟩

theorem capsT_rep : ∀ {l : List (Bool × Nat)} {Z : Nat → Prop} {F : Nat → FP} {S : FP} {T T' : Nat → SV} {ds : List D}, Core w0 tk n Z0 Z F S T a w → capsT T l = some (ds, T') →
    ∃ (Z' : Nat → Prop) (F' : Nat → FP) (f : FP), Core w0 tk n Z0 Z' F' (fun b => S b + f b) T' a w ∧ (∀ b, Z b → Z' b) ∧ RepXs w Z' ds (l.map fun c => tmOf a c.2) f ∧ ∀ x ∈ ds, x.size = 1
  | [], Z, F, S, T, T', ds, h, hc => by
    simp only [capsT, Option.some.injEq, Prod.mk.injEq] at hc
    obtain ⟨rfl, rfl⟩ := hc
    exact ⟨Z, F, fun _ => 0, h.less (fun b => by simp), fun _ h => h, by simp [RepXs], by simp⟩
  | c :: l, Z, F, S, T, T', ds, h, hc => by
    simp only [capsT] at hc
    cases h1 : capT T c with
    | none => simp [h1] at hc
    | some p =>
      obtain ⟨y, T1⟩ := p
      cases h2 : capsT T1 l with
      | none => simp [h1, h2] at hc
      | some q =>
        obtain ⟨ds2, T2⟩ := q
        simp only [h1, h2, Option.bind_some, Option.map_some, Option.some.injEq, Prod.mk.injEq] at hc
        obtain ⟨rfl, rfl⟩ := hc
        obtain ⟨Z1, F1, f1, k1, k2, k3, k4⟩ := capT_rep h h1
        obtain ⟨Z2, F2, f2, j1, j2, j3, j4⟩ := capsT_rep k1 h2
        refine ⟨Z2, F2, fun b => f1 b + f2 b, j1.less (fun b => by dsimp only; omega), fun b hb => j2 b (k2 b hb), ?_, ?_⟩
        · simp only [RepXs, List.map_cons]
          exact ⟨[tmOf a c.2], _, f1, f2, rfl, fun _ => rfl, RepX.mono (fun b hb => ⟨j2 b hb, rfl⟩) _ (fun _ _ => rfl) k3, j3⟩
        · intro x hx
          rcases List.mem_cons.1 hx with rfl | hx
          · exact k4
          · exact j4 x hx

theorem capIx_some : ∀ {l : List (Bool × Nat)} {t k j : Nat}, capIx l t k = some j → ∃ i, j = k + i ∧ l[i]? = some (true, t)
  | [], t, k, j, h => by simp [capIx] at h
  | (b, m) :: l, t, k, j, h => by
    simp only [capIx] at h
    cases hb : (b && Nat.beq m t) with
    | true =>
      rw [hb] at h
      simp only [Bool.and_eq_true] at hb
      have := Nat.eq_of_beq_eq_true hb.2
      cases h
      exact ⟨0, rfl, by simp [hb.1, this]⟩
    | false =>
      rw [hb] at h
      obtain ⟨i, h1, h2⟩ := capIx_some h
      exact ⟨i + 1, by omega, by simpa using h2⟩

theorem okCaps_eval : ∀ {xs : List Operand} {caps : List (Bool × Nat)}, okCaps xs caps = true → xs.map a.eval = caps.map fun c => tmOf a c.2
  | [], [], _ => rfl
  | x :: xs, c :: cs, h => by
    simp only [okCaps, Bool.and_eq_true] at h
    have := isT_iff h.1
    subst this
    simp only [List.map_cons, okCaps_eval h.2]
    rfl
  | [], _ :: _, h => by simp [okCaps] at h
  | _ :: _, [], h => by simp [okCaps] at h

theorem sv_mkf (h : Core w0 tk n Z0 Z F (fun _ => 0) T a w) {g : Nat} {xs : Array Operand} {caps : List (Bool × Nat)} (hop : o.op = .makeFunc (.func g) #[] xs)
    (hok : okCaps xs.toList caps = true) {ds : List D} {T' : Nat → SV} (hc : capsT T caps = some (ds, T')) {d : Nat} (hdst : o.dst = some d) (hd : d < n) (hne : ∀ c ∈ caps, c.2 ≠ d) {Q : Exit → Act → World → Prop} :
    o.wp P a w (fun a' w' => ∃ Z' F', Core w0 tk n Z0 Z' F' (fun _ => 0) (wayB (AS.put T' d (.d (.fn g ds))) d caps) a' w') Q := by
  obtain ⟨Z', F', f, h1, h2, h3, h4⟩ := capsT_rep h hc
  have hrun : (execOp a.eval o).run P w = .ok (.value (.func (.func g) #[] (xs.map a.eval))) w := by
    simp [execOp, hop, Instr.makeFunc]
  refine wp_value hrun ?_
  rw [hdst]
  have hcp : (xs.map a.eval).toList = caps.map fun c => tmOf a c.2 := by
    rw [Array.toList_map]; exact okCaps_eval hok
  have hX : RepX w Z' (.fn g ds) [.func (.func g) #[] (xs.map a.eval)] f := by
    simp only [RepX]
    exact ⟨xs.map a.eval, rfl, h4, by rw [hcp]; exact h3⟩
  have h5 := h1.putAll hd (s := .d (.fn g ds)) (f := f) (v := .func (.func g) #[] (xs.map a.eval)) rfl ⟨rfl, hX⟩ (fun b => by omega)
  refine ⟨Z', _, h5.readd ?_⟩
  intro t
  unfold wayB
  split
  · rename_i j hj
    obtain ⟨i, rfl, hi⟩ := capIx_some hj
    obtain ⟨k1, k2, x, k3⟩ := capsT_at hc hi
    have htd : t ≠ d := hne _ (List.mem_of_getElem? hi)
    right
    refine ⟨by simp [AS.put, htd, k2, SV.root], h.lt_of' k1, d, rfl, ?_⟩
    have hdn : d < a.tmps.size := by rw [h.size]; exact hd
    have e1 : tmOf (a.put (some d) (.func (.func g) #[] (xs.map a.eval))) d = .func (.func g) #[] (xs.map a.eval) := by rw [tmOf_put hdn, if_pos rfl]
    have e2 : tmOf (a.put (some d) (.func (.func g) #[] (xs.map a.eval))) t = tmOf a t := by rw [tmOf_put hdn, if_neg htd]
    rw [Nat.zero_add]
    obtain ⟨cp, gb, c, q1, q2, q3, q4⟩ := fn_way hX none k3
    simp only [List.cons.injEq, Value.func.injEq, and_true, true_and] at q1
    subst q1
    refine ⟨.fn g ds, [.func (.func g) #[] (xs.map a.eval)], none, x, c, some (gb, 0), .inl ⟨by simp [AS.put], by rw [e1]; rfl, rfl⟩, q3, q4, gb, 0, rfl, ?_⟩
    rw [e2]
    have q5 : (xs.map a.eval).toList[i]? = some (.pointer (some ⟨gb, 0, none⟩)) := by rw [Array.getElem?_toList]; exact q2
    rw [hcp, List.getElem?_map, hi] at q5
    simpa using q5
  · exact .inl rfl

theorem run_enterV {k g : Nat} {cp : Array Value} {xs : Array Operand} {ts : Array TypeId} (hop : o.op = .call { callee := .value (.tmp k), args := xs, argTypes := ts }) (hv : tmOf a k = .func (.func g) #[] cp)
    (hf : ∃ (fn : Func) (c : Code), P.funcs[g]? = some fn ∧ fn.body = some c ∧ (fn.name == "runtime.NumGoroutine") = false) :
    (execOp a.eval o).run P w = .ok (.enter g (xs.map a.eval ++ cp)) w := by
  obtain ⟨fn, c, h1, h2, h3⟩ := hf
  have hv' : a.eval (.tmp k) = .func (.func g) #[] cp := hv
  simp only [execOp, hop, resolve, hv', Deferred.ofValue, invoke, Sem.run_bind, Sem.run_pure, Result.andThen_ok, callFunc, run_program, h1, h3, Bool.false_eq_true, if_false, h2, Option.isNone_some]
  simp

theorem fnAt_rep (h : Core w0 tk n Z0 Z F S T a w) {k r0 g : Nat} {caps : List D} (hk : fnAt T k = some (r0, g, caps)) : T r0 = .d (.fn g caps) ∧ tmOf a k = tmOf a r0 := by
  unfold fnAt at hk
  split at hk
  · rename_i hT
    simp only [Option.some.injEq, Prod.mk.injEq] at hk
    obtain ⟨rfl, rfl, rfl⟩ := hk
    exact ⟨hT, rfl⟩
  · rename_i r hT
    split at hk
    · rename_i hT2
      simp only [Option.some.injEq, Prod.mk.injEq] at hk
      obtain ⟨rfl, rfl, rfl⟩ := hk
      refine ⟨hT2, ?_⟩
      have h1 := h.rep k
      rw [SRep.some (r := r) (by rw [hT]; rfl)] at h1
      obtain ⟨_, x, cs, oa, y, c, ob, k1, k2, k3, k4⟩ := h1
      rw [hT] at k2 k4
      simp only [SV.path, At] at k2
      obtain ⟨rfl, rfl, rfl⟩ := k2
      rcases k1 with ⟨u1, u2, u3⟩ | ⟨_, _, _, u1, _⟩
      · rw [hT2] at u1
        cases u1
        have h2 := h.rep r
        rw [hT2, SRep.none rfl] at h2
        have h3 := h2.2
        simp only [RepX] at h3
        obtain ⟨cp, h3, _⟩ := h3
        have e1 := cells_single (v := tmOf a r) h2.1 h3
        have e2 := cells_single (v := tmOf a k) k4.2 (by rw [k4.1, u2]; exact h3)
        rw [e1, e2]
      · rw [hT2] at u1; cases u1
    · cases hk
  · cases hk

theorem sv_callf (h : Core w0 tk n Z0 Z F (fun _ => 0) T a w) {k : Nat} {xs : Array Operand} {ts : Array TypeId} {ys : List (Bool × Opd)} (hop : o.op = .call { callee := .value (.tmp k), args := xs, argTypes := ts })
    (hok : okOpds xs.toList (ys.map (·.2)) = true) {r0 g : Nat} {caps caps' : List D} (hk : fnAt T k = some (r0, g, caps)) {ds : List D} {T' : Nat → SV} (hat : argTakes (AS.put T r0 .un) ys = some (ds, T')) {r : List D}
    (hcon : Con P g (ds ++ caps) (capOuts ds.length caps') r) (hlike : capsLike caps caps') (hsol : D.solids r = true) {d : Nat} (hdst : o.dst = some d) (hd : d < n) {Q : Exit → Act → World → Prop} :
    o.wp P a w (fun a' w' => ∃ Z' F', Core w0 tk n Z0 Z' F' (fun _ => 0) (AS.put (AS.put T' r0 (.d (.fn g caps'))) d (resSV r)) a' w') Q := by
  obtain ⟨hfn, hcon⟩ := hcon
  obtain ⟨hT, htm⟩ := fnAt_rep h hk
  obtain ⟨h0, hrep⟩ := h.take hT
  have hrX := hrep.2
  simp only [RepX] at hrX
  obtain ⟨cp, hcp, hs1, hrXs⟩ := hrX
  have hval : tmOf a r0 = .func (.func g) #[] cp := cells_single (v := tmOf a r0) hrep.1 hcp
  simp only [argTakes] at hat
  cases htk : takes (AS.put T r0 .un) (takenOf ys) with
  | none => simp [htk] at hat
  | some q =>
    obtain ⟨ds0, T1⟩ := q
    cases hmg : mergeA T1 ys ds0 with
    | none => simp [htk, hmg] at hat
    | some ds2 =>
      simp only [htk, hmg, Option.bind_some, Option.map_some, Option.some.injEq, Prod.mk.injEq] at hat
      obtain ⟨rfl, rfl⟩ := hat
      obtain ⟨F1, f1, h1, r1⟩ := h0.srcs (okOpds_taken hok) htk
      have e : (fun b => 0 + F r0 b + f1 b) = (fun b => f1 b + F r0 b) := by funext b; omega
      rw [e] at h1
      have hS1 : ∀ b, f1 b + F r0 b ≤ 1 := fun b => by have := h1.one 0 b; omega
      let Zc : Nat → Prop := fun b => b < w.heap.size ∧ f1 b + F r0 b = 0
      have hzc : ∀ b, Z b → Zc b := fun b hb => ⟨(h1.zf b hb).1, (h1.zf b hb).2.1⟩
      have hrep1 := mergeRep h1 (Zc := Zc) hzc (fun b hb hb2 => ⟨hb, hb2⟩) hok hmg r1
      have hrep2 : RepVs w Zc caps cp.toList (F r0) := caps_vs hlike (RepXs.mono (fun b hb => ⟨hzc b hb, rfl⟩) caps (fun _ _ => rfl) hrXs)
      have hrep3 := hrep1.append hrep2
      have hcalls := hcon w Zc _ (fun b => f1 b + F r0 b) hrep3 hS1 (fun b hb => (h1.own b (.inl hb)).1) (fun b hb => hb) (h1.tz.le hzc)
      have hvs : (xs.toList.map a.eval ++ cp.toList).toArray = xs.map a.eval ++ cp := by apply Array.ext'; simp
      rw [hvs] at hcalls
      refine wp_enter (run_enterV hop (by rw [htm, hval]) hfn) hcalls ?_
      rintro e w' ⟨v, Z', G, H, rfl, hret⟩
      refine ⟨v, rfl, ?_⟩
      rw [hdst]
      have hlen : (xs.toList.map a.eval).length = ds2.length := hrep1.cells.2.1
      have hback := caps_back (w := w) (w' := w') (Z := Z) (fun b hb => hret.fr.block b (h1.zf b hb).1 (h1.zf b hb).2.1) (vs := xs.toList.map a.eval ++ cp.toList) (i := ds2.length) hlike hrXs
        (fun j u hu => by rw [List.getElem?_append_right (by omega), hlen, Nat.add_sub_cancel_left]; exact hu) hret.outs
      have h2 := h1.step (w' := w') (Z' := Z) (S' := fun b => G b + H b) hret.fr (fun b => by have := hret.one b; omega) (fun b hb => hret.own b hb) (fun _ hb => hb) (fun _ hb => .inl hb)
      have hX : RepX w' Z (.fn g caps') [.func (.func g) #[] cp] H := by
        simp only [RepX]
        exact ⟨cp, rfl, hlike.size.2.1, hback⟩
      have h3 := h2.set (dst := r0) (a' := a) (s := .d (.fn g caps')) (f := H) (S' := G) h.size h.dfr (fun _ _ => rfl) (by
        rw [SRep.none rfl]
        exact ⟨by rw [hval]; rfl, by rw [hval]; exact hX⟩) (fun b => by omega) (fun hn => by
          have := h.lt_of' (t := r0) (by rw [hT]; simp); omega)
      exact ⟨Z, _, h3.putAll hd (resSV_root r) (hret.res.solid hsol).sv (fun _ => Nat.le_refl _)⟩

theorem okOpds_mid : ∀ {pre post : List Opd} {y : Opd} {xs : List Operand}, okOpds xs (pre ++ y :: post) = true → ∃ xp x xq, xs = xp ++ x :: xq ∧ okOpds xp pre = true ∧ okOpd x y = true ∧ okOpds xq post = true
  | [], post, y, xs, h => by
    cases xs with
    | nil => simp [okOpds] at h
    | cons x xs =>
      simp only [List.nil_append, okOpds, Bool.and_eq_true] at h
      exact ⟨[], x, xs, rfl, rfl, h.1, h.2⟩
  | p :: pre, post, y, xs, h => by
    cases xs with
    | nil => simp [okOpds] at h
    | cons x xs =>
      simp only [List.cons_append, okOpds, Bool.and_eq_true] at h
      obtain ⟨xp, x', xq, rfl, h1, h2, h3⟩ := okOpds_mid h.2
      exact ⟨x :: xp, x', xq, rfl, by simp [okOpds, h.1, h1], h2, h3⟩

theorem sv_callP (h : Core w0 tk n Z0 Z F (fun _ => 0) T a w) {f k : Nat} {xs : Array Operand} {ts : Array TypeId} {pre post : List Opd} (hop : o.op = .call { callee := .value (.func f), args := xs, argTypes := ts })
    (hok : okOpds xs.toList (pre ++ .t k :: post) = true) {g : Nat} {caps caps' : List D} (hT : T k = .d (.fn g caps)) {ds es : List D} (hds : rds (AS.put T k .un) pre = some ds) (hes : rds (AS.put T k .un) post = some es) {r : List D}
    (hcon : Con P f (D.toImms ds ++ .fn g caps :: D.toImms es) [(ds.length, .fn g caps')] r) (hlike : capsLike caps caps') (hsol : D.solids r = true) {d : Nat} (hdst : o.dst = some d) (hd : d < n) {Q : Exit → Act → World → Prop} :
    o.wp P a w (fun a' w' => ∃ Z' F', Core w0 tk n Z0 Z' F' (fun _ => 0) (keepA T (AS.put (AS.put T k (.d (.fn g caps'))) d (resSV r)) k d) a' w') Q := by
  obtain ⟨hfn, hcon⟩ := hcon
  obtain ⟨xp, x, xq, hxs, ho1, ho2, ho3⟩ := okOpds_mid hok
  have hx : x = .tmp k := by
    cases x <;> simp [okOpd] at ho2
    rw [ho2]
  subst hx
  obtain ⟨h1, hrep⟩ := h.take hT
  have e0 : (fun b => 0 + F k b) = F k := by funext b; simp
  rw [e0] at h1
  have hrX := hrep.2
  simp only [RepX] at hrX
  obtain ⟨cp, hcp, hs1, hrXs⟩ := hrX
  have hval : tmOf a k = .func (.func g) #[] cp := cells_single (v := tmOf a k) hrep.1 hcp
  have hone : ∀ b, F k b ≤ 1 := fun b => by have := h.one k b; omega
  let Zc : Nat → Prop := fun b => b < w.heap.size ∧ F k b = 0
  have hzc : ∀ b, Z b → Zc b := fun b hb => ⟨(h.zf b hb).1, (h.zf b hb).2.2 k⟩
  have r1 := rds_rep h1 (Z' := Zc) hzc (fun b hb hb2 => ⟨hb, hb2⟩) ho1 hds
  have r2 := rds_rep h1 (Z' := Zc) hzc (fun b hb hb2 => ⟨hb, hb2⟩) ho3 hes
  have r3 : RepVs w Zc (.fn g caps :: D.toImms es) (tmOf a k :: xq.map a.eval) (F k) :=
    ⟨_, _, F k, fun _ => 0, rfl, fun b => by simp, RepV.mono (fun b hb => ⟨hzc b hb, rfl⟩) (fun _ _ => rfl) hrep, r2⟩
  have r4 := r1.append r3
  have e1 : (fun b => (fun _ => 0 : FP) b + F k b) = F k := by funext b; simp
  rw [e1] at r4
  have hcalls := hcon w Zc _ (F k) r4 hone (fun b hb => (h.own b (.inr ⟨k, hb⟩)).1) (fun b hb => hb) (h.tz.le hzc)
  have hvs : (xp.map a.eval ++ tmOf a k :: xq.map a.eval).toArray = xs.map a.eval := by
    apply Array.ext'
    rw [Array.toList_map, hxs]
    simp
    rfl
  rw [hvs] at hcalls
  refine wp_enter (run_enter hop hfn) hcalls ?_
  rintro e w' ⟨v, Z', G, H, rfl, hret⟩
  refine ⟨v, rfl, ?_⟩
  rw [hdst]
  have hlen : (xp.map a.eval).length = ds.length := by
    have := r1.cells.2.1
    rw [this, D.toImms_eq]; simp
  obtain ⟨v0, g1, g2, o1, o2, o3, o4⟩ := hret.outs
  have ev : v0 = tmOf a k := by
    rw [← hlen, List.getElem?_append_right (Nat.le_refl _)] at o1
    simpa using o1.symm
  subst ev
  have hH : H = g1 := by funext b; have := o2 b; have := o4 b; omega
  subst hH
  have o3X := o3.2
  simp only [RepX] at o3X
  obtain ⟨cp', hcp', _, o3Xs⟩ := o3X
  rw [hcp] at hcp'
  simp only [List.cons.injEq, Value.func.injEq, and_true, true_and] at hcp'
  subst hcp'
  have hblk : ∀ b, Z b → w'.heap[b]? = w.heap[b]? := fun b hb => hret.fr.block b (h.zf b hb).1 ((h.zf b hb).2.2 k)
  have hback := caps_back2 (w := w) (w' := w') (Z := Z) hblk hlike hrXs o3Xs
  have h2 := h1.step (w' := w') (Z' := Z) (S' := fun b => G b + H b) hret.fr (fun b => by have := hret.one b; omega) (fun b hb => hret.own b hb) (fun _ hb => hb) (fun _ hb => .inl hb)
  have hX : RepX w' Z (.fn g caps') [.func (.func g) #[] cp] H := by
    simp only [RepX]
    exact ⟨cp, rfl, hlike.size.2.1, hback⟩
  have hkn : k < n := h.lt_of' (t := k) (by rw [hT]; simp)
  have h3 := h2.set (dst := k) (a' := a) (s := .d (.fn g caps')) (f := H) (S' := G) h.size h.dfr (fun _ _ => rfl) (by
    rw [SRep.none rfl]
    exact ⟨by rw [hval]; rfl, by rw [hval]; exact hX⟩) (fun b => by omega) (fun hn => by omega)
  rw [put_put] at h3
  refine ⟨Z, _, (h3.putAll hd (resSV_root r) (hret.res.solid hsol).sv (fun _ => Nat.le_refl _)).readd ?_⟩
  intro t
  by_cases hc : t ≠ d ∧ k ≠ d ∧ isCapA (T t) k = true
  · obtain ⟨htd, hkd, hm⟩ := hc
    obtain ⟨j, hTt⟩ : ∃ j, T t = .adr k [.cap j, .dr] := by
      unfold isCapA at hm
      split at hm
      · rename_i r' j e; simp only [beq_iff_eq] at hm; exact ⟨j, by rw [e, hm]⟩
      · cases hm
    have hr0 : (T t).root = some k := by rw [hTt]; rfl
    have htk : t ≠ k := by
      intro e; subst e
      rw [hT] at hTt; cases hTt
    right
    have ek : keepA T (AS.put (AS.put T k (.d (.fn g caps'))) d (resSV r)) k d t = .adr k [.cap j, .dr] := by
      simp only [keepA]; rw [if_pos ⟨htd, hkd, hm⟩, hTt]
    refine ⟨?_, h.lt_of' (by rw [hTt]; simp), k, ?_, ?_⟩
    · simp only [AS.put, if_neg htd, if_neg htk, hr0, if_true]; simp [SV.root]
    · rw [ek]; rfl
    · rw [ek]
      have h5 := h.rep t
      rw [SRep.some hr0] at h5
      obtain ⟨_, x, cs, oa, y, c0, ob, k1, k2, k3, k4⟩ := h5
      rw [hTt] at k2 k3 k4
      rcases k1 with ⟨u1, u2, u3⟩ | ⟨_, _, _, u1, _⟩
      · rw [hT] at u1
        cases u1
        simp only [SV.path, At] at k2
        obtain ⟨q, l, z, cp2, u, p1, p2, p3, p4, p5, ob2, z2, gb, off, c2, s1, s2, s3, s4, s5, s6, s7⟩ := k2
        cases p1
        subst s1
        simp only [ownP, SV.path, D.sub, p2, Bool.true_and, Bool.and_eq_true] at k3
        obtain ⟨rfl, _⟩ := k3
        rw [u2, hcp] at p3
        simp only [List.cons.injEq, Value.func.injEq, and_true, true_and] at p3
        subst p3
        obtain ⟨y2, hy2⟩ := hlike.get p2
        obtain ⟨cp3, gb2, c3, w1, w2, w3, w4⟩ := fn_way hX none hy2
        simp only [List.cons.injEq, Value.func.injEq, and_true, true_and] at w1
        subst w1
        rw [p4] at w2
        simp only [Option.some.injEq] at w2
        subst w2
        simp only [List.cons.injEq, Value.pointer.injEq, Option.some.injEq, Addr.mk.injEq, and_true] at s2
        obtain ⟨rfl, rfl⟩ := s2
        obtain ⟨g0, o0, w5, w6⟩ := k4
        rw [s7] at w5
        simp only [Option.some.injEq, Prod.mk.injEq] at w5
        obtain ⟨rfl, rfl⟩ := w5
        have etm : ∀ t', t' ≠ d → tmOf (a.put (some d) v) t' = tmOf a t' := fun t' ht' => by rw [tmOf_put (by rw [h.size]; exact hd), if_neg ht']
        refine ⟨.fn g caps', [.func (.func g) #[] cp], none, y2, c3, some (gb2, 0), .inl ⟨by
          simp only [AS.put, if_neg hkd, if_true]; simp [SV.root], by rw [etm k hkd, hval]; rfl, rfl⟩, w3, w4, gb2, 0, rfl, ?_⟩
        rw [etm t htd]; exact w6
      · rw [hT] at u1; cases u1
  · exact .inl (by simp only [keepA, if_neg hc])

/-! ### Ways that outlive a move -/
theorem fill_keep {place : Nat → Option (Nat × Nat)} {i : Nat} : ∀ (ps : List (Nat × Value)) {cells r : Array Value}, Instr.fill place cells ps = some r → (∀ p ∈ ps, p.1 ≠ i ∧ place p.1 = some (p.1, 1)) → r[i]? = cells[i]?
  | [], cells, r, h, _ => by
    simp only [Instr.fill, Option.some.injEq] at h
    rw [h]
  | (j, v) :: ps, cells, r, h, hp => by
    obtain ⟨h1, h2⟩ := hp (j, v) (by simp)
    unfold Instr.fill at h
    simp only [h2] at h
    split at h
    · cases h
    · rename_i hc
      have hv : v.cells.size = 1 := by
        simp only [Bool.or_eq_true, decide_eq_true_eq, not_or] at hc
        have := hc.1
        simpa using this
      obtain ⟨u, hu⟩ : ∃ u, v.cells = #[u] := by
        have : v.cells.toList.length = 1 := by simpa using hv
        match hq : v.cells.toList with
        | [u] => exact ⟨u, by apply Array.ext'; rw [hq]⟩
        | [] => rw [hq] at this; simp at this
        | _ :: _ :: _ => rw [hq] at this; simp at this
      rw [fill_keep ps h fun p q => hp p (by simp [q])]
      rw [hu]
      simp [Array.getElem?_setIfInBounds_ne h1]

theorem fill_head {place : Nat → Option (Nat × Nat)} {i : Nat} {v u : Value} {ps : List (Nat × Value)} {cells r : Array Value} (h : Instr.fill place cells ((i, v) :: ps) = some r) (hi : place i = some (i, 1)) (hu : v.cells = #[u])
    (hc : i < cells.size) (hp : ∀ p ∈ ps, p.1 ≠ i ∧ place p.1 = some (p.1, 1)) : r[i]? = some u := by
  unfold Instr.fill at h
  simp only [hi] at h
  split at h
  · cases h
  · rw [fill_keep ps h hp, hu]
    simp [hc]

theorem foldl_set_keep {i : Nat} : ∀ (ps : List (Nat × D)) (l : List D), (∀ p ∈ ps, p.1 ≠ i) → (ps.foldl (fun l p => l.set p.1 p.2) l)[i]? = l[i]?
  | [], l, _ => rfl
  | p :: ps, l, h => by
    simp only [List.foldl_cons]
    rw [foldl_set_keep ps _ fun q hq => h q (by simp [hq]), List.getElem?_set_ne (h p (by simp))]

theorem okOpd_t {x : Operand} {n : Nat} (h : okOpd x (.t n) = true) : x = .tmp n := by
  cases x <;> simp only [okOpd] at h <;> first | (simp only [beq_iff_eq] at h; rw [h]) | cases h

theorem sv_bldw (h : Core w0 tk n Z0 Z F (fun _ => 0) T a w) {t : TypeId} {parts : Array (Nat × Operand)} {rest : List (Nat × Opd)} {z : List D} {i k m : Nat} (hop : o.op = .build t parts)
    (hps : okParts parts.toList ((i, .t k) :: rest) = true) (hf : okFlat P t z.length = true) (ht : okInfo P t (fun i => match i.zero with | some v => okCells v.cells.toList z | none => false) = true)
    {ys : List D} {T' : Nat → SV} (hs : takes T (.t k :: rest.map (·.2)) = some (ys, T')) (hz1 : sizesAll 1 z) (hsz : sizesAll 1 ys) (hin : ∀ j ∈ ((i, Opd.t k) :: rest).map (·.1), j < z.length)
    {l : List D} (hk : T k = .ref m []) (hm : T m = .d (.slice true l)) (hu : T' m = .un) {d : Nat} (hmd : m ≠ d) (hri : ∀ p ∈ rest, p.1 ≠ i) (hdst : o.dst = some d) (hd : d < n) {Q : Exit → Act → World → Prop} :
    o.wp P a w (fun a' w' => ∃ Z' F', Core w0 tk n Z0 Z' F' (fun _ => 0) (setW (AS.put T' d (.d (.agg (((i :: rest.map (·.1)).zip ys).foldl (fun l p => l.set p.1 p.2) z)))) m (.ref d [.fld i])) a' w') Q := by
  obtain ⟨r, k', f, F1, place, cells, hrun, h1, q2, q3, hcs, hpl, hfill⟩ := bld_run h hop hps hf ht hs hz1 hsz hin
  obtain ⟨hp1, hp2⟩ := okParts_iff hps
  refine wp_value hrun ?_
  rw [hdst]
  have q2 : RepXs w Z (((i :: rest.map (·.1)).zip ys).foldl (fun (l : List D) (p : Nat × D) => l.set p.1 p.2) z) r.toList k' := q2
  have h5 := h1.putAll hd (s := .d (.agg (((i :: rest.map fun (p : Nat × Opd) => p.1).zip ys).foldl (fun (l : List D) (p : Nat × D) => l.set p.1 p.2) z))) (v := .agg r) rfl (f := k') ⟨rfl, q2⟩ (fun b => by have := q3 b; omega)
  refine ⟨Z, _, h5.readd ?_⟩
  intro q
  unfold setW
  by_cases e : q = m
  · subst e
    right
    have hbq : Nat.beq q q = true := by simp
    rw [hbq]
    simp only [cond_true]
    refine ⟨by simp [AS.put, hmd, hu, SV.root], h.lt_of' (by rw [hm]; simp), d, rfl, ?_⟩
    -- what the slot holds
    have hrm := h.rep q
    rw [hm, SRep.none rfl] at hrm
    have hrm : RepV w Z (.slice true l) (tmOf a q) (F q) := hrm
    have hrk := h.rep k
    rw [hk, SRep.some (r := q) rfl] at hrk
    obtain ⟨_, x, cs, oa, y, c, ob, u1, u2, u3, u4, u5⟩ := hrk
    simp only [SV.path, At] at u2
    obtain ⟨rfl, rfl, rfl⟩ := u2
    have hcs2 : (tmOf a k).cells.toList = (tmOf a q).cells.toList := by
      rcases u1 with ⟨v1, v2, v3⟩ | ⟨_, _, _, v1, _⟩
      · rw [u4, v2]
      · rw [hm] at v1; cases v1
    have hl1 : (tmOf a q).cells.toList.length = 1 := by have := RepX.len _ hrm.2; simpa [D.size] using this
    obtain ⟨u, hu1⟩ : ∃ u, (tmOf a q).cells.toList = [u] := by
      match hq : (tmOf a q).cells.toList with
      | [u] => exact ⟨u, rfl⟩
      | [] => rw [hq] at hl1; simp at hl1
      | _ :: _ :: _ => rw [hq] at hl1; simp at hl1
    have hku : (tmOf a k).cells = #[u] := by apply Array.ext'; rw [hcs2, hu1]
    -- what was built
    have hys : ∃ ys', ys = .slice true l :: ys' := by
      simp only [takes, srcTake, hk, hm, Option.bind_some] at hs
      cases hq : takes (AS.put T q .un) (rest.map (·.2)) with
      | none => simp [hq] at hs
      | some b => simp only [hq, Option.map_some, Option.some.injEq, Prod.mk.injEq] at hs; exact ⟨b.1, hs.1.symm⟩
    obtain ⟨ys', rfl⟩ := hys
    have hil : i < z.length := hin i (by simp)
    have hvs : ∃ vs, (parts.toList.map (·.2)).map a.eval = tmOf a k :: vs := by
      match hq : parts.toList with
      | [] => rw [hq] at hps; simp [okParts] at hps
      | p :: ps =>
        rw [hq] at hp2
        simp only [List.map_cons, okOpds, Bool.and_eq_true] at hp2
        have := okOpd_t hp2.1
        exact ⟨_, by simp only [List.map_cons]; rw [this]; rfl⟩
    obtain ⟨vs, hvs⟩ := hvs
    rw [hvs] at hfill
    simp only [List.map_cons, List.zip_cons_cons] at hfill
    have hrz : ∀ {γ : Type} (gs : List γ), ∀ p ∈ (rest.map (·.1)).zip gs, p.1 ≠ i ∧ p.1 < z.length := by
      intro γ gs p hp
      have h1 := List.of_mem_zip (a := p.1) (b := p.2) hp
      obtain ⟨p', h2, h3⟩ := List.mem_map.1 h1.1
      refine ⟨by rw [← h3]; exact hri p' h2, hin p.1 ?_⟩
      simp only [List.map_cons, List.mem_cons]
      exact .inr h1.1
    have hri2 := fill_head hfill (hpl i hil) hku (by omega) (fun p hp => ⟨(hrz _ p hp).1, hpl _ (hrz _ p hp).2⟩)
    have hfl : ((((i :: rest.map (·.1)).zip (.slice true l :: ys')).foldl (fun l p => l.set p.1 p.2) z))[i]? = some (.slice true l) := by
      simp only [List.zip_cons_cons, List.foldl_cons]
      rw [foldl_set_keep _ _ fun p hp => (hrz _ p hp).1, List.getElem?_set_self hil]
    have hsa : ∀ (ps : List (Nat × D)) (l : List D), (∀ p ∈ ps, p.2.size = 1) → sizesAll 1 l → sizesAll 1 (ps.foldl (fun l p => l.set p.1 p.2) l) := by
      intro ps
      induction ps with
      | nil => intro l _ h; exact h
      | cons p ps ih =>
        intro l hp hl
        simp only [List.foldl_cons]
        refine ih _ (fun q hq => hp q (by simp [hq])) ?_
        intro x hx
        rcases List.mem_or_eq_of_mem_set hx with hx | rfl
        · exact hl x hx
        · exact hp p (by simp)
    have hall : sizesAll 1 (((i :: rest.map (·.1)).zip (.slice true l :: ys')).foldl (fun l p => l.set p.1 p.2) z) := hsa _ _ (fun p hp => hsz p.2 (List.of_mem_zip (a := p.1) (b := p.2) hp).2) hz1
    have hdn : d < a.tmps.size := by rw [h.size]; exact hd
    have e1 : tmOf (a.put (some d) (.agg r)) d = .agg r := by rw [tmOf_put hdn, if_pos rfl]
    have e2 : tmOf (a.put (some d) (.agg r)) q = tmOf a q := by rw [tmOf_put hdn, if_neg hmd]
    rw [e2]
    obtain ⟨hir, hiu⟩ := Array.getElem?_eq_some_iff.1 hri2
    have hsp : r.toList = r.toList.take i ++ [u] ++ r.toList.drop (i + 1) := by
      have h3 : r.toList[i]? = some u := by rw [Array.getElem?_toList]; exact hri2
      obtain ⟨h4, h5⟩ := List.getElem?_eq_some_iff.1 h3
      rw [List.append_assoc]
      conv => lhs; rw [← List.take_append_drop i r.toList, List.drop_eq_getElem_cons h4, h5]
      rfl
    refine ⟨.agg (((i :: rest.map fun (p : Nat × Opd) => p.1).zip (.slice true l :: ys')).foldl (fun (l : List D) (p : Nat × D) => l.set p.1 p.2) z), r.toList, none, .slice true l, [u], none, .inl ⟨by simp [AS.put], by rw [e1]; rfl, rfl⟩, ?_, ?_, hu1, hrm.1⟩
    · simp only [SV.path, At]
      refine ⟨_, .slice true l, r.toList.take i, [u], r.toList.drop (i + 1), rfl, hfl, hsp, ?_, by simp [D.size], rfl, rfl, by simp⟩
      rw [sizes_uniform (sz := 1) (fun x hx => hall x (List.mem_of_mem_take hx))]
      have := RepXs.len _ q2
      rw [sizes_uniform hall] at this
      simp only [Array.length_toList, Nat.mul_one] at this
      simp only [List.length_take, Array.length_toList, Nat.mul_one]
      omega
    · simp only [SV.path, ownP, D.sub]
      rw [hfl]
      simp [ownP]
  · left
    have : Nat.beq q m = false := by rw [Bool.eq_false_iff]; intro h; exact e (Nat.eq_of_beq_eq_true h)
    rw [this]; rfl

theorem sv_stw (h : Core w0 tk n Z0 Z F (fun _ => 0) T a w) {t : TypeId} {m v : Nat} {sz : Nat} (hop : o.op = .store t (.tmp m) (.tmp v)) (ht : okInfo P t (fun i => i.size == sz) = true)
    {x y : D} (hT : T m = .box x) (hV : T v = .d y) (hx : x.size = sz) (hy : y.size = sz) (hi : y.imm = false) {q i : Nat} (hq : T q = .ref v [.fld i]) (hmv : m ≠ v) (hqm : q ≠ m) (hdst : o.dst = none) {Q : Exit → Act → World → Prop} :
    o.wp P a w (fun a' w' => ∃ Z' F', Core w0 tk n Z0 Z' F' (fun _ => 0) (setW (stT (AS.put T v .un) m [] y) q (.ref m [.fld i])) a' w') Q := by
  obtain ⟨F1, f, h1, r1⟩ := h.src (x := .tmp v) (x' := .t v) (by simp [okOpd, isT]) (y := y) (T' := AS.put T v .un) (by simp [srcTake, hV, hi])
  have hT1 : AS.put T v .un m = .box x := by simp [AS.put, hmv, hT, SV.root]
  obtain ⟨cs, oa, hroot⟩ := rootD_root h1 (r := m) (x := x) (by simp [rootD, hT1])
  obtain ⟨f1, hx1, _, _⟩ := h1.root hroot
  rcases hroot with ⟨u1, _⟩ | ⟨g, cur, e, u1, u2, u3, u4, u5⟩
  · rw [hT1] at u1; cases u1
  · subst u5
    subst u4
    obtain ⟨cur2, e2, q1, q2, q3⟩ := h1.store (g := g) (o := 0) (r := m) (p := []) (x := x) (y := x) (c := cur.toList) (.inr ⟨g, cur, e, u1, u2, u3, rfl, rfl⟩) (by simp [At]) (by simp [ownP])
    rw [u3] at q1
    cases q1
    have hcl := RepX.len _ hx1
    have hvl := r1.len
    have hev : a.eval (.tmp v) = tmOf a v := rfl
    rw [hev] at r1 hvl
    have hvl2 : (tmOf a v).cells.toList.length = sz := by simp only [Array.length_toList]; omega
    obtain ⟨F', h2⟩ := q3 y (tmOf a v).cells.toList f (by omega) (by omega) r1.2 (fun b => by simp)
    have hrun : (execOp a.eval o).run P w = .ok .skip (w.setRow g (spliced cur 0 (tmOf a v).cells.toList)) := by
      have := run_storeAt (P := P) (w := w) (t := t) (ofs := 0) (v := tmOf a v) ht u3 (by simpa using hvl2) (by simp at q2 hcl hvl2 ⊢; omega) r1.oneCell
      have he : a.eval (.tmp m) = .pointer (some ⟨g, 0, none⟩) := u2
      simp [execOp, hop, he, hev, this]
    refine wp_skipped hrun ?_
    rw [hdst]
    refine ⟨Z, F', Core.readd (h2.less fun b => Nat.zero_le _) ?_⟩
    intro t'
    unfold setW
    by_cases et : t' = q
    · subst et
      right
      have hbq : Nat.beq t' t' = true := by simp
      rw [hbq]
      simp only [cond_true]
      have htv : t' ≠ v := by intro e; subst e; rw [hV] at hq; cases hq
      refine ⟨by simp [stT, AS.put, hqm, htv, hq, SV.root], h.lt_of' (by rw [hq]; simp), m, rfl, ?_⟩
      have hrq := h.rep t'
      rw [hq, SRep.some (r := v) rfl] at hrq
      obtain ⟨_, x2, cs2, oa2, y2, c2, ob2, j1, j2, j3, j4⟩ := hrq
      rcases j1 with ⟨v1, v2, v3⟩ | ⟨_, _, _, v1, _⟩
      · rw [hV] at v1
        cases v1
        subst v2
        subst v3
        have hsp : (spliced cur 0 (tmOf a v).cells.toList).toList = (tmOf a v).cells.toList := by
          simp only [spliced]
          have : cur.toList.drop (0 + (tmOf a v).cells.toList.length) = [] := by
            apply List.drop_eq_nil_of_le
            omega
          rw [this]
          simp
        have hat : ∃ ob3, At (w.setRow g (spliced cur 0 (tmOf a v).cells.toList)) [.fld i] y (tmOf a v).cells.toList (some (g, 0)) y2 c2 ob3 := by
          simp only [SV.path, At] at j2
          obtain ⟨l, z, c1, c2', c3, k1, k2, k3, k4, k5, rfl, rfl, k6⟩ := j2
          refine ⟨Option.map (fun a => (a.1, a.2 + c1.length)) (some (g, 0)), ?_⟩
          simp only [At]
          exact ⟨l, y2, c1, c2, c3, k1, k2, k3, k4, k5, rfl, rfl, rfl⟩
        obtain ⟨ob3, hat⟩ := hat
        refine ⟨y, (tmOf a v).cells.toList, some (g, 0), y2, c2, ob3, .inr ⟨g, spliced cur 0 (tmOf a v).cells.toList, e, ?_, u2, by rw [heap_setRow u3, if_pos rfl], hsp.symm, rfl⟩, hat, j3, j4⟩
        simp [stT, hT1, SV.setR, setP]
      · rw [hV] at v1; cases v1
    · left
      have : Nat.beq t' q = false := by rw [Bool.eq_false_iff]; intro h; exact et (Nat.eq_of_beq_eq_true h)
      rw [this]; rfl
end
end AS
set_option linter.unusedVariables false
set_option linter.unusedSimpArgs false
namespace AS
open Go

theorem natW_iff {x : Option D} {K : Nat → Prop} : natW x K ↔ ∃ k n, x = some (.int k n) ∧ 0 ≤ n ∧ K n.toNat := by
  unfold natW
  constructor
  · intro h
    split at h
    · exact ⟨_, _, rfl, h⟩
    · exact h.elim
  · rintro ⟨k, n, rfl, h⟩; exact h
theorem fldW_iff {y : Option D} {i off : Nat} {Q : Prop} : fldW y i off Q ↔ ∃ l, y = some (.agg l) ∧ i < l.length ∧ D.sizes (l.take i) = off ∧ Q := by
  unfold fldW
  constructor
  · intro h
    split at h
    · exact ⟨_, rfl, h⟩
    · exact h.elim
  · rintro ⟨l, rfl, h⟩; exact h
theorem loW_ex {x : Option (Option D)} {K : Nat → Prop} (h : loW x K) : ∃ j, loW x (fun i => i = j) ∧ K j := by
  cases x with
  | none => exact ⟨0, rfl, h⟩
  | some y =>
    simp only [loW] at h ⊢
    obtain ⟨k, n, rfl, h1, h2⟩ := natW_iff.1 h
    exact ⟨n.toNat, ⟨h1, rfl⟩, h2⟩
theorem loW_mono {x : Option (Option D)} {K K' : Nat → Prop} (h : ∀ j, K j → K' j) (hx : loW x K) : loW x K' := by
  obtain ⟨j, h1, h2⟩ := loW_ex hx
  cases x with
  | none => exact h _ hx
  | some y =>
    simp only [loW] at hx ⊢
    obtain ⟨k, n, e, h1, h2⟩ := natW_iff.1 hx
    exact natW_iff.2 ⟨k, n, e, h1, h _ h2⟩
theorem hiW_ex {x : Option (Option D)} {m : Nat} {K : Nat → Prop} (h : hiW x m K) : ∃ j, hiW x m (fun i => i = j) ∧ K j := by
  cases x with
  | none => exact ⟨m, rfl, h⟩
  | some y =>
    simp only [hiW] at h ⊢
    obtain ⟨k, n, rfl, h1, h2⟩ := natW_iff.1 h
    exact ⟨n.toNat, ⟨h1, rfl⟩, h2⟩
theorem hiW_mono {x : Option (Option D)} {m : Nat} {K K' : Nat → Prop} (h : ∀ j, K j → K' j) (hx : hiW x m K) : hiW x m K' := by
  cases x with
  | none => exact h _ hx
  | some y =>
    simp only [hiW] at hx ⊢
    obtain ⟨k, n, e, h1, h2⟩ := natW_iff.1 hx
    exact natW_iff.2 ⟨k, n, e, h1, h _ h2⟩

theorem evW_ex {P : Program} {T : Nat → SV} {k : MK} (hk : ∀ s x, k ≠ .len s x ∧ k ≠ .eqn s x) {K : SV → Prop} (h : evW P T k K) : ∃ s, evW P T k (fun s' => s' = s) ∧ K s := by
  cases k with
  | mv x =>
    cases x with
    | c x => exact ⟨_, rfl, h⟩
    | t n =>
      simp only [evW] at h ⊢
      cases hT : T n <;> simp only [hT] at h ⊢ <;> try exact h.elim
      · split at h
        · rename_i hi; exact ⟨_, by simp [hi], h⟩
        · rename_i hi; exact ⟨_, by simp [hi], h⟩
      · exact ⟨_, rfl, h⟩
  | fa n i off =>
    simp only [evW] at h ⊢
    split at h
    · rename_i hT
      obtain ⟨l, e, h1, h2, h3⟩ := fldW_iff.1 h
      exact ⟨_, fldW_iff.2 ⟨l, e, h1, h2, rfl⟩, h3⟩
    · rename_i hT
      obtain ⟨l, e, h1, h2, h3⟩ := fldW_iff.1 h
      exact ⟨_, fldW_iff.2 ⟨l, e, h1, h2, rfl⟩, h3⟩
    · rename_i hT
      obtain ⟨l, e, h1, h2, h3⟩ := fldW_iff.1 h
      exact ⟨_, fldW_iff.2 ⟨l, e, h1, h2, rfl⟩, h3⟩
    · rename_i hT
      obtain ⟨z, h1, h2, h3⟩ := h
      exact ⟨_, ⟨z, h1, h2, rfl⟩, h3⟩
    · exact h.elim
  | ia n i sz =>
    simp only [evW] at h ⊢
    obtain ⟨k, j, e, h1, h2⟩ := natW_iff.1 h
    have key : ∃ s, (match T n with
      | .d (.slice false l) => ∃ z, l[j.toNat]? = some z ∧ z.size = sz ∧ SV.ima z = s
      | .d (.slice true l) => ∃ z, l[j.toNat]? = some z ∧ z.size = sz ∧ SV.adr n [.idx j.toNat] = s
      | .ref r p => match wayD T r p with
        | some (.slice true l) => ∃ z, l[j.toNat]? = some z ∧ z.size = sz ∧ SV.adr r (p ++ [.idx j.toNat]) = s
        | _ => False
      | _ => False) ∧ K s := by
      split at h2
      · rename_i hT; obtain ⟨z, q1, q2, q3⟩ := h2; refine ⟨.ima z, ?_, q3⟩; rw [hT]; exact ⟨z, q1, q2, rfl⟩
      · rename_i hT; obtain ⟨z, q1, q2, q3⟩ := h2; refine ⟨.adr n [.idx j.toNat], ?_, q3⟩; rw [hT]; exact ⟨z, q1, q2, rfl⟩
      · rename_i r p hT
        split at h2
        · rename_i hw; obtain ⟨z, q1, q2, q3⟩ := h2; refine ⟨.adr r (p ++ [.idx j.toNat]), ?_, q3⟩; rw [hT]; simp only [hw]; exact ⟨z, q1, q2, trivial⟩
        · exact h2.elim
      · exact h2.elim
    obtain ⟨s, k1, k2⟩ := key
    exact ⟨s, natW_iff.2 ⟨k, j, e, h1, k1⟩, k2⟩
  | ld n sz ag =>
    simp only [evW] at h ⊢
    cases hT : T n <;> simp only [hT] at h ⊢ <;> try exact h.elim
    · obtain ⟨h1, h2⟩ := h
      split at h2
      · rename_i hi; exact ⟨_, ⟨h1, by simp [hi]⟩, h2⟩
      · rename_i hi; exact ⟨_, ⟨h1, by simp [hi]⟩, h2⟩
    · split at h
      · rename_i hw
        obtain ⟨h1, h2⟩ := h
        split at h2
        · rename_i hi; exact ⟨_, by simp only [hw]; exact ⟨h1, by simp [hi]⟩, h2⟩
        · rename_i hi; exact ⟨_, by simp only [hw]; exact ⟨h1, by simp [hi]⟩, h2⟩
      · exact h.elim
    · split at h
      · rename_i hw
        obtain ⟨h1, h2⟩ := h
        split at h2
        · rename_i hi; exact ⟨_, by simp only [hw]; exact ⟨h1, by simp [hi]⟩, h2⟩
        · rename_i hi; exact ⟨_, by simp only [hw]; exact ⟨h1, by simp [hi]⟩, h2⟩
      · exact h.elim
    · exact ⟨_, ⟨h.1, rfl⟩, h.2⟩
  | bin op x y =>
    simp only [evW] at h ⊢
    split at h
    · rename_i hx hy
      obtain ⟨z, h1, h2⟩ := binW_ex h
      refine ⟨_, ?_, h2⟩
      have : (fun z' => SV.d z' = SV.d z) = (fun z' => z' = z) := by funext z'; simp
      rw [this]; exact h1
    · exact h.elim
  | eqb ne x y =>
    simp only [evW] at h ⊢
    split at h
    · rename_i hx hy; exact ⟨_, by simp only [], h⟩
    · exact h.elim
  | eqn ne x => exact absurd rfl (hk ne x).2
  | nt x =>
    simp only [evW] at h ⊢
    split at h
    · exact ⟨_, rfl, h⟩
    · exact h.elim
  | neg x =>
    simp only [evW] at h ⊢
    split at h
    · exact ⟨_, ⟨h.1, rfl⟩, h.2⟩
    · exact h.elim
  | cvi k x =>
    simp only [evW] at h ⊢
    split at h
    · exact ⟨_, ⟨h.1, rfl⟩, h.2⟩
    · exact h.elim
  | len s x => exact absurd rfl (hk s x).1
  | mmx mx x y =>
    simp only [evW] at h ⊢
    split at h
    · exact ⟨_, ⟨h.1, rfl⟩, h.2⟩
    · exact h.elim
  | mk z x =>
    simp only [evW] at h ⊢
    obtain ⟨k, j, e, h1, h2, h3⟩ := natW_iff.1 h
    exact ⟨_, natW_iff.2 ⟨k, j, e, h1, h2, rfl⟩, h3⟩
  | sls x lo hi =>
    simp only [evW] at h ⊢
    split at h
    · rename_i s hs
      obtain ⟨p, h1, h2⟩ := loW_ex h
      obtain ⟨q, h3, h4, h5⟩ := hiW_ex h2
      exact ⟨_, loW_mono (fun j hj => by subst hj; exact hiW_mono (fun i hi => by subst hi; exact ⟨h4, rfl⟩) h3) h1, h5⟩
    · exact h.elim
  | sl x lo hi sz =>
    cases x with
    | c => exact h.elim
    | t n =>
      simp only [evW] at h ⊢
      split at h
      · rename_i l hT
        obtain ⟨h0, h⟩ := h
        obtain ⟨p, h1, h2⟩ := loW_ex h
        obtain ⟨q, h3, h4, h5⟩ := hiW_ex h2
        exact ⟨_, ⟨h0, loW_mono (fun j hj => by subst hj; exact hiW_mono (fun i hi => by subst hi; exact ⟨h4, rfl⟩) h3) h1⟩, h5⟩
      · exact h.elim
  | ix x i =>
    simp only [evW] at h ⊢
    split at h
    · obtain ⟨k, j, e, h1, c, h2, h3⟩ := natW_iff.1 h
      exact ⟨_, natW_iff.2 ⟨k, j, e, h1, c, h2, rfl⟩, h3⟩
    · exact h.elim
  | pick c x y =>
    simp only [evW] at h ⊢
    unfold boolW at h ⊢
    split at h
    · rename_i b hb
      cases b with
      | true =>
        obtain ⟨z, h1, h2, h3⟩ := h.1 rfl
        exact ⟨_, ⟨fun _ => ⟨z, h1, h2, rfl⟩, fun e => by cases e⟩, h3⟩
      | false =>
        obtain ⟨z, h1, h2, h3⟩ := h.2 rfl
        exact ⟨_, ⟨fun e => by (cases e), fun _ => ⟨z, h1, h2, rfl⟩⟩, h3⟩
    · exact h.elim
  | call f args =>
    simp only [evW] at h ⊢
    split at h
    · obtain ⟨r, h1, h2, h3⟩ := h
      exact ⟨_, ⟨r, h1, h2, rfl⟩, h3⟩
    · exact h.elim
  | ext n i =>
    simp only [evW] at h ⊢
    split at h
    · split at h
      · exact ⟨_, ⟨h.1, rfl⟩, h.2⟩
      · exact h.elim
    · exact h.elim
  | b2s x =>
    simp only [evW] at h ⊢
    split at h
    · obtain ⟨bs, h1, h2⟩ := h
      exact ⟨_, ⟨bs, h1, rfl⟩, h2⟩
    · exact h.elim
  | i2s x =>
    simp only [evW] at h ⊢
    split at h
    · exact ⟨_, ⟨h.1, rfl⟩, h.2⟩
    · exact h.elim
  | alloc z => exact ⟨_, rfl, h⟩
  | bsl parts sz =>
    simp only [evW] at h ⊢
    split at h
    · exact ⟨_, ⟨h.1, rfl⟩, h.2⟩
    · exact h.elim
  | _ => exact h.elim
end AS
set_option linter.unusedVariables false
set_option linter.unusedSimpArgs false
namespace AS
open Go

theorem heres_takes {T : Nat → SV} : ∀ {ps : List Opd} {ys : List D}, heres T ps = true → rds T ps = some ys → takes T ps = some (ys, T)
  | [], ys, _, h => by simp only [rds, Option.some.injEq] at h; subst h; rfl
  | x :: ps, ys, hh, h => by
    simp only [heres, Bool.and_eq_true] at hh
    simp only [rds] at h
    cases hx : rd T x with
    | none => simp [hx] at h
    | some y =>
      cases hp : rds T ps with
      | none => simp [hx, hp] at h
      | some ys' =>
        simp only [hx, hp, Option.bind_some, Option.map_some, Option.some.injEq] at h
        subst h
        have hs : srcTake T x = some (y, T) := by
          cases x with
          | c z => simp only [rd, Option.some.injEq] at hx; subst hx; rfl
          | t m =>
            have h1 := hh.1
            simp only [here] at h1
            split at h1
            · rename_i z hz
              simp only [rd, hz, dataOf, Option.some.injEq] at hx
              subst hx
              simp [srcTake, hz, h1]
            · cases h1
        simp only [takes, hs, Option.bind_some, heres_takes hh.2 hp, Option.map_some]

theorem isMax_iff {b : Builtin} (h : isMax b = true) : b = .max := by
  unfold isMax at h; split at h
  · rfl
  · cases h
theorem isMin_iff {b : Builtin} (h : isMin b = true) : b = .min := by
  unfold isMin at h; split at h
  · rfl
  · cases h
theorem isApp_iff {b : Builtin} (h : isApp b = true) : b = .append := by
  unfold isApp at h; split at h
  · rfl
  · cases h
theorem isLen_iff {b : Builtin} (h : isLen b = true) : b = .len := by
  unfold isLen at h; split at h
  · rfl
  · cases h

section
variable {P : Program} {w0 : World} {tk : FP} {n : Nat} {Z0 Z : Nat → Prop} {F : Nat → FP} {T : Nat → SV} {a : Act} {w : World} {o : Oper}

def After (w0 : World) (tk : FP) (n : Nat) (Z0 : Nat → Prop) (K : (Nat → SV) → Prop) (a : Act) (w : World) : Prop :=
  ∃ T Z F, K T ∧ Core w0 tk n Z0 Z F (fun _ => 0) T a w

def opPure (P : Program) (T : Nat → SV) (k : MK) (dst : Option Nat) (K : (Nat → SV) → Prop) : Prop :=
  match dst with
  | some d => evW P T k fun s => K (AS.put T d (s.safe d))
  | none => evW P T k fun _ => K T

theorem after_of {T' : Nat → SV} {K : (Nat → SV) → Prop} {Q : Exit → Act → World → Prop} (hk : K T') (h : o.wp P a w (fun a' w' => ∃ Z' F', Core w0 tk n Z0 Z' F' (fun _ => 0) T' a' w') Q) : o.wp P a w (After w0 tk n Z0 K) Q :=
  Oper.wp_mono (fun _ _ ⟨Z', F', h3⟩ => ⟨T', Z', F', hk, h3⟩) h

theorem op_pure (h : Core w0 tk n Z0 Z F (fun _ => 0) T a w) {dst : Option Nat} {k : MK} (hdst : o.dst = dst) (hd : ∀ d, dst = some d → d < n) {K : (Nat → SV) → Prop}
    (hw : opPure P T k dst K) (hk : ∀ s x, k ≠ .len s x ∧ k ≠ .eqn s x) (hex : ∀ s, evW P T k (fun s' => s' = s) → Ex P w Z T a o s) {Q : Exit → Act → World → Prop} :
    o.wp P a w (After w0 tk n Z0 K) Q := by
  subst hdst
  cases hdst : o.dst with
  | none =>
    simp only [opPure, hdst] at hw
    obtain ⟨s, h1, h2⟩ := evW_ex hk hw
    have h3 := sv_ex h (hex s h1) hd (Q := Q)
    simp only [hdst] at h3
    exact after_of h2 h3
  | some d =>
    simp only [opPure, hdst] at hw
    obtain ⟨s, h1, h2⟩ := evW_ex hk hw
    have h3 := sv_ex h (hex s h1) hd (Q := Q)
    simp only [hdst] at h3
    exact after_of h2 h3

theorem op_len (h : Core w0 tk n Z0 Z F (fun _ => 0) T a w) {dst : Option Nat} {k : MK} (hdst : o.dst = dst) (hd : ∀ d, dst = some d → d < n) {K : (Nat → SV) → Prop}
    (hw : opPure P T k dst K) (key : ∀ {K' : SV → Prop}, evW P T k K' → ∃ s, evW P T k (fun s' => s' = s) ∧ K' s) (hex : ∀ s, evW P T k (fun s' => s' = s) → Ex P w Z T a o s) {Q : Exit → Act → World → Prop} :
    o.wp P a w (After w0 tk n Z0 K) Q := by
  subst hdst
  cases hdst : o.dst with
  | none =>
    simp only [opPure, hdst] at hw
    obtain ⟨s, h1, h2⟩ := key hw
    have h3 := sv_ex h (hex s h1) hd (Q := Q)
    simp only [hdst] at h3
    exact after_of h2 h3
  | some d =>
    simp only [opPure, hdst] at hw
    obtain ⟨s, h1, h2⟩ := key hw
    have h3 := sv_ex h (hex s h1) hd (Q := Q)
    simp only [hdst] at h3
    exact after_of h2 h3

theorem op_sound (h : Core w0 tk n Z0 Z F (fun _ => 0) T a w) {dst : Option Nat} {k : MK} {g : Option (Nat × Bool)} (hok : okK P o.op k = true) (hdst : o.dst = dst) (hd : ∀ d, dst = some d → d < n) {K : (Nat → SV) → Prop}
    (hw : opW P T ⟨dst, k, g⟩ K) {Q : Exit → Act → World → Prop} : o.wp P a w (After w0 tk n Z0 K) Q := by
  generalize hop : o.op = op at hok
  have fin : ∀ {k' : MK}, k = k' → opPure P T k' dst K → (∀ s x, k' ≠ .len s x ∧ k' ≠ .eqn s x) → (∀ s, evW P T k' (fun s' => s' = s) → Ex P w Z T a o s) → o.wp P a w (After w0 tk n Z0 K) Q :=
    fun {k'} _ h1 h2 h3 => op_pure h hdst hd h1 h2 h3
  cases k with
  | mv y =>
    simp only [okK] at hok
    split at hok
    · exact fin rfl (by cases dst <;> exact hw) (by simp) fun s hs => ex_mv h (.inl hop) hok hs
    · exact fin rfl (by cases dst <;> exact hw) (by simp) fun s hs => ex_mv h (.inr hop) hok hs
    · cases hok
  | mvt m =>
    simp only [okK] at hok
    split at hok
    · cases dst with
      | none => simp only [opW, evW] at hw
      | some d =>
        have := isT_iff hok
        subst this
        simp only [opW] at hw
        split at hw
        · rename_i l hT
          have h1 := h.rep m
          rw [hT, SRep.none rfl] at h1
          have h2 := h.set (dst := m) (a' := a) (s := .un) (f := fun _ => 0) (S' := F m) h.size h.dfr (fun _ _ => rfl) (by simp [SRep, SV.root, SRepN]) (fun b => by simp) (fun _ => rfl)
          refine after_of hw (wp_value (w' := w) (v := tmOf a m) (by simp [execOp, hop, Act.eval, tmOf]) ?_)
          rw [hdst]
          exact ⟨Z, _, h2.putAll (hd d rfl) rfl (f := F m) h1 (fun _ => Nat.le_refl _)⟩
        · exact hw.elim
    · cases hok
  | asg y =>
    simp only [okK] at hok
    split at hok
    · cases dst with
      | none => exact hw.elim
      | some d =>
        simp only [opW] at hw
        split at hw
        · rename_i y T' hs
          exact after_of hw (sv_asg h hop hok hs hdst (hd d rfl))
        · exact hw.elim
    · cases hok
  | box y =>
    simp only [okK] at hok
    split at hok
    · cases dst with
      | none => exact hw.elim
      | some d =>
        simp only [opW] at hw
        split at hw
        · rename_i y T' hs
          exact after_of hw (sv_box h hop hok hs hdst (hd d rfl))
        · exact hw.elim
    · cases hok
  | boxm m =>
    simp only [okK] at hok
    split at hok
    · cases dst with
      | none => exact hw.elim
      | some d =>
        have := isT_iff hok
        subst this
        simp only [opW] at hw
        split at hw
        · rename_i y hT
          exact after_of hw.2 (sv_boxm h hop hT hdst (hd d rfl) hw.1)
        · exact hw.elim
    · cases hok
  | alloc z =>
    simp only [okK] at hok
    split at hok
    · cases dst with
      | none => exact hw.elim
      | some d =>
        simp only [opW] at hw
        exact after_of hw (sv_alloc h hop hok hdst (hd d rfl))
    · cases hok
  | fa m i off =>
    simp only [okK] at hok
    split at hok
    · simp only [Bool.and_eq_true, beq_iff_eq] at hok
      obtain ⟨⟨h1, rfl⟩, hok⟩ := hok
      have := isT_iff h1
      subst this
      exact fin rfl (by cases dst <;> exact hw) (by simp) fun s hs => ex_fa h hop hok hs
    · cases hok
  | ia m i sz =>
    simp only [okK] at hok
    split at hok
    · simp only [Bool.and_eq_true] at hok
      obtain ⟨⟨h1, hok⟩, hok2⟩ := hok
      have := isT_iff h1
      subst this
      exact fin rfl (by cases dst <;> exact hw) (by simp) fun s hs => ex_ia h hop hok hok2 hs
    · cases hok
  | ld m sz ag =>
    simp only [okK] at hok
    split at hok
    · simp only [Bool.and_eq_true] at hok
      obtain ⟨h1, hok⟩ := hok
      have := isT_iff h1
      subst this
      exact fin rfl (by cases dst <;> exact hw) (by simp) fun s hs => ex_ld h hop hok hs
    · cases hok
  | st m y sz =>
    simp only [okK] at hok
    split at hok
    · simp only [Bool.and_eq_true] at hok
      obtain ⟨⟨h1, hok⟩, hok2⟩ := hok
      have := isT_iff h1
      subst this
      cases dst with
      | some d => simp only [opW, evW] at hw
      | none =>
        simp only [opW] at hw
        split at hw
        · rename_i y' T' hs
          obtain ⟨F1, f, h1, r1⟩ := h.src hok hs
          split at hw
          · rename_i x hT
            exact after_of hw.2 (sv_st_box h1 hop hok2 r1 (fun b => by simp) hT hw.1.1 hw.1.2 hdst)
          · rename_i r p hT
            obtain ⟨⟨x, y, q1, q2, q3⟩, q4, q5⟩ := hw
            exact after_of q5 (sv_st_adr h1 hop hok2 r1 (fun b => by simp) hT (by simp [wayD, q1, q2]) q3 q4 hdst)
          · exact hw.elim
        · exact hw.elim
    · cases hok
  | stm m y sz =>
    simp only [okK] at hok
    split at hok
    · simp only [Bool.and_eq_true] at hok
      obtain ⟨⟨h1, h2⟩, hok2⟩ := hok
      have := isT_iff h1
      subst this
      have := isT_iff h2
      subst this
      cases dst with
      | some d => simp only [opW, evW] at hw
      | none =>
        simp only [opW] at hw
        split at hw
        · rename_i x r p hT hV
          obtain ⟨⟨q1, q2, y, q3, q4⟩, q5⟩ := hw
          exact after_of q5 (sv_stm h hop hok2 hT hV q1 q2 q3 q4 hdst)
        · exact hw.elim
    · cases hok
  | bin op' x y =>
    simp only [okK] at hok
    split at hok
    · simp only [Bool.and_eq_true, beq_iff_eq] at hok
      obtain ⟨⟨rfl, hok⟩, hok2⟩ := hok
      exact fin rfl (by cases dst <;> exact hw) (by simp) fun s hs => ex_bin h hop hok hok2 hs
    · cases hok
  | eqb ne x y =>
    simp only [okK] at hok
    split at hok
    · rename_i op t x y ty
      simp only [Bool.and_eq_true] at hok
      obtain ⟨⟨⟨h1, h2⟩, h3⟩, h4⟩ := hok
      have e : op = (if ne then .neq else .eql) := by
        cases ne <;> cases op <;> simp_all [isNeq, isEql]
      subst e
      exact fin rfl (by cases dst <;> exact hw) (by simp) fun s hs => ex_eqb (ne := ne) h hop h2 h3 h4 hs
    · cases hok
  | eqn ne xx =>
    simp only [okK] at hok
    split at hok
    · rename_i op t x y ty
      simp only [Bool.and_eq_true] at hok
      obtain ⟨⟨⟨h1, h2⟩, h3⟩, h4⟩ := hok
      have e : op = (if ne then .neq else .eql) := by
        cases ne <;> cases op <;> simp_all [isNeq, isEql]
      subst e
      have := isNilC_iff h2
      subst this
      have hw2 : opPure P T (.eqn ne xx) dst K := by cases dst <;> exact hw
      subst hdst
      cases hdst : o.dst with
      | none =>
        simp only [opPure, hdst] at hw2
        obtain ⟨s, h5, h6⟩ := ex_eqn (ne := ne) h hop h3 h4 hw2
        have h7 := sv_ex h h6 hd (Q := Q)
        simp only [hdst] at h7
        exact after_of h5 h7
      | some d =>
        simp only [opPure, hdst] at hw2
        obtain ⟨s, h5, h6⟩ := ex_eqn (ne := ne) h hop h3 h4 hw2
        have h7 := sv_ex h h6 hd (Q := Q)
        simp only [hdst] at h7
        exact after_of h5 h7
    · cases hok
  | nt y =>
    simp only [okK] at hok
    split at hok
    · rename_i u t x
      simp only [Bool.and_eq_true] at hok
      have e : u = .not := by cases u <;> simp_all [isNot]
      subst e
      exact fin rfl (by cases dst <;> exact hw) (by simp) fun s hs => ex_nt h hop hok.2 hs
    · cases hok
  | neg y =>
    simp only [okK] at hok
    split at hok
    · rename_i u t x
      simp only [Bool.and_eq_true] at hok
      have e : u = .neg := by cases u <;> simp_all [isNeg]
      subst e
      exact fin rfl (by cases dst <;> exact hw) (by simp) fun s hs => ex_neg h hop hok.2 hs
    · cases hok
  | cvi k y =>
    simp only [okK] at hok
    split at hok
    · simp only [Bool.and_eq_true] at hok
      exact fin rfl (by cases dst <;> exact hw) (by simp) fun s hs => ex_cvi h hop hok.1.1 hok.1.2 hok.2 hs
    · cases hok
  | len str y =>
    simp only [okK] at hok
    split at hok
    · obtain ⟨b, x, t, hc, hok⟩ := callB1_iff hok
      simp only [Bool.and_eq_true] at hok
      obtain ⟨⟨h1, h2⟩, h3⟩ := hok
      have e : b = .len := isLen_iff h1
      subst e
      rw [hc] at hop
      have hex : ∀ s, evW P T (.len str y) (fun s' => s' = s) → Ex P w Z T a o s := fun s hs => ex_len (str := str) h hop (by simpa using h2) h3 hs
      have hw2 : opPure P T (.len str y) dst K := by cases dst <;> exact hw
      refine op_len h hdst hd hw2 ?_ hex
      intro K' hk
      cases str with
      | true =>
        simp only [evW] at hk ⊢
        split at hk
        · rename_i l hl
          have := (h.rdStr h3 hl).2
          exact ⟨_, fun _ => rfl, hk (by simp only [maxLen] at this; omega)⟩
        · exact hk.elim
      | false =>
        simp only [evW] at hk ⊢
        split at hk
        · rename_i o' l hl
          obtain ⟨f, r, _⟩ := h.rd h3 hl
          obtain ⟨ad, cap, hv, h1, h2, _⟩ := r.slice
          exact ⟨_, fun _ => rfl, hk (by simp only [maxLen] at h2; omega)⟩
        · exact ⟨_, rfl, hk⟩
        · exact hk.elim
    · cases hok
  | mmx mx x y =>
    simp only [okK] at hok
    split at hok
    · obtain ⟨b, x, y, hc, hok⟩ := callB2_iff hok
      simp only [Bool.and_eq_true] at hok
      obtain ⟨⟨h1, h2⟩, h3⟩ := hok
      have e : b = (if mx then .max else .min) := by
        cases mx
        · simp only [Bool.false_eq_true, if_false] at h1 ⊢; exact isMin_iff h1
        · simp only [if_true] at h1 ⊢; exact isMax_iff h1
      subst e
      rw [hc] at hop
      exact fin rfl (by cases dst <;> exact hw) (by simp) fun s hs => ex_mmx (mx := mx) h hop h2 h3 hs
    · cases hok
  | app s x sz =>
    simp only [okK] at hok
    split at hok
    · rename_i c
      simp only [Bool.and_eq_true] at hok
      obtain ⟨h0, h4⟩ := hok
      obtain ⟨b, x, y, hc, hok⟩ := callB2_iff h0
      simp only [Bool.and_eq_true] at hok
      obtain ⟨⟨h1, h2⟩, h3⟩ := hok
      have e : b = .append := isApp_iff h1
      subst e
      split at h4
      · rename_i t t' hts
        simp only [Bool.and_eq_true, beq_iff_eq] at h4
        obtain ⟨rfl, h4⟩ := h4
        have hct : c.argTypes = #[t, t] := by rw [← Array.toArray_toList (xs := c.argTypes), hts]
        rw [hc, hct] at hop
        cases dst with
        | none => simp only [opW, evW] at hw
        | some d =>
          simp only [opW] at hw
          split at hw
          · rename_i y T' hs
            split at hw
            · rename_i l hl
              split at hw
              · rename_i es T'' he
                exact after_of hw.2 (sv_app h hop h2 h3 h4 hs hl he hw.1.1 hw.1.2.1 hw.1.2.2 hdst (hd d rfl))
              · exact hw.elim
            · exact hw.elim
          · exact hw.elim
      · cases h4
    · cases hok
  | bsl ys sz =>
    simp only [okK] at hok
    split at hok
    · simp only [Bool.and_eq_true] at hok
      obtain ⟨⟨⟨hok1, hok2⟩, hok3⟩, hok4⟩ := hok
      cases dst with
      | none => exact hw.elim
      | some d =>
        simp only [opW] at hw
        split at hw
        · rename_i ys T' hs
          exact after_of hw.2 (sv_bsl h hop (by simpa using hok1) hok2 hok3 hok4 hs hw.1.1 hw.1.2 hdst (hd d rfl))
        · exact hw.elim
    · cases hok
  | bld z ys =>
    simp only [okK] at hok
    split at hok
    · simp only [Bool.and_eq_true, List.all_eq_true, decide_eq_true_eq] at hok
      obtain ⟨⟨⟨hok1, hok2⟩, hok3⟩, hok4⟩ := hok
      cases dst with
      | none => simp only [opW, evW] at hw
      | some d =>
        simp only [opW] at hw
        split at hw
        · rename_i ys T' hs
          exact after_of hw.2 (sv_bld h hop hok1 hok3 hok4 hs hw.1.1 hw.1.2 (fun i hi => by obtain ⟨p, h1, rfl⟩ := List.mem_map.1 hi; exact hok2 p h1) hdst (hd d rfl))
        · exact hw.elim
    · cases hok
  | bldw z i k rest m =>
    simp only [okK] at hok
    split at hok
    · simp only [Bool.and_eq_true, List.all_eq_true, decide_eq_true_eq] at hok
      obtain ⟨⟨⟨hok1, hok2⟩, hok3⟩, hok4⟩ := hok
      cases dst with
      | none => simp only [opW, evW] at hw
      | some d =>
        simp only [opW] at hw
        split at hw
        · rename_i ys T' hs
          obtain ⟨⟨hz, ⟨l, g1, g2⟩, g3, g4, g5⟩, hK⟩ := hw
          exact after_of hK (sv_bldw h hop hok1 hok3 hok4 hs hz.1 hz.2 (fun i hi => by obtain ⟨p, h1, rfl⟩ := List.mem_map.1 hi; exact hok2 p h1) g1 g2 g3
            (fun e => by subst e; simp at g4) (fun p hp e => by have := List.all_eq_true.1 g5 p hp; subst e; simp at this) hdst (hd d rfl))
        · exact hw.elim
    · cases hok
  | stw m v sz q i =>
    simp only [okK] at hok
    split at hok
    · simp only [Bool.and_eq_true] at hok
      obtain ⟨⟨h1, h2⟩, hok2⟩ := hok
      have := isT_iff h1
      subst this
      have := isT_iff h2
      subst this
      cases dst with
      | some d => simp only [opW, evW] at hw
      | none =>
        simp only [opW] at hw
        split at hw
        · rename_i x y hT hV
          obtain ⟨⟨⟨q1, q2⟩, q3, q4, q5, q6⟩, hK⟩ := hw
          exact after_of hK (sv_stw h hop hok2 hT hV q1 q2 q3 q4 (fun e => by subst e; simp at q5) (fun e => by subst e; simp at q6) hdst)
        · exact hw.elim
    · cases hok
  | mk z y =>
    simp only [okK] at hok
    split at hok
    · simp only [Bool.and_eq_true] at hok
      obtain ⟨⟨hok1, hok2⟩, hok3⟩ := hok
      cases dst with
      | none => exact hw.elim
      | some d =>
        simp only [opW] at hw
        obtain ⟨j, h1, h2⟩ := sv_mk h hop hok1 hok2 hok3 hw hdst (hd d rfl) (Q := Q)
        exact after_of h1 h2
    · cases hok
  | sls y lo hi =>
    simp only [okK] at hok
    split at hok
    · rename_i t x lo hi mx
      simp only [Bool.and_eq_true] at hok
      cases mx with
      | some => simp at hok
      | none => exact fin rfl (by cases dst <;> exact hw) (by simp) fun s hs => ex_sls h hop hok.1.1.1.2 hok.1.1.2 hok.1.2 hok.2 hs
    · cases hok
  | sl y lo hi sz =>
    simp only [okK] at hok
    split at hok
    · rename_i t x lo hi mx
      simp only [Bool.and_eq_true] at hok
      cases mx with
      | some => simp at hok
      | none => exact fin rfl (by cases dst <;> exact hw) (by simp) fun s hs => ex_sl h hop hok.1.1.1.2 hok.1.1.2 hok.1.2 hok.2 hs
    · cases hok
  | ix y j =>
    simp only [okK] at hok
    split at hok
    · simp only [Bool.and_eq_true] at hok
      exact fin rfl (by cases dst <;> exact hw) (by simp) fun s hs => ex_ix h hop hok.1.1 hok.1.2 hok.2 hs
    · cases hok
  | pick c x y =>
    simp only [okK] at hok
    split at hok
    · simp only [Bool.and_eq_true] at hok
      exact fin rfl (by cases dst <;> exact hw) (by simp) fun s hs => ex_pick h hop hok.1.1 hok.1.2 hok.2 hs
    · cases hok
  | call f ys =>
    simp only [okK] at hok
    split at hok
    · obtain ⟨f', hc, hq⟩ := callF_iff hok
      clear hok
      rw [hc] at hop
      simp only [Bool.and_eq_true, beq_iff_eq] at hq
      obtain ⟨rfl, hok⟩ := hq
      have hw2 : opPure P T (.call f' ys) dst K := by cases dst <;> exact hw
      subst hdst
      cases hdst : o.dst with
      | none =>
        simp only [opPure, hdst] at hw2
        obtain ⟨s, h1, h2, h3⟩ := sv_call h hop hok hw2 hd (Q := Q)
        simp only [hdst] at h3
        exact after_of h1 h3
      | some d =>
        simp only [opPure, hdst] at hw2
        obtain ⟨s, h1, h2, h3⟩ := sv_call h hop hok hw2 hd (Q := Q)
        simp only [hdst] at h3
        rw [SV.safe_none h2] at h1
        exact after_of h1 h3
    · cases hok
  | callT f ys =>
    simp only [okK] at hok
    split at hok
    · obtain ⟨f', hc, hq⟩ := callF_iff hok
      clear hok
      rw [hc] at hop
      simp only [Bool.and_eq_true, beq_iff_eq] at hq
      obtain ⟨rfl, hok⟩ := hq
      cases dst with
      | none => simp only [opW, evW] at hw
      | some d =>
        simp only [opW] at hw
        split at hw
        · rename_i ds T' hs
          obtain ⟨r, h1, h2, h3⟩ := hw
          exact after_of h3 (sv_callT h hop hok hs h1 h2 hdst (hd d rfl))
        · exact hw.elim
    · cases hok
  | callO f ys =>
    simp only [okK] at hok
    split at hok
    · obtain ⟨f', hc, hq⟩ := callF_iff hok
      clear hok
      rw [hc] at hop
      simp only [Bool.and_eq_true, beq_iff_eq] at hq
      obtain ⟨rfl, hok⟩ := hq
      cases dst with
      | none => cases ys with
        | nil => simp only [opW, evW] at hw
        | cons y ys => cases y <;> simp only [opW, evW] at hw
      | some d =>
        cases ys with
        | nil => simp only [opW, evW] at hw
        | cons y ys =>
          cases y with
          | c => simp only [opW, evW] at hw
          | t m =>
            simp only [opW] at hw
            split at hw
            · rename_i y hT
              split at hw
              · rename_i ds hds
                obtain ⟨r, y', h1, ⟨h2, h3, h4, h5⟩, h6⟩ := hw
                exact after_of h6 (sv_callO_d h hop hok hds h1 hT h2 h3 h4 h5 hdst (hd d rfl))
              · exact hw.elim
            · rename_i rt p hT
              split at hw
              · rename_i ds y hds hy
                obtain ⟨r, y', h1, ⟨h2, h3, h4, h5⟩, h6⟩ := hw
                exact after_of h6 (sv_callO_ref h hop hok hds h1 hT hy h2 h3 h4 h5 hdst (hd d rfl))
              · exact hw.elim
            · exact hw.elim
    · cases hok
  | mkf g caps =>
    simp only [okK] at hok
    split at hok
    · simp only [Bool.and_eq_true, beq_iff_eq] at hok
      obtain ⟨⟨rfl, h1⟩, h2⟩ := hok
      cases dst with
      | none => simp only [opW, evW] at hw
      | some d =>
        simp only [opW] at hw
        split at hw
        · rename_i ds T' hs
          have e := Array.isEmpty_iff.1 h1
          subst e
          exact after_of hw.2 (sv_mkf h hop h2 hs hdst (hd d rfl) (fun c hc => by have := List.all_eq_true.1 hw.1 c hc; simpa using this))
        · exact hw.elim
    · cases hok
  | callf k ys =>
    simp only [okK] at hok
    split at hok
    · obtain ⟨v, hc, hq⟩ := callV_iff hok
      clear hok
      rw [hc] at hop
      simp only [Bool.and_eq_true] at hq
      obtain ⟨h1, hok⟩ := hq
      have := isT_iff h1
      subst this
      cases dst with
      | none => simp only [opW, evW] at hw
      | some d =>
        simp only [opW] at hw
        split at hw
        · rename_i r0 g caps hf
          split at hw
          · rename_i ds T' hs
            obtain ⟨r, caps', h1, h2, h3, h4⟩ := hw
            exact after_of h4 (sv_callf h hop hok hf hs h1 h2 h3 hdst (hd d rfl))
          · exact hw.elim
        · exact hw.elim
    · cases hok
  | callP f pre k post =>
    simp only [okK] at hok
    split at hok
    · obtain ⟨f', hc, hq⟩ := callF_iff hok
      clear hok
      rw [hc] at hop
      simp only [Bool.and_eq_true, beq_iff_eq] at hq
      obtain ⟨rfl, hok⟩ := hq
      cases dst with
      | none => simp only [opW, evW] at hw
      | some d =>
        simp only [opW] at hw
        split at hw
        · rename_i g caps hT
          split at hw
          · rename_i ds es h1 h2
            obtain ⟨r, caps', h3, h4, h5, h6⟩ := hw
            exact after_of h6 (sv_callP h hop hok hT h1 h2 h3 h4 h5 hdst (hd d rfl))
          · exact hw.elim
        · exact hw.elim
    · cases hok
  | ext m i =>
    simp only [okK] at hok
    split at hok
    · simp only [Bool.and_eq_true, beq_iff_eq] at hok
      obtain ⟨h1, rfl⟩ := hok
      have := isT_iff h1
      subst this
      cases dst with
      | none =>
        exact fin rfl hw (by simp) fun s hs => ex_ext h hop hs
      | some d =>
        simp only [opW] at hw
        split at hw
        · rename_i l hT
          split at hw
          · rename_i y hy
            exact after_of hw (sv_extO h hop hT hy hdst (hd d rfl))
          · exact hw.elim
        · exact hw.elim
    · cases hok
  | b2s y =>
    simp only [okK] at hok
    split at hok
    · simp only [Bool.and_eq_true] at hok
      exact fin rfl (by cases dst <;> exact hw) (by simp) fun s hs => ex_b2s h hop hok.1.1.1 hok.1.1.2 hok.1.2 hok.2 hs
    · cases hok
  | i2s y =>
    simp only [okK] at hok
    split at hok
    · simp only [Bool.and_eq_true] at hok
      exact fin rfl (by cases dst <;> exact hw) (by simp) fun s hs => ex_i2s h hop hok.1.1 hok.1.2 hok.2 hs
    · cases hok
end
end AS
set_option linter.unusedVariables false
set_option linter.unusedSimpArgs false
namespace AS
open Go

abbrev TL := List (Nat × SV)
def ofL : TL → Nat → SV
  | [], _ => .un
  | (t, s) :: L, n => if n = t then s else ofL L n

/-- Of the slots, these. -/
def cleanE (ks : List Nat) (s : SV) : SV := match s.root with
  | none => s
  | some r => if ks.elem r then s else .un
def keepL (T : Nat → SV) : List Nat → List Nat → TL
  | _, [] => []
  | ks, k :: l => (k, cleanE ks (T k)) :: keepL T ks l
theorem ofL_keepL (T : Nat → SV) (ks : List Nat) : ∀ (l : List Nat) (t : Nat), ofL (keepL T ks l) t = if t ∈ l then cleanE ks (T t) else .un
  | [], t => by simp [keepL, ofL]
  | k :: l, t => by
    simp only [keepL, ofL, ofL_keepL T ks l t]
    by_cases h : t = k
    · subst h; simp
    · simp [h]

section
variable {P : Program} {w0 : World} {tk : FP} {n : Nat} {Z0 Z : Nat → Prop} {F : Nat → FP} {T : Nat → SV} {a : Act} {w : World} {o : Oper}

theorem RootOf.sub {T1 : Nat → SV} {tm : Nat → Value} {r : Nat} {x : D} {cs : List Value} {oa : Option (Nat × Nat)} (h : RootOf w T tm r x cs oa) (he : T1 r = T r) : RootOf w T1 tm r x cs oa := by
  rcases h with ⟨h1, h2⟩ | ⟨b, cur, e, h1, h2⟩
  · exact .inl ⟨by rw [he]; exact h1, h2⟩
  · exact .inr ⟨b, cur, e, by rw [he]; exact h1, h2⟩

/-- Fewer slots known. -/
theorem Core.weaken {S : FP} (h : Core w0 tk n Z0 Z F S T a w) {T1 : Nat → SV} (hle : ∀ t, T1 t = .un ∨ T1 t = T t) (hwr : ∀ t r, (T1 t).root = some r → T1 r ≠ .un) :
    ∃ F1, Core w0 tk n Z0 Z F1 S T1 a w := by
  classical
  refine ⟨fun t => if T1 t = .un then fun _ => 0 else F t, h.size, h.dfr, ?_, ?_, ?_, ?_, ?_, ?_, h.zz, h.zn, h.fr, h.tz⟩
  · intro t
    by_cases hu : T1 t = .un
    · simp [hu, SRep, SV.root, SRepN]
    · have he : T1 t = T t := (hle t).resolve_left hu
      simp only [hu, if_false]
      have h1 := h.rep t
      cases hr : (T1 t).root with
      | none =>
        rw [SRep.none hr]
        rw [he] at hr ⊢
        rw [SRep.none hr] at h1
        exact h1
      | some r =>
        have hne := hwr t r hr
        rw [SRep.some hr]
        rw [he] at hr ⊢
        rw [SRep.some hr] at h1
        obtain ⟨h0, x, cs, oa, y, c, ob, k1, k2, k3, k4⟩ := h1
        exact ⟨h0, x, cs, oa, y, c, ob, k1.sub ((hle r).resolve_left hne), k2, k3, k4⟩
  · intro t ht
    rcases hle t with h1 | h1
    · exact h1
    · rw [h1]; exact h.lt t ht
  · intro t t' b hne
    have := h.dis t t' b hne
    split <;> split <;> (try dsimp only) <;> omega
  · intro t b
    have := h.one t b
    split <;> (try dsimp only) <;> omega
  · intro b hb
    have h1 := h.zf b hb
    refine ⟨h1.1, h1.2.1, fun t => ?_⟩
    split
    · rfl
    · exact h1.2.2 t
  · intro b hb
    refine h.own b (hb.imp id ?_)
    rintro ⟨t, ht⟩
    refine ⟨t, ?_⟩
    split at ht
    · exact absurd ht (by simp)
    · exact ht

/-- The invariant: the slots in memory; and a slot that is never written. -/
def Inv (w0 : World) (tk : FP) (n : Nat) (Z0 : Nat → Prop) (pv : Option (Nat × Value)) (T : Nat → SV) (a : Act) (w : World) : Prop :=
  (∃ Z F, Core w0 tk n Z0 Z F (fun _ => 0) T a w) ∧ ∀ q v, pv = some (q, v) → tmOf a q = v

theorem Inv.keep {pv : Option (Nat × Value)} (h : Inv w0 tk n Z0 pv T a w) (ks : List Nat) : Inv w0 tk n Z0 pv (ofL (keepL T ks ks)) a w := by
  obtain ⟨⟨Z, F, h1⟩, h2⟩ := h
  obtain ⟨F1, h3⟩ := h1.weaken (T1 := ofL (keepL T ks ks)) (fun t => by
    rw [ofL_keepL]
    split
    · simp only [cleanE]
      split
      · exact .inr rfl
      · split
        · exact .inr rfl
        · exact .inl rfl
    · exact .inl rfl) (fun t r hr => by
    rw [ofL_keepL] at hr
    split at hr
    · simp only [cleanE] at hr
      split at hr
      · rename_i e; rw [e] at hr; cases hr
      · rename_i r' e
        split at hr
        · rename_i hk
          rw [e] at hr
          cases hr
          obtain ⟨x, _, k2, k3⟩ := h1.wr e
          rw [ofL_keepL, if_pos (by simpa using hk)]
          simp only [cleanE, k3]
          exact k2
        · simp [SV.root] at hr
    · simp [SV.root] at hr)
  exact ⟨⟨Z, F1, h3⟩, h2⟩

/-! ### One operation, with its guard -/
def skipT (T : Nat → SV) : Option Nat → (Nat → SV)
  | none => T
  | some d => AS.put T d (.tup [])
def guardW (s : SV) (b : Bool) (A B : Prop) : Prop := match s with
  | .d (.bool x) => (x = b → A) ∧ (x = !b → B)
  | .tup [] => B
  | _ => False
def opG (P : Program) (m : MOp) (T : Nat → SV) (K : (Nat → SV) → Prop) : Prop := match m.g with
  | none => opW P T m K
  | some (s, b) => guardW (T s) b (opW P T m K) (K (skipT T m.dst))
def seqW (P : Program) : List MOp → (Nat → SV) → ((Nat → SV) → Prop) → Prop
  | [], T, K => K T
  | m :: ms, T, K => opG P m T fun T' => seqW P ms T' K

def okG (ops : Array Oper) (g : Option (Nat × Bool)) (mg : Option (Nat × Bool)) : Bool := match g, mg with
  | none, none => true
  | some (j, b), some (s, b') => b == b' && (match ops[j]? with | some o => o.dst == some s | none => false)
  | _, _ => false
def okOp (P : Program) (n : Nat) (pz : Option Nat) (ops : Array Oper) (o : Oper) (m : MOp) : Bool :=
  okK P o.op m.k && o.dst == m.dst && okG ops o.guard m.g && (match m.dst with | none => true | some d => decide (d < n) && pz != some d)
def okOps (P : Program) (n : Nat) (pz : Option Nat) (ops : Array Oper) : List Oper → List MOp → Bool
  | [], [] => true
  | o :: os, m :: ms => okOp P n pz ops o m && okOps P n pz ops os ms
  | _, _ => false

/-- What an operation's run leaves of the slots. -/
theorem Oper.wp_keep {K : Act → World → Prop} {Q : Exit → Act → World → Prop} (h : o.wp P a w K Q) : o.wp P a w (fun a' w' => K a' w' ∧ ∀ t, o.dst ≠ some t → tmOf a' t = tmOf a t) Q := by
  have hput : ∀ v t, o.dst ≠ some t → tmOf (a.put o.dst v) t = tmOf a t := by
    intro v t ht
    cases hd : o.dst with
    | none => rfl
    | some d =>
      have hne : d ≠ t := fun e => ht (by rw [hd, e])
      simp [tmOf, Act.put, hne]
  unfold Oper.wp at *
  generalize (execOp a.eval o).run P w = r at *
  cases r with
  | ok nx w' =>
    cases nx <;> simp only [Oper.upon] at h ⊢ <;>
      first
        | exact ⟨h, hput _⟩
        | exact ⟨h, fun t ht => by
            cases hd : o.dst with
            | none => rfl
            | some d =>
              have hne : d ≠ t := fun e => ht (by rw [hd, e])
              simp [tmOf, Act.put, hne]⟩
        | exact Calls.mono h (fun e w'' he => by cases e <;> first | exact ⟨he, hput _⟩ | exact he)
        | exact Rows.mono h (fun _ _ he => ⟨he, hput _⟩)
        | exact h
  | halt x w' => cases x <;> simp only [Oper.upon] at h ⊢ <;> exact h

theorem Inv.skip {pv : Option (Nat × Value)} (h : Inv w0 tk n Z0 pv T a w) {d : Option Nat} (hd : ∀ k, d = some k → k < n ∧ (∀ q v, pv = some (q, v) → k ≠ q)) : Inv w0 tk n Z0 pv (skipT T d) (a.put d undef) w := by
  obtain ⟨⟨Z, F, h1⟩, h2⟩ := h
  cases d with
  | none => exact ⟨⟨Z, F, h1⟩, h2⟩
  | some k =>
    have h3 := h1.putAll (hd k rfl).1 (v := undef) (s := .tup []) (f := fun _ => 0) rfl ⟨#[], rfl, rfl, fun _ => rfl⟩ (fun _ => Nat.le_refl _)
    refine ⟨⟨Z, _, h3⟩, fun q v hv => ?_⟩
    rw [tmOf_put (by rw [h1.size]; exact (hd k rfl).1), if_neg (Ne.symm ((hd k rfl).2 q v hv))]
    exact h2 q v hv

theorem opL_sound {pv : Option (Nat × Value)} (h : Inv w0 tk n Z0 pv T a w) {m : MOp} (hk : okK P o.op m.k = true) (hdst : o.dst = m.dst) (hd : ∀ k, m.dst = some k → k < n ∧ (∀ q v, pv = some (q, v) → k ≠ q)) {K : (Nat → SV) → Prop} (hw : opW P T m K)
    {Q : Exit → Act → World → Prop} : o.wp P a w (fun a' w' => ∃ T', K T' ∧ Inv w0 tk n Z0 pv T' a' w') Q := by
  obtain ⟨⟨Z, F, h1⟩, h2⟩ := h
  obtain ⟨dst, k, g⟩ := m
  have h3 := op_sound h1 hk hdst (fun d hd' => (hd d hd').1) hw (Q := Q)
  refine Oper.wp_mono ?_ (Oper.wp_keep h3)
  rintro a' w' ⟨⟨T', Z', F', hL', h4⟩, h5⟩
  refine ⟨T', hL', ⟨Z', F', h4⟩, fun q v hv => ?_⟩
  rw [h5 q (by rw [hdst]; intro e; exact (hd q e).2 q v hv rfl)]
  exact h2 q v hv

theorem okOp_iff {pz : Option Nat} {ops : Array Oper} {m : MOp} (h : okOp P n pz ops o m = true) : okK P o.op m.k = true ∧ o.dst = m.dst ∧ okG ops o.guard m.g = true ∧ ∀ k, m.dst = some k → k < n ∧ (∀ q, pz = some q → k ≠ q) := by
  simp only [okOp, Bool.and_eq_true, beq_iff_eq] at h
  obtain ⟨⟨⟨h1, h2⟩, h3⟩, h4⟩ := h
  refine ⟨h1, h2, h3, fun k hk => ?_⟩
  rw [hk] at h4
  simp only [Bool.and_eq_true, decide_eq_true_eq, bne_iff_ne, ne_eq] at h4
  exact ⟨h4.1, fun q hq e => h4.2 (by rw [hq, e])⟩

theorem opG_sound {pv : Option (Nat × Value)} {pz : Option Nat} (hpv : ∀ q v, pv = some (q, v) → pz = some q) (h : Inv w0 tk n Z0 pv T a w) {ops : Array Oper} {m : MOp} (hok : okOp P n pz ops o m = true) {K : (Nat → SV) → Prop} (hw : opG P m T K)
    {Q : Exit → Act → World → Prop} : if Region.wanted o (yielded ops a.tmps) then o.wp P a w (fun a' w' => ∃ T', K T' ∧ Inv w0 tk n Z0 pv T' a' w') Q else ∃ T', K T' ∧ Inv w0 tk n Z0 pv T' (a.put o.dst undef) w := by
  obtain ⟨h1, h2, h3, h4⟩ := okOp_iff hok
  have h4' : ∀ k, m.dst = some k → k < n ∧ (∀ q v, pv = some (q, v) → k ≠ q) := fun k hk => ⟨(h4 k hk).1, fun q v e => (h4 k hk).2 q (hpv q v e)⟩
  unfold opG at hw
  unfold okG at h3
  split at h3
  · rename_i hg hmg
    rw [hmg] at hw
    have : Region.wanted o (yielded ops a.tmps) = true := by simp [Region.wanted, hg]
    rw [if_pos this]
    exact opL_sound h h1 h2 h4' hw
  · rename_i j b s b' hg hmg
    simp only [Bool.and_eq_true, beq_iff_eq] at h3
    obtain ⟨rfl, h3⟩ := h3
    rw [hmg] at hw
    split at h3
    · rename_i oj hoj
      simp only [beq_iff_eq] at h3
      have hy : yielded ops a.tmps j = match a.tmps[s]? with | some (.bool b) => some b | _ => none := by
        simp [yielded, hoj, h3]
        rfl
      obtain ⟨⟨Z, F, hc⟩, hpv2⟩ := h
      have hrep := hc.rep s
      simp only [guardW] at hw
      split at hw
      · rename_i x hx
        rw [hx, SRep.none rfl] at hrep
        have hv := (RepV.bool hrep).1
        have hs : a.tmps[s]? = some (.bool x) := by
          simp only [tmOf, Array.getD_eq_getD_getElem?] at hv
          cases hq : a.tmps[s]? with
          | none => rw [hq] at hv; simp [undef] at hv
          | some q => rw [hq] at hv; simpa using hv
        rw [hs] at hy
        simp only [] at hy
        by_cases hxb : x = b
        · have : Region.wanted o (yielded ops a.tmps) = true := by simp [Region.wanted, hg, hy, hxb]
          rw [if_pos this]
          exact opL_sound ⟨⟨Z, F, hc⟩, hpv2⟩ h1 h2 h4' (hw.1 hxb)
        · have : ¬ Region.wanted o (yielded ops a.tmps) = true := by simp [Region.wanted, hg, hy, hxb]
          rw [if_neg this, h2]
          exact ⟨_, hw.2 (by cases x <;> cases b <;> simp_all), Inv.skip ⟨⟨Z, F, hc⟩, hpv2⟩ h4'⟩
      · rename_i hx
        rw [hx, SRep.none rfl] at hrep
        obtain ⟨vs, hv, hvs⟩ := hrep
        have hys : yielded ops a.tmps j = none := by
          rw [hy]
          simp only [tmOf, Array.getD_eq_getD_getElem?] at hv
          cases hq : a.tmps[s]? with
          | none => rfl
          | some q => rw [hq] at hv; simp only [Option.getD_some] at hv; rw [hv]
        have : ¬ Region.wanted o (yielded ops a.tmps) = true := by simp [Region.wanted, hg, hys]
        rw [if_neg this, h2]
        exact ⟨_, hw, Inv.skip ⟨⟨Z, F, hc⟩, hpv2⟩ h4'⟩
      · exact hw.elim
    · cases h3
  · cases h3

theorem seq_sound {pv : Option (Nat × Value)} {pz : Option Nat} (hpv : ∀ q v, pv = some (q, v) → pz = some q) {ops : Array Oper} {Q : Exit → Act → World → Prop} {K : (Nat → SV) → Prop} (hK : ∀ T a w, K T → Inv w0 tk n Z0 pv T a w → Q .normal a w) :
    ∀ {os : List Oper} {ms : List MOp} {T : Nat → SV} {a : Act} {w : World}, okOps P n pz ops os ms = true → Inv w0 tk n Z0 pv T a w → seqW P ms T K → wpList P ops Q os a w
  | [], [], L, a, w, _, h, hw => hK L a w hw h
  | o :: os, m :: ms, L, a, w, hok, h, hw => by
    simp only [okOps, Bool.and_eq_true] at hok
    have h1 := opG_sound (P := P) (Q := Q) hpv h hok.1 hw
    simp only [wpList]
    split
    · rename_i hwt
      rw [if_pos hwt] at h1
      exact .inl (Oper.wp_mono (fun a' w' ⟨L', h2, h3⟩ => seq_sound hpv hK hok.2 h3 h2) h1)
    · rename_i hwt
      rw [if_neg hwt] at h1
      obtain ⟨L', h2, h3⟩ := h1
      exact seq_sound hpv hK hok.2 h3 h2
  | [], _ :: _, _, _, _, hok, _, _ => by simp [okOps] at hok
  | _ :: _, [], _, _, _, hok, _, _ => by simp [okOps] at hok
end
end AS
set_option linter.unusedVariables false
set_option linter.unusedSimpArgs false
namespace AS
open Go

def killE (d : Nat) (s : SV) : SV := if s.root = some d then .un else s
theorem put_app (T : Nat → SV) (d : Nat) (s : SV) (t : Nat) : AS.put T d s t = if t = d then s else killE d (T t) := rfl
theorem killE_un (d : Nat) : killE d .un = .un := by simp [killE, SV.root]
theorem killE_d (d : Nat) (x : D) : killE d (.d x) = .d x := by simp [killE, SV.root]
theorem killE_box (d : Nat) (x : D) : killE d (.box x) = .box x := by simp [killE, SV.root]
theorem killE_tup (d : Nat) (l : List (Option D)) : killE d (.tup l) = .tup l := by simp [killE, SV.root]
theorem killE_ima (d : Nat) (x : D) : killE d (.ima x) = .ima x := by simp [killE, SV.root]
theorem killE_ref (d r : Nat) (p : List Step) : killE d (.ref r p) = if r = d then .un else .ref r p := by simp [killE, SV.root]
theorem killE_adr (d r : Nat) (p : List Step) : killE d (.adr r p) = if r = d then .un else .adr r p := by simp [killE, SV.root]
theorem killE_mad (d r : Nat) (p : List Step) : killE d (.mad r p) = if r = d then .un else .mad r p := by simp [killE, SV.root]

theorem cleanE_un (ks : List Nat) : cleanE ks .un = .un := by simp [cleanE, SV.root]
theorem cleanE_d (ks : List Nat) (x : D) : cleanE ks (.d x) = .d x := by simp [cleanE, SV.root]
theorem cleanE_box (ks : List Nat) (x : D) : cleanE ks (.box x) = .box x := by simp [cleanE, SV.root]
theorem cleanE_tup (ks : List Nat) (l : List (Option D)) : cleanE ks (.tup l) = .tup l := by simp [cleanE, SV.root]
theorem cleanE_ima (ks : List Nat) (x : D) : cleanE ks (.ima x) = .ima x := by simp [cleanE, SV.root]
theorem cleanE_ref (ks : List Nat) (r : Nat) (p : List Step) : cleanE ks (.ref r p) = if ks.elem r then .ref r p else .un := by simp [cleanE, SV.root]
theorem cleanE_adr (ks : List Nat) (r : Nat) (p : List Step) : cleanE ks (.adr r p) = if ks.elem r then .adr r p else .un := by simp [cleanE, SV.root]
theorem cleanE_mad (ks : List Nat) (r : Nat) (p : List Step) : cleanE ks (.mad r p) = if ks.elem r then .mad r p else .un := by simp [cleanE, SV.root]

def stE (r : Nat) (p : List Step) (y : D) (t : Nat) (s : SV) : SV :=
  if t = r then s.setR p y else if s.root = some r ∧ ¬ (hasIdx p = true ∧ hasIdx s.path = false) then .un else s
theorem stT_app (T : Nat → SV) (r : Nat) (p : List Step) (y : D) (t : Nat) : stT T r p y t = stE r p y t (T t) := by
  unfold stT stE
  by_cases h : t = r
  · subst h; rfl
  · simp [h]
theorem stE_un (r : Nat) (p : List Step) (y : D) (t : Nat) : stE r p y t .un = .un := by simp [stE, SV.root, SV.setR]
theorem stE_d (r : Nat) (p : List Step) (y : D) (t : Nat) (x : D) : stE r p y t (.d x) = .d (if t = r then setP p x y else x) := by simp [stE, SV.root, SV.setR]; split <;> rfl
theorem stE_box (r : Nat) (p : List Step) (y : D) (t : Nat) (x : D) : stE r p y t (.box x) = .box (if t = r then setP p x y else x) := by simp [stE, SV.root, SV.setR]; split <;> rfl
theorem stE_tup (r : Nat) (p : List Step) (y : D) (t : Nat) (l : List (Option D)) : stE r p y t (.tup l) = .tup l := by simp [stE, SV.root, SV.setR]
theorem stE_ima (r : Nat) (p : List Step) (y : D) (t : Nat) (x : D) : stE r p y t (.ima x) = .ima x := by simp [stE, SV.root, SV.setR]
theorem stE_ref (r : Nat) (p : List Step) (y : D) (t r' : Nat) (q : List Step) : stE r p y t (.ref r' q) = if t ≠ r ∧ r' = r ∧ ¬ (hasIdx p = true ∧ hasIdx q = false) then .un else .ref r' q := by
  simp only [stE, SV.root, SV.setR, SV.path, Option.some.injEq]; split <;> split <;> simp_all
theorem stE_adr (r : Nat) (p : List Step) (y : D) (t r' : Nat) (q : List Step) : stE r p y t (.adr r' q) = if t ≠ r ∧ r' = r ∧ ¬ (hasIdx p = true ∧ hasIdx q = false) then .un else .adr r' q := by
  simp only [stE, SV.root, SV.setR, SV.path, Option.some.injEq]; split <;> split <;> simp_all
theorem stE_mad (r : Nat) (p : List Step) (y : D) (t r' : Nat) (q : List Step) : stE r p y t (.mad r' q) = if t ≠ r ∧ r' = r ∧ ¬ (hasIdx p = true ∧ hasIdx q = false) then .un else .mad r' q := by
  simp only [stE, SV.root, SV.setR, SV.path, Option.some.injEq]; split <;> split <;> simp_all

/-! ### Integers and their lists -/
def di (n : Int) : D := .int .i64 n
def dl (o : Bool) (l : List Int) : D := .slice o (l.map di)
theorem imms_di (l : List Int) : D.imms (l.map di) = true := by
  rw [D.imms_iff]; intro x hx; obtain ⟨n, _, rfl⟩ := List.mem_map.1 hx; rfl
theorem solids_di (l : List Int) : D.solids (l.map di) = true := by
  rw [D.solids_iff]; intro x hx; obtain ⟨n, _, rfl⟩ := List.mem_map.1 hx; rfl
theorem imm_di (n : Int) : (di n).imm = true := rfl
theorem size_di (n : Int) : (di n).size = 1 := by simp [di, D.size]
theorem imm_dlf (l : List Int) : (dl false l).imm = true := by simp [dl, D.imm, imms_di]
theorem toImms_di (l : List Int) : D.toImms (l.map di) = l.map di := by rw [D.toImms_eq]; simp [di, D.toImm, Function.comp_def]
theorem toImm_dl (o : Bool) (l : List Int) : (dl o l).toImm = dl false l := by simp [dl, D.toImm, toImms_di]
theorem solid_dl (l : List Int) : (dl true l).solid = true := by simp [dl, D.solid, solids_di]
theorem sizesAll_di (l : List Int) : sizesAll 1 (l.map di) := by intro x hx; obtain ⟨n, _, rfl⟩ := List.mem_map.1 hx; exact size_di n
end AS
set_option linter.unusedVariables false
set_option linter.unusedSimpArgs false
namespace AS
open Go

theorem boolW_mono {x : Option D} {A B A' B' : Prop} (ha : A → A') (hb : B → B') (h : boolW x A B) : boolW x A' B' := by
  unfold boolW at *
  split at h
  · exact ⟨fun e => ha (h.1 e), fun e => hb (h.2 e)⟩
  · exact h

def TLe (T T' : Nat → SV) : Prop := ∀ t, T t = .un ∨ T t = T' t

section
variable {P : Program} {T T' : Nat → SV}

theorem TLe.at (h : TLe T T') {t : Nat} (hu : T t ≠ .un) : T' t = T t := ((h t).resolve_left hu).symm

theorem rootD_mono (h : TLe T T') {r : Nat} {x : D} (hx : rootD T r = some x) : rootD T' r = some x := by
  have : T r ≠ .un := by intro e; simp [rootD, e] at hx
  unfold rootD at *
  rw [h.at this]; exact hx
theorem wayD_mono (h : TLe T T') {r : Nat} {p : List Step} {x : D} (hx : wayD T r p = some x) : wayD T' r p = some x := by
  unfold wayD at *
  cases hr : rootD T r with
  | none => simp [hr] at hx
  | some y => rw [rootD_mono h hr]; rw [hr] at hx; exact hx
theorem rd_mono (h : TLe T T') {x : Opd} {y : D} (hx : rd T x = some y) : rd T' x = some y := by
  cases x with
  | c z => exact hx
  | t n =>
    simp only [rd] at hx ⊢
    have hn : T n ≠ .un := by intro e; simp [e, dataOf] at hx
    rw [h.at hn]
    cases hT : T n <;> rw [hT] at hx <;> simp only [dataOf] at hx ⊢ <;> try exact hx
    exact wayD_mono h hx
theorem rds_mono (h : TLe T T') : ∀ {xs : List Opd} {ys : List D}, rds T xs = some ys → rds T' xs = some ys
  | [], _, hx => hx
  | x :: xs, ys, hx => by
    simp only [rds] at hx ⊢
    cases h1 : rd T x with
    | none => simp [h1] at hx
    | some y =>
      cases h2 : rds T xs with
      | none => simp [h1, h2] at hx
      | some ys' => rw [rd_mono h h1, rds_mono h h2]; simpa [h1, h2] using hx
theorem here_mono (h : TLe T T') {x : Opd} (hx : here T x = true) : here T' x = true := by
  cases x with
  | c z => exact hx
  | t n =>
    simp only [here] at hx ⊢
    have hn : T n ≠ .un := by intro e; simp [e] at hx
    rw [h.at hn]; exact hx
theorem heres_mono (h : TLe T T') : ∀ {xs : List Opd}, heres T xs = true → heres T' xs = true
  | [], _ => rfl
  | x :: xs, hx => by
    simp only [heres, Bool.and_eq_true] at hx ⊢
    exact ⟨here_mono h hx.1, heres_mono h hx.2⟩
theorem natW_mono' (h : TLe T T') {x : Opd} {K : Nat → Prop} (hx : natW (rd T x) K) : natW (rd T' x) K := by
  obtain ⟨k, n, e, h1⟩ := natW_iff.1 hx
  exact natW_iff.2 ⟨k, n, rd_mono h e, h1⟩
theorem loW_mono' (h : TLe T T') {x : Option Opd} {K : Nat → Prop} (hx : loW (x.map (rd T)) K) : loW (x.map (rd T')) K := by
  cases x with
  | none => exact hx
  | some x => exact natW_mono' h hx
theorem hiW_mono' (h : TLe T T') {x : Option Opd} {m : Nat} {K : Nat → Prop} (hx : hiW (x.map (rd T)) m K) : hiW (x.map (rd T')) m K := by
  cases x with
  | none => exact hx
  | some x => exact natW_mono' h hx
theorem fldW_way (h : TLe T T') {r : Nat} {p : List Step} {i off : Nat} {Q : Prop} (hx : fldW (wayD T r p) i off Q) : fldW (wayD T' r p) i off Q := by
  obtain ⟨l, e, h1⟩ := fldW_iff.1 hx
  exact fldW_iff.2 ⟨l, wayD_mono h e, h1⟩

theorem evW_mono (h : TLe T T') {k : MK} {K : SV → Prop} (hk : evW P T k K) : evW P T' k K := by
  have hat : ∀ {n : Nat} {s : SV}, T n = s → s ≠ .un → T' n = s := fun {n s} e hs => by rw [h.at (by rw [e]; exact hs), e]
  cases k with
  | mv x =>
    cases x with
    | c x => exact hk
    | t n =>
      simp only [evW] at hk ⊢
      have hn : T n ≠ .un := by intro e; simp [e] at hk
      rw [h.at hn]; exact hk
  | fa n i off =>
    simp only [evW] at hk ⊢
    have hn : T n ≠ .un := by intro e; simp [e] at hk
    rw [h.at hn]
    split at hk
    · exact hk
    · exact fldW_way h hk
    · exact fldW_way h hk
    · exact hk
    · exact hk.elim
  | ia n i sz =>
    simp only [evW] at hk ⊢
    obtain ⟨kk, j, e, h1, h2⟩ := natW_iff.1 hk
    refine natW_iff.2 ⟨kk, j, rd_mono h e, h1, ?_⟩
    have hn : T n ≠ .un := by intro e; simp [e] at h2
    rw [h.at hn]
    split at h2
    · exact h2
    · exact h2
    · split at h2
      · rename_i e2; rw [wayD_mono h e2]; exact h2
      · exact h2.elim
    · exact h2.elim
  | ld n sz ag =>
    simp only [evW] at hk ⊢
    have hn : T n ≠ .un := by intro e; simp [e] at hk
    rw [h.at hn]
    split at hk
    · exact hk
    · split at hk
      · rename_i e2; rw [wayD_mono h e2]; exact hk
      · exact hk.elim
    · split at hk
      · rename_i e2; rw [wayD_mono h e2]; exact hk
      · exact hk.elim
    · exact hk
    · exact hk.elim
  | bin op x y =>
    simp only [evW] at hk ⊢
    split at hk
    · rename_i e1 e2; rw [rd_mono h e1, rd_mono h e2]; exact hk
    · exact hk.elim
  | eqb ne x y =>
    simp only [evW] at hk ⊢
    split at hk
    · rename_i e1 e2; rw [rd_mono h e1, rd_mono h e2]; exact hk
    · exact hk.elim
  | eqn ne x =>
    simp only [evW] at hk ⊢
    split at hk
    · rename_i e1; rw [rd_mono h e1]; exact hk
    · rename_i e1; rw [rd_mono h e1]; exact hk
    · rename_i e1; rw [rd_mono h e1]; exact hk
    · exact hk.elim
  | nt x =>
    simp only [evW] at hk ⊢
    split at hk
    · rename_i e1; rw [rd_mono h e1]; exact hk
    · exact hk.elim
  | neg x =>
    simp only [evW] at hk ⊢
    split at hk
    · rename_i e1; rw [rd_mono h e1]; exact hk
    · exact hk.elim
  | cvi k x =>
    simp only [evW] at hk ⊢
    split at hk
    · rename_i e1; rw [rd_mono h e1]; exact hk
    · exact hk.elim
  | len s x =>
    cases s
    · simp only [evW] at hk ⊢
      split at hk
      · rename_i e1; rw [rd_mono h e1]; exact hk
      · rename_i e1; rw [rd_mono h e1]; exact hk
      · exact hk.elim
    · simp only [evW] at hk ⊢
      split at hk
      · rename_i e1; rw [rd_mono h e1]; exact hk
      · exact hk.elim
  | mmx mx x y =>
    simp only [evW] at hk ⊢
    split at hk
    · rename_i e1 e2; rw [rd_mono h e1, rd_mono h e2]; exact hk
    · exact hk.elim
  | mk z x =>
    simp only [evW] at hk ⊢
    exact natW_mono' h hk
  | sls x lo hi =>
    simp only [evW] at hk ⊢
    split at hk
    · rename_i e1; rw [rd_mono h e1]; exact loW_mono' h (loW_mono (fun j hj => hiW_mono' h hj) hk)
    · exact hk.elim
  | sl x lo hi sz =>
    cases x with
    | c => exact hk.elim
    | t n =>
      simp only [evW] at hk ⊢
      split at hk
      · rename_i l e1
        rw [hat e1 (by simp)]
        exact ⟨hk.1, loW_mono' h (loW_mono (fun j hj => hiW_mono' h hj) hk.2)⟩
      · exact hk.elim
  | ix x i =>
    simp only [evW] at hk ⊢
    split at hk
    · rename_i e1; rw [rd_mono h e1]; exact natW_mono' h hk
    · exact hk.elim
  | pick c x y =>
    simp only [evW] at hk ⊢
    unfold boolW at hk ⊢
    split at hk
    · rename_i b e1
      rw [rd_mono h e1]
      refine ⟨fun hb => ?_, fun hb => ?_⟩
      · obtain ⟨z, h1, h2⟩ := hk.1 hb; exact ⟨z, rd_mono h h1, h2⟩
      · obtain ⟨z, h1, h2⟩ := hk.2 hb; exact ⟨z, rd_mono h h1, h2⟩
    · exact hk.elim
  | call f args =>
    simp only [evW] at hk ⊢
    split at hk
    · rename_i e1
      rw [rds_mono h e1]
      obtain ⟨r, h1, h2, h3⟩ := hk
      exact ⟨r, h1, h2.imp id (heres_mono h), h3⟩
    · exact hk.elim
  | ext n i =>
    simp only [evW] at hk ⊢
    split at hk
    · rename_i e1
      rw [hat e1 (by simp)]; exact hk
    · exact hk.elim
  | b2s x =>
    simp only [evW] at hk ⊢
    split at hk
    · rename_i e1; rw [rd_mono h e1]; exact hk
    · exact hk.elim
  | i2s x =>
    simp only [evW] at hk ⊢
    split at hk
    · rename_i e1; rw [rd_mono h e1]; exact hk
    · exact hk.elim
  | alloc z => exact hk
  | bsl parts sz =>
    simp only [evW] at hk ⊢
    split at hk
    · rename_i e1; rw [rds_mono h e1]; exact ⟨⟨heres_mono h hk.1.1, hk.1.2⟩, hk.2⟩
    · exact hk.elim
  | _ => exact hk.elim

theorem natW_imp {x : Option D} {A B : Nat → Prop} (h : ∀ j, A j → B j) (hx : natW x A) : natW x B := by
  obtain ⟨k, n, e, h1, h2⟩ := natW_iff.1 hx
  exact natW_iff.2 ⟨k, n, e, h1, h _ h2⟩
theorem fldW_imp {y : Option D} {i off : Nat} {A B : Prop} (h : A → B) (hx : fldW y i off A) : fldW y i off B := by
  obtain ⟨l, e, h1, h2, h3⟩ := fldW_iff.1 hx
  exact fldW_iff.2 ⟨l, e, h1, h2, h h3⟩
theorem binW_imp {op : BinOp} {x y : D} {A B : D → Prop} (h : ∀ z, A z → B z) (hx : binW op x y A) : binW op x y B := by
  unfold binW at *
  split at hx
  all_goals first
    | exact hx.elim
    | exact ⟨hx.1, hx.2.1, hx.2.2.1, h _ hx.2.2.2⟩
    | exact ⟨hx.1, hx.2.1, h _ hx.2.2⟩
    | exact ⟨hx.1, h _ hx.2⟩
    | exact h _ hx

theorem evW_imp {k : MK} {A B : SV → Prop} (h : ∀ s, A s → B s) (hk : evW P T k A) : evW P T k B := by
  cases k with
  | mv x =>
    cases x with
    | c x => exact h _ hk
    | t n =>
      simp only [evW] at hk ⊢
      split at hk
      · split at hk
        · rename_i hi; simp only [hi, if_true]; exact h _ hk
        · rename_i hi; simp only [hi]; exact h _ hk
      · exact h _ hk
      · exact hk.elim
  | fa n i off =>
    simp only [evW] at hk ⊢
    split at hk
    · exact fldW_imp (h _) hk
    · exact fldW_imp (h _) hk
    · exact fldW_imp (h _) hk
    · obtain ⟨z, h1, h2, h3⟩ := hk; exact ⟨z, h1, h2, h _ h3⟩
    · exact hk.elim
  | ia n i sz =>
    simp only [evW] at hk ⊢
    refine natW_imp (fun j hj => ?_) hk
    split at hj
    · obtain ⟨z, h1, h2, h3⟩ := hj; exact ⟨z, h1, h2, h _ h3⟩
    · obtain ⟨z, h1, h2, h3⟩ := hj; exact ⟨z, h1, h2, h _ h3⟩
    · split at hj
      · obtain ⟨z, h1, h2, h3⟩ := hj; exact ⟨z, h1, h2, h _ h3⟩
      · exact hj.elim
    · exact hj.elim
  | ld n sz ag =>
    simp only [evW] at hk ⊢
    split at hk
    · refine ⟨hk.1, ?_⟩
      have h2 := hk.2
      split at h2
      · rename_i hi; simp only [hi, if_true]; exact h _ h2
      · rename_i hi; simp only [hi]; exact h _ h2
    · split at hk
      · refine ⟨hk.1, ?_⟩
        have h2 := hk.2
        split at h2
        · rename_i hi; simp only [hi, if_true]; exact h _ h2
        · rename_i hi; simp only [hi]; exact h _ h2
      · exact hk.elim
    · split at hk
      · refine ⟨hk.1, ?_⟩
        have h2 := hk.2
        split at h2
        · rename_i hi; simp only [hi, if_true]; exact h _ h2
        · rename_i hi; simp only [hi]; exact h _ h2
      · exact hk.elim
    · exact ⟨hk.1, h _ hk.2⟩
    · exact hk.elim
  | bin op x y =>
    simp only [evW] at hk ⊢
    split at hk
    · exact binW_imp (fun z hz => h _ hz) hk
    · exact hk.elim
  | eqb ne x y =>
    simp only [evW] at hk ⊢
    split at hk
    · exact h _ hk
    · exact hk.elim
  | eqn ne x =>
    simp only [evW] at hk ⊢
    split at hk
    · exact h _ hk
    · exact h _ hk
    · exact ⟨fun e => h _ (hk.1 e), fun e => ⟨h _ (hk.2 e).1, h _ (hk.2 e).2⟩⟩
    · exact hk.elim
  | nt x =>
    simp only [evW] at hk ⊢
    split at hk
    · exact h _ hk
    · exact hk.elim
  | neg x =>
    simp only [evW] at hk ⊢
    split at hk
    · exact ⟨hk.1, h _ hk.2⟩
    · exact hk.elim
  | cvi k x =>
    simp only [evW] at hk ⊢
    split at hk
    · exact ⟨hk.1, h _ hk.2⟩
    · exact hk.elim
  | len s x =>
    cases s
    · simp only [evW] at hk ⊢
      split at hk
      · exact fun e => h _ (hk e)
      · exact h _ hk
      · exact hk.elim
    · simp only [evW] at hk ⊢
      split at hk
      · exact fun e => h _ (hk e)
      · exact hk.elim
  | mmx mx x y =>
    simp only [evW] at hk ⊢
    split at hk
    · exact ⟨hk.1, h _ hk.2⟩
    · exact hk.elim
  | mk z x =>
    simp only [evW] at hk ⊢
    exact natW_imp (fun j hj => ⟨hj.1, h _ hj.2⟩) hk
  | sls x lo hi =>
    simp only [evW] at hk ⊢
    split at hk
    · exact loW_mono (fun j hj => hiW_mono (fun i hi => ⟨hi.1, h _ hi.2⟩) hj) hk
    · exact hk.elim
  | sl x lo hi sz =>
    cases x with
    | c => exact hk.elim
    | t n =>
      simp only [evW] at hk ⊢
      split at hk
      · exact ⟨hk.1, loW_mono (fun j hj => hiW_mono (fun i hi => ⟨hi.1, h _ hi.2⟩) hj) hk.2⟩
      · exact hk.elim
  | ix x i =>
    simp only [evW] at hk ⊢
    split at hk
    · exact natW_imp (fun j ⟨c, h1, h2⟩ => ⟨c, h1, h _ h2⟩) hk
    · exact hk.elim
  | pick c x y =>
    simp only [evW] at hk ⊢
    exact boolW_mono (fun ⟨z, h1, h2, h3⟩ => ⟨z, h1, h2, h _ h3⟩) (fun ⟨z, h1, h2, h3⟩ => ⟨z, h1, h2, h _ h3⟩) hk
  | call f args =>
    simp only [evW] at hk ⊢
    split at hk
    · obtain ⟨r, h1, h2, h3⟩ := hk
      exact ⟨r, h1, h2, h _ h3⟩
    · exact hk.elim
  | ext n i =>
    simp only [evW] at hk ⊢
    split at hk
    · split at hk
      · exact ⟨hk.1, h _ hk.2⟩
      · exact hk.elim
    · exact hk.elim
  | b2s x =>
    simp only [evW] at hk ⊢
    split at hk
    · obtain ⟨bs, h1, h2⟩ := hk
      exact ⟨bs, h1, h _ h2⟩
    · exact hk.elim
  | i2s x =>
    simp only [evW] at hk ⊢
    split at hk
    · exact ⟨hk.1, h _ hk.2⟩
    · exact hk.elim
  | alloc z => exact h _ hk
  | bsl parts sz =>
    simp only [evW] at hk ⊢
    split at hk
    · exact ⟨hk.1, h _ hk.2⟩
    · exact hk.elim
  | _ => exact hk.elim

/-- What only computes, where it has one outcome. -/
def evP (P : Program) (T : Nat → SV) (k : MK) (K : SV → Prop) : Prop := match k with
  | .len true x => match rd T x with
    | some (.str s) => s.length ≤ 9223372036854775807 ∧ K (.d (.int .i64 s.length))
    | _ => False
  | .len false x => match rd T x with
    | some (.slice _ l) => l.length ≤ 9223372036854775807 ∧ K (.d (.int .i64 l.length))
    | some .nil => K (.d (.int .i64 0))
    | _ => False
  | .eqn ne x => match rd T x with
    | some .nil => K (.d (.bool (!ne)))
    | some .nilo => K (.d (.bool (!ne)))
    | some (.slice _ l) => l ≠ [] ∧ K (.d (.bool ne))
    | _ => False
  | k => evW P T k K

theorem evP_ex {k : MK} {K : SV → Prop} (h : evP P T k K) : ∃ s, evW P T k (fun s' => s' = s) ∧ K s := by
  unfold evP at h
  split at h
  · split at h
    · rename_i e; exact ⟨_, by simp only [evW, e]; exact fun _ => trivial, h.2⟩
    · exact h.elim
  · split at h
    · rename_i e; exact ⟨_, by simp only [evW, e]; exact fun _ => trivial, h.2⟩
    · rename_i e; exact ⟨_, by simp only [evW, e], h⟩
    · exact h.elim
  · split at h
    · rename_i e; exact ⟨_, by simp only [evW, e], h⟩
    · rename_i e; exact ⟨_, by simp only [evW, e], h⟩
    · rename_i e; exact ⟨_, by simp only [evW, e]; exact ⟨fun _ => trivial, fun e2 => absurd e2 h.1⟩, h.2⟩
    · exact h.elim
  · rename_i h1 h2 h3
    exact evW_ex (fun s x => ⟨fun e => by cases s <;> first | exact h1 _ e | exact h2 _ e, fun e => h3 _ _ e⟩) h

/-- One that only computes, run. -/
theorem ev_sound {w0 : World} {tk : FP} {n : Nat} {Z0 : Nat → Prop} {pv : Option (Nat × Value)} {a : Act} {w : World} {o : Oper} (h : Inv w0 tk n Z0 pv T a w) {m : MOp} (hk : okK P o.op m.k = true) (hdst : o.dst = m.dst) {d : Nat} (hm : m.dst = some d)
    (hd : d < n ∧ (∀ q v, pv = some (q, v) → d ≠ q)) {s : SV} (hev : evW P T m.k fun s' => s' = s) {Q : Exit → Act → World → Prop} :
    o.wp P a w (fun a' w' => Inv w0 tk n Z0 pv (AS.put T d (s.safe d)) a' w') Q := by
  have fin : opW P T m (fun T' => T' = AS.put T d (s.safe d)) → o.wp P a w (fun a' w' => Inv w0 tk n Z0 pv (AS.put T d (s.safe d)) a' w') Q := by
    intro hw
    refine Oper.wp_mono ?_ (opL_sound h hk hdst (fun k e => by rw [hm] at e; cases e; exact hd) hw)
    rintro a' w' ⟨T', rfl, h2⟩
    exact h2
  obtain ⟨dst, k, g⟩ := m
  simp only at hm hev hk hdst
  subst hm
  have base : evW P T k (fun s' => AS.put T d (s'.safe d) = AS.put T d (s.safe d)) → (opW P T ⟨some d, k, g⟩ (fun T' => T' = AS.put T d (s.safe d)) ∨ ∃ m i, k = .ext m i) := by
    intro hev
    cases k with
    | ext m i => exact .inr ⟨m, i, rfl⟩
    | alloc z => exact .inl hev
    | bsl parts sz =>
      simp only [evW] at hev
      split at hev
      · rename_i ys e
        left
        simp only [opW, heres_takes hev.1.1 e]
        exact ⟨hev.1.2, hev.2⟩
      · exact hev.elim
    | callO f args =>
      exact hev.elim
    | asg x => exact hev.elim
    | mvt x => exact hev.elim
    | box x => exact hev.elim
    | boxm x => exact hev.elim
    | st x v sz => exact hev.elim
    | stm x v sz => exact hev.elim
    | app x y sz => exact hev.elim
    | bld z ps => exact hev.elim
    | callT f args => exact hev.elim
    | mkf g caps => exact hev.elim
    | bldw z i k rest m => exact hev.elim
    | stw x v sz m i => exact hev.elim
    | callf k args => exact hev.elim
    | callP f pre k post => exact hev.elim
    | mv x => exact .inl hev
    | fa x i off => exact .inl hev
    | ia x i sz => exact .inl hev
    | ld x sz ag => exact .inl hev
    | bin op x y => exact .inl hev
    | eqb ne x y => exact .inl hev
    | eqn ne x => exact .inl hev
    | nt x => exact .inl hev
    | neg x => exact .inl hev
    | cvi k x => exact .inl hev
    | len s x => exact .inl hev
    | mmx mx x y => exact .inl hev
    | mk z x => exact .inl hev
    | sls x lo hi => exact .inl hev
    | sl x lo hi sz => exact .inl hev
    | ix x i => exact .inl hev
    | pick c x y => exact .inl hev
    | call f args => exact .inl hev
    | b2s x => exact .inl hev
    | i2s x => exact .inl hev
  rcases base (evW_imp (fun s' e => by rw [e]) hev) with h1 | ⟨m, i, rfl⟩
  · exact fin h1
  · simp only [okK] at hk
    split at hk
    · rename_i x j hop
      simp only [Bool.and_eq_true, beq_iff_eq] at hk
      obtain ⟨h1, rfl⟩ := hk
      have := isT_iff h1
      subst this
      obtain ⟨⟨Z, F, hc⟩, hpv⟩ := h
      have h3 := op_pure (Q := Q) hc hdst (fun e he => by cases he; exact hd.1) (K := fun T' => T' = AS.put T d (s.safe d)) (k := .ext m j) (by simp only [opPure]; exact evW_imp (fun s' e => by rw [e]) hev) (by simp) (fun s' hs => ex_ext hc hop hs)
      refine Oper.wp_mono ?_ (Oper.wp_keep h3)
      rintro a' w' ⟨⟨T', Z', F', rfl, h4⟩, h5⟩
      refine ⟨⟨Z', F', h4⟩, fun q v hv => ?_⟩
      rw [h5 q (by rw [hdst]; intro e; exact hd.2 q v hv (Option.some.inj e))]
      exact hpv q v hv
    · cases hk
end
end AS
set_option linter.unusedVariables false
set_option linter.unusedSimpArgs false
namespace AS
open Go

structure PO where
  j : Nat
  m : MOp
  hid : List Nat

def extT (T : Nat → SV) (d : Nat) (s : SV) : Nat → SV := fun t => if t = d then s else T t
def hideT (T : Nat → SV) (hid : List Nat) : Nat → SV := fun t => if hid.elem t then .un else T t
def safeR (s : SV) (hid : List Nat) (d : Nat) : Bool := match s.root with
  | none => true
  | some r => !hid.elem r && !(r == d)

def preW (P : Program) : List PO → (Nat → SV) → ((Nat → SV) → Prop) → Prop
  | [], T, K => K T
  | p :: ps, T, K => match p.m.dst with
    | none => False
    | some d => T d = .un ∧ match p.m.g with
      | none => evP P (hideT T p.hid) p.m.k fun s => safeR s p.hid d = true ∧ preW P ps (extT T d s) K
      | some (g, b) => guardW (hideT T p.hid g) b (evP P (hideT T p.hid) p.m.k fun s => safeR s p.hid d = true ∧ preW P ps (extT T d s) K) (preW P ps (extT T d (.tup [])) K)

structure PE where
  p : PO
  d : Nat
  s : SV

def Fact (P : Program) (T : Nat → SV) (e : PE) : Prop :=
  e.p.m.dst = some e.d ∧ T e.d = .un ∧ safeR e.s e.p.hid e.d = true ∧ match e.p.m.g with
    | none => evW P (hideT T e.p.hid) e.p.m.k (fun s => s = e.s)
    | some (g, b) => (hideT T e.p.hid g = .d (.bool b) ∧ evW P (hideT T e.p.hid) e.p.m.k (fun s => s = e.s)) ∨ ((hideT T e.p.hid g = .d (.bool !b) ∨ hideT T e.p.hid g = .tup []) ∧ e.s = .tup [])

def lk (l : List PE) (t : Nat) : Option PE := l.find? fun e => e.d == t
def accT (T0 : Nat → SV) (l : List PE) : Nat → SV := fun t => match lk l t with
  | some e => e.s
  | none => T0 t
/-- Where the operations of 'X' have been. -/
def atX (T0 : Nat → SV) (l : List PE) (X : Nat → Bool) : Nat → SV := fun t => match lk l t with
  | some e => if X e.p.j then e.s else T0 t
  | none => T0 t

theorem lk_append (l : List PE) (e : PE) (t : Nat) (hn : lk l e.d = none) : lk (l ++ [e]) t = if t = e.d then some e else lk l t := by
  simp only [lk, List.find?_append] at hn ⊢
  by_cases h : t = e.d
  · subst h
    rw [hn]
    simp
  · have : (e.d == t) = false := by simpa using fun he => h he.symm
    simp [h, this]

theorem accT_append (T0 : Nat → SV) (l : List PE) (e : PE) (hn : lk l e.d = none) : accT T0 (l ++ [e]) = extT (accT T0 l) e.d e.s := by
  funext t
  simp only [accT, extT, lk_append l e t hn]
  by_cases h : t = e.d
  · simp [h]
  · simp [h]

theorem lk_none {l : List PE} {t : Nat} (h : t ∉ l.map (·.d)) : lk l t = none := by
  simp only [lk, List.find?_eq_none, beq_iff_eq]
  intro e he hd
  exact h (List.mem_map.2 ⟨e, he, hd⟩)

theorem pre_chain {P : Program} {T0 : Nat → SV} {K : (Nat → SV) → Prop} : ∀ {ps : List PO} {l1 : List PE}, (l1.map (fun e => some e.d) ++ ps.map (·.m.dst)).Nodup → preW P ps (accT T0 l1) K →
    ∃ l2 : List PE, l2.map (·.p) = ps ∧ (∀ a e b, l2 = a ++ e :: b → Fact P (accT T0 (l1 ++ a)) e) ∧ K (accT T0 (l1 ++ l2))
  | [], l1, _, h => ⟨[], rfl, fun a e b he => by simp at he, by simpa [preW] using h⟩
  | p :: ps, l1, hnd, h => by
    simp only [preW] at h
    split at h
    · exact h.elim
    · rename_i d hd
      obtain ⟨hun, h⟩ := h
      have hnone : lk l1 d = none := by
        apply lk_none
        intro hm
        rw [List.nodup_append] at hnd
        have := hnd.2.2 (some d) (by obtain ⟨e, he, rfl⟩ := List.mem_map.1 hm; exact List.mem_map.2 ⟨e, he, rfl⟩) (p.m.dst) (by simp)
        exact this hd.symm
      have go : ∀ s, Fact P (accT T0 l1) ⟨p, d, s⟩ → preW P ps (extT (accT T0 l1) d s) K → ∃ l2 : List PE, l2.map (·.p) = p :: ps ∧ (∀ a e b, l2 = a ++ e :: b → Fact P (accT T0 (l1 ++ a)) e) ∧ K (accT T0 (l1 ++ l2)) := by
        intro s hf hp
        have e1 := accT_append T0 l1 ⟨p, d, s⟩ hnone
        rw [show extT (accT T0 l1) d s = accT T0 (l1 ++ [⟨p, d, s⟩]) from e1.symm] at hp
        obtain ⟨l2, h1, h2, h3⟩ := pre_chain (ps := ps) (l1 := l1 ++ [⟨p, d, s⟩]) (by simpa [hd] using hnd) hp
        refine ⟨⟨p, d, s⟩ :: l2, by simp [h1], ?_, by simpa using h3⟩
        intro a e b he
        cases a with
        | nil =>
          simp only [List.nil_append, List.cons.injEq] at he
          obtain ⟨rfl, rfl⟩ := he
          simpa using hf
        | cons x a =>
          simp only [List.cons_append, List.cons.injEq] at he
          obtain ⟨rfl, rfl⟩ := he
          have := h2 a e b rfl
          simpa using this
      split at h
      · rename_i hg
        obtain ⟨s, h1, h2, h3⟩ := evP_ex h
        exact go s ⟨hd, hun, h2, by simp only [hg]; exact h1⟩ h3
      · rename_i g b hg
        unfold guardW at h
        split at h
        · rename_i x hx
          by_cases hxb : x = b
          · obtain ⟨s, h1, h2, h3⟩ := evP_ex (h.1 hxb)
            exact go s ⟨hd, hun, h2, by simp only [hg]; exact .inl ⟨by rw [hx, hxb], h1⟩⟩ h3
          · have hxb' : x = !b := by cases x <;> cases b <;> simp_all
            exact go (.tup []) ⟨hd, hun, by simp [safeR, SV.root], by simp only [hg]; exact .inr ⟨.inl (by rw [hx, hxb']), trivial⟩⟩ (h.2 hxb')
        · rename_i hx
          exact go (.tup []) ⟨hd, hun, by simp [safeR, SV.root], by simp only [hg]; exact .inr ⟨.inr hx, trivial⟩⟩ h
        · exact h.elim

/-! ### What is checked of the order -/
def afterOf (ops : Array Oper) (j : Nat) : List Nat := match ops[j]? with
  | some o => (o.after.toList.filter fun e => Region.binds .any e).map (·.on)
  | none => []
def cloOf (tb : List (Nat × List Nat)) (j : Nat) : List Nat := match tb.find? (fun e => e.1 == j) with
  | some e => e.2
  | none => []
/-- The table of what must have been before each, along the order; none if an edge points forward. -/
def mkTb (ops : Array Oper) : List Nat → List (Nat × List Nat) → Option (List (Nat × List Nat))
  | [], tb => some tb
  | j :: l, tb => if (afterOf ops j).all (fun i => (tb.map (·.1)).elem i) then mkTb ops l ((j, (afterOf ops j) ++ (afterOf ops j).flatMap (cloOf tb)) :: tb) else none
def nodupB {α : Type} [BEq α] : List α → Bool
  | [] => true
  | x :: l => !l.elem x && nodupB l

def okPre (P : Program) (n : Nat) (pz : Option Nat) (ops : Array Oper) (tb : List (Nat × List Nat)) (all : List PO) (p : PO) : Bool :=
  (match ops[p.j]? with | some o => okOp P n pz ops o p.m | none => false) && all.all fun q => q.j == p.j || (cloOf tb p.j).elem q.j || (match q.m.dst with | some d => p.hid.elem d | none => false)
def okTail (P : Program) (n : Nat) (pz : Option Nat) (ops : Array Oper) (tb : List (Nat × List Nat)) : List Nat → List (Nat × MOp) → Bool
  | _, [] => true
  | before, (j, m) :: l => (match ops[j]? with | some o => okOp P n pz ops o m | none => false) && before.all (fun i => (cloOf tb j).elem i) && okTail P n pz ops tb (j :: before) l
def okDrw (P : Program) (n : Nat) (pz : Option Nat) (ops : Array Oper) (pre : List PO) (tail : List (Nat × MOp)) : Bool :=
  P.follows .mixedOrders && nodupB (pre.map (·.j) ++ tail.map (·.1)) && (pre.map (·.j) ++ tail.map (·.1)).length == ops.size && (pre.map (·.j) ++ tail.map (·.1)).all (fun j => decide (j < ops.size)) &&
    (List.range ops.size).all (fun i => (pre.map (·.j) ++ tail.map (·.1)).elem i) && nodupB (pre.map (·.m.dst)) && match mkTb ops (pre.map (·.j) ++ tail.map (·.1)) [] with
      | some tb => pre.all (okPre P n pz ops tb pre) && okTail P n pz ops tb (pre.map (·.j)) tail
      | none => false

theorem nodupB_iff {α : Type} [BEq α] [LawfulBEq α] : ∀ {l : List α}, nodupB l = true → l.Nodup
  | [], _ => List.nodup_nil
  | x :: l, h => by
    simp only [nodupB, Bool.and_eq_true, Bool.not_eq_true'] at h
    exact List.nodup_cons.2 ⟨by simpa using h.1, nodupB_iff h.2⟩

def Down (ops : Array Oper) (X : Nat → Bool) : Prop := ∀ j, X j = true → ∀ i ∈ afterOf ops j, X i = true

def TbOk (ops : Array Oper) (tb : List (Nat × List Nat)) : Prop :=
  (∀ j c, (j, c) ∈ tb → ∀ X, Down ops X → (∀ i ∈ afterOf ops j, X i = true) → ∀ i ∈ c, X i = true) ∧ ∀ j c, (j, c) ∈ tb → ∀ i ∈ afterOf ops j, i ∈ tb.map (·.1)

theorem cloOf_mem {tb : List (Nat × List Nat)} {j i : Nat} (h : i ∈ cloOf tb j) : ∃ c, (j, c) ∈ tb ∧ i ∈ c := by
  unfold cloOf at h
  split at h
  · rename_i e he
    have h1 := List.find?_some he
    simp only [beq_iff_eq] at h1
    exact ⟨e.2, by rw [← h1]; exact List.mem_of_find?_eq_some he, h⟩
  · simp at h

theorem mkTb_ok {ops : Array Oper} : ∀ {l : List Nat} {tb tb' : List (Nat × List Nat)}, TbOk ops tb → mkTb ops l tb = some tb' → TbOk ops tb' ∧ ∀ a j b, l = a ++ j :: b → ∀ i ∈ afterOf ops j, i ∈ a ∨ i ∈ tb.map (·.1)
  | [], tb, tb', h, hm => by
    simp only [mkTb, Option.some.injEq] at hm
    subst hm
    exact ⟨h, fun a j b e => by simp at e⟩
  | j :: l, tb, tb', h, hm => by
    simp only [mkTb] at hm
    split at hm
    · rename_i hall
      simp only [List.all_eq_true, List.elem_eq_mem, decide_eq_true_eq] at hall
      have h1 : TbOk ops ((j, (afterOf ops j) ++ (afterOf ops j).flatMap (cloOf tb)) :: tb) := by
        constructor
        · intro j' c hj X hX hA i hi
          rcases List.mem_cons.1 hj with e | hj
          · cases e
            rcases List.mem_append.1 hi with hi | hi
            · exact hA i hi
            · obtain ⟨k, hk, hik⟩ := List.mem_flatMap.1 hi
              obtain ⟨c, hc1, hc2⟩ := cloOf_mem hik
              exact h.1 k c hc1 X hX (hX k (hA k hk)) i hc2
          · exact h.1 j' c hj X hX hA i hi
        · intro j' c hj i hi
          rcases List.mem_cons.1 hj with e | hj
          · cases e
            simp only [List.map_cons, List.mem_cons]
            exact .inr (hall i hi)
          · simp only [List.map_cons, List.mem_cons]
            exact .inr (h.2 j' c hj i hi)
      obtain ⟨h2, h3⟩ := mkTb_ok h1 hm
      refine ⟨h2, fun a j' b e i hi => ?_⟩
      cases a with
      | nil =>
        simp only [List.nil_append, List.cons.injEq] at e
        obtain ⟨rfl, rfl⟩ := e
        exact .inr (hall i hi)
      | cons x a =>
        simp only [List.cons_append, List.cons.injEq] at e
        obtain ⟨rfl, rfl⟩ := e
        rcases h3 a j' b rfl i hi with h4 | h4
        · exact .inl (by simp [h4])
        · simp only [List.map_cons, List.mem_cons] at h4
          rcases h4 with rfl | h4
          · exact .inl (by simp)
          · exact .inr h4
    · cases hm
end AS
set_option linter.unusedVariables false
set_option linter.unusedSimpArgs false
namespace AS
open Go

section
variable {P : Program} {w0 : World} {tk : FP} {n : Nat} {Z0 : Nat → Prop} {pv : Option (Nat × Value)} {T T0 : Nat → SV} {a : Act} {w : World} {o : Oper} {ops : Array Oper}

theorem safe_of {s : SV} {hid : List Nat} {d : Nat} (h : safeR s hid d = true) : s.safe d = s := by
  unfold safeR at h
  cases s <;> simp_all [SV.root, SV.safe]
theorem safeR_root {s : SV} {hid : List Nat} {d r : Nat} (h : safeR s hid d = true) (hr : s.root = some r) : r ∉ hid ∧ r ≠ d := by
  unfold safeR at h
  rw [hr] at h
  simpa using h

theorem wanted_none {g : Option (Nat × Bool)} (h : okG ops o.guard g = true) (hg : g = none) : Region.wanted o (yielded ops a.tmps) = true := by
  subst hg
  unfold okG at h
  split at h
  · rename_i h1 _; simp [Region.wanted, h1]
  · rename_i h1; cases h1
  · cases h

theorem yield_of (h : Inv w0 tk n Z0 pv T a w) {j s : Nat} {oj : Oper} (hoj : ops[j]? = some oj) (hd : oj.dst = some s) : (∀ x, T s = .d (.bool x) → yielded ops a.tmps j = some x) ∧ (T s = .tup [] → yielded ops a.tmps j = none) := by
  have hy : yielded ops a.tmps j = match a.tmps[s]? with | some (.bool b) => some b | _ => none := by
    simp [yielded, hoj, hd]
    rfl
  obtain ⟨⟨Z, F, hc⟩, _⟩ := h
  have hrep := hc.rep s
  constructor
  · intro x hx
    rw [hx, SRep.none rfl] at hrep
    have hv := (RepV.bool hrep).1
    have hs : a.tmps[s]? = some (.bool x) := by
      simp only [tmOf, Array.getD_eq_getD_getElem?] at hv
      cases hq : a.tmps[s]? with
      | none => rw [hq] at hv; simp [undef] at hv
      | some q => rw [hq] at hv; simpa using hv
    rw [hy, hs]
  · intro hx
    rw [hx, SRep.none rfl] at hrep
    obtain ⟨vs, hv, hvs⟩ := hrep
    rw [hy]
    simp only [tmOf, Array.getD_eq_getD_getElem?] at hv
    cases hq : a.tmps[s]? with
    | none => rfl
    | some q => rw [hq] at hv; simp only [Option.getD_some] at hv; rw [hv]

theorem okG_some {g : Option (Nat × Bool)} {s : Nat} {b : Bool} (h : okG ops o.guard g = true) (hg : g = some (s, b)) : ∃ j oj, o.guard = some (j, b) ∧ ops[j]? = some oj ∧ oj.dst = some s := by
  subst hg
  unfold okG at h
  split at h
  · rename_i h1; cases h1
  · rename_i j b' s' b'' h1 h2
    cases h2
    simp only [Bool.and_eq_true, beq_iff_eq] at h
    obtain ⟨rfl, h3⟩ := h
    split at h3
    · rename_i oj hoj
      simp only [beq_iff_eq] at h3
      exact ⟨j, oj, h1, hoj, h3⟩
    · cases h3
  · cases h

/-- All that is known of the head. -/
structure Head (P : Program) (n : Nat) (pz : Option Nat) (ops : Array Oper) (tb : List (Nat × List Nat)) (T0 : Nat → SV) (l : List PE) : Prop where
  fact : ∀ a e b, l = a ++ e :: b → Fact P (accT T0 a) e
  nd : (l.map (·.d)).Nodup
  nj : (l.map (·.p.j)).Nodup
  ok : ∀ e ∈ l, (∃ o, ops[e.p.j]? = some o ∧ okOp P n pz ops o e.p.m = true) ∧ ∀ q ∈ l, q.p.j = e.p.j ∨ q.p.j ∈ cloOf tb e.p.j ∨ q.d ∈ e.p.hid
  wr : ∀ t r, (T0 t).root = some r → T0 r ≠ .un

theorem lk_mem {l : List PE} {t : Nat} {e : PE} (h : lk l t = some e) : e ∈ l ∧ e.d = t := by
  refine ⟨List.mem_of_find?_eq_some h, ?_⟩
  have := List.find?_some h
  simpa using this
theorem nodup_inj {α β : Type} {f : α → β} : ∀ {l : List α}, (l.map f).Nodup → ∀ {x y : α}, x ∈ l → y ∈ l → f x = f y → x = y
  | [], _, x, y, hx, _, _ => by simp at hx
  | z :: l, h, x, y, hx, hy, e => by
    simp only [List.map_cons, List.nodup_cons, List.mem_map, not_exists, not_and] at h
    rcases List.mem_cons.1 hx with h1 | h1
    · rcases List.mem_cons.1 hy with h2 | h2
      · rw [h1, h2]
      · subst h1; exact absurd e.symm (h.1 y h2)
    · rcases List.mem_cons.1 hy with h2 | h2
      · subst h2; exact absurd e (h.1 x h1)
      · exact nodup_inj h.2 h1 h2 e
theorem lk_self {l : List PE} (h : (l.map (·.d)).Nodup) {e : PE} (he : e ∈ l) : lk l e.d = some e := by
  cases hq : lk l e.d with
  | none =>
    simp only [lk, List.find?_eq_none, beq_iff_eq] at hq
    exact absurd rfl (hq e he)
  | some e' =>
    obtain ⟨h1, h2⟩ := lk_mem hq
    rw [nodup_inj h h1 he h2]

variable {pz : Option Nat} {tb : List (Nat × List Nat)} {l : List PE}

theorem Head.fresh (h : Head P n pz ops tb T0 l) {e : PE} (he : e ∈ l) : T0 e.d = .un := by
  obtain ⟨a, b, rfl⟩ := List.append_of_mem he
  have hf := (h.fact a e b rfl).2.1
  have hn : lk a e.d = none := by
    apply lk_none
    have := h.nd
    simp only [List.map_append, List.map_cons] at this
    rw [List.nodup_append] at this
    intro hm
    exact this.2.2 e.d hm e.d (by simp) rfl
  simpa [accT, hn] using hf

theorem Head.le (h : Head P n pz ops tb T0 l) {a b : List PE} {e : PE} (hs : l = a ++ e :: b) {X : Nat → Bool} (hX : ∀ i ∈ cloOf tb e.p.j, X i = true) : TLe (hideT (accT T0 a) e.p.hid) (atX T0 l X) := by
  intro t
  by_cases ht : t ∈ e.p.hid
  · left; simp [hideT, ht]
  · have e1 : hideT (accT T0 a) e.p.hid t = accT T0 a t := by simp [hideT, ht]
    rw [e1]
    have hel : e ∈ l := by rw [hs]; simp
    cases hq : lk a t with
    | some e' =>
      obtain ⟨h1, h2⟩ := lk_mem hq
      have hl : lk l t = some e' := by simp only [lk] at hq ⊢; rw [hs, List.find?_append, hq]; rfl
      have he' : e' ∈ l := by rw [hs]; simp [h1]
      right
      have hx : X e'.p.j = true := by
        rcases (h.ok e hel).2 e' he' with h3 | h3 | h3
        · exfalso
          have := h.nj
          rw [hs] at this
          simp only [List.map_append, List.map_cons] at this
          rw [List.nodup_append] at this
          exact this.2.2 e'.p.j (List.mem_map.2 ⟨e', h1, rfl⟩) e.p.j (by simp) h3
        · exact hX _ h3
        · rw [h2] at h3; exact absurd h3 ht
      simp [accT, hq, atX, hl, hx]
    | none =>
      have e2 : accT T0 a t = T0 t := by simp [accT, hq]
      rw [e2]
      cases hq2 : lk l t with
      | none => right; simp [atX, hq2]
      | some e' =>
        obtain ⟨h1, h2⟩ := lk_mem hq2
        left; rw [← h2]; exact h.fresh h1

theorem Head.put (h : Head P n pz ops tb T0 l) {e : PE} (he : e ∈ l) {X : Nat → Bool} (hXi : X e.p.j = false) (hdown : ∀ e' ∈ l, X e'.p.j = true → ∀ i ∈ cloOf tb e'.p.j, X i = true) :
    AS.put (atX T0 l X) e.d e.s = atX T0 l (fun i => i == e.p.j || X i) := by
  funext t
  simp only [AS.put]
  by_cases ht : t = e.d
  · subst ht
    simp [atX, lk_self h.nd he]
  · rw [if_neg ht]
    have heq : atX T0 l (fun i => i == e.p.j || X i) t = atX T0 l X t := by
      simp only [atX]
      cases hq : lk l t with
      | none => rfl
      | some e' =>
        obtain ⟨h1, h2⟩ := lk_mem hq
        have hne : e'.p.j ≠ e.p.j := fun hj => ht (by rw [← h2, nodup_inj h.nj h1 he hj])
        have : (e'.p.j == e.p.j) = false := by simpa using hne
        simp [this]
    rw [heq, if_neg]
    intro hr
    simp only [atX] at hr
    cases hq : lk l t with
    | none =>
      rw [hq] at hr
      exact h.wr t _ hr (h.fresh he)
    | some e' =>
      rw [hq] at hr
      obtain ⟨h1, h2⟩ := lk_mem hq
      simp only at hr
      split at hr
      · rename_i hx
        obtain ⟨a, b, hs⟩ := List.append_of_mem h1
        have hsafe := (h.fact a e' b hs).2.2.1
        have h3 := (safeR_root hsafe hr).1
        rcases (h.ok e' h1).2 e he with h4 | h4 | h4
        · rw [h4, hx] at hXi; cases hXi
        · rw [hdown e' h1 hx _ h4] at hXi; cases hXi
        · exact h3 h4
      · exact h.wr t _ hr (h.fresh he)

theorem Head.run (h : Head P n pz ops tb T0 l) (hpv : ∀ q v, pv = some (q, v) → pz = some q) {e : PE} (he : e ∈ l) {X : Nat → Bool} (hXi : X e.p.j = false) (hXc : ∀ i ∈ cloOf tb e.p.j, X i = true) (hdown : ∀ e' ∈ l, X e'.p.j = true → ∀ i ∈ cloOf tb e'.p.j, X i = true)
    (hI : Inv w0 tk n Z0 pv (atX T0 l X) a w) {Q : Exit → Act → World → Prop} {K : Act → World → Prop} (hK : ∀ a' w', Inv w0 tk n Z0 pv (atX T0 l (fun i => i == e.p.j || X i)) a' w' → K a' w') : wpOp P ops Q e.p.j K a w := by
  obtain ⟨a1, b1, hs⟩ := List.append_of_mem he
  obtain ⟨hd, hun, hsafe, hg⟩ := h.fact a1 e b1 hs
  have hle := h.le hs hXc
  obtain ⟨⟨o, ho, hok⟩, _⟩ := h.ok e he
  obtain ⟨q1, q2, q3, q4⟩ := okOp_iff hok
  have hput := h.put he hXi hdown
  have hdn : e.d < n ∧ (∀ q v, pv = some (q, v) → e.d ≠ q) := ⟨(q4 _ hd).1, fun q v e => (q4 _ hd).2 q (hpv q v e)⟩
  have run : evW P (hideT (accT T0 a1) e.p.hid) e.p.m.k (fun s => s = e.s) → o.wp P a w K Q := by
    intro hev
    refine Oper.wp_mono ?_ (ev_sound hI q1 q2 hd hdn (evW_mono hle hev))
    intro a' w' h5
    rw [safe_of hsafe, hput] at h5
    exact hK a' w' h5
  unfold wpOp
  rw [ho]
  simp only
  split at hg
  · rename_i hgn
    rw [if_pos (wanted_none q3 hgn)]
    exact .inl (run hg)
  · rename_i g b hgs
    obtain ⟨j, oj, k1, k2, k3⟩ := okG_some q3 hgs
    obtain ⟨y1, y2⟩ := yield_of hI k2 k3
    rcases hg with ⟨h6, h7⟩ | ⟨h6, h7⟩
    · have hT : atX T0 l X g = .d (.bool b) := by rw [hle.at (by rw [h6]; simp), h6]
      have hw : Region.wanted o (yielded ops a.tmps) = true := by simp [Region.wanted, k1, y1 b hT]
      rw [if_pos hw]
      exact .inl (run h7)
    · have hw : ¬ Region.wanted o (yielded ops a.tmps) = true := by
        rcases h6 with h6 | h6
        · have hT : atX T0 l X g = .d (.bool !b) := by rw [hle.at (by rw [h6]; simp), h6]
          simp [Region.wanted, k1, y1 _ hT]
        · have hT : atX T0 l X g = .tup [] := by rw [hle.at (by rw [h6]; simp), h6]
          simp [Region.wanted, k1, y2 hT]
      rw [if_neg hw]
      have h8 := Inv.skip hI (d := some e.d) (fun k hk => by cases hk; exact hdn)
      simp only [skipT] at h8
      rw [← h7, hput] at h8
      rw [q2, hd]
      exact hK _ _ h8
end
end AS
set_option linter.unusedVariables false
set_option linter.unusedSimpArgs false
namespace AS
open Go

section
variable {P : Program} {w0 : World} {tk : FP} {n : Nat} {Z0 : Nat → Prop} {pv : Option (Nat × Value)} {T T0 : Nat → SV} {ops : Array Oper} {pz : Option Nat} {tb : List (Nat × List Nat)} {l : List PE} {tail : List (Nat × MOp)}

abbrev XOf (listed : Array Bool) : Nat → Bool := fun i => listed.getD i false

theorem afterOf_mem {j : Nat} {o : Oper} (ho : ops[j]? = some o) {i : Nat} : i ∈ afterOf ops j ↔ ∃ e ∈ o.after, Region.binds .any e = true ∧ e.on = i := by
  simp only [afterOf, ho, List.mem_map, List.mem_filter, Array.mem_toList_iff]
  constructor
  · rintro ⟨e, ⟨h1, h2⟩, h3⟩; exact ⟨e, h1, h2, h3⟩
  · rintro ⟨e, h1, h2, h3⟩; exact ⟨e, ⟨h1, h2⟩, h3⟩

theorem XOf_set {listed : Array Bool} {i : Nat} (hi : i < listed.size) : XOf (listed.setIfInBounds i true) = fun k => k == i || XOf listed k := by
  funext k
  by_cases h : i = k
  · subst h; simp [XOf, hi]
  · have : (k == i) = false := by simpa using fun e => h e.symm
    simp only [XOf, this, Bool.false_or]
    exact getD_set_ne false h

theorem first_false {X : Nat → Bool} : ∀ {l : List Nat}, (∃ j ∈ l, X j = false) → ∃ a j b, l = a ++ j :: b ∧ (∀ i ∈ a, X i = true) ∧ X j = false
  | [], h => by obtain ⟨j, h, _⟩ := h; simp at h
  | x :: l, h => by
    cases hx : X x with
    | false => exact ⟨[], x, l, rfl, by simp, hx⟩
    | true =>
      obtain ⟨j, hj, hf⟩ := h
      have : ∃ j ∈ l, X j = false := by
        rcases List.mem_cons.1 hj with rfl | hj
        · rw [hx] at hf; cases hf
        · exact ⟨j, hj, hf⟩
      obtain ⟨a, j, b, h1, h2, h3⟩ := first_false this
      exact ⟨x :: a, j, b, by rw [h1]; rfl, fun i hi => by rcases List.mem_cons.1 hi with rfl | hi; exact hx; exact h2 i hi, h3⟩

structure Tail (P : Program) (n : Nat) (pz : Option Nat) (ops : Array Oper) (tb : List (Nat × List Nat)) (l : List PE) (tail : List (Nat × MOp)) : Prop where
  ok : ∀ a t b, tail = a ++ t :: b → (∃ o, ops[t.1]? = some o ∧ okOp P n pz ops o t.2 = true) ∧ (∀ e ∈ l, e.p.j ∈ cloOf tb t.1) ∧ ∀ u ∈ a, u.1 ∈ cloOf tb t.1
  idx : (l.map (·.p.j) ++ tail.map (·.1)).Nodup
  all : ∀ i, i < ops.size → i ∈ l.map (·.p.j) ++ tail.map (·.1)
  lt : ∀ i ∈ l.map (·.p.j) ++ tail.map (·.1), i < ops.size
  early : ∀ a j b, l.map (·.p.j) ++ tail.map (·.1) = a ++ j :: b → ∀ i ∈ afterOf ops j, i ∈ a
  tbok : TbOk ops tb

def StT (w0 : World) (tk : FP) (n : Nat) (Z0 : Nat → Prop) (pv : Option (Nat × Value)) (P : Program) (T0 : Nat → SV) (l : List PE) (tail : List (Nat × MOp)) (K : (Nat → SV) → Prop) (X : Nat → Bool) (a : Act) (w : World) : Prop :=
  ((∀ t ∈ tail, X t.1 = false) ∧ Inv w0 tk n Z0 pv (atX T0 l X) a w) ∨
  ∃ t1 t2, tail = t1 ++ t2 ∧ (∀ e ∈ l, X e.p.j = true) ∧ (∀ t ∈ t1, X t.1 = true) ∧ (∀ t ∈ t2, X t.1 = false) ∧ ∃ T, Inv w0 tk n Z0 pv T a w ∧ seqW P (t2.map (·.2)) T K

theorem atX_all {X : Nat → Bool} (h : ∀ e ∈ l, X e.p.j = true) : atX T0 l X = accT T0 l := by
  funext t
  simp only [atX, accT]
  cases hq : lk l t with
  | none => rfl
  | some e => simp [h e (lk_mem hq).1]

theorem Tail.clo (h : Tail P n pz ops tb l tail) {X : Nat → Bool} (hd : Down ops X) {j : Nat} (hj : ∀ i ∈ afterOf ops j, X i = true) : ∀ i ∈ cloOf tb j, X i = true := by
  intro i hi
  obtain ⟨c, h1, h2⟩ := cloOf_mem hi
  exact h.tbok.1 j c h1 X hd hj i h2

theorem drawn_any (hh : Head P n pz ops tb T0 l) (ht : Tail P n pz ops tb l tail) (hpv : ∀ q v, pv = some (q, v) → pz = some q) {K : (Nat → SV) → Prop} (hseq : seqW P (tail.map (·.2)) (accT T0 l) K) {Q : Exit → Act → World → Prop}
    (hQ : ∀ T a w, K T → Inv w0 tk n Z0 pv T a w → Q .normal a w) :
    ∀ (fuel : Nat) (listed : Array Bool) (a : Act) (w : World), listed.size = ops.size → Down ops (XOf listed) → ((l.map (·.p.j) ++ tail.map (·.1)).filter fun i => !XOf listed i).length = fuel → StT w0 tk n Z0 pv P T0 l tail K (XOf listed) a w →
      wpAny P .any ops Q fuel listed a w := by
  have hready : ∀ (listed : Array Bool), listed.size = ops.size → (∃ j ∈ l.map (·.p.j) ++ tail.map (·.1), XOf listed j = false) → ∃ j, j ∈ Region.ready .any ops listed := by
    intro listed hsz h
    obtain ⟨x, j, y, h1, h2, h3⟩ := first_false h
    have hlt := ht.lt j (by rw [h1]; simp)
    refine ⟨j, mem_ready.2 ⟨getD_in (by omega) h3, ops[j], by simp [hlt], ?_⟩⟩
    intro e he hb
    exact h2 _ (ht.early x j y h1 e.on ((afterOf_mem (by simp [hlt])).2 ⟨e, he, hb, rfl⟩))
  have hdone : ∀ (listed : Array Bool) (a : Act) (w : World), (∀ j ∈ l.map (·.p.j) ++ tail.map (·.1), XOf listed j = true) → StT w0 tk n Z0 pv P T0 l tail K (XOf listed) a w → Q .normal a w := by
    intro listed a w hall hst
    have hpre : ∀ e ∈ l, XOf listed e.p.j = true := fun e he => hall _ (by simp; exact .inl ⟨e, he, rfl⟩)
    rcases hst with ⟨h1, h2⟩ | ⟨t1, t2, h1, h2, h3, h4, T, h5, h6⟩
    · have : tail = [] := by
        cases htl : tail with
        | nil => rfl
        | cons t ts =>
          have e1 := h1 t (by rw [htl]; simp)
          have e2 := hall t.1 (by rw [htl]; simp)
          rw [e1] at e2; cases e2
      rw [this] at hseq
      rw [atX_all hpre] at h2
      exact hQ _ _ _ hseq h2
    · have : t2 = [] := by
        cases htl : t2 with
        | nil => rfl
        | cons t ts =>
          have e1 := h4 t (by rw [htl]; simp)
          have e2 := hall t.1 (by rw [h1, htl]; simp)
          rw [e1] at e2; cases e2
      rw [this] at h6
      exact hQ _ _ _ h6 h5
  intro fuel
  induction fuel with
  | zero =>
    intro listed a w hsz hd hf hst
    have hall : ∀ j ∈ l.map (·.p.j) ++ tail.map (·.1), XOf listed j = true := by
      intro j hj
      have := List.length_eq_zero_iff.1 hf
      rw [List.filter_eq_nil_iff] at this
      simpa using this j hj
    refine ⟨?_, hdone listed a w hall hst⟩
    rw [List.eq_nil_iff_forall_not_mem]
    intro j hj
    obtain ⟨h0, o, ho, _⟩ := mem_ready.1 hj
    have hlt : j < ops.size := (Array.getElem?_eq_some_iff.1 ho).1
    have := hall j (ht.all j hlt)
    have := getD_both h0
    simp only [XOf] at *
    simp_all
  | succ fuel ih =>
    intro listed a w hsz hd hf hst
    refine ⟨fun hr => ?_, fun i hi => ?_⟩
    · refine hdone listed a w (fun j hj => ?_) hst
      cases hx : XOf listed j with
      | true => rfl
      | false =>
        obtain ⟨k, hk⟩ := hready listed hsz ⟨j, hj, hx⟩
        rw [hr] at hk; simp at hk
    · obtain ⟨h0, o, ho, hall⟩ := mem_ready.1 hi
      have hlt : i < ops.size := (Array.getElem?_eq_some_iff.1 ho).1
      have hXi : XOf listed i = false := getD_both h0
      have haft : ∀ k ∈ afterOf ops i, XOf listed k = true := by
        intro k hk
        obtain ⟨e, h1, h2, h3⟩ := (afterOf_mem ho).1 hk
        rw [← h3]; exact hall e h1 h2
      have hclo := ht.clo hd haft
      have hset := XOf_set (listed := listed) (i := i) (by omega)
      have hsz' : (listed.setIfInBounds i true).size = ops.size := by simp [hsz]
      have hd' : Down ops (XOf (listed.setIfInBounds i true)) := by
        intro j hj k hk
        rw [hset] at hj ⊢
        simp only [Bool.or_eq_true, beq_iff_eq] at hj ⊢
        rcases hj with rfl | hj
        · exact .inr (haft k hk)
        · exact .inr (hd j hj k hk)
      have hf' : ((l.map (·.p.j) ++ tail.map (·.1)).filter fun j => !XOf (listed.setIfInBounds i true) j).length = fuel := by
        rw [hset]
        have hmem := ht.all i hlt
        have hnd := ht.idx
        generalize l.map (·.p.j) ++ tail.map (·.1) = idx at hmem hnd hf
        obtain ⟨x, y, rfl⟩ := List.append_of_mem hmem
        rw [List.nodup_append] at hnd
        obtain ⟨n1, n2, n3⟩ := hnd
        rw [List.nodup_cons] at n2
        have g : ∀ z : List Nat, i ∉ z → (z.filter fun j => !(j == i || XOf listed j)) = z.filter fun j => !XOf listed j := by
          intro z hz
          apply List.filter_congr
          intro j hj
          have : (j == i) = false := by simp only [beq_eq_false_iff_ne]; intro e; subst e; exact hz hj
          simp [this]
        have hx : i ∉ x := fun h => n3 i h i (by simp) rfl
        simp only [List.filter_append, List.filter_cons, List.length_append] at hf ⊢
        rw [g x hx, g y n2.1]
        simp [hXi] at hf ⊢
        omega
      have hidx := ht.all i hlt
      rcases List.mem_append.1 hidx with hp | htl
      · -- of the head
        obtain ⟨e, he, rfl⟩ := List.mem_map.1 hp
        rcases hst with ⟨h1, h2⟩ | ⟨t1, t2, _, h2, _⟩
        · refine Head.run hh hpv he hXi hclo (fun e' he' hx => ht.clo hd (hd _ hx)) h2 ?_
          intro a' w' h3
          refine ih _ a' w' hsz' hd' hf' (.inl ⟨fun t ht' => ?_, by rw [hset]; exact h3⟩)
          rw [hset]
          have hne : t.1 ≠ e.p.j := by
            have := ht.idx
            rw [List.nodup_append] at this
            exact fun e2 => this.2.2 e.p.j (List.mem_map.2 ⟨e, he, rfl⟩) t.1 (List.mem_map.2 ⟨t, ht', rfl⟩) e2.symm
          have : (t.1 == e.p.j) = false := by simpa using hne
          simp only [this, Bool.false_or]
          exact h1 t ht'
        · rw [h2 e he] at hXi; cases hXi
      · -- of the tail
        obtain ⟨t, htm, rfl⟩ := List.mem_map.1 htl
        have hst2 : ∃ t1 t2, tail = t1 ++ t2 ∧ (∀ e ∈ l, XOf listed e.p.j = true) ∧ (∀ t ∈ t1, XOf listed t.1 = true) ∧ (∀ t ∈ t2, XOf listed t.1 = false) ∧ ∃ T, Inv w0 tk n Z0 pv T a w ∧ seqW P (t2.map (·.2)) T K := by
          rcases hst with ⟨h1, h2⟩ | h
          · have hpre : ∀ e ∈ l, XOf listed e.p.j = true := by
              obtain ⟨x, y, hxy⟩ := List.append_of_mem htm
              exact fun e he => hclo _ ((ht.ok x t y hxy).2.1 e he)
            rw [atX_all hpre] at h2
            exact ⟨[], tail, rfl, hpre, by simp, h1, _, h2, hseq⟩
          · exact h
        obtain ⟨t1, t2, h1, h2, h3, h4, T, h5, h6⟩ := hst2
        have htt : t ∈ t2 := by
          rw [h1] at htm
          rcases List.mem_append.1 htm with h7 | h7
          · rw [h3 t h7] at hXi; cases hXi
          · exact h7
        cases t2 with
        | nil => simp at htt
        | cons u t2 =>
          have hu : t = u := by
            rcases List.mem_cons.1 htt with h7 | h7
            · exact h7
            · obtain ⟨x, y, hxy⟩ := List.append_of_mem h7
              have := (ht.ok (t1 ++ u :: x) t y (by rw [h1, hxy]; simp)).2.2 u (by simp)
              have := hclo _ this
              rw [h4 u (by simp)] at this; cases this
          subst hu
          obtain ⟨⟨o', ho', hok⟩, _⟩ := ht.ok t1 t t2 h1
          have hr := opG_sound (P := P) (Q := Q) hpv h5 hok h6
          have hnext : ∀ T' a' w', seqW P (t2.map (·.2)) T' K → Inv w0 tk n Z0 pv T' a' w' → wpAny P .any ops Q fuel (listed.setIfInBounds t.1 true) a' w' := by
            intro T' a' w' g1 g2
            have hnd : ∀ u ∈ t2, u.1 ≠ t.1 := by
              intro u hu e2
              have := ht.idx
              rw [List.nodup_append] at this
              have := this.2.1
              rw [h1, List.map_append, List.nodup_append] at this
              have := this.2.1
              simp only [List.map_cons, List.nodup_cons] at this
              exact this.1 (List.mem_map.2 ⟨u, hu, e2⟩)
            refine ih _ a' w' hsz' hd' hf' (.inr ⟨t1 ++ [t], t2, by rw [h1]; simp, fun e he => by rw [hset]; simp [h2 e he], ?_, ?_, T', g2, g1⟩)
            · intro u hu
              rw [hset]
              rcases List.mem_append.1 hu with hu | hu
              · simp [h3 u hu]
              · simp at hu; subst hu; simp
            · intro u hu
              rw [hset]
              have : (u.1 == t.1) = false := by simpa using hnd u hu
              simp only [this, Bool.false_or]
              exact h4 u (by simp [hu])
          unfold wpOp
          rw [ho']
          simp only
          split
          · rename_i hw
            rw [if_pos hw] at hr
            exact .inl (Oper.wp_mono (fun a' w' ⟨T', g1, g2⟩ => hnext T' a' w' g1 g2) hr)
          · rename_i hw
            rw [if_neg hw] at hr
            obtain ⟨T', g1, g2⟩ := hr
            exact hnext T' _ _ g1 g2

theorem nodup_of_map {α β : Type} {f : α → β} : ∀ {l : List α}, (l.map f).Nodup → l.Nodup
  | [], _ => List.nodup_nil
  | x :: l, h => by
    simp only [List.map_cons, List.nodup_cons, List.mem_map, not_exists, not_and] at h
    exact List.nodup_cons.2 ⟨fun hx => h.1 x hx rfl, nodup_of_map h.2⟩

theorem okTail_of : ∀ {before : List Nat} {tl : List (Nat × MOp)}, okTail P n pz ops tb before tl = true → ∀ a t b, tl = a ++ t :: b →
    (∃ o, ops[t.1]? = some o ∧ okOp P n pz ops o t.2 = true) ∧ (∀ i ∈ before, i ∈ cloOf tb t.1) ∧ ∀ u ∈ a, u.1 ∈ cloOf tb t.1
  | before, [], _, a, t, b, e => by simp at e
  | before, (j, m) :: tl, h, a, t, b, e => by
    simp only [okTail, Bool.and_eq_true, List.all_eq_true, List.elem_eq_mem, decide_eq_true_eq] at h
    obtain ⟨⟨h1, h2⟩, h3⟩ := h
    cases a with
    | nil =>
      simp only [List.nil_append, List.cons.injEq] at e
      obtain ⟨rfl, rfl⟩ := e
      refine ⟨?_, h2, by simp⟩
      split at h1
      · rename_i o ho; exact ⟨o, ho, h1⟩
      · cases h1
    | cons x a =>
      simp only [List.cons_append, List.cons.injEq] at e
      obtain ⟨rfl, rfl⟩ := e
      obtain ⟨k1, k2, k3⟩ := okTail_of h3 a t b rfl
      refine ⟨k1, fun i hi => k2 i (by simp [hi]), fun u hu => ?_⟩
      rcases List.mem_cons.1 hu with rfl | hu
      · exact k2 _ (by simp)
      · exact k3 u hu

theorem Inv.drew {a : Act} {w : World} (h : Inv w0 tk n Z0 pv T a w) (d : Nat) : Inv w0 tk n Z0 pv T a { w with drawn := d } := by
  obtain ⟨⟨Z, F, h1⟩, h2⟩ := h
  exact ⟨⟨Z, F, h1.step (w' := { w with drawn := d }) (Z' := Z) (S' := fun _ => 0) ⟨rfl, rfl, rfl, Nat.le_refl _, fun _ _ _ => rfl⟩ (fun _ => Nat.zero_le _) (fun b hb => by simp at hb) (fun _ hb => hb) (fun _ hb => .inl hb)⟩, h2⟩

theorem drw_sound {pre : List PO} {a : Act} {w : World} {id : Nat} (hpv : ∀ q v, pv = some (q, v) → pz = some q) (hok : okDrw P n pz ops pre tail = true) (hI : Inv w0 tk n Z0 pv T a w) {K : (Nat → SV) → Prop}
    (hw : preW P pre T fun T' => seqW P (tail.map (·.2)) T' K) {Q : Exit → Act → World → Prop} (hQ : ∀ T a w, K T → Inv w0 tk n Z0 pv T a w → Q .normal a w) : (Code.region id ops true).wp P Q a w := by
  simp only [okDrw, Bool.and_eq_true] at hok
  obtain ⟨⟨⟨⟨⟨⟨hm, hnd⟩, hlen⟩, hlt⟩, hall⟩, hdn⟩, htb⟩ := hok
  split at htb
  · rename_i tb hmk
    simp only [Bool.and_eq_true, List.all_eq_true] at htb
    obtain ⟨hpre, htl⟩ := htb
    obtain ⟨htbok, hearly⟩ := mkTb_ok (tb := []) ⟨fun j c h => by simp at h, fun j c h => by simp at h⟩ hmk
    have hdn' := nodupB_iff hdn
    have hT : accT T [] = T := by funext t; simp [accT, lk]
    obtain ⟨l, k1, k2, k3⟩ := pre_chain (P := P) (T0 := T) (l1 := []) (by simpa using hdn') (by rw [hT]; exact hw)
    simp only [List.nil_append] at k2 k3
    have hfact : ∀ e ∈ l, e.p.m.dst = some e.d := by
      intro e he
      obtain ⟨x, y, hxy⟩ := List.append_of_mem he
      exact (k2 x e y hxy).1
    have hds : (l.map (·.d)).Nodup := by
      rw [← k1, List.map_map] at hdn'
      have e1 : l.map ((fun p : PO => p.m.dst) ∘ fun e : PE => e.p) = (l.map (·.d)).map some := by
        rw [List.map_map]
        exact List.map_congr_left fun e he => hfact e he
      rw [e1] at hdn'
      exact nodup_of_map hdn'
    have hjs : l.map (·.p.j) = pre.map (·.j) := by rw [← k1, List.map_map]; rfl
    have hnd' := nodupB_iff hnd
    rw [← hjs] at hnd' hlen hlt hall hearly htl
    have hnj : (l.map (·.p.j)).Nodup := (List.nodup_append.1 hnd').1
    have hwr : ∀ t r, (T t).root = some r → T r ≠ .un := by
      obtain ⟨⟨Z, F, hc⟩, _⟩ := hI
      intro t r hr
      obtain ⟨x, _, h2, _⟩ := hc.wr hr
      exact h2
    have hh : Head P n pz ops tb T l := by
      refine ⟨k2, hds, hnj, fun e he => ?_, hwr⟩
      have hp := hpre e.p (by rw [← k1]; exact List.mem_map.2 ⟨e, he, rfl⟩)
      simp only [okPre, Bool.and_eq_true, List.all_eq_true] at hp
      constructor
      · have h1 := hp.1
        split at h1
        · rename_i o ho; exact ⟨o, ho, h1⟩
        · cases h1
      · intro q hq
        have h2 := hp.2 q.p (by rw [← k1]; exact List.mem_map.2 ⟨q, hq, rfl⟩)
        simp only [Bool.or_eq_true, beq_iff_eq, List.elem_eq_mem, decide_eq_true_eq, hfact q hq] at h2
        rcases h2 with (h2 | h2) | h2
        · exact .inl h2
        · exact .inr (.inl h2)
        · exact .inr (.inr h2)
    have ht : Tail P n pz ops tb l tail := by
      refine ⟨fun x t y hxy => ?_, hnd', fun i hi => ?_, fun i hi => ?_, fun x j y hxy i hi => ?_, htbok⟩
      · obtain ⟨q1, q2, q3⟩ := okTail_of htl x t y hxy
        exact ⟨q1, fun e he => q2 _ (List.mem_map.2 ⟨e, he, rfl⟩), q3⟩
      · simp only [List.all_eq_true, List.mem_range, List.elem_eq_mem, decide_eq_true_eq] at hall
        exact hall i hi
      · simp only [List.all_eq_true, decide_eq_true_eq] at hlt
        exact hlt i hi
      · rcases hearly x j y hxy i hi with h | h
        · exact h
        · simp at h
    have hX0 : XOf (Array.replicate ops.size false) = fun _ => false := by
      funext i; exact getD_replicate_false _ _
    have hat : atX T l (fun _ => false) = T := by
      funext t
      simp only [atX]
      split <;> simp
    refine wp_region_any hm (drawn_any hh ht hpv k3 hQ _ _ a _ (by simp) ?_ ?_ (.inl ⟨?_, ?_⟩))
    · rw [hX0]; intro j hj; simp at hj
    · rw [hX0]
      have : ∀ z : List Nat, (z.filter fun _ => !false) = z := fun z => by simp [List.filter_eq_self]
      rw [this]
      simpa using hlen
    · rw [hX0]; intro t _; rfl
    · rw [hX0, hat]; exact hI.drew _
  · cases htb
end
end AS
set_option linter.unusedVariables false
set_option linter.unusedSimpArgs false
namespace AS
open Go

def posOf : List (Nat × MOp) → Nat → Nat → Option Nat
  | [], _, _ => none
  | (j, _) :: l, i, k => if j == i then some k else posOf l i (k + 1)
/-- May the operation at a place go next? -/
def readyB (ops : Array Oper) (rest : List (Nat × MOp)) (b : List Bool) (i : Nat) : Bool := match rest[i]? with
  | none => false
  | some t => !b.getD i true && (afterOf ops t.1).all fun a => match posOf rest a 0 with
    | some p => b.getD p false
    | none => true
/-- Some of the head may also come late: they stand in both lists. From these states the graph begins: what has been done, and the slots that are not there yet. -/
def startsOf (pre : List PO) : List (Nat × MOp) → List (List Bool × List Nat)
  | [] => [([], [])]
  | t :: r => bif (pre.map (·.j)).elem t.1 then (match t.2.dst with
      | some d => (startsOf pre r).flatMap fun s => [(false :: s.1, d :: s.2), (true :: s.1, s.2)]
      | none => [])
    else (startsOf pre r).map fun s => (false :: s.1, s.2)
def strictOf (pre : List Nat) (rest : List (Nat × MOp)) : List Nat := pre.filter fun j => !(rest.map (·.1)).elem j
def okRest (P : Program) (n : Nat) (pz : Option Nat) (ops : Array Oper) (tb : List (Nat × List Nat)) (pre : List PO) (rest : List (Nat × MOp)) : Bool :=
  rest.all fun t => (match ops[t.1]? with | some o => okOp P n pz ops o t.2 | none => false) &&
    (pre.all fun q => !(q.j == t.1) || q.m.dst == t.2.dst) &&
    ((pre.map (·.j)).elem t.1 || (strictOf (pre.map (·.j)) rest).all fun i => (cloOf tb t.1).elem i)
def okGr (ops : Array Oper) (pre : List PO) (rest : List (Nat × MOp)) (gr : List (List Bool × Nat)) : Bool :=
  ((startsOf pre rest).map (·.1) ++ gr.map fun g => g.1.set g.2 true).all fun b => (List.range rest.length).all fun i => !readyB ops rest b i || gr.elem (b, i)
def okDrg (P : Program) (n : Nat) (pz : Option Nat) (ops : Array Oper) (pre : List PO) (rest : List (Nat × MOp)) (gr : List (List Bool × Nat)) : Bool :=
  P.follows .mixedOrders && nodupB (pre.map (·.j)) && nodupB (strictOf (pre.map (·.j)) rest ++ rest.map (·.1)) && (strictOf (pre.map (·.j)) rest ++ rest.map (·.1)).length == ops.size && (strictOf (pre.map (·.j)) rest ++ rest.map (·.1)).all (fun j => decide (j < ops.size)) &&
    (List.range ops.size).all (fun i => (strictOf (pre.map (·.j)) rest ++ rest.map (·.1)).elem i) && nodupB (pre.map (·.m.dst)) && okGr ops pre rest gr && match mkTb ops (strictOf (pre.map (·.j)) rest ++ rest.map (·.1)) [] with
      | some tb => pre.all (okPre P n pz ops tb pre) && okRest P n pz ops tb pre rest
      | none => false

/-- The graph: from each state to the next ones. -/
def grW (P : Program) (pre : List PO) (rest : List (Nat × MOp)) (ka : List Nat) (gr : List (List Bool × Nat)) (T0 : Nat → SV) (K : (Nat → SV) → Prop) : Prop :=
  ∃ S : List Bool → TL → Prop, (∀ s ∈ startsOf pre rest, S s.1 (keepL (hideT T0 s.2) ka ka)) ∧
    (∀ g ∈ gr, ∀ t, rest[g.2]? = some t → ∀ L, S g.1 L → opG P t.2 (ofL L) fun T' => S (g.1.set g.2 true) (keepL T' ka ka)) ∧
    ∀ L, S (rest.map fun _ => true) L → K (ofL L)

section
variable {P : Program} {w0 : World} {tk : FP} {n : Nat} {Z0 : Nat → Prop} {pv : Option (Nat × Value)} {T T0 : Nat → SV} {ops : Array Oper} {pz : Option Nat} {tb : List (Nat × List Nat)} {l : List PE} {rest : List (Nat × MOp)}

structure Rest (P : Program) (n : Nat) (pz : Option Nat) (ops : Array Oper) (tb : List (Nat × List Nat)) (l : List PE) (rest : List (Nat × MOp)) : Prop where
  ok : ∀ t ∈ rest, (∃ o, ops[t.1]? = some o ∧ okOp P n pz ops o t.2 = true) ∧ (∀ e ∈ l, e.p.j = t.1 → e.p.m.dst = t.2.dst) ∧ ((∃ e ∈ l, e.p.j = t.1) ∨ ∀ e ∈ l, (∀ u ∈ rest, u.1 ≠ e.p.j) → e.p.j ∈ cloOf tb t.1)
  idx : (strictOf (l.map (·.p.j)) rest ++ rest.map (·.1)).Nodup
  all : ∀ i, i < ops.size → i ∈ strictOf (l.map (·.p.j)) rest ++ rest.map (·.1)
  lt : ∀ i ∈ strictOf (l.map (·.p.j)) rest ++ rest.map (·.1), i < ops.size
  early : ∀ a j b, strictOf (l.map (·.p.j)) rest ++ rest.map (·.1) = a ++ j :: b → ∀ i ∈ afterOf ops j, i ∈ a
  tbok : TbOk ops tb

theorem strictOf_mem {l : List PE} {rest : List (Nat × MOp)} {j : Nat} : j ∈ strictOf (l.map (·.p.j)) rest ↔ ∃ e ∈ l, e.p.j = j ∧ ∀ u ∈ rest, u.1 ≠ j := by
  simp only [strictOf, List.mem_filter, List.mem_map, Bool.not_eq_true', List.elem_eq_mem, decide_eq_false_iff_not, not_exists, not_and]
  constructor
  · rintro ⟨⟨e, he, rfl⟩, h⟩; exact ⟨e, he, rfl, h⟩
  · rintro ⟨e, he, rfl, h⟩; exact ⟨⟨e, he, rfl⟩, h⟩

/-- The slots of those of the head that may come late and have not come. -/
def lateOf (pre : List PO) (rest : List (Nat × MOp)) (X : Nat → Bool) : List Nat := rest.filterMap fun t => if (pre.map (·.j)).elem t.1 ∧ X t.1 = false then t.2.dst else none
theorem starts_mem {pre : List PO} {X : Nat → Bool} : ∀ {rest : List (Nat × MOp)}, (∀ t ∈ rest, (pre.map (·.j)).elem t.1 = true → t.2.dst.isSome = true) → (∀ t ∈ rest, (pre.map (·.j)).elem t.1 = false → X t.1 = false) →
    (rest.map fun t => X t.1, lateOf pre rest X) ∈ startsOf pre rest
  | [], _, _ => by simp [lateOf, startsOf]
  | t :: r, h, h' => by
    have ih := starts_mem (pre := pre) (X := X) (rest := r) (fun u hu => h u (List.mem_cons_of_mem _ hu)) (fun u hu => h' u (List.mem_cons_of_mem _ hu))
    have ht := h t List.mem_cons_self
    have ht' := h' t List.mem_cons_self
    cases hp : (pre.map (·.j)).elem t.1 with
    | false =>
      have hx := ht' hp
      simp only [startsOf, hp, cond_false, List.mem_map]
      refine ⟨_, ih, ?_⟩
      simp only [List.map_cons, hx, Prod.mk.injEq, true_and]
      simp only [lateOf, List.filterMap_cons, hp, Bool.false_eq_true, false_and, if_false]
    | true =>
      obtain ⟨d, hd⟩ := Option.isSome_iff_exists.1 (ht hp)
      simp only [startsOf, hp, cond_true, hd, List.mem_flatMap]
      refine ⟨_, ih, ?_⟩
      cases hx : X t.1 with
      | false =>
        have e : lateOf pre (t :: r) X = d :: lateOf pre r X := by simp only [lateOf, List.filterMap_cons, hp, hx, and_self, if_true, hd]
        rw [e, List.map_cons, hx]; exact List.mem_cons_self
      | true =>
        have e : lateOf pre (t :: r) X = lateOf pre r X := by simp only [lateOf, List.filterMap_cons, hx, Bool.true_eq_false, and_false, if_false]
        rw [e, List.map_cons, hx]; exact List.mem_cons_of_mem _ List.mem_cons_self

def bitsOf (rest : List (Nat × MOp)) (X : Nat → Bool) : List Bool := rest.map fun t => X t.1

theorem posOf_some : ∀ {l : List (Nat × MOp)} {i k p : Nat}, posOf l i k = some p → ∃ m, l[p - k]? = some (i, m) ∧ k ≤ p
  | [], _, _, _, h => by simp [posOf] at h
  | (j, m) :: l, i, k, p, h => by
    simp only [posOf] at h
    split at h
    · rename_i e
      simp only [beq_iff_eq] at e
      cases h; subst e
      exact ⟨m, by simp, Nat.le_refl _⟩
    · obtain ⟨m', h1, h2⟩ := posOf_some h
      refine ⟨m', ?_, by omega⟩
      rw [show p - k = (p - (k + 1)) + 1 by omega]
      simpa using h1

theorem ready_of {X : Nat → Bool} {i : Nat} {t : Nat × MOp} (ht : rest[i]? = some t) (hX : X t.1 = false) (ha : ∀ k ∈ afterOf ops t.1, X k = true) : readyB ops rest (bitsOf rest X) i = true := by
  have hb : ∀ p u, rest[p]? = some u → ∀ d, (bitsOf rest X).getD p d = X u.1 := by
    intro p u hu d
    simp [bitsOf, List.getD_eq_getElem?_getD, hu]
  simp only [readyB, ht, Bool.and_eq_true, Bool.not_eq_true', List.all_eq_true]
  refine ⟨by rw [hb i t ht]; exact hX, fun a haa => ?_⟩
  split
  · rename_i p hp
    obtain ⟨m, h1, _⟩ := posOf_some hp
    rw [hb p (a, m) (by simpa using h1)]
    exact ha a haa
  · rfl

theorem bits_set {X X' : Nat → Bool} (hn : (rest.map (·.1)).Nodup) {i : Nat} {t : Nat × MOp} (ht : rest[i]? = some t) (hX : X' = fun k => k == t.1 || X k) : (bitsOf rest X).set i true = bitsOf rest X' := by
  subst hX
  have hi : i < rest.length := (List.getElem?_eq_some_iff.1 ht).1
  have hti : rest[i] = t := (List.getElem?_eq_some_iff.1 ht).2
  apply List.ext_getElem
  · simp [bitsOf]
  · intro j h1 h2
    simp only [bitsOf, List.length_map, List.length_set] at h1
    simp only [bitsOf, List.getElem_set, List.getElem_map]
    split
    · rename_i e; subst e; rw [hti]; simp
    · rename_i e
      have : rest[j].1 ≠ t.1 := by
        intro he
        rw [← hti] at he
        have hp := List.pairwise_iff_getElem.1 hn
        rcases Nat.lt_or_gt_of_ne e with hlt | hlt
        · have := hp i j (by simpa using hi) (by simpa using h1) hlt
          simp only [List.getElem_map] at this
          exact this he.symm
        · have := hp j i (by simpa using h1) (by simpa using hi) hlt
          simp only [List.getElem_map] at this
          exact this he
      have hb : (rest[j].1 == t.1) = false := by simpa using this
      simp [hb]

def StG (w0 : World) (tk : FP) (n : Nat) (Z0 : Nat → Prop) (pv : Option (Nat × Value)) (T0 : Nat → SV) (l : List PE) (rest : List (Nat × MOp)) (nodes : List (List Bool)) (S : List Bool → TL → Prop) (X : Nat → Bool) (a : Act) (w : World) : Prop :=
  ((∀ t ∈ rest, (∀ e ∈ l, e.p.j ≠ t.1) → X t.1 = false) ∧ Inv w0 tk n Z0 pv (atX T0 l X) a w) ∨
  ((∀ e ∈ l, (∀ u ∈ rest, u.1 ≠ e.p.j) → X e.p.j = true) ∧ bitsOf rest X ∈ nodes ∧ ∃ L, S (bitsOf rest X) L ∧ Inv w0 tk n Z0 pv (ofL L) a w)

theorem Rest.clo (h : Rest P n pz ops tb l rest) {X : Nat → Bool} (hd : Down ops X) {j : Nat} (hj : ∀ i ∈ afterOf ops j, X i = true) : ∀ i ∈ cloOf tb j, X i = true := by
  intro i hi
  obtain ⟨c, h1, h2⟩ := cloOf_mem hi
  exact h.tbok.1 j c h1 X hd hj i h2

theorem drg_any {ka : List Nat} {gr : List (List Bool × Nat)} (hh : Head P n pz ops tb T0 l) (ht : Rest P n pz ops tb l rest) {pre : List PO} (hpre' : l.map (·.p) = pre) (hgr : okGr ops pre rest gr = true) (hpv : ∀ q v, pv = some (q, v) → pz = some q) {K : (Nat → SV) → Prop} {S : List Bool → TL → Prop}
    (h0 : ∀ s ∈ startsOf pre rest, S s.1 (keepL (hideT (accT T0 l) s.2) ka ka)) (hstep : ∀ g ∈ gr, ∀ t, rest[g.2]? = some t → ∀ L, S g.1 L → opG P t.2 (ofL L) fun T' => S (g.1.set g.2 true) (keepL T' ka ka))
    (hend : ∀ L, S (rest.map fun _ => true) L → K (ofL L)) {Q : Exit → Act → World → Prop}
    (hQ : ∀ T a w, K T → Inv w0 tk n Z0 pv T a w → Q .normal a w) :
    ∀ (fuel : Nat) (listed : Array Bool) (a : Act) (w : World), listed.size = ops.size → Down ops (XOf listed) → ((strictOf (l.map (·.p.j)) rest ++ rest.map (·.1)).filter fun i => !XOf listed i).length = fuel →
      StG w0 tk n Z0 pv T0 l rest ((startsOf pre rest).map (·.1) ++ gr.map fun g => g.1.set g.2 true) S (XOf listed) a w →
      wpAny P .any ops Q fuel listed a w := by
  have hndr : (rest.map (·.1)).Nodup := (List.nodup_append.1 ht.idx).2.1
  have hjs : pre.map (·.j) = l.map (·.p.j) := by rw [← hpre', List.map_map]; rfl
  have hlate : ∀ t ∈ rest, (pre.map (·.j)).elem t.1 = true ↔ ∃ e ∈ l, e.p.j = t.1 := by
    intro t _
    rw [hjs]
    simp only [List.elem_eq_mem, decide_eq_true_eq, List.mem_map]
  have hready : ∀ (listed : Array Bool), listed.size = ops.size → (∃ j ∈ strictOf (l.map (·.p.j)) rest ++ rest.map (·.1), XOf listed j = false) → ∃ j, j ∈ Region.ready .any ops listed := by
    intro listed hsz h
    obtain ⟨x, j, y, h1, h2, h3⟩ := first_false h
    have hlt := ht.lt j (by rw [h1]; simp)
    refine ⟨j, mem_ready.2 ⟨getD_in (by omega) h3, ops[j], by simp [hlt], ?_⟩⟩
    intro e he hb
    exact h2 _ (ht.early x j y h1 e.on ((afterOf_mem (by simp [hlt])).2 ⟨e, he, hb, rfl⟩))
  -- from a state of the head alone to the graph's first
  have hin : ∀ (X : Nat → Bool) (a : Act) (w : World), (∀ e ∈ l, (∀ u ∈ rest, u.1 ≠ e.p.j) → X e.p.j = true) → StG w0 tk n Z0 pv T0 l rest ((startsOf pre rest).map (·.1) ++ gr.map fun g => g.1.set g.2 true) S X a w →
      bitsOf rest X ∈ ((startsOf pre rest).map (·.1) ++ gr.map fun g => g.1.set g.2 true) ∧ ∃ L, S (bitsOf rest X) L ∧ Inv w0 tk n Z0 pv (ofL L) a w := by
    rintro X a w hall (⟨h1, h2⟩ | ⟨_, h2, h3⟩)
    · have hd : ∀ e ∈ l, e.p.m.dst = some e.d := by
        intro e he
        obtain ⟨x, y, hxy⟩ := List.append_of_mem he
        exact (hh.fact x e y hxy).1
      have hmem := starts_mem (pre := pre) (X := X) (rest := rest) (fun t ht' hp => by
        obtain ⟨e, he, hj⟩ := (hlate t ht').1 hp
        rw [← (ht.ok t ht').2.1 e he hj, hd e he]; rfl) (fun t ht' hp => h1 t ht' (fun e he hj => by
        have := (hlate t ht').2 ⟨e, he, hj⟩
        rw [hp] at this; cases this))
      have heq : atX T0 l X = hideT (accT T0 l) (lateOf pre rest X) := by
        funext t
        have hl : ∀ t', t' ∈ lateOf pre rest X ↔ ∃ e ∈ l, e.d = t' ∧ (∃ u ∈ rest, u.1 = e.p.j) ∧ X e.p.j = false := by
          intro t'
          simp only [lateOf, List.mem_filterMap]
          constructor
          · rintro ⟨u, hu, h⟩
            split at h
            · rename_i hc
              obtain ⟨e, he, hj⟩ := (hlate u hu).1 hc.1
              have h3 := (ht.ok u hu).2.1 e he hj
              rw [hd e he] at h3
              rw [← h3] at h
              exact ⟨e, he, Option.some.inj h, ⟨u, hu, hj.symm⟩, by rw [hj]; exact hc.2⟩
            · cases h
          · rintro ⟨e, he, rfl, ⟨u, hu, hj⟩, hx⟩
            refine ⟨u, hu, ?_⟩
            rw [if_pos ⟨(hlate u hu).2 ⟨e, he, hj.symm⟩, by rw [hj]; exact hx⟩, ← (ht.ok u hu).2.1 e he hj.symm, hd e he]
        simp only [atX, hideT, accT]
        by_cases hm : t ∈ lateOf pre rest X
        · have hm' : (lateOf pre rest X).elem t = true := by simpa using hm
          rw [hm', if_pos rfl]
          obtain ⟨e, he, rfl, _, hx⟩ := (hl t).1 hm
          rw [lk_self hh.nd he]
          simp only [hx, Bool.false_eq_true, if_false]
          exact hh.fresh he
        · have hm' : (lateOf pre rest X).elem t = false := by simpa using hm
          rw [hm', if_neg (by simp)]
          cases hq : lk l t with
          | none => rfl
          | some e =>
            obtain ⟨he, hdt⟩ := lk_mem hq
            have hx : X e.p.j = true := by
              cases hx : X e.p.j with
              | true => rfl
              | false =>
                exfalso
                by_cases hu : ∃ u ∈ rest, u.1 = e.p.j
                · exact hm ((hl t).2 ⟨e, he, hdt, hu, hx⟩)
                · have := hall e he (fun u hu' hj => hu ⟨u, hu', hj⟩)
                  rw [hx] at this; cases this
            simp [hx]
      rw [heq] at h2
      exact ⟨List.mem_append.2 (.inl (List.mem_map.2 ⟨_, hmem, rfl⟩)), _, h0 _ hmem, h2.keep ka⟩
    · exact ⟨h2, h3⟩
  have hdone : ∀ (listed : Array Bool) (a : Act) (w : World), (∀ j ∈ strictOf (l.map (·.p.j)) rest ++ rest.map (·.1), XOf listed j = true) → StG w0 tk n Z0 pv T0 l rest ((startsOf pre rest).map (·.1) ++ gr.map fun g => g.1.set g.2 true) S (XOf listed) a w → Q .normal a w := by
    intro listed a w hall hst
    have hpre : ∀ e ∈ l, (∀ u ∈ rest, u.1 ≠ e.p.j) → XOf listed e.p.j = true := fun e he hu => hall _ (List.mem_append.2 (.inl (strictOf_mem.2 ⟨e, he, rfl, hu⟩)))
    obtain ⟨_, L, h1, h2⟩ := hin _ a w hpre hst
    have e : bitsOf rest (XOf listed) = rest.map fun _ => true := List.map_congr_left fun t ht => hall t.1 (by simp only [List.mem_append]; exact .inr (List.mem_map.2 ⟨t, ht, rfl⟩))
    rw [e] at h1
    exact hQ _ _ _ (hend _ h1) h2
  intro fuel
  induction fuel with
  | zero =>
    intro listed a w hsz hd hf hst
    have hall : ∀ j ∈ strictOf (l.map (·.p.j)) rest ++ rest.map (·.1), XOf listed j = true := by
      intro j hj
      have := List.length_eq_zero_iff.1 hf
      rw [List.filter_eq_nil_iff] at this
      simpa using this j hj
    refine ⟨?_, hdone listed a w hall hst⟩
    rw [List.eq_nil_iff_forall_not_mem]
    intro j hj
    obtain ⟨h0, o, ho, _⟩ := mem_ready.1 hj
    have hlt : j < ops.size := (Array.getElem?_eq_some_iff.1 ho).1
    have := hall j (ht.all j hlt)
    have := getD_both h0
    simp only [XOf] at *
    simp_all
  | succ fuel ih =>
    intro listed a w hsz hd hf hst
    refine ⟨fun hr => ?_, fun i hi => ?_⟩
    · refine hdone listed a w (fun j hj => ?_) hst
      cases hx : XOf listed j with
      | true => rfl
      | false =>
        obtain ⟨k, hk⟩ := hready listed hsz ⟨j, hj, hx⟩
        rw [hr] at hk; simp at hk
    · obtain ⟨h0', o, ho, hall⟩ := mem_ready.1 hi
      have hlt : i < ops.size := (Array.getElem?_eq_some_iff.1 ho).1
      have hXi : XOf listed i = false := getD_both h0'
      have haft : ∀ k ∈ afterOf ops i, XOf listed k = true := by
        intro k hk
        obtain ⟨e, h1, h2, h3⟩ := (afterOf_mem ho).1 hk
        rw [← h3]; exact hall e h1 h2
      have hclo := ht.clo hd haft
      have hset := XOf_set (listed := listed) (i := i) (by omega)
      have hsz' : (listed.setIfInBounds i true).size = ops.size := by simp [hsz]
      have hd' : Down ops (XOf (listed.setIfInBounds i true)) := by
        intro j hj k hk
        rw [hset] at hj ⊢
        simp only [Bool.or_eq_true, beq_iff_eq] at hj ⊢
        rcases hj with rfl | hj
        · exact .inr (haft k hk)
        · exact .inr (hd j hj k hk)
      have hf' : ((strictOf (l.map (·.p.j)) rest ++ rest.map (·.1)).filter fun j => !XOf (listed.setIfInBounds i true) j).length = fuel := by
        rw [hset]
        have hmem := ht.all i hlt
        have hnd := ht.idx
        generalize strictOf (l.map (·.p.j)) rest ++ rest.map (·.1) = idx at hmem hnd hf ⊢
        obtain ⟨x, y, rfl⟩ := List.append_of_mem hmem
        rw [List.nodup_append] at hnd
        obtain ⟨n1, n2, n3⟩ := hnd
        rw [List.nodup_cons] at n2
        have g : ∀ z : List Nat, i ∉ z → (z.filter fun j => !(j == i || XOf listed j)) = z.filter fun j => !XOf listed j := by
          intro z hz
          apply List.filter_congr
          intro j hj
          have : (j == i) = false := by simp only [beq_eq_false_iff_ne]; intro e; subst e; exact hz hj
          simp [this]
        have hx : i ∉ x := fun h => n3 i h i (by simp) rfl
        simp only [List.filter_append, List.filter_cons, List.length_append] at hf ⊢
        rw [g x hx, g y n2.1]
        simp [hXi] at hf ⊢
        omega
      have hidx := ht.all i hlt
      by_cases hA : (∃ e ∈ l, e.p.j = i) ∧ ((∀ t ∈ rest, (∀ e ∈ l, e.p.j ≠ t.1) → XOf listed t.1 = false) ∧ Inv w0 tk n Z0 pv (atX T0 l (XOf listed)) a w)
      · -- of the head, before the rest
        obtain ⟨⟨e, he, rfl⟩, h1, h2⟩ := hA
        refine Head.run hh hpv he hXi hclo (fun e' he' hx => ht.clo hd (hd _ hx)) h2 ?_
        intro a' w' h3
        refine ih _ a' w' hsz' hd' hf' (.inl ⟨fun t ht' hne => ?_, by rw [hset]; exact h3⟩)
        rw [hset]
        have : (t.1 == e.p.j) = false := by simpa using fun h => hne e he h.symm
        simp only [this, Bool.false_or]
        exact h1 t ht' hne
      · -- of the rest
        have hpre : ∀ e ∈ l, (∀ u ∈ rest, u.1 ≠ e.p.j) → XOf listed e.p.j = true := by
          intro e he hu
          rcases hst with h | ⟨h, _⟩
          · rcases List.mem_append.1 hidx with hp | htl
            · obtain ⟨e', he', hj, _⟩ := strictOf_mem.1 hp
              exact absurd ⟨⟨e', he', hj⟩, h⟩ hA
            · obtain ⟨t, htm, rfl⟩ := List.mem_map.1 htl
              rcases (ht.ok t htm).2.2 with ⟨e', he', hj⟩ | hc
              · exact absurd ⟨⟨e', he', hj⟩, h⟩ hA
              · exact hclo _ (hc e he hu)
          · exact h e he hu
        have htl : i ∈ rest.map (·.1) := by
          rcases List.mem_append.1 hidx with hp | htl
          · obtain ⟨e', he', hj, hu⟩ := strictOf_mem.1 hp
            have := hpre e' he' (by rw [hj]; exact hu)
            rw [hj, hXi] at this; cases this
          · exact htl
        obtain ⟨t, htm, rfl⟩ := List.mem_map.1 htl
        obtain ⟨hnode, L, hS, hI⟩ := hin _ a w hpre hst
        obtain ⟨k, hk⟩ := List.getElem?_of_mem htm
        have hkl := (List.getElem?_eq_some_iff.1 hk).1
        have hrd := ready_of hk hXi haft
        have hg : (bitsOf rest (XOf listed), k) ∈ gr := by
          simp only [okGr, List.all_eq_true, List.mem_range] at hgr
          have := hgr _ hnode k hkl
          simp only [hrd, Bool.not_true, Bool.false_or, List.elem_eq_mem, decide_eq_true_eq] at this
          exact this
        obtain ⟨⟨o', ho', hok⟩, _⟩ := ht.ok t htm
        have hr := opG_sound (P := P) (Q := Q) hpv hI hok (hstep _ hg t hk L hS)
        have hbs : (bitsOf rest (XOf listed)).set k true = bitsOf rest (XOf (listed.setIfInBounds t.1 true)) := bits_set hndr hk hset
        have hnext : ∀ T' a' w', S ((bitsOf rest (XOf listed)).set k true) (keepL T' ka ka) → Inv w0 tk n Z0 pv T' a' w' → wpAny P .any ops Q fuel (listed.setIfInBounds t.1 true) a' w' := by
          intro T' a' w' g1 g2
          refine ih _ a' w' hsz' hd' hf' (.inr ⟨fun e he hu => by rw [hset]; simp [hpre e he hu], ?_, _, by rw [← hbs]; exact g1, g2.keep ka⟩)
          rw [← hbs]
          exact List.mem_append.2 (.inr (List.mem_map.2 ⟨_, hg, rfl⟩))
        unfold wpOp
        rw [ho']
        simp only
        split
        · rename_i hw
          rw [if_pos hw] at hr
          exact .inl (Oper.wp_mono (fun a' w' ⟨T', g1, g2⟩ => hnext T' a' w' g1 g2) hr)
        · rename_i hw
          rw [if_neg hw] at hr
          obtain ⟨T', g1, g2⟩ := hr
          exact hnext T' _ _ g1 g2

theorem drg_sound {pre : List PO} {ka : List Nat} {gr : List (List Bool × Nat)} {a : Act} {w : World} {id : Nat} (hpv : ∀ q v, pv = some (q, v) → pz = some q) (hok : okDrg P n pz ops pre rest gr = true) (hI : Inv w0 tk n Z0 pv T a w) {K : (Nat → SV) → Prop}
    (hw : preW P pre T fun T' => grW P pre rest ka gr T' K) {Q : Exit → Act → World → Prop} (hQ : ∀ T a w, K T → Inv w0 tk n Z0 pv T a w → Q .normal a w) : (Code.region id ops true).wp P Q a w := by
  simp only [okDrg, Bool.and_eq_true] at hok
  obtain ⟨⟨⟨⟨⟨⟨⟨⟨hm, hndp⟩, hnd⟩, hlen⟩, hlt⟩, hall⟩, hdn⟩, hgr⟩, htb⟩ := hok
  split at htb
  · rename_i tb hmk
    simp only [Bool.and_eq_true, List.all_eq_true] at htb
    obtain ⟨hpre, htl⟩ := htb
    obtain ⟨htbok, hearly⟩ := mkTb_ok (tb := []) ⟨fun j c h => by simp at h, fun j c h => by simp at h⟩ hmk
    have hdn' := nodupB_iff hdn
    have hT : accT T [] = T := by funext t; simp [accT, lk]
    obtain ⟨l, k1, k2, k3⟩ := pre_chain (P := P) (T0 := T) (l1 := []) (by simpa using hdn') (by rw [hT]; exact hw)
    simp only [List.nil_append] at k2 k3
    have hfact : ∀ e ∈ l, e.p.m.dst = some e.d := by
      intro e he
      obtain ⟨x, y, hxy⟩ := List.append_of_mem he
      exact (k2 x e y hxy).1
    have hds : (l.map (·.d)).Nodup := by
      rw [← k1, List.map_map] at hdn'
      have e1 : l.map ((fun p : PO => p.m.dst) ∘ fun e : PE => e.p) = (l.map (·.d)).map some := by
        rw [List.map_map]
        exact List.map_congr_left fun e he => hfact e he
      rw [e1] at hdn'
      exact nodup_of_map hdn'
    have hjs : l.map (·.p.j) = pre.map (·.j) := by rw [← k1, List.map_map]; rfl
    have hnd' := nodupB_iff hnd
    rw [← hjs] at hnd' hlen hlt hall hearly
    have hnj : (l.map (·.p.j)).Nodup := by rw [hjs]; exact nodupB_iff hndp
    have hwr : ∀ t r, (T t).root = some r → T r ≠ .un := by
      obtain ⟨⟨Z, F, hc⟩, _⟩ := hI
      intro t r hr
      obtain ⟨x, _, h2, _⟩ := hc.wr hr
      exact h2
    have hh : Head P n pz ops tb T l := by
      refine ⟨k2, hds, hnj, fun e he => ?_, hwr⟩
      have hp := hpre e.p (by rw [← k1]; exact List.mem_map.2 ⟨e, he, rfl⟩)
      simp only [okPre, Bool.and_eq_true, List.all_eq_true] at hp
      constructor
      · have h1 := hp.1
        split at h1
        · rename_i o ho; exact ⟨o, ho, h1⟩
        · cases h1
      · intro q hq
        have h2 := hp.2 q.p (by rw [← k1]; exact List.mem_map.2 ⟨q, hq, rfl⟩)
        simp only [Bool.or_eq_true, beq_iff_eq, List.elem_eq_mem, decide_eq_true_eq, hfact q hq] at h2
        rcases h2 with (h2 | h2) | h2
        · exact .inl h2
        · exact .inr (.inl h2)
        · exact .inr (.inr h2)
    have ht : Rest P n pz ops tb l rest := by
      refine ⟨fun t htm => ?_, hnd', fun i hi => ?_, fun i hi => ?_, fun x j y hxy i hi => ?_, htbok⟩
      · simp only [okRest, List.all_eq_true, Bool.and_eq_true, Bool.or_eq_true, Bool.not_eq_true', List.elem_eq_mem, decide_eq_true_eq, beq_iff_eq, beq_eq_false_iff_ne] at htl
        obtain ⟨⟨q1, q2⟩, q3⟩ := htl t htm
        have hin : ∀ e ∈ l, e.p ∈ pre := fun e he => by rw [← k1]; exact List.mem_map.2 ⟨e, he, rfl⟩
        refine ⟨?_, fun e he hj => (q2 _ (hin e he)).resolve_left (fun h => h hj), ?_⟩
        · split at q1
          · rename_i o ho; exact ⟨o, ho, q1⟩
          · cases q1
        · rcases q3 with q3 | q3
          · rw [← hjs] at q3
            obtain ⟨e, he, hj⟩ := List.mem_map.1 q3
            exact .inl ⟨e, he, hj⟩
          · refine .inr fun e he hu => q3 _ ?_
            rw [← hjs]
            exact strictOf_mem.2 ⟨e, he, rfl, hu⟩
      · simp only [List.all_eq_true, List.mem_range, List.elem_eq_mem, decide_eq_true_eq] at hall
        exact hall i hi
      · simp only [List.all_eq_true, decide_eq_true_eq] at hlt
        exact hlt i hi
      · rcases hearly x j y hxy i hi with h | h
        · exact h
        · simp at h
    have hX0 : XOf (Array.replicate ops.size false) = fun _ => false := by
      funext i; exact getD_replicate_false _ _
    have hat : atX T l (fun _ => false) = T := by
      funext t
      simp only [atX]
      split <;> simp
    obtain ⟨S, s0, s1, s2⟩ := k3
    refine wp_region_any hm (drg_any hh ht k1 hgr hpv s0 s1 s2 hQ _ _ a _ (by simp) ?_ ?_ (.inl ⟨?_, ?_⟩))
    · rw [hX0]; intro j hj; simp at hj
    · rw [hX0]
      have : ∀ z : List Nat, (z.filter fun _ => !false) = z := fun z => by simp [List.filter_eq_self]
      rw [this]
      simpa using hlen
    · rw [hX0]; intro t _ _; rfl
    · rw [hX0, hat]; exact hI.drew _
  · cases htb
end
end AS
set_option linter.unusedVariables false
set_option linter.unusedSimpArgs false
namespace AS
open Go

inductive MX where
  | nrm
  | ext (id : Nat)
  | ret

inductive MC where
  | skip
  | bad
  | reg (ms : List MOp) (ks : List Nat)
  | kp (ks : List Nat) (a : MC)
  | fz (n : Nat) (a : MC)
  | fg (n : Nat) (a : MC)
  | fzb (n : Nat) (a : MC)
  | drw (pre : List PO) (tail : List (Nat × MOp)) (ks : List Nat)
  | drg (pre : List PO) (rest : List (Nat × MOp)) (ks ka : List Nat) (gr : List (List Bool × Nat))
  | seq (a b : MC)
  | cond (c : Opd) (a b : MC)
  | blk (id : Nat) (a : MC)
  | loop (a : MC)
  | exit (id : Nat)
  | ret

def okC (P : Program) (n : Nat) (pz : Option Nat) : Code → MC → Bool
  | _, .bad => true
  | c, .kp _ a => okC P n pz c a
  | c, .fz _ a => okC P n pz c a
  | c, .fg _ a => okC P n pz c a
  | c, .fzb _ a => okC P n pz c a
  | .skip, .skip => true
  | .region _ ops draw, .reg ms _ => !draw && okOps P n pz ops ops.toList ms
  | .region _ ops draw, .drw pre tail _ => draw && okDrw P n pz ops pre tail
  | .region _ ops draw, .drg pre rest _ _ gr => draw && okDrg P n pz ops pre rest gr
  | .seq a b, .seq a' b' => okC P n pz a a' && okC P n pz b b'
  | .cond c a b, .cond c' a' b' => okOpd c c' && okC P n pz a a' && okC P n pz b b'
  | .block id a, .blk id' a' => id == id' && okC P n pz a a'
  | .loop a, .loop a' => okC P n pz a a'
  | .exit id, .exit id' => id == id'
  | .ret, .ret => true
  | _, _ => false

def thenX (K : (Nat → SV) → Prop) (Q : MX → (Nat → SV) → Prop) : MX → (Nat → SV) → Prop
  | .nrm, L => K L
  | .ext id, L => Q (.ext id) L
  | .ret, L => Q .ret L
def blkX (id : Nat) (Q : MX → (Nat → SV) → Prop) : MX → (Nat → SV) → Prop
  | .nrm, L => Q .nrm L
  | .ext id', L => if id' = id then Q .nrm L else Q (.ext id') L
  | .ret, L => Q .ret L

/-- That it is nil is forgotten. -/
def fgD : D → D
  | .nilo => .slice true []
  | .nil => .slice false []
  | x => x
def wpC (P : Program) : MC → (Nat → SV) → (MX → (Nat → SV) → Prop) → Prop
  | .skip, L, Q => Q .nrm L
  | .bad, L, Q => False
  | .reg ms ks, L, Q => seqW P ms L fun L' => Q .nrm (ofL (keepL L' ks ks))
  | .drw pre tail ks, L, Q => preW P pre L fun L1 => seqW P (tail.map (·.2)) L1 fun L' => Q .nrm (ofL (keepL L' ks ks))
  | .drg pre rest ks ka gr, L, Q => preW P pre L fun L1 => grW P pre rest ka gr L1 fun L' => Q .nrm (ofL (keepL L' ks ks))
  | .fz m a, L, Q => ∃ x, L m = .d x ∧ wpC P a (AS.put (AS.put L m .un) m (.d x.toImm)) Q
  | .fzb m a, L, Q => ∃ x, L m = .box x ∧ wpC P a (AS.put L m (.ima x.toImm)) Q
  | .fg m a, L, Q => ∃ x, L m = .d x ∧ wpC P a (AS.put (AS.put L m .un) m (.d (fgD x))) Q
  | .kp ks a, L, Q => wpC P a L (thenX (fun L' => Q .nrm (ofL (keepL L' ks ks))) Q)
  | .seq a b, L, Q => wpC P a L (thenX (fun L' => wpC P b L' Q) Q)
  | .cond c a b, L, Q => boolW (rd L c) (wpC P a L Q) (wpC P b L Q)
  | .blk id a, L, Q => wpC P a L (blkX id Q)
  | .loop a, L, Q => ∃ (I : Nat → (Nat → SV) → Prop) (m0 : Nat), I m0 L ∧ ∀ m L', I m L' → wpC P a L' (thenX (fun L'' => ∃ m', m' < m ∧ I m' L'') Q)
  | .exit id, L, Q => Q (.ext id) L
  | .ret, L, Q => Q .ret L

section
variable {P : Program} {w0 : World} {tk : FP} {n : Nat} {Z0 Z : Nat → Prop}

def QX (w0 : World) (tk : FP) (n : Nat) (Z0 : Nat → Prop) (pv : Option (Nat × Value)) (Q : MX → (Nat → SV) → Prop) : Exit → Act → World → Prop
  | .normal, a, w => ∃ L, Q .nrm L ∧ Inv w0 tk n Z0 pv L a w
  | .exit id, a, w => ∃ L, Q (.ext id) L ∧ Inv w0 tk n Z0 pv L a w
  | .ret, a, w => ∃ L, Q .ret L ∧ Inv w0 tk n Z0 pv L a w
  | _, _, _ => False

theorem nat_least {p : Nat → Prop} (h : ∃ k, p k) : ∃ k, p k ∧ ∀ j, p j → k ≤ j := by
  obtain ⟨k, hk⟩ := h
  induction k using Nat.strongRecOn with
  | _ k ih =>
    by_cases hl : ∃ j, j < k ∧ p j
    · obtain ⟨j, hj, hp⟩ := hl; exact ih j hj hp
    · exact ⟨k, hk, fun j hj => by
        by_cases hjk : k ≤ j
        · exact hjk
        · exact absurd ⟨j, by omega, hj⟩ hl⟩

/-- What a slot owns becomes what all may read and none writes any more. -/
theorem Inv.freeze {pv : Option (Nat × Value)} {L : Nat → SV} {a : Act} {w : World} {m : Nat} {x : D} (h : Inv w0 tk n Z0 pv L a w) (hx : L m = .d x) : Inv w0 tk n Z0 pv (AS.put (AS.put L m .un) m (.d x.toImm)) a w := by
  obtain ⟨⟨Z, F, h1⟩, h2⟩ := h
  refine ⟨⟨fun b => Z b ∨ 0 < F m b, updF (updF F m fun _ => 0) m (fun _ => 0), ?_⟩, h2⟩
  have hrep := h1.rep m
  rw [hx, SRep.none rfl] at hrep
  have hlt := h1.lt_of (t := m) (by rw [hx]; simp)
  have k1 : Core w0 tk n Z0 Z (updF F m fun _ => 0) (F m) (AS.put L m .un) a w :=
    h1.set (dst := m) (s := .un) (f := fun _ => 0) (S' := F m) h1.size h1.dfr (fun _ _ => rfl) (by simp [SRep, SV.root, SRepN]) (fun b => by simp) (fun _ => rfl)
  have k2 : Core w0 tk n Z0 (fun b => Z b ∨ 0 < F m b) (updF F m fun _ => 0) (fun _ => 0) (AS.put L m .un) a w :=
    k1.step (Fr.refl _ _) (fun _ => Nat.zero_le _) (fun b hb => absurd hb (Nat.lt_irrefl 0)) (fun b hb => .inl hb) (fun b hb => hb.imp id fun hb => ⟨(h1.own b (.inr ⟨m, hb⟩)).1, .inr hb, rfl⟩)
  refine k2.set (dst := m) (s := .d x.toImm) (f := fun _ => 0) (S' := fun _ => 0) k2.size k2.dfr (fun _ _ => rfl) ?_ (fun b => by simp [updF]) (fun hn => by omega)
  rw [SRep.none rfl]
  exact RepV.toImm hrep (fun b hb => .inl hb) (fun b hb => .inr hb)

theorem Inv.forget {pv : Option (Nat × Value)} {L : Nat → SV} {a : Act} {w : World} {m : Nat} {x : D} (h : Inv w0 tk n Z0 pv L a w) (hx : L m = .d x) : Inv w0 tk n Z0 pv (AS.put (AS.put L m .un) m (.d (fgD x))) a w := by
  obtain ⟨⟨Z, F, h1⟩, h2⟩ := h
  refine ⟨⟨Z, updF (updF F m fun _ => 0) m (F m), ?_⟩, h2⟩
  have hrep := h1.rep m
  rw [hx, SRep.none rfl] at hrep
  have hlt := h1.lt_of (t := m) (by rw [hx]; simp)
  have k1 : Core w0 tk n Z0 Z (updF F m fun _ => 0) (F m) (AS.put L m .un) a w :=
    h1.set (dst := m) (s := .un) (f := fun _ => 0) (S' := F m) h1.size h1.dfr (fun _ _ => rfl) (by simp [SRep, SV.root, SRepN]) (fun b => by simp) (fun _ => rfl)
  refine k1.set (dst := m) (s := .d (fgD x)) (f := F m) (S' := fun _ => 0) k1.size k1.dfr (fun _ _ => rfl) ?_ (fun b => by simp [updF]) (fun hn => by omega)
  rw [SRep.none rfl]
  cases x with
  | nilo => exact RepV.niloSlice true hrep
  | nil => exact RepV.nilSlice false hrep
  | _ => exact hrep

theorem code_sound {pv : Option (Nat × Value)} {pz : Option Nat} (hpv : ∀ q v, pv = some (q, v) → pz = some q) : ∀ (m : MC) {c : Code} {L : Nat → SV} {Q : MX → (Nat → SV) → Prop} {a : Act} {w : World}, okC P n pz c m = true → Inv w0 tk n Z0 pv L a w → wpC P m L Q →
    c.wp P (QX w0 tk n Z0 pv Q) a w
  | .skip, c, L, Q, a, w, hok, h, hw => by
    cases c <;> simp only [okC] at hok <;> try (cases hok)
    exact wp_skip ⟨L, hw, h⟩
  | .bad, c, L, Q, a, w, hok, h, hw => hw.elim
  | .kp ks x, c, L, Q, a, w, hok, h, hw => by
    have hok' : okC P n pz c x = true := by cases c <;> exact hok
    refine wp_mono (code_sound hpv x hok' h hw) ?_
    intro e a' w' hq
    cases e with
    | normal => obtain ⟨L', h1, h2⟩ := hq; exact ⟨_, h1, h2.keep ks⟩
    | exit id => exact hq
    | ret => exact hq
    | _ => exact hq.elim
  | .fz m x, c, L, Q, a, w, hok, h, hw => by
    have hok' : okC P n pz c x = true := by cases c <;> exact hok
    obtain ⟨y, hy, hw⟩ := hw
    exact code_sound hpv x hok' (h.freeze hy) hw
  | .fzb m x, c, L, Q, a, w, hok, h, hw => by
    have hok' : okC P n pz c x = true := by cases c <;> exact hok
    obtain ⟨y, hy, hw⟩ := hw
    obtain ⟨⟨Z, F, hc⟩, hp⟩ := h
    obtain ⟨Z', F', k1, _, _⟩ := hc.freezeBox hy
    exact code_sound hpv x hok' ⟨⟨Z', F', k1⟩, hp⟩ hw
  | .fg m x, c, L, Q, a, w, hok, h, hw => by
    have hok' : okC P n pz c x = true := by cases c <;> exact hok
    obtain ⟨y, hy, hw⟩ := hw
    exact code_sound hpv x hok' (h.forget hy) hw
  | .reg ms ks, c, L, Q, a, w, hok, h, hw => by
    cases c <;> simp only [okC] at hok <;> try (cases hok)
    rename_i id ops draw
    simp only [Bool.and_eq_true, Bool.not_eq_true'] at hok
    obtain ⟨rfl, hok⟩ := hok
    exact wp_region_list (seq_sound hpv (fun L' a' w' hK hI => ⟨_, hK, hI.keep ks⟩) hok h hw)
  | .drw pre tail ks, c, L, Q, a, w, hok, h, hw => by
    cases c <;> simp only [okC] at hok <;> try (cases hok)
    rename_i id ops draw
    simp only [Bool.and_eq_true] at hok
    obtain ⟨rfl, hok⟩ := hok
    exact drw_sound hpv hok h hw (fun L' a' w' hK hI => ⟨_, hK, hI.keep ks⟩)
  | .drg pre rest ks ka gr, c, L, Q, a, w, hok, h, hw => by
    cases c <;> simp only [okC] at hok <;> try (cases hok)
    rename_i id ops draw
    simp only [Bool.and_eq_true] at hok
    obtain ⟨rfl, hok⟩ := hok
    exact drg_sound hpv hok h hw (fun L' a' w' hK hI => ⟨_, hK, hI.keep ks⟩)
  | .seq x y, c, L, Q, a, w, hok, h, hw => by
    cases c <;> simp only [okC] at hok <;> try (cases hok)
    simp only [Bool.and_eq_true] at hok
    refine wp_seq (wp_mono (code_sound hpv x hok.1 h hw) ?_)
    intro e a' w' hq
    cases e with
    | normal => obtain ⟨L', h1, h2⟩ := hq; exact code_sound hpv y hok.2 h2 h1
    | exit id => exact hq
    | ret => exact hq
    | _ => exact hq.elim
  | .cond b x y, c, L, Q, a, w, hok, h, hw => by
    cases c <;> simp only [okC] at hok <;> try (cases hok)
    simp only [Bool.and_eq_true] at hok
    obtain ⟨⟨h1, h2⟩, h3⟩ := hok
    simp only [wpC] at hw
    unfold boolW at hw
    split at hw
    · rename_i t ht
      obtain ⟨⟨Z, F, hc⟩, hp⟩ := h
      have he := hc.rdBool h1 ht
      exact wp_cond_split he (fun e => code_sound hpv x h2 ⟨⟨Z, F, hc⟩, hp⟩ (hw.1 e)) (fun e => code_sound hpv y h3 ⟨⟨Z, F, hc⟩, hp⟩ (hw.2 e))
    · exact hw.elim
  | .blk id x, c, L, Q, a, w, hok, h, hw => by
    cases c <;> simp only [okC] at hok <;> try (cases hok)
    simp only [Bool.and_eq_true, beq_iff_eq] at hok
    obtain ⟨rfl, hok⟩ := hok
    refine wp_block (wp_mono (code_sound hpv x hok h hw) ?_)
    intro e a' w' hq
    cases e with
    | normal => exact hq
    | exit id' =>
      obtain ⟨L', h1, h2⟩ := hq
      simp only [blkX] at h1
      simp only [Exit.inBlock]
      split
      · rename_i hid; rw [if_pos hid] at h1; exact ⟨L', h1, h2⟩
      · rename_i hid; rw [if_neg hid] at h1; exact ⟨L', h1, h2⟩
    | ret => exact hq
    | _ => exact hq.elim
  | .loop x, c, L, Q, a, w, hok, h, hw => by
    classical
    cases c <;> simp only [okC] at hok <;> try (cases hok)
    obtain ⟨I, m0, h0, hr⟩ := hw
    let p : Act → World → Nat → Prop := fun a w k => ∃ L, I k L ∧ Inv w0 tk n Z0 pv L a w
    let mu : Act → World → Nat := fun a w => if hx : ∃ k, p a w k then Classical.choose (nat_least hx) else 0
    have hmu : ∀ a w k, p a w k → p a w (mu a w) ∧ mu a w ≤ k := by
      intro a w k hk
      have hx : ∃ k, p a w k := ⟨k, hk⟩
      have := Classical.choose_spec (nat_least hx)
      simp only [mu, dif_pos hx]
      exact ⟨this.1, this.2 k hk⟩
    refine wp_loop (fun a w => ∃ k, p a w k) mu ⟨m0, L, h0, h⟩ ?_
    rintro a1 w1 ⟨k, hk⟩
    obtain ⟨⟨L1, hI, hinv⟩, _⟩ := hmu a1 w1 k hk
    refine wp_mono (code_sound hpv x hok hinv (hr _ _ hI)) ?_
    intro e a' w' hq
    cases e with
    | normal =>
      obtain ⟨L', ⟨m', h1, h2⟩, h3⟩ := hq
      have h4 := hmu a' w' m' ⟨L', h2, h3⟩
      exact ⟨⟨m', L', h2, h3⟩, by omega⟩
    | exit id => exact hq
    | ret => exact hq
    | _ => exact hq.elim
  | .exit id, c, L, Q, a, w, hok, h, hw => by
    cases c <;> simp only [okC] at hok <;> try (cases hok)
    simp only [beq_iff_eq] at hok
    subst hok
    exact wp_exit ⟨L, hw, h⟩
  | .ret, c, L, Q, a, w, hok, h, hw => by
    cases c <;> simp only [okC] at hok <;> try (cases hok)
    exact wp_ret ⟨L, hw, h⟩
end
end AS
set_option linter.unusedVariables false
set_option linter.unusedSimpArgs false
namespace AS
open Go

/-- Where a result comes from. -/
inductive MR where
  | t (t : Nat)
  | c (t sz : Nat) (ag : Bool)

def okR (P : Program) : ResultVar → MR → Bool
  | .tmp t, .t t' => t == t'
  | .cell a t, .c a' sz ag => a == a' && okLd P t sz ag
  | _, _ => false
def okRs (P : Program) : List ResultVar → List MR → Bool
  | [], [] => true
  | x :: l, y :: m => okR P x y && okRs P l m
  | _, _ => false

def resTake (T : Nat → SV) : MR → Option (D × (Nat → SV))
  | .t t => srcTake T (.t t)
  | .c t sz ag => match T t with
    | .box x => if x.size = sz ∧ x.isAgg = ag then some (x, put T t .un) else none
    | _ => none
def resTakes (T : Nat → SV) : List MR → Option (List D × (Nat → SV))
  | [] => some ([], T)
  | x :: l => (resTake T x).bind fun a => (resTakes a.2 l).map fun b => (a.1 :: b.1, b.2)

/-- How a parameter stands in its slot. -/
def entSV : D → SV
  | .ptr true x => .box x
  | .ptr false x => .ima x
  | .int k n => .d (.int k n)
  | .bool b => .d (.bool b)
  | .str s => .d (.str s)
  | .nil => .d .nil
  | .nilo => .d .nilo
  | .hole => .d .hole
  | .slice o l => .d (.slice o l)
  | .agg l => .d (.agg l)
  | .fn g l => .d (.fn g l)
def initL : Nat → List D → TL
  | _, [] => []
  | k, x :: l => (k, entSV x) :: initL (k + 1) l

/-- What must hold at the end. -/
def resW (rs : List MR) (out : Option (Nat × D)) (res : List D) (L : Nat → SV) : Prop := match resTakes L rs with
  | some (ds, T) => ds = res ∧ match out with
    | none => True
    | some (q, y) => T q = entSV y
  | none => False

def endX (K : (Nat → SV) → Prop) : MX → (Nat → SV) → Prop
  | .nrm, L => K L
  | .ret, L => K L
  | .ext _, _ => False

section
variable {P : Program} {w0 : World} {tk : FP} {n : Nat} {Z0 Z : Nat → Prop} {F : Nat → FP} {T : Nat → SV} {a : Act} {w : World} {o : Oper}

theorem ofL_initL : ∀ (l : List D) (k t : Nat), ofL (initL k l) t = if h : k ≤ t ∧ t - k < l.length then entSV (l[t - k]'h.2) else .un
  | [], k, t => by simp [initL, ofL]
  | x :: l, k, t => by
    simp only [initL, ofL, ofL_initL l (k + 1) t]
    by_cases h : t = k
    · subst h; simp
    · rw [if_neg h]
      by_cases h2 : k ≤ t ∧ t - k < (x :: l).length
      · have h3 : k + 1 ≤ t ∧ t - (k + 1) < l.length := ⟨by omega, by have := h2.2; simp at this; omega⟩
        rw [dif_pos h2, dif_pos h3]
        have e : t - k = (t - (k + 1)) + 1 := by omega
        simp [e]
      · have h3 : ¬ (k + 1 ≤ t ∧ t - (k + 1) < l.length) := by
          intro h3; apply h2; refine ⟨by omega, ?_⟩; simp; omega
        rw [dif_neg h2, dif_neg h3]

/-- The footprints of a list of values, one by one. -/
theorem RepVs.parts {w : World} {Z : Nat → Prop} : ∀ {l : List D} {vs : List Value} {f : FP}, RepVs w Z l vs f → ∃ fs : Nat → FP,
    vs.length = l.length ∧ (∀ i (h : i < l.length), RepV w Z l[i] (vs.getD i undef) (fs i)) ∧ (∀ i, l.length ≤ i → ∀ b, fs i b = 0) ∧ (∀ i b, fs i b ≤ f b) ∧ (∀ i j b, i ≠ j → fs i b + fs j b ≤ f b) ∧ (∀ b, f b = 0 ∨ ∃ i, 0 < fs i b)
  | [], vs, f, h => by
    obtain ⟨rfl, h2⟩ := h
    exact ⟨fun _ _ => 0, rfl, fun i h => by simp at h, fun _ _ _ => rfl, fun _ _ => Nat.zero_le _, fun _ _ _ _ => Nat.zero_le _, fun b => .inl (h2 b)⟩
  | x :: l, vs, f, h => by
    obtain ⟨v, vs2, f1, f2, rfl, h2, h3, h4⟩ := h
    obtain ⟨fs, k1, k2, k3, k4, k5, k6⟩ := RepVs.parts h4
    refine ⟨fun i => match i with | 0 => f1 | i + 1 => fs i, by simp [k1], ?_, ?_, ?_, ?_, ?_⟩
    · intro i hi
      cases i with
      | zero => simpa using h3
      | succ i => have := k2 i (by simpa using hi); simpa using this
    · intro i hi b
      cases i with
      | zero => simp at hi
      | succ i => exact k3 i (by simpa using hi) b
    · intro i b
      cases i with
      | zero => have := h2 b; dsimp only; omega
      | succ i => have := h2 b; have := k4 i b; dsimp only; omega
    · intro i j b hne
      cases i with
      | zero => cases j with
        | zero => exact absurd rfl hne
        | succ j => have := h2 b; have := k4 j b; dsimp only; omega
      | succ i => cases j with
        | zero => have := h2 b; have := k4 i b; dsimp only; omega
        | succ j => have := h2 b; have := k5 i j b (by omega); dsimp only; omega
    · intro b
      by_cases h0 : f1 b = 0
      · rcases k6 b with h | ⟨i, hi⟩
        · left; have := h2 b; omega
        · exact .inr ⟨i + 1, hi⟩
      · exact .inr ⟨0, by dsimp only; omega⟩

theorem entSV_root (x : D) : (entSV x).root = none := by
  cases x with
  | ptr o x => cases o <;> rfl
  | _ => rfl

theorem entSV_rep {w : World} {Z : Nat → Prop} {v : Value} {x : D} {f : FP} : SRepN w Z v (entSV x) f ↔ RepV w Z x v f := by
  cases x with
  | ptr o x =>
    have hv : ∀ {g off : Nat}, v.cells.toList = [.pointer (some ⟨g, off, none⟩)] → vAgg v = false → v = .pointer (some ⟨g, off, none⟩) := fun h1 h2 => cells_single h2 h1
    cases o with
    | true =>
      simp only [entSV, SRepN, RepV, RepX, D.isAgg]
      constructor
      · rintro ⟨g, cur, e, f1, rfl, h2, h3, h4⟩
        exact ⟨rfl, g, 0, cur.toList, f1, by simp [Value.cells], h3, .inr ⟨by simp, rfl, h4, cur, e, h2, rfl⟩⟩
      · rintro ⟨h1, g, off, c, f1, h2, h3, h4⟩
        rcases h4 with ⟨q, _⟩ | ⟨_, rfl, h5, cur, e, h6, rfl⟩
        · cases q
        · exact ⟨g, cur, e, f1, hv h2 h1, h6, h3, h5⟩
    | false =>
      simp only [entSV, SRepN, RepV, RepX, D.isAgg]
      constructor
      · rintro ⟨h0, g, off, c, rfl, h2, h3, h4⟩
        exact ⟨rfl, g, off, c, fun _ => 0, by simp [Value.cells], h4, .inl ⟨by simp, h2, h0, by simp, h3⟩⟩
      · rintro ⟨h1, g, off, c, f1, h2, h3, h4⟩
        rcases h4 with ⟨_, h5, h6, h7, h8⟩ | ⟨q, _⟩
        · exact ⟨h6, g, off, c, hv h2 h1, h5, h8, h3.congr (fun b => by rw [h7])⟩
        · cases q
  | _ => exact Iff.rfl

theorem Core.init {ds : List D} {vs : List Value} {f : FP} (h : RepVs w Z ds vs f) (h1 : ∀ b, f b ≤ 1) (h2 : ∀ b, 0 < f b → b < w.heap.size) (h3 : ∀ b, Z b → b < w.heap.size ∧ f b = 0) (htz : TZ w Z) (hn : ds.length ≤ n) :
    ∃ F, Core w f n Z Z F (fun _ => 0) (ofL (initL 0 ds)) { tmps := vs.toArray ++ Array.replicate (n - vs.toArray.size) undef, defers := [] } w := by
  obtain ⟨fs, k1, k2, k3, k4, k5, k6⟩ := h.parts
  have htm : ∀ i, i < ds.length → tmOf { tmps := vs.toArray ++ Array.replicate (n - vs.toArray.size) undef, defers := [] } i = vs.getD i undef := by
    intro i hi
    simp [tmOf, Array.getElem?_append, k1, hi, List.getD_eq_getElem?_getD]
  refine ⟨fs, by simp; omega, rfl, ?_, ?_, ?_, ?_, ?_, ?_, fun _ h => h, fun _ h => .inl h, Fr.refl _ _, htz⟩
  · intro t
    rw [ofL_initL]
    by_cases ht : t < ds.length
    · rw [dif_pos ⟨Nat.zero_le _, by simpa using ht⟩, SRep.none (entSV_root _)]
      simp only [Nat.sub_zero]
      rw [htm t ht]
      exact entSV_rep.2 (k2 t ht)
    · rw [dif_neg (by simpa using ht), SRep.none rfl]
      exact k3 t (by omega)
  · intro t ht
    rw [ofL_initL, dif_neg]
    simp; omega
  · intro t t' b hne
    have := k5 t t' b hne; have := h1 b; omega
  · intro t b
    have := k4 t b; have := h1 b; omega
  · intro b hb
    exact ⟨(h3 b hb).1, rfl, fun t => by have := k4 t b; have := (h3 b hb).2; omega⟩
  · intro b hb
    rcases hb with hb | ⟨t, ht⟩
    · simp at hb
    · have := k4 t b
      exact ⟨h2 b (by omega), .inr (by omega)⟩

def resVal (tmps : Array Value) : ResultVar → Sem Value
  | .tmp t => pure (tmps.getD t undef)
  | .cell ad t => do loadVar t (← asAddr (tmps.getD ad undef))

theorem results_eq (fn : Func) (tmps : Array Value) : results fn tmps = (fn.results.mapM (resVal tmps) >>= fun vs => pure (if h : vs.size = 1 then vs[0] else .tuple vs)) := by
  have e : (fun r : ResultVar => (match r with | .tmp t => pure (tmps.getD t undef) | .cell a t => do loadVar t (← asAddr (tmps.getD a undef)) : Sem Value)) = resVal tmps := by
    funext r; cases r <;> rfl
  unfold results
  rw [← e]
  rfl

theorem resTake_rep {S : FP} (h : Core w0 tk n Z0 Z F S T a w) {r : ResultVar} {m : MR} (ho : okR P r m = true) {y : D} {T' : Nat → SV} (hs : resTake T m = some (y, T')) :
    ∃ (F' : Nat → FP) (f : FP) (v : Value), Core w0 tk n Z0 Z F' (fun b => S b + f b) T' a w ∧ RepV w Z y v f ∧
      (resVal a.tmps r).run P w = .ok v w := by
  cases m with
  | t t =>
    cases r <;> simp only [okR] at ho <;> try (cases ho)
    rename_i t'
    simp only [beq_iff_eq] at ho
    subst ho
    obtain ⟨F', f, h1, h2⟩ := h.src (x := .tmp t') (x' := .t t') (by simp [okOpd]) hs
    exact ⟨F', f, _, h1, h2, by simp [resVal, Act.eval]⟩
  | c t sz ag =>
    cases r <;> simp only [okR] at ho <;> try (cases ho)
    rename_i ad ty
    simp only [Bool.and_eq_true, beq_iff_eq] at ho
    obtain ⟨hadt, hld⟩ := ho
    subst hadt
    simp only [resTake] at hs
    split at hs
    · rename_i x hT
      split at hs
      · rename_i hsz
        simp only [Option.some.injEq, Prod.mk.injEq] at hs
        obtain ⟨rfl, rfl⟩ := hs
        have hrep := h.rep ad
        rw [hT, SRep.none rfl] at hrep
        obtain ⟨g, cur, e, f1, q1, q2, q3, q4⟩ := hrep
        have hl := RepX.len _ q3
        obtain ⟨v, hv1, hv2, hv3⟩ := run_loadAt (P := P) (w := w) (g := g) (o := 0) (c := cur.toList) hld (by rw [hl, hsz.1]) (RepX.oneCell _ q3) (fun j u hu => by
          simp only [World.cell?, q2]; simpa using hu)
        refine ⟨_, f1, v, h.set (dst := ad) (s := .un) (f := fun _ => 0) (S' := fun b => S b + f1 b) h.size h.dfr (fun _ _ => rfl) (by simp [SRep, SV.root, SRepN]) (fun b => by have := q4 b; omega) (fun _ => rfl), ?_, ?_⟩
        · exact ⟨by rw [hv3, hsz.2], by rw [hv2]; exact q3⟩
        · have he : a.tmps.getD ad undef = .pointer (some ⟨g, 0, none⟩) := q1
          simp only [resVal, he]
          simpa [Instr.loadAt, Instr.sureAddr, asAddr] using hv1
      · cases hs
    · cases hs

theorem resTakes_rep {S : FP} (h : Core w0 tk n Z0 Z F S T a w) : ∀ {rs : List ResultVar} {ms : List MR}, okRs P rs ms = true → ∀ {ds : List D} {T' : Nat → SV}, resTakes T ms = some (ds, T') →
    ∃ (F' : Nat → FP) (f : FP) (vals : List Value), Core w0 tk n Z0 Z F' (fun b => S b + f b) T' a w ∧ RepVs w Z ds vals f ∧
      (rs.mapM (resVal a.tmps)).run P w = .ok vals w := by
  intro rs
  induction rs generalizing F S T with
  | nil =>
    intro ms ho ds T' ht
    cases ms with
    | nil =>
      simp only [resTakes, Option.some.injEq, Prod.mk.injEq] at ht
      obtain ⟨rfl, rfl⟩ := ht
      exact ⟨F, fun _ => 0, [], h, ⟨rfl, fun _ => rfl⟩, rfl⟩
    | cons => simp [okRs] at ho
  | cons r rs ih =>
    intro ms ho ds T' ht
    cases ms with
    | nil => simp [okRs] at ho
    | cons m ms =>
      simp only [okRs, Bool.and_eq_true] at ho
      simp only [resTakes] at ht
      cases hs : resTake T m with
      | none => simp [hs] at ht
      | some p =>
        obtain ⟨y1, T1⟩ := p
        cases hts : resTakes T1 ms with
        | none => simp [hs, hts] at ht
        | some q =>
          obtain ⟨ds1, T2⟩ := q
          simp only [hs, hts, Option.bind_some, Option.map_some, Option.some.injEq, Prod.mk.injEq] at ht
          obtain ⟨rfl, rfl⟩ := ht
          obtain ⟨F1, f1, v, h1, r1, q1⟩ := resTake_rep h ho.1 hs
          obtain ⟨F2, f2, vals, h2, r2, q2⟩ := ih h1 ho.2 hts
          refine ⟨F2, fun b => f1 b + f2 b, v :: vals, h2.less fun b => Nat.le_of_eq (Nat.add_assoc _ _ _).symm, ⟨v, vals, f1, f2, rfl, fun _ => rfl, r1, r2⟩, ?_⟩
          rw [List.mapM_cons, Sem.run_bind, q1, Result.andThen_ok, Sem.run_bind, q2, Result.andThen_ok]
          rfl

theorem RepVs.tup {w : World} {Z : Nat → Prop} : ∀ {l : List D} {vs : List Value} {f : FP}, RepVs w Z l vs f → TupRep w Z (l.map some) vs f
  | [], _, _, h => h
  | x :: l, _, _, h => by
    obtain ⟨v, vs2, f1, f2, rfl, h2, h3, h4⟩ := h
    exact ⟨v, vs2, f1, f2, rfl, h2, h3, RepVs.tup h4⟩

theorem ResRep.of {w : World} {Z : Nat → Prop} {l : List D} {vs : List Value} {f : FP} (h : RepVs w Z l vs f) : ResRep w Z (if h : vs.toArray.size = 1 then vs.toArray[0] else .tuple vs.toArray) l f := by
  match l, vs, h with
  | [], vs, h => exact h.2
  | [x], vs, h =>
    obtain ⟨v, vs2, f1, f2, rfl, h2, h3, h4, h5⟩ := h
    subst h4
    simp only [List.size_toArray, List.length_singleton, dite_true]
    exact h3.congr fun b => by rw [h2, h5]; rfl
  | x :: y :: l, vs, h =>
    have := h.tup
    obtain ⟨v, vs2, f1, f2, rfl, h2, h3, v', vs3, f3, f4, rfl, h4⟩ := h
    exact ⟨(v :: v' :: vs3).toArray, by simp, this⟩

def outF (F : Nat → FP) : Option (Nat × D) → FP
  | none => fun _ => 0
  | some (q, _) => F q

def outsOf : Option (Nat × D) → List (Nat × D)
  | none => []
  | some (q, y) => [(q, y)]
def outQ : Option (Nat × D) → Option Nat
  | none => none
  | some (q, _) => some q
def outV (tm : Nat → Value) : Option (Nat × D) → Option (Nat × Value)
  | none => none
  | some (q, _) => some (q, tm q)

theorem con_of {f : Nat} {fn : Func} {c : Code} {m : MC} {rs : List MR} {ds res : List D} {out : Option (Nat × D)} (hf : P.funcs[f]? = some fn) (hb : fn.body = some c) (hname : (fn.name == "runtime.NumGoroutine") = false)
    (hn : ds.length ≤ fn.ntmps) (hout : ∀ q y, out = some (q, y) → q < ds.length) (hok : okC P fn.ntmps (outQ out) c m = true) (hrs : okRs P fn.results.toList rs = true) (hw : wpC P m (ofL (initL 0 ds)) (endX (resW rs out res))) :
    Con P f ds (outsOf out) res := by
  refine ⟨⟨fn, c, hf, hb, hname⟩, ?_⟩
  intro w Z vs F hrep h1 h2 h3 htz
  refine calls_of_wp hf hb ?_
  obtain ⟨F0, h0⟩ := Core.init hrep h1 h2 h3 htz hn
  have hfin : ∀ (a : Act) (w' : World) (L : Nat → SV), resW rs out res L → Inv w F fn.ntmps Z (outV (tmOf { tmps := vs.toArray ++ Array.replicate (fn.ntmps - vs.toArray.size) undef, defers := [] }) out) L a w' →
      a.defers = [] ∧ ∃ v, (results fn a.tmps).run P w' = .ok v w' ∧ ∃ (v' : Value) (Z' : Nat → Prop) (G H : FP), Ending.returned v = .returned v' ∧ Returns w Z F vs (outsOf out) res v' w' Z' G H := by
    rintro a w' L hres ⟨⟨Z', F', hc⟩, hpv⟩
    refine ⟨hc.dfr, ?_⟩
    simp only [resW] at hres
    split at hres
    · rename_i ds' T' htk
      obtain ⟨rfl, hres⟩ := hres
      obtain ⟨F2, f2, vals, k1, k2, k3⟩ := resTakes_rep hc hrs htk
      refine ⟨(if h : vals.toArray.size = 1 then vals.toArray[0] else .tuple vals.toArray), ?_, _, Z', f2, outF F2 out, rfl, ?_⟩
      · rw [results_eq, Sem.run_bind, Array.mapM_eq_mapM_toList]
        have hb : ∀ (s : Sem (List Value)), (List.toArray <$> s) = (s >>= fun x => pure x.toArray) := fun _ => rfl
        rw [hb, Sem.run_bind, k3]
        rfl
      · refine ⟨ResRep.of k2, ?_, ?_, ?_, k1.zz, ?_, ?_, k1.fr⟩
        · cases out with
          | none => exact fun _ => rfl
          | some qy =>
            obtain ⟨q, y⟩ := qy
            have hT : T' q = entSV y := hres
            have hr := k1.rep q
            rw [hT, SRep.none (entSV_root _)] at hr
            have hv := hpv q _ rfl
            have hvl : vs.length = ds.length := hrep.cells.2.1
            have hpos : q < vs.length := by rw [hvl]; exact hout q y rfl
            refine ⟨tmOf a q, F2 q, fun _ => 0, ?_, fun b => by simp [outF], entSV_rep.1 hr, fun _ => rfl⟩
            rw [hv]
            simp [tmOf, Array.getElem?_append, hpos]
        · intro b
          cases out with
          | none => have h4 := k1.one 0 b; simp only [outF]; omega
          | some qy => obtain ⟨q, y⟩ := qy; have h4 := k1.one q b; simp only [outF]; omega
        · intro b hb
          refine k1.own b ?_
          by_cases hf2 : 0 < f2 b
          · left; omega
          · right
            cases out with
            | none => simp only [outF] at hb; omega
            | some qy => obtain ⟨q, y⟩ := qy; exact ⟨q, by simp only [outF] at hb; omega⟩
        · intro b hb
          rcases k1.zn b hb with h4 | h4
          · exact .inl h4
          · exact .inr ⟨(k1.zf b hb).1, h4⟩
        · intro b hb
          have h4 := k1.zf b hb
          cases out with
          | none => simp only [outF]; omega
          | some qy => obtain ⟨q, y⟩ := qy; have := h4.2.2 q; simp only [outF]; omega
    · exact hres.elim
  refine wp_mono (code_sound (pv := outV (tmOf { tmps := vs.toArray ++ Array.replicate (fn.ntmps - vs.toArray.size) undef, defers := [] }) out) (pz := outQ out)
    (fun q v h => by
      cases out with
      | none => cases h
      | some qy => cases h; rfl) m hok ⟨⟨Z, F0, h0⟩, fun q v hv => by
      cases out with
      | none => cases hv
      | some qy => cases hv; rfl⟩ hw) ?_
  intro e a w' hq
  cases e with
  | normal =>
    obtain ⟨L, h4, h5⟩ := hq
    exact hfin a w' L h4 h5
  | ret =>
    obtain ⟨L, h4, h5⟩ := hq
    exact hfin a w' L h4 h5
  | exit id =>
    obtain ⟨L, h4, h5⟩ := hq
    exact h4.elim
  | _ => exact hq.elim
end
end AS
set_option linter.unusedVariables false
set_option linter.unusedSimpArgs false
namespace AS
open Go

theorem ofL_nil (n : Nat) : ofL [] n = .un := rfl
theorem ofL_cons (t : Nat) (s : SV) (L : TL) (n : Nat) : ofL ((t, s) :: L) n = if n = t then s else ofL L n := rfl
theorem dec_ne_true {a b : Nat} (h : (decide ¬(a : Int) = (b : Int)) = true) : a ≠ b := by
  intro e; subst e; simp at h
theorem dec_ne_false {a b : Nat} (h : (decide ¬(a : Int) = (b : Int)) = false) : a = b := by
  simp only [decide_eq_false_iff_not, Decidable.not_not] at h; omega

theorem eqn_split {l : List D} {b : Bool} {K : SV → Prop} (h1 : l = [] → K (.d (.bool !b))) (h0 : K (.d (.bool b))) : (l ≠ [] → K (.d (.bool b))) ∧ (l = [] → K (.d (.bool true)) ∧ K (.d (.bool false))) :=
  ⟨fun _ => h0, fun e => by cases b <;> exact ⟨by first | exact h1 e | exact h0, by first | exact h1 e | exact h0⟩⟩

section
variable {P : Program} {a b : MC} {T : Nat → SV} {Q : MX → (Nat → SV) → Prop}

theorem wpC_seq (h : wpC P a T (thenX (fun T' => wpC P b T' Q) Q)) : wpC P (.seq a b) T Q := h
theorem wpC_reg {ms : List MOp} {ks : List Nat} (h : ∀ K : (Nat → SV) → Prop, (∀ T', Q .nrm (ofL (keepL T' ks ks)) → K T') → seqW P ms T K) : wpC P (.reg ms ks) T Q := h _ (fun _ h => h)
theorem wpC_drw {pre : List PO} {tail : List (Nat × MOp)} {ks : List Nat} (h : ∀ K : (Nat → SV) → Prop, (∀ T', (∀ K2 : (Nat → SV) → Prop, (∀ T', Q .nrm (ofL (keepL T' ks ks)) → K2 T') → seqW P (tail.map (·.2)) T' K2) → K T') → preW P pre T K) : wpC P (.drw pre tail ks) T Q :=
  h _ (fun _ h => h _ (fun _ h => h))
theorem wpC_cond {c : Opd} {e : Bool} (hc : rd T c = some (.bool e)) (ht : e = true → wpC P a T Q) (hf : e = false → wpC P b T Q) : wpC P (.cond c a b) T Q := by
  simp only [wpC, boolW, hc]; exact ⟨ht, hf⟩
theorem seqW_k {m : MOp} {ms : List MOp} {K : (Nat → SV) → Prop} (h : ∀ K' : (Nat → SV) → Prop, (∀ T', seqW P ms T' K → K' T') → opG P m T K') : seqW P (m :: ms) T K := h _ (fun _ h => h)
theorem seqW_nil {K : (Nat → SV) → Prop} (h : K T) : seqW P [] T K := h
/-- One of a head: what it reads is fixed. -/
def preG (P : Program) (p : PO) (T : Nat → SV) (K : (Nat → SV) → Prop) : Prop := match p.m.dst with
  | none => False
  | some d => T d = .un ∧ match p.m.g with
    | none => evP P (hideT T p.hid) p.m.k fun s => safeR s p.hid d = true ∧ K (extT T d s)
    | some (g, b) => guardW (hideT T p.hid g) b (evP P (hideT T p.hid) p.m.k fun s => safeR s p.hid d = true ∧ K (extT T d s)) (K (extT T d (.tup [])))
theorem preW_k {p : PO} {ps : List PO} {K : (Nat → SV) → Prop} (h : ∀ K' : (Nat → SV) → Prop, (∀ T', preW P ps T' K → K' T') → preG P p T K') : preW P (p :: ps) T K := h _ (fun _ h => h)
theorem preW_nil {K : (Nat → SV) → Prop} (h : K T) : preW P [] T K := h
theorem reg_s {ms : List MOp} {ks : List Nat} (h : seqW P ms T fun T' => Q .nrm (ofL (keepL T' ks ks))) : wpC P (.reg ms ks) T Q := h
theorem drw_s {pre : List PO} {tail : List (Nat × MOp)} {ks : List Nat} (h : preW P pre T fun L1 => seqW P (tail.map (·.2)) L1 fun T' => Q .nrm (ofL (keepL T' ks ks))) : wpC P (.drw pre tail ks) T Q := h
theorem wpC_skip (h : Q .nrm T) : wpC P .skip T Q := h
theorem wpC_exit {id : Nat} (h : Q (.ext id) T) : wpC P (.exit id) T Q := h
theorem wpC_ret (h : Q .ret T) : wpC P .ret T Q := h
theorem wpC_kp {ks : List Nat} (h : wpC P a T (thenX (fun L' => Q .nrm (ofL (keepL L' ks ks))) Q)) : wpC P (.kp ks a) T Q := h
theorem wpC_blk {id : Nat} (h : wpC P a T (blkX id Q)) : wpC P (.blk id a) T Q := h
theorem wpC_loop {σ : Type} (st : σ → Nat → SV) (ok : σ → Prop) (mu : σ → Nat) (s0 : σ) (h0 : T = st s0) (hok : ok s0)
    (step : ∀ s, ok s → wpC P a (st s) (thenX (fun T' => ∃ s', T' = st s' ∧ ok s' ∧ mu s' < mu s) Q)) : wpC P (.loop a) T Q := by
  refine ⟨fun m T' => ∃ s, T' = st s ∧ ok s ∧ mu s = m, mu s0, ⟨s0, h0, hok, rfl⟩, ?_⟩
  rintro m T' ⟨s, rfl, h1, rfl⟩
  have := step s h1
  have e : (thenX (fun T' => ∃ s', T' = st s' ∧ ok s' ∧ mu s' < mu s) Q) = (thenX (fun L'' => ∃ m', m' < mu s ∧ ∃ s', L'' = st s' ∧ ok s' ∧ mu s' = m') Q) := by
    funext e T'
    cases e with
    | nrm =>
      apply propext
      constructor
      · rintro ⟨s', h2, h3, h4⟩; exact ⟨_, h4, s', h2, h3, rfl⟩
      · rintro ⟨m', h4, s', h2, h3, rfl⟩; exact ⟨s', h2, h3, h4⟩
    | ext id => rfl
    | ret => rfl
  rw [← e]; exact this
end
end AS
