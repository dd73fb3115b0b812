/- A calculus of values over the block heap, first part: representations, ways, operations. No condition. -/
import Derived.WalkKit
import Derived.Laws.MakeOwn
import Derived.Laws.NewBlocks
import Derived.WalkSpells
import Derived.Laws.BytesString
set_option linter.unusedVariables false
set_option linter.unusedSimpArgs false
set_option linter.unusedVariables false
set_option linter.unusedSimpArgs false
namespace AS
open Go

abbrev FP := Nat → Nat
/-- The table of the powers of ten, as the law's row lays it: the block of the variable internal/strconv.uint64pow10 lies in the zone. -/
def GB : Nat := 1
def tabA : Array Value := ((List.range 20).map fun i => Value.int .u64 ((10 ^ i : Nat) : Int)).toArray
def TZ (w : World) (Z : Nat → Prop) : Prop := Z GB ∧ ∃ (e : TypeId) (fr : Nat × Nat), w.heap[GB]? = some (.cells tabA e fr)
theorem TZ.mono {w w' : World} {Z Z' : Nat → Prop} (hz : ∀ b, Z b → Z' b ∧ w'.heap[b]? = w.heap[b]?) (h : TZ w Z) : TZ w' Z' := by
  obtain ⟨h1, e, fr, h2⟩ := h
  exact ⟨(hz GB h1).1, e, fr, by rw [(hz GB h1).2]; exact h2⟩
theorem TZ.le {w : World} {Z Z' : Nat → Prop} (h : TZ w Z) (hz : ∀ b, Z b → Z' b) : TZ w Z' := TZ.mono (fun b hb => ⟨hz b hb, rfl⟩) h

inductive D where
  | int (k : IntKind) (n : Int)
  | bool (b : Bool)
  | str (s : List UInt8)
  | nil
  | hole
  | nilo
  | slice (o : Bool) (l : List D)
  | agg (l : List D)
  | ptr (o : Bool) (x : D)
  | fn (g : Nat) (caps : List D)
  deriving Inhabited

mutual
def D.size : D → Nat
  | .agg l => D.sizes l
  | .int _ _ => 1
  | .bool _ => 1
  | .str _ => 1
  | .nil => 1
  | .nilo => 1
  | .hole => 1
  | .slice _ _ => 1
  | .ptr _ _ => 1
  | .fn _ _ => 1
def D.sizes : List D → Nat
  | [] => 0
  | x :: l => D.size x + D.sizes l
end

def D.isAgg : D → Bool
  | .agg _ => true
  | _ => false

def vAgg : Value → Bool
  | .agg _ => true
  | _ => false

mutual
def RepX (w : World) (Z : Nat → Prop) : D → List Value → FP → Prop
  | .int k n, cs, f => cs = [.int k n] ∧ ∀ b, f b = 0
  | .bool x, cs, f => cs = [.bool x] ∧ ∀ b, f b = 0
  | .str s, cs, f => cs = [.string ⟨s.toArray⟩] ∧ s.length ≤ maxLen ∧ ∀ b, f b = 0
  | .nil, cs, f => cs = [.slice none 0 0] ∧ ∀ b, f b = 0
  | .nilo, cs, f => cs = [.slice none 0 0] ∧ ∀ b, f b = 0
  | .hole, cs, f => (∃ v : Value, cs = [v] ∧ v.oneCell' = true) ∧ ∀ b, f b = 0
  | .slice o l, cs, f =>
    (l = [] ∧ (∀ b, f b = 0) ∧ ∃ (a : Option Addr) (cap : Nat), cs = [.slice a 0 cap] ∧ cap ≤ maxLen ∧ (a = none → cap = 0) ∧ (o = true → cap = 0)) ∨
    (l ≠ [] ∧ ∃ (g off cap : Nat) (xs : List Value) (sz : Nat) (f1 : FP),
      cs = [.slice (some ⟨g, off, none⟩) l.length cap] ∧ cap ≤ maxLen ∧ l.length ≤ cap ∧ xs.length = l.length * sz ∧ (∀ x ∈ l, x.size = sz) ∧
      RepXs w Z l xs f1 ∧
      ((o = false ∧ Z g ∧ (∀ b, f b = 0) ∧ (∀ b, f1 b = 0) ∧ ∀ j u, xs[j]? = some u → w.cell? ⟨g, off + j, none⟩ = some u) ∨
       (o = true ∧ off = 0 ∧ (∀ b, f b = (if b = g then 1 else 0) + f1 b) ∧
        ∃ (cur : Array Value) (e : TypeId), w.heap[g]? = some (.cells cur e (0, 0)) ∧ cur.size = cap * sz ∧ cur.toList.take (l.length * sz) = xs)))
  | .agg l, cs, f => RepXs w Z l cs f
  | .ptr o x, cs, f => ∃ (g off : Nat) (c : List Value) (f1 : FP), cs = [.pointer (some ⟨g, off, none⟩)] ∧ RepX w Z x c f1 ∧
      ((o = false ∧ Z g ∧ (∀ b, f b = 0) ∧ (∀ b, f1 b = 0) ∧ ∀ j u, c[j]? = some u → w.cell? ⟨g, off + j, none⟩ = some u) ∨
       (o = true ∧ off = 0 ∧ (∀ b, f b = (if b = g then 1 else 0) + f1 b) ∧ ∃ (cur : Array Value) (e : TypeId), w.heap[g]? = some (.cells cur e (0, 0)) ∧ cur.toList = c))
  | .fn g caps, cs, f => ∃ cp : Array Value, cs = [.func (.func g) #[] cp] ∧ (∀ x ∈ caps, x.size = 1) ∧ RepXs w Z caps cp.toList f
def RepXs (w : World) (Z : Nat → Prop) : List D → List Value → FP → Prop
  | [], cs, f => cs = [] ∧ ∀ b, f b = 0
  | x :: l, cs, f => ∃ (c1 c2 : List Value) (f1 f2 : FP), cs = c1 ++ c2 ∧ (∀ b, f b = f1 b + f2 b) ∧ RepX w Z x c1 f1 ∧ RepXs w Z l c2 f2
end

/-- A value as a whole (an aggregate is one value of several cells). -/
def RepV (w : World) (Z : Nat → Prop) (x : D) (v : Value) (f : FP) : Prop := vAgg v = x.isAgg ∧ RepX w Z x v.cells.toList f

def RepVs (w : World) (Z : Nat → Prop) : List D → List Value → FP → Prop
  | [], vs, f => vs = [] ∧ ∀ b, f b = 0
  | x :: l, vs, f => ∃ (v : Value) (vs2 : List Value) (f1 f2 : FP), vs = v :: vs2 ∧ (∀ b, f b = f1 b + f2 b) ∧ RepV w Z x v f1 ∧ RepVs w Z l vs2 f2

theorem fp_ext {f g : FP} (h : ∀ b, f b = g b) : f = g := funext h

theorem RepX.congr {w : World} {Z : Nat → Prop} {x : D} {cs : List Value} {f g : FP} (h : RepX w Z x cs f) (e : ∀ b, g b = f b) : RepX w Z x cs g := by
  rw [fp_ext e]; exact h
theorem RepXs.congr {w : World} {Z : Nat → Prop} {x : List D} {cs : List Value} {f g : FP} (h : RepXs w Z x cs f) (e : ∀ b, g b = f b) : RepXs w Z x cs g := by
  rw [fp_ext e]; exact h
theorem RepV.congr {w : World} {Z : Nat → Prop} {x : D} {v : Value} {f g : FP} (h : RepV w Z x v f) (e : ∀ b, g b = f b) : RepV w Z x v g := by
  rw [fp_ext e]; exact h

mutual
theorem RepX.len {w : World} {Z : Nat → Prop} : ∀ (x : D) {cs : List Value} {f : FP}, RepX w Z x cs f → cs.length = x.size
  | .int _ _, _, _, h => by simp only [RepX] at h; simp [h.1, D.size]
  | .bool _, _, _, h => by simp only [RepX] at h; simp [h.1, D.size]
  | .str _, _, _, h => by simp only [RepX] at h; simp [h.1, D.size]
  | .nil, _, _, h => by simp only [RepX] at h; simp [h.1, D.size]
  | .nilo, _, _, h => by simp only [RepX] at h; simp [h.1, D.size]
  | .hole, _, _, h => by simp only [RepX] at h; obtain ⟨⟨v, rfl, _⟩, _⟩ := h; simp [D.size]
  | .slice _ _, _, _, h => by
    simp only [RepX] at h
    rcases h with ⟨_, _, _, _, h, _⟩ | ⟨_, _, _, _, _, _, _, h, _⟩ <;> simp [h, D.size]
  | .agg l, _, _, h => by simp only [RepX] at h; simp only [D.size]; exact RepXs.len l h
  | .ptr _ _, _, _, h => by simp only [RepX] at h; obtain ⟨_, _, _, _, h, _⟩ := h; simp [h, D.size]
  | .fn _ _, _, _, h => by simp only [RepX] at h; obtain ⟨_, h, _⟩ := h; simp [h, D.size]
theorem RepXs.len {w : World} {Z : Nat → Prop} : ∀ (l : List D) {cs : List Value} {f : FP}, RepXs w Z l cs f → cs.length = D.sizes l
  | [], _, _, h => by simp only [RepXs] at h; simp [h.1, D.sizes]
  | x :: l, _, _, h => by
    simp only [RepXs] at h
    obtain ⟨c1, c2, f1, f2, rfl, _, h1, h2⟩ := h
    simp only [List.length_append, D.sizes, RepX.len x h1, RepXs.len l h2]
end

mutual
theorem RepX.mono {w w' : World} {Z Z' : Nat → Prop} (hz : ∀ b, Z b → Z' b ∧ w'.heap[b]? = w.heap[b]?) :
    ∀ (x : D) {cs : List Value} {f : FP}, (∀ b, 0 < f b → w'.heap[b]? = w.heap[b]?) → RepX w Z x cs f → RepX w' Z' x cs f
  | .int _ _, _, _, _, h => by simp only [RepX] at h ⊢; exact h
  | .bool _, _, _, _, h => by simp only [RepX] at h ⊢; exact h
  | .str _, _, _, _, h => by simp only [RepX] at h ⊢; exact h
  | .nil, _, _, _, h => by simp only [RepX] at h ⊢; exact h
  | .nilo, _, _, _, h => by simp only [RepX] at h ⊢; exact h
  | .hole, _, _, _, h => by simp only [RepX] at h ⊢; exact h
  | .slice o l, cs, f, hf, h => by
    simp only [RepX] at h ⊢
    rcases h with h | ⟨hne, g, off, cap, xs, sz, f1, h1, h2, h3, h4, h5, h6, h7⟩
    · exact .inl h
    · refine .inr ⟨hne, g, off, cap, xs, sz, f1, h1, h2, h3, h4, h5, ?_, ?_⟩
      · refine RepXs.mono hz l ?_ h6
        intro b hb
        rcases h7 with ⟨_, _, _, h0, _⟩ | ⟨_, _, he, _⟩
        · rw [h0] at hb; omega
        · exact hf b (by rw [he]; omega)
      · rcases h7 with ⟨ho, hg, hf0, h0, hc⟩ | ⟨ho, hoff, he, cur, e, hh, hr⟩
        · refine .inl ⟨ho, (hz g hg).1, hf0, h0, fun j u hu => ?_⟩
          have := hc j u hu
          simp only [World.cell?] at this ⊢
          rw [(hz g hg).2]; exact this
        · refine .inr ⟨ho, hoff, he, cur, e, ?_, hr⟩
          rw [hf g (by rw [he]; simp; omega)]; exact hh
  | .agg l, _, _, hf, h => by simp only [RepX] at h ⊢; exact RepXs.mono hz l hf h
  | .ptr o x, cs, f, hf, h => by
    simp only [RepX] at h ⊢
    obtain ⟨g, off, c, f1, h1, h2, h3⟩ := h
    refine ⟨g, off, c, f1, h1, RepX.mono hz x ?_ h2, ?_⟩
    · intro b hb
      rcases h3 with ⟨_, _, _, h0, _⟩ | ⟨_, _, he, _⟩
      · rw [h0] at hb; omega
      · exact hf b (by rw [he]; omega)
    · rcases h3 with ⟨ho, hg, hf0, h0, hc⟩ | ⟨ho, hoff, he, cur, e, hh, hr⟩
      · refine .inl ⟨ho, (hz g hg).1, hf0, h0, fun j u hu => ?_⟩
        have := hc j u hu
        simp only [World.cell?] at this ⊢
        rw [(hz g hg).2]; exact this
      · refine .inr ⟨ho, hoff, he, cur, e, ?_, hr⟩
        rw [hf g (by rw [he]; simp; omega)]; exact hh
  | .fn g caps, cs, f, hf, h => by
    simp only [RepX] at h ⊢
    obtain ⟨cp, h1, h2, h3⟩ := h
    exact ⟨cp, h1, h2, RepXs.mono hz caps hf h3⟩
theorem RepXs.mono {w w' : World} {Z Z' : Nat → Prop} (hz : ∀ b, Z b → Z' b ∧ w'.heap[b]? = w.heap[b]?) :
    ∀ (l : List D) {cs : List Value} {f : FP}, (∀ b, 0 < f b → w'.heap[b]? = w.heap[b]?) → RepXs w Z l cs f → RepXs w' Z' l cs f
  | [], _, _, _, h => by simp only [RepXs] at h ⊢; exact h
  | x :: l, _, _, hf, h => by
    simp only [RepXs] at h ⊢
    obtain ⟨c1, c2, f1, f2, h1, h2, h3, h4⟩ := h
    exact ⟨c1, c2, f1, f2, h1, h2, RepX.mono hz x (fun b hb => hf b (by rw [h2]; omega)) h3, RepXs.mono hz l (fun b hb => hf b (by rw [h2]; omega)) h4⟩
end

theorem RepV.mono {w w' : World} {Z Z' : Nat → Prop} (hz : ∀ b, Z b → Z' b ∧ w'.heap[b]? = w.heap[b]?) {x : D} {v : Value} {f : FP}
    (hf : ∀ b, 0 < f b → w'.heap[b]? = w.heap[b]?) (h : RepV w Z x v f) : RepV w' Z' x v f := ⟨h.1, RepX.mono hz x hf h.2⟩
theorem RepVs.mono {w w' : World} {Z Z' : Nat → Prop} (hz : ∀ b, Z b → Z' b ∧ w'.heap[b]? = w.heap[b]?) :
    ∀ (l : List D) {vs : List Value} {f : FP}, (∀ b, 0 < f b → w'.heap[b]? = w.heap[b]?) → RepVs w Z l vs f → RepVs w' Z' l vs f
  | [], _, _, _, h => h
  | x :: l, _, _, hf, h => by
    obtain ⟨v, vs2, f1, f2, h1, h2, h3, h4⟩ := h
    exact ⟨v, vs2, f1, f2, h1, h2, RepV.mono hz (fun b hb => hf b (by rw [h2]; omega)) h3, RepVs.mono hz l (fun b hb => hf b (by rw [h2]; omega)) h4⟩

/-! Nothing owned inside. -/
mutual
def D.imm : D → Bool
  | .slice o l => !o && D.imms l
  | .agg l => D.imms l
  | .int _ _ => true
  | .bool _ => true
  | .str _ => true
  | .nil => true
  | .nilo => false
  | .hole => false
  | .ptr o x => !o && D.imm x
  | .fn _ l => D.imms l
def D.imms : List D → Bool
  | [] => true
  | x :: l => D.imm x && D.imms l
end
mutual
def D.toImm : D → D
  | .slice _ l => .slice false (D.toImms l)
  | .agg l => .agg (D.toImms l)
  | .int k n => .int k n
  | .bool b => .bool b
  | .str s => .str s
  | .nil => .nil
  | .nilo => .nil
  | .hole => .hole
  | .ptr _ x => .ptr false (D.toImm x)
  | .fn g l => .fn g (D.toImms l)
def D.toImms : List D → List D
  | [] => []
  | x :: l => D.toImm x :: D.toImms l
end
/-! Nothing shared inside: every non-empty slice is owned. -/
mutual
def D.solid : D → Bool
  | .slice o l => (o || l.isEmpty) && D.solids l
  | .agg l => D.solids l
  | .int _ _ => true
  | .bool _ => true
  | .str _ => true
  | .nil => true
  | .nilo => true
  | .hole => false
  | .ptr o x => o && D.solid x
  | .fn _ l => D.solids l
def D.solids : List D → Bool
  | [] => true
  | x :: l => D.solid x && D.solids l
end

theorem D.toImms_eq (l : List D) : D.toImms l = l.map D.toImm := by
  induction l with
  | nil => rfl
  | cons x l ih => simp [D.toImms, ih]
theorem D.imms_iff (l : List D) : D.imms l = true ↔ ∀ x ∈ l, x.imm = true := by
  induction l with
  | nil => simp [D.imms]
  | cons x l ih => simp [D.imms, ih]
theorem D.solids_iff (l : List D) : D.solids l = true ↔ ∀ x ∈ l, x.solid = true := by
  induction l with
  | nil => simp [D.solids]
  | cons x l ih => simp [D.solids, ih]

mutual
theorem D.size_toImm : ∀ (x : D), x.toImm.size = x.size
  | .int _ _ => by simp [D.toImm, D.size]
  | .bool _ => by simp [D.toImm, D.size]
  | .str _ => by simp [D.toImm, D.size]
  | .nil => by simp [D.toImm, D.size]
  | .nilo => by simp [D.toImm, D.size]
  | .hole => by simp [D.toImm, D.size]
  | .slice _ _ => by simp [D.toImm, D.size]
  | .ptr _ _ => by simp [D.toImm, D.size]
  | .fn _ _ => by simp [D.toImm, D.size]
  | .agg l => by simp only [D.toImm, D.size]; exact D.sizes_toImms l
theorem D.sizes_toImms : ∀ (l : List D), D.sizes (D.toImms l) = D.sizes l
  | [] => by simp [D.toImms, D.sizes]
  | x :: l => by simp only [D.toImms, D.sizes, D.size_toImm x, D.sizes_toImms l]
end

theorem sizes_uniform {l : List D} {sz : Nat} (h : ∀ x ∈ l, x.size = sz) : D.sizes l = l.length * sz := by
  induction l with
  | nil => simp [D.sizes]
  | cons x l ih =>
    simp only [D.sizes, List.length_cons, Nat.add_mul, Nat.one_mul]
    rw [h x (by simp), ih (fun y hy => h y (by simp [hy]))]; omega

/-! Where nothing is owned the footprint is empty. -/
mutual
theorem RepX.imm0 {w : World} {Z : Nat → Prop} : ∀ (x : D) {cs : List Value} {f : FP}, x.imm = true → RepX w Z x cs f → ∀ b, f b = 0
  | .int _ _, _, _, _, h => by simp only [RepX] at h; exact h.2
  | .bool _, _, _, _, h => by simp only [RepX] at h; exact h.2
  | .str _, _, _, _, h => by simp only [RepX] at h; exact h.2.2
  | .nil, _, _, _, h => by simp only [RepX] at h; exact h.2
  | .nilo, _, _, _, h => by simp only [RepX] at h; exact h.2
  | .hole, _, _, _, h => by simp only [RepX] at h; exact h.2
  | .slice o l, _, f, hi, h => by
    simp only [RepX] at h
    simp only [D.imm, Bool.and_eq_true] at hi
    rcases h with h | ⟨hne, g, off, cap, xs, sz, f1, h1, h2, h3, h4, h5, h6, h7⟩
    · exact h.2.1
    · rcases h7 with ⟨_, _, h0, _⟩ | ⟨ho, _⟩
      · exact h0
      · subst ho
        simp at hi
  | .agg l, _, _, hi, h => by
    simp only [RepX] at h
    simp only [D.imm] at hi
    exact RepXs.imm0 l hi h
  | .ptr o x, _, f, hi, h => by
    simp only [RepX] at h
    simp only [D.imm, Bool.and_eq_true] at hi
    obtain ⟨g, off, c, f1, h1, h2, h3⟩ := h
    rcases h3 with ⟨_, _, h0, _⟩ | ⟨ho, _⟩
    · exact h0
    · subst ho
      simp at hi
  | .fn _ l, _, _, hi, h => by
    simp only [RepX] at h
    simp only [D.imm] at hi
    obtain ⟨cp, h1, h2, h3⟩ := h
    exact RepXs.imm0 l hi h3
theorem RepXs.imm0 {w : World} {Z : Nat → Prop} : ∀ (l : List D) {cs : List Value} {f : FP}, D.imms l = true → RepXs w Z l cs f → ∀ b, f b = 0
  | [], _, _, _, h => by simp only [RepXs] at h; exact h.2
  | x :: l, _, _, hi, h => by
    simp only [RepXs] at h
    simp only [D.imms, Bool.and_eq_true] at hi
    obtain ⟨c1, c2, f1, f2, _, h2, h3, h4⟩ := h
    intro b
    rw [h2, RepX.imm0 x hi.1 h3, RepXs.imm0 l hi.2 h4]
end

theorem cell_of_take {w : World} {g : Nat} {cur : Array Value} {e : TypeId} {fr : Nat × Nat} {m : Nat} (hh : w.heap[g]? = some (.cells cur e fr)) {j : Nat} {u : Value}
    (h : (cur.toList.take m)[j]? = some u) : w.cell? ⟨g, j, none⟩ = some u := by
  rw [List.getElem?_take] at h
  split at h
  · simp only [World.cell?, hh]
    simpa using h
  · cases h

mutual
theorem RepX.toImm {w : World} {Z Z' : Nat → Prop} (hz : ∀ b, Z b → Z' b) : ∀ (x : D) {cs : List Value} {f : FP}, (∀ b, 0 < f b → Z' b) → RepX w Z x cs f → RepX w Z' x.toImm cs (fun _ => 0)
  | .int _ _, _, _, _, h => by simp only [RepX, D.toImm] at h ⊢; exact ⟨h.1, by simp⟩
  | .bool _, _, _, _, h => by simp only [RepX, D.toImm] at h ⊢; exact ⟨h.1, by simp⟩
  | .str _, _, _, _, h => by simp only [RepX, D.toImm] at h ⊢; exact ⟨h.1, h.2.1, by simp⟩
  | .nil, _, _, _, h => by simp only [RepX, D.toImm] at h ⊢; exact ⟨h.1, by simp⟩
  | .nilo, _, _, _, h => by simp only [RepX, D.toImm] at h ⊢; exact ⟨h.1, by simp⟩
  | .hole, _, _, _, h => by simp only [RepX, D.toImm] at h ⊢; exact ⟨h.1, by simp⟩
  | .slice o l, cs, f, hf, h => by
    simp only [RepX, D.toImm] at h ⊢
    rcases h with ⟨h1, h2, a, cap, h3, h4, h5, h6⟩ | ⟨hne, g, off, cap, xs, sz, f1, h1, h2, h3, h4, h5, h6, h7⟩
    · exact .inl ⟨by rw [h1]; rfl, by simp, a, cap, h3, h4, h5, by simp⟩
    · have hf1 : ∀ b, 0 < f1 b → Z' b := by
        intro b hb
        rcases h7 with ⟨_, _, _, h0, _⟩ | ⟨_, _, he, _⟩
        · rw [h0] at hb; omega
        · exact hf b (by rw [he]; omega)
      have hr := RepXs.toImm hz l hf1 h6
      refine .inr ⟨by cases l with | nil => exact absurd rfl hne | cons a l => simp [D.toImms], g, off, cap, xs, sz, fun _ => 0, by rw [h1, D.toImms_eq]; simp, h2, by rw [D.toImms_eq]; simpa using h3, by rw [D.toImms_eq]; simpa using h4, ?_, hr, .inl ⟨by simp, ?_, by simp, by simp, ?_⟩⟩
      · intro x hx
        rw [D.toImms_eq] at hx
        obtain ⟨y, hy, rfl⟩ := List.mem_map.1 hx
        rw [D.size_toImm]; exact h5 y hy
      · rcases h7 with ⟨_, hg, _⟩ | ⟨_, _, he, _⟩
        · exact hz g hg
        · exact hf g (by rw [he]; simp; omega)
      · rcases h7 with ⟨_, _, _, _, hc⟩ | ⟨_, hoff, _, cur, e, hh, _, hx⟩
        · exact hc
        · intro j u hu
          rw [hoff, Nat.zero_add]
          exact cell_of_take hh (by rw [hx]; exact hu)
  | .agg l, _, _, hf, h => by simp only [RepX, D.toImm] at h ⊢; exact RepXs.toImm hz l hf h
  | .ptr o x, cs, f, hf, h => by
    simp only [RepX, D.toImm] at h ⊢
    obtain ⟨g, off, c, f1, h1, h2, h3⟩ := h
    have hf1 : ∀ b, 0 < f1 b → Z' b := by
      intro b hb
      rcases h3 with ⟨_, _, _, h0, _⟩ | ⟨_, _, he, _⟩
      · rw [h0] at hb; omega
      · exact hf b (by rw [he]; omega)
    refine ⟨g, off, c, fun _ => 0, h1, RepX.toImm hz x hf1 h2, .inl ⟨by simp, ?_, by simp, by simp, ?_⟩⟩
    · rcases h3 with ⟨_, hg, _⟩ | ⟨_, _, he, _⟩
      · exact hz g hg
      · exact hf g (by rw [he]; simp; omega)
    · rcases h3 with ⟨_, _, _, _, hc⟩ | ⟨_, hoff, _, cur, e, hh, hx⟩
      · exact hc
      · intro j u hu
        rw [hoff, Nat.zero_add]
        exact cell_of_take (m := cur.toList.length) hh (by rw [List.take_length, hx]; exact hu)
  | .fn g l, cs, f, hf, h => by
    simp only [RepX, D.toImm] at h ⊢
    obtain ⟨cp, h1, h2, h3⟩ := h
    refine ⟨cp, h1, ?_, RepXs.toImm hz l hf h3⟩
    intro x hx
    rw [D.toImms_eq] at hx
    obtain ⟨y, hy, rfl⟩ := List.mem_map.1 hx
    rw [D.size_toImm]; exact h2 y hy
theorem RepXs.toImm {w : World} {Z Z' : Nat → Prop} (hz : ∀ b, Z b → Z' b) : ∀ (l : List D) {cs : List Value} {f : FP}, (∀ b, 0 < f b → Z' b) → RepXs w Z l cs f → RepXs w Z' (D.toImms l) cs (fun _ => 0)
  | [], _, _, _, h => by simp only [RepXs, D.toImms] at h ⊢; exact ⟨h.1, by simp⟩
  | x :: l, _, _, hf, h => by
    simp only [RepXs, D.toImms] at h ⊢
    obtain ⟨c1, c2, f1, f2, h1, h2, h3, h4⟩ := h
    exact ⟨c1, c2, fun _ => 0, fun _ => 0, h1, by simp, RepX.toImm hz x (fun b hb => hf b (by rw [h2]; omega)) h3, RepXs.toImm hz l (fun b hb => hf b (by rw [h2]; omega)) h4⟩
end

mutual
theorem RepX.solid {w : World} {Z Z' : Nat → Prop} : ∀ (x : D) {cs : List Value} {f : FP}, x.solid = true → RepX w Z x cs f → RepX w Z' x cs f
  | .int _ _, _, _, _, h => by simp only [RepX] at h ⊢; exact h
  | .bool _, _, _, _, h => by simp only [RepX] at h ⊢; exact h
  | .str _, _, _, _, h => by simp only [RepX] at h ⊢; exact h
  | .nil, _, _, _, h => by simp only [RepX] at h ⊢; exact h
  | .nilo, _, _, _, h => by simp only [RepX] at h ⊢; exact h
  | .hole, _, _, _, h => by simp only [RepX] at h ⊢; exact h
  | .slice o l, cs, f, hs, h => by
    simp only [RepX] at h ⊢
    simp only [D.solid, Bool.and_eq_true] at hs
    rcases h with h | ⟨hne, g, off, cap, xs, sz, f1, h1, h2, h3, h4, h5, h6, h7⟩
    · exact .inl h
    · refine .inr ⟨hne, g, off, cap, xs, sz, f1, h1, h2, h3, h4, h5, RepXs.solid l hs.2 h6, .inr ?_⟩
      rcases h7 with ⟨ho, _⟩ | h7
      · subst ho; simp at hs; exact absurd hs.1 hne
      · exact h7
  | .agg l, _, _, hs, h => by simp only [RepX] at h ⊢; simp only [D.solid] at hs; exact RepXs.solid l hs h
  | .ptr o x, cs, f, hs, h => by
    simp only [RepX] at h ⊢
    simp only [D.solid, Bool.and_eq_true] at hs
    obtain ⟨g, off, c, f1, h1, h2, h3⟩ := h
    refine ⟨g, off, c, f1, h1, RepX.solid x hs.2 h2, .inr ?_⟩
    rcases h3 with ⟨ho, _⟩ | h3
    · subst ho; simp at hs
    · exact h3
  | .fn _ l, _, _, hs, h => by
    simp only [RepX] at h ⊢
    simp only [D.solid] at hs
    obtain ⟨cp, h1, h2, h3⟩ := h
    exact ⟨cp, h1, h2, RepXs.solid l hs h3⟩
theorem RepXs.solid {w : World} {Z Z' : Nat → Prop} : ∀ (l : List D) {cs : List Value} {f : FP}, D.solids l = true → RepXs w Z l cs f → RepXs w Z' l cs f
  | [], _, _, _, h => by simp only [RepXs] at h ⊢; exact h
  | x :: l, _, _, hs, h => by
    simp only [RepXs] at h ⊢
    simp only [D.solids, Bool.and_eq_true] at hs
    obtain ⟨c1, c2, f1, f2, h1, h2, h3, h4⟩ := h
    exact ⟨c1, c2, f1, f2, h1, h2, RepX.solid x hs.1 h3, RepXs.solid l hs.2 h4⟩
end

/-- What is as it was at a footprint and in the zone. -/
structure Keeps (Z Z' : Nat → Prop) (f : FP) (w w' : World) : Prop where
  z : ∀ b, Z b → Z' b ∧ w'.heap[b]? = w.heap[b]?
  k : ∀ b, 0 < f b → w'.heap[b]? = w.heap[b]?

theorem Keeps.le {Z Z' : Nat → Prop} {f g : FP} {w w' : World} (h : Keeps Z Z' f w w') (hg : ∀ b, 0 < g b → 0 < f b) : Keeps Z Z' g w w' := ⟨h.z, fun b hb => h.k b (hg b hb)⟩

/-- One element of a list taken out. -/
theorem RepXs.split {w : World} {Z : Nat → Prop} : ∀ (l : List D) (i : Nat) {y : D} {cs : List Value} {f : FP}, RepXs w Z l cs f → l[i]? = some y →
    ∃ (c1 c2 c3 : List Value) (fr fy : FP), cs = c1 ++ c2 ++ c3 ∧ c1.length = D.sizes (l.take i) ∧ RepX w Z y c2 fy ∧ (∀ b, f b = fr b + fy b) ∧
      ∀ (w' : World) (Z' : Nat → Prop) (y' : D) (c2' : List Value) (f' : FP), Keeps Z Z' fr w w' → RepX w' Z' y' c2' f' → RepXs w' Z' (l.set i y') (c1 ++ c2' ++ c3) (fun b => fr b + f' b)
  | [], i, y, cs, f, _, hi => by simp at hi
  | x :: l, 0, y, cs, f, h, hi => by
    simp only [RepXs] at h
    obtain ⟨c1, c2, f1, f2, rfl, h2, h3, h4⟩ := h
    simp only [List.getElem?_cons_zero, Option.some.injEq] at hi
    subst hi
    refine ⟨[], c1, c2, f2, f1, by simp, by simp [D.sizes], h3, fun b => by rw [h2]; omega, ?_⟩
    intro w' Z' y' c2' f' hk hy
    simp only [List.set_cons_zero, List.nil_append, RepXs]
    exact ⟨c2', c2, f', f2, rfl, fun b => by omega, hy, RepXs.mono hk.z l hk.k h4⟩
  | x :: l, i + 1, y, cs, f, h, hi => by
    simp only [RepXs] at h
    obtain ⟨c1, c2, f1, f2, rfl, h2, h3, h4⟩ := h
    simp only [List.getElem?_cons_succ] at hi
    obtain ⟨d1, d2, d3, fr, fy, rfl, e1, e2, e3, e4⟩ := RepXs.split l i h4 hi
    refine ⟨c1 ++ d1, d2, d3, fun b => f1 b + fr b, fy, by simp, ?_, e2, fun b => by rw [h2, e3]; dsimp only; omega, ?_⟩
    · simp [D.sizes, RepX.len x h3, e1]
    · intro w' Z' y' c2' f' hk hy
      simp only [List.set_cons_succ, RepXs]
      refine ⟨c1, d1 ++ c2' ++ d3, f1, fun b => fr b + f' b, by simp, fun b => by dsimp only; omega, RepX.mono hk.z x (fun b hb => hk.k b (by omega)) h3, e4 w' Z' y' c2' f' (hk.le fun b hb => by omega) hy⟩
end AS
set_option linter.unusedVariables false
set_option linter.unusedSimpArgs false
namespace AS
open Go

inductive Step where
  | fld (i : Nat)
  | idx (i : Nat)
  | cap (i : Nat)
  | dr
  deriving DecidableEq

def D.sub : D → Step → Option D
  | .agg l, .fld i => l[i]?
  | .slice _ l, .idx i => l[i]?
  | .fn _ l, .cap i => l[i]?
  | .ptr _ x, .dr => some x
  | _, _ => none
def D.upd : D → Step → D → D
  | .agg l, .fld i, z => .agg (l.set i z)
  | .slice o l, .idx i, z => .slice o (l.set i z)
  | .fn g l, .cap i, z => .fn g (l.set i z)
  | .ptr o _, .dr, z => .ptr o z
  | x, _, _ => x
def getP : List Step → D → Option D
  | [], x => some x
  | s :: p, x => (x.sub s).bind (getP p)
def setP : List Step → D → D → D
  | [], _, y => y
  | s :: p, x, y => match x.sub s with
    | some z => x.upd s (setP p z y)
    | none => x
def ownP : List Step → D → Bool
  | [], _ => true
  | s :: p, x => (match x with | .slice o _ => o | .ptr o _ => o | _ => true) && (match x.sub s with | some z => ownP p z | none => false)
def hasIdx : List Step → Bool
  | [] => false
  | .fld _ :: p => hasIdx p
  | .idx _ :: _ => true
  | .cap _ :: _ => true
  | .dr :: _ => true

def At (w : World) : List Step → D → List Value → Option (Nat × Nat) → D → List Value → Option (Nat × Nat) → Prop
  | [], x, cs, oa, y, c, ob => y = x ∧ c = cs ∧ ob = oa
  | .fld i :: p, x, cs, oa, y, c, ob => ∃ (l : List D) (z : D) (c1 c2 c3 : List Value), x = .agg l ∧ l[i]? = some z ∧ cs = c1 ++ c2 ++ c3 ∧ c1.length = D.sizes (l.take i) ∧
      c2.length = z.size ∧ At w p z c2 (oa.map fun a => (a.1, a.2 + c1.length)) y c ob
  | .idx i :: p, x, cs, _, y, c, ob => ∃ (o : Bool) (l : List D) (z : D) (g off cap : Nat) (c2 : List Value), x = .slice o l ∧ l[i]? = some z ∧
      cs = [.slice (some ⟨g, off, none⟩) l.length cap] ∧ c2.length = z.size ∧ (∀ j u, c2[j]? = some u → w.cell? ⟨g, off + i * z.size + j, none⟩ = some u) ∧
      At w p z c2 (some (g, off + i * z.size)) y c ob
  | .cap i :: p, x, cs, _, y, c, ob => ∃ (k : Nat) (l : List D) (z : D) (cp : Array Value) (u : Value), x = .fn k l ∧ l[i]? = some z ∧ cs = [.func (.func k) #[] cp] ∧ cp[i]? = some u ∧ z.size = 1 ∧
      At w p z [u] none y c ob
  | .dr :: p, x, cs, _, y, c, ob => ∃ (o : Bool) (z : D) (g off : Nat) (c2 : List Value), x = .ptr o z ∧ cs = [.pointer (some ⟨g, off, none⟩)] ∧ c2.length = z.size ∧
      (∀ j u, c2[j]? = some u → w.cell? ⟨g, off + j, none⟩ = some u) ∧ At w p z c2 (some (g, off)) y c ob

theorem At.get {w : World} : ∀ (p : List Step) {x : D} {cs : List Value} {oa : Option (Nat × Nat)} {y : D} {c : List Value} {ob : Option (Nat × Nat)},
    At w p x cs oa y c ob → getP p x = some y
  | [], _, _, _, _, _, _, h => by simp only [At] at h; simp [getP, h.1]
  | .fld i :: p, _, _, _, _, _, _, h => by
    simp only [At] at h
    obtain ⟨l, z, c1, c2, c3, rfl, h2, _, _, _, h6⟩ := h
    simp [getP, D.sub, h2, At.get p h6]
  | .idx i :: p, _, _, _, _, _, _, h => by
    simp only [At] at h
    obtain ⟨o, l, z, g, off, cap, c2, rfl, h2, _, _, _, h6⟩ := h
    simp [getP, D.sub, h2, At.get p h6]
  | .cap i :: p, _, _, _, _, _, _, h => by
    simp only [At] at h
    obtain ⟨k, l, z, cp, u, rfl, h2, _, _, _, h6⟩ := h
    simp [getP, D.sub, h2, At.get p h6]
  | .dr :: p, _, _, _, _, _, _, h => by
    simp only [At] at h
    obtain ⟨o, z, g, off, c2, rfl, _, _, _, h6⟩ := h
    simp [getP, D.sub, At.get p h6]

theorem At.append {w : World} : ∀ (p : List Step) {q : List Step} {x : D} {cs : List Value} {oa : Option (Nat × Nat)} {y : D} {c : List Value} {ob : Option (Nat × Nat)} {z : D} {d : List Value} {oc : Option (Nat × Nat)},
    At w p x cs oa y c ob → At w q y c ob z d oc → At w (p ++ q) x cs oa z d oc
  | [], _, _, _, _, _, _, _, _, _, _, h, k => by simp only [At] at h; obtain ⟨rfl, rfl, rfl⟩ := h; exact k
  | .fld i :: p, _, _, _, _, _, _, _, _, _, _, h, k => by
    simp only [At, List.cons_append] at h ⊢
    obtain ⟨l, z, c1, c2, c3, h1, h2, h3, h4, h5, h6⟩ := h
    exact ⟨l, z, c1, c2, c3, h1, h2, h3, h4, h5, At.append p h6 k⟩
  | .idx i :: p, _, _, _, _, _, _, _, _, _, _, h, k => by
    simp only [At, List.cons_append] at h ⊢
    obtain ⟨o, l, z, g, off, cap, c2, h1, h2, h3, h4, h5, h6⟩ := h
    exact ⟨o, l, z, g, off, cap, c2, h1, h2, h3, h4, h5, At.append p h6 k⟩
  | .cap i :: p, _, _, _, _, _, _, _, _, _, _, h, k => by
    simp only [At, List.cons_append] at h ⊢
    obtain ⟨q, l, z, cp, u, h1, h2, h3, h4, h5, h6⟩ := h
    exact ⟨q, l, z, cp, u, h1, h2, h3, h4, h5, At.append p h6 k⟩
  | .dr :: p, _, _, _, _, _, _, _, _, _, _, h, k => by
    simp only [At, List.cons_append] at h ⊢
    obtain ⟨o, z, g, off, c2, h1, h3, h4, h5, h6⟩ := h
    exact ⟨o, z, g, off, c2, h1, h3, h4, h5, At.append p h6 k⟩

/-- What lies at the place is what the place holds. -/
theorem At.cells {w : World} : ∀ (p : List Step) {x : D} {cs : List Value} {oa : Option (Nat × Nat)} {y : D} {c : List Value} {ob : Option (Nat × Nat)},
    At w p x cs oa y c ob → (∀ a, oa = some a → ∀ j u, cs[j]? = some u → w.cell? ⟨a.1, a.2 + j, none⟩ = some u) →
    ∀ a, ob = some a → ∀ j u, c[j]? = some u → w.cell? ⟨a.1, a.2 + j, none⟩ = some u
  | [], _, _, _, _, _, _, h, k => by simp only [At] at h; obtain ⟨rfl, rfl, rfl⟩ := h; exact k
  | .fld i :: p, _, _, oa, _, _, _, h, k => by
    simp only [At] at h
    obtain ⟨l, z, c1, c2, c3, h1, h2, rfl, h4, h5, h6⟩ := h
    refine At.cells p h6 ?_
    intro a ha j u hu
    cases oa with
    | none => simp at ha
    | some b =>
      simp only [Option.map_some, Option.some.injEq] at ha
      subst ha
      have := k b rfl (c1.length + j) u (by rw [List.append_assoc, List.getElem?_append_right (by omega), Nat.add_sub_cancel_left, List.getElem?_append_left (List.getElem?_eq_some_iff.1 hu).1, hu])
      simpa [Nat.add_assoc] using this
  | .idx i :: p, _, _, _, _, _, _, h, k => by
    simp only [At] at h
    obtain ⟨o, l, z, g, off, cap, c2, h1, h2, h3, h4, h5, h6⟩ := h
    refine At.cells p h6 ?_
    intro a ha j u hu
    simp only [Option.some.injEq] at ha
    subst ha
    exact h5 j u hu
  | .cap i :: p, _, _, oa, _, _, _, h, k => by
    simp only [At] at h
    obtain ⟨q, l, z, cp, u, h1, h2, h3, h4, h5, h6⟩ := h
    refine At.cells p h6 ?_
    intro a ha
    cases ha
  | .dr :: p, _, _, oa, _, _, _, h, k => by
    simp only [At] at h
    obtain ⟨o, z, g, off, c2, h1, h3, h4, h5, h6⟩ := h
    refine At.cells p h6 ?_
    intro a ha j u hu
    simp only [Option.some.injEq] at ha
    subst ha
    exact h5 j u hu

theorem chunk_get {l : List D} {sz : Nat} (h : ∀ x ∈ l, x.size = sz) {i : Nat} (hi : i < l.length) : D.sizes (l.take i) = i * sz := by
  rw [sizes_uniform (sz := sz) (fun x hx => h x (List.mem_of_mem_take hx)), List.length_take]
  congr 1; omega

/-- The cells of a slice's element. -/
theorem slice_elem_cells {w : World} {Z : Nat → Prop} {o : Bool} {l : List D} {cs : List Value} {f : FP} (h : RepX w Z (.slice o l) cs f) {i : Nat} {z : D} (hi : l[i]? = some z) :
    ∃ (g off cap : Nat) (c2 : List Value) (fy : FP), cs = [.slice (some ⟨g, off, none⟩) l.length cap] ∧ cap ≤ maxLen ∧ l.length ≤ cap ∧ c2.length = z.size ∧
      (∀ j u, c2[j]? = some u → w.cell? ⟨g, off + i * z.size + j, none⟩ = some u) ∧ RepX w Z z c2 fy ∧ (∀ b, fy b ≤ f b) := by
  simp only [RepX] at h
  rcases h with ⟨rfl, _⟩ | ⟨hne, g, off, cap, xs, sz, f1, h1, h2, h3, h4, h5, h6, h7⟩
  · simp at hi
  · obtain ⟨c1, c2, c3, fr, fy, e1, e2, e3, e4, _⟩ := RepXs.split l i h6 hi
    have hlt : i < l.length := (List.getElem?_eq_some_iff.1 hi).1
    have hz : z.size = sz := h5 z (List.mem_of_getElem? hi)
    have hc1 : c1.length = i * sz := by rw [e2, chunk_get h5 hlt]
    have hx : ∀ j u, c2[j]? = some u → xs[i * sz + j]? = some u := by
      intro j u hu
      rw [e1, List.append_assoc, List.getElem?_append_right (by omega), hc1, Nat.add_sub_cancel_left, List.getElem?_append_left (List.getElem?_eq_some_iff.1 hu).1, hu]
    refine ⟨g, off, cap, c2, fy, h1, h2, h3, RepX.len z e3, ?_, e3, ?_⟩
    · intro j u hu
      rw [hz]
      rcases h7 with ⟨_, _, _, _, hc⟩ | ⟨_, hoff, _, cur, e, hh, _, htk⟩
      · have := hc _ _ (hx j u hu); rwa [← Nat.add_assoc] at this
      · rw [hoff, Nat.zero_add]
        exact cell_of_take hh (by rw [htk]; exact hx j u hu)
    · intro b
      rcases h7 with ⟨_, _, _, h0, _⟩ | ⟨_, _, he, _⟩
      · have := h0 b; have := e4 b; omega
      · have := he b; have := e4 b; omega

/-- The cells behind a pointer. -/
theorem ptr_cells {w : World} {Z : Nat → Prop} {o : Bool} {x : D} {cs : List Value} {f : FP} (h : RepX w Z (.ptr o x) cs f) :
    ∃ (g off : Nat) (c2 : List Value) (fy : FP), cs = [.pointer (some ⟨g, off, none⟩)] ∧ c2.length = x.size ∧
      (∀ j u, c2[j]? = some u → w.cell? ⟨g, off + j, none⟩ = some u) ∧ RepX w Z x c2 fy ∧ (∀ b, fy b ≤ f b) ∧ (Z g ∨ 0 < f g) := by
  simp only [RepX] at h
  obtain ⟨g, off, c, f1, h1, h2, h3⟩ := h
  refine ⟨g, off, c, f1, h1, RepX.len x h2, ?_, h2, ?_, ?_⟩
  · rcases h3 with ⟨_, _, _, _, hc⟩ | ⟨_, hoff, _, cur, e, hh, hr⟩
    · exact hc
    · intro j u hu
      rw [hoff, Nat.zero_add]
      exact cell_of_take (m := cur.toList.length) hh (by rw [List.take_length, hr]; exact hu)
  · intro b
    rcases h3 with ⟨_, _, _, h0, _⟩ | ⟨_, _, he, _⟩
    · have := h0 b; omega
    · have := he b; omega
  · rcases h3 with ⟨_, hg, _⟩ | ⟨_, _, he, _⟩
    · exact .inl hg
    · exact .inr (by rw [he]; simp; omega)

theorem sizes_take1 {l : List D} (h : ∀ x ∈ l, x.size = 1) {i : Nat} (hi : i < l.length) : D.sizes (l.take i) = i := by
  rw [chunk_get h hi]; omega

/-- What a function value holds. -/
theorem fn_cap {w : World} {Z : Nat → Prop} {k : Nat} {l : List D} {cs : List Value} {f : FP} (h : RepX w Z (.fn k l) cs f) {i : Nat} {z : D} (hi : l[i]? = some z) :
    ∃ (cp : Array Value) (u : Value) (c1 c3 : List Value) (fr fy : FP), cs = [.func (.func k) #[] cp] ∧ cp[i]? = some u ∧ z.size = 1 ∧ cp.toList = c1 ++ [u] ++ c3 ∧ RepX w Z z [u] fy ∧ (∀ b, f b = fr b + fy b) ∧
      ∀ (w' : World) (Z' : Nat → Prop) (y' : D) (f' : FP), y'.size = 1 → Keeps Z Z' fr w w' → RepX w' Z' y' [u] f' → RepX w' Z' (.fn k (l.set i y')) cs (fun b => fr b + f' b) := by
  simp only [RepX] at h
  obtain ⟨cp, h1, h2, h3⟩ := h
  have hlt : i < l.length := (List.getElem?_eq_some_iff.1 hi).1
  have hz : z.size = 1 := h2 z (List.mem_of_getElem? hi)
  obtain ⟨c1, c2, c3, fr, fy, e1, e2, e3, e4, e5⟩ := RepXs.split l i h3 hi
  have hl2 : c2.length = 1 := by rw [RepX.len z e3, hz]
  obtain ⟨u, rfl⟩ : ∃ u, c2 = [u] := by
    match c2, hl2 with
    | [u], _ => exact ⟨u, rfl⟩
  rw [sizes_take1 h2 hlt] at e2
  refine ⟨cp, u, c1, c3, fr, fy, h1, ?_, hz, e1, e3, e4, ?_⟩
  · rw [← Array.getElem?_toList, e1, List.append_assoc, List.getElem?_append_right (by omega), e2]; simp
  · intro w' Z' y' f' hy hk hr
    simp only [RepX]
    refine ⟨cp, h1, ?_, ?_⟩
    · intro x hx
      rcases List.mem_or_eq_of_mem_set hx with h | h
      · exact h2 x h
      · rw [h]; exact hy
    · rw [e1]; exact e5 w' Z' y' [u] f' hk hr

theorem At.exists {w : World} {Z : Nat → Prop} : ∀ (p : List Step) {x : D} {cs : List Value} {f : FP} (oa : Option (Nat × Nat)) {y : D}, RepX w Z x cs f → getP p x = some y →
    ∃ (c : List Value) (ob : Option (Nat × Nat)) (fy : FP), At w p x cs oa y c ob ∧ RepX w Z y c fy ∧ (∀ b, fy b ≤ f b)
  | [], x, cs, f, oa, y, h, hg => by
    simp only [getP, Option.some.injEq] at hg
    subst hg
    exact ⟨cs, oa, f, by simp [At], h, fun _ => Nat.le_refl _⟩
  | .fld i :: p, x, cs, f, oa, y, h, hg => by
    simp only [getP] at hg
    cases x with
    | agg l =>
      simp only [D.sub] at hg
      cases hi : l[i]? with
      | none => simp [hi] at hg
      | some z =>
        simp only [hi, Option.bind_some] at hg
        simp only [RepX] at h
        obtain ⟨c1, c2, c3, fr, fy, e1, e2, e3, e4, _⟩ := RepXs.split l i h hi
        obtain ⟨c, ob, fy', a1, a2, a3⟩ := At.exists p (oa.map fun a => (a.1, a.2 + c1.length)) e3 hg
        refine ⟨c, ob, fy', ?_, a2, fun b => by have := a3 b; have := e4 b; omega⟩
        simp only [At]
        exact ⟨l, z, c1, c2, c3, rfl, hi, e1, e2, RepX.len z e3, a1⟩
    | _ => simp [D.sub] at hg
  | .idx i :: p, x, cs, f, oa, y, h, hg => by
    simp only [getP] at hg
    cases x with
    | slice o l =>
      simp only [D.sub] at hg
      cases hi : l[i]? with
      | none => simp [hi] at hg
      | some z =>
        simp only [hi, Option.bind_some] at hg
        obtain ⟨g, off, cap, c2, fy, e1, _, _, e2, e3, e4, e5⟩ := slice_elem_cells h hi
        obtain ⟨c, ob, fy', a1, a2, a3⟩ := At.exists p (some (g, off + i * z.size)) e4 hg
        refine ⟨c, ob, fy', ?_, a2, fun b => by have := a3 b; have := e5 b; omega⟩
        simp only [At]
        exact ⟨o, l, z, g, off, cap, c2, rfl, hi, e1, e2, e3, a1⟩
    | _ => simp [D.sub] at hg
  | .cap i :: p, x, cs, f, oa, y, h, hg => by
    simp only [getP] at hg
    cases x with
    | fn k l =>
      simp only [D.sub] at hg
      cases hi : l[i]? with
      | none => simp [hi] at hg
      | some z =>
        simp only [hi, Option.bind_some] at hg
        obtain ⟨cp, u, _, _, fr, fy, e1, e2, e3, _, e4, e5, _⟩ := fn_cap h hi
        obtain ⟨c, ob, fy', a1, a2, a3⟩ := At.exists p none e4 hg
        refine ⟨c, ob, fy', ?_, a2, fun b => by have := a3 b; have := e5 b; omega⟩
        simp only [At]
        exact ⟨k, l, z, cp, u, rfl, hi, e1, e2, e3, a1⟩
    | _ => simp [D.sub] at hg
  | .dr :: p, x, cs, f, oa, y, h, hg => by
    simp only [getP] at hg
    cases x with
    | ptr o z =>
      simp only [D.sub, Option.bind_some] at hg
      obtain ⟨g, off, c2, fy, e1, e2, e3, e4, e5, _⟩ := ptr_cells h
      obtain ⟨c, ob, fy', a1, a2, a3⟩ := At.exists p (some (g, off)) e4 hg
      refine ⟨c, ob, fy', ?_, a2, fun b => by have := a3 b; have := e5 b; omega⟩
      simp only [At]
      exact ⟨o, z, g, off, c2, rfl, e1, e2, e3, a1⟩
    | _ => simp [D.sub] at hg

theorem cells_eq {w : World} {g o : Nat} {c d : List Value} (hl : c.length = d.length) (hc : ∀ j u, c[j]? = some u → w.cell? ⟨g, o + j, none⟩ = some u)
    (hd : ∀ j u, d[j]? = some u → w.cell? ⟨g, o + j, none⟩ = some u) : c = d := by
  apply List.ext_getElem? 
  intro j
  by_cases hj : j < c.length
  · have h1 := hc j c[j] (List.getElem?_eq_getElem hj)
    have h2 := hd j d[j] (List.getElem?_eq_getElem (hl ▸ hj))
    rw [h1] at h2
    rw [List.getElem?_eq_getElem hj, List.getElem?_eq_getElem (hl ▸ hj)]
    exact h2
  · rw [List.getElem?_eq_none (by omega), List.getElem?_eq_none (by omega)]

theorem append3_inj {α : Type} {a b c d e f : List α} (h : a ++ b ++ c = d ++ e ++ f) (h1 : a.length = d.length) (h2 : b.length = e.length) : a = d ∧ b = e ∧ c = f := by
  rw [List.append_assoc, List.append_assoc] at h
  have k1 := List.append_inj h h1
  have k2 := List.append_inj k1.2 h2
  exact ⟨k1.1, k2.1, k2.2⟩

/-- One step of an At, beside the reading. -/
theorem At.fld_split {w : World} {Z : Nat → Prop} {i : Nat} {p : List Step} {x : D} {cs : List Value} {oa : Option (Nat × Nat)} {y : D} {c : List Value} {ob : Option (Nat × Nat)} {f : FP}
    (h : RepX w Z x cs f) (ha : At w (.fld i :: p) x cs oa y c ob) :
    ∃ (l : List D) (z : D) (c1 c2 c3 : List Value) (fr fy : FP), x = .agg l ∧ l[i]? = some z ∧ cs = c1 ++ c2 ++ c3 ∧ c1.length = D.sizes (l.take i) ∧ c2.length = z.size ∧
      At w p z c2 (oa.map fun a => (a.1, a.2 + c1.length)) y c ob ∧ RepX w Z z c2 fy ∧ (∀ b, f b = fr b + fy b) ∧
      ∀ (w' : World) (Z' : Nat → Prop) (y' : D) (c2' : List Value) (f' : FP), Keeps Z Z' fr w w' → RepX w' Z' y' c2' f' → RepX w' Z' (.agg (l.set i y')) (c1 ++ c2' ++ c3) (fun b => fr b + f' b) := by
  simp only [At] at ha
  obtain ⟨l, z, c1, c2, c3, rfl, h2, rfl, h4, h5, h6⟩ := ha
  simp only [RepX] at h
  obtain ⟨d1, d2, d3, fr, fy, e1, e2, e3, e4, e5⟩ := RepXs.split l i h h2
  obtain ⟨rfl, rfl, rfl⟩ := append3_inj e1 (by omega) (by rw [h5, RepX.len z e3])
  exact ⟨l, z, c1, c2, c3, fr, fy, rfl, h2, rfl, h4, h5, h6, e3, e4, fun w' Z' y' c2' f' hk hy => by simp only [RepX]; exact e5 w' Z' y' c2' f' hk hy⟩

theorem At.mono {w w' : World} {Z Z' : Nat → Prop} : ∀ (p : List Step) {x : D} {cs : List Value} {f : FP} {oa : Option (Nat × Nat)} {y : D} {c : List Value} {ob : Option (Nat × Nat)},
    RepX w Z x cs f → Keeps Z Z' f w w' → At w p x cs oa y c ob → At w' p x cs oa y c ob
  | [], _, _, _, _, _, _, _, _, _, h => by simp only [At] at h ⊢; exact h
  | .fld i :: p, x, cs, f, oa, y, c, ob, hr, hk, h => by
    obtain ⟨l, z, c1, c2, c3, fr, fy, rfl, h2, rfl, h4, h5, h6, h7, h8, _⟩ := At.fld_split hr h
    simp only [At]
    exact ⟨l, z, c1, c2, c3, rfl, h2, rfl, h4, h5, At.mono p h7 (hk.le fun b hb => by rw [h8]; omega) h6⟩
  | .idx i :: p, x, cs, f, oa, y, c, ob, hr, hk, h => by
    simp only [At] at h ⊢
    obtain ⟨o, l, z, g, off, cap, c2, rfl, h2, rfl, h4, h5, h6⟩ := h
    obtain ⟨g', off', cap', c2', fy, e1, _, _, e2, e3, e4, e5⟩ := slice_elem_cells hr h2
    simp only [List.cons.injEq, Value.slice.injEq, Option.some.injEq, Addr.mk.injEq, and_true, true_and] at e1
    obtain ⟨⟨rfl, rfl⟩, rfl⟩ := e1
    obtain rfl := cells_eq (by omega) h5 e3
    refine ⟨o, l, z, g, off, cap, c2, rfl, h2, rfl, h4, ?_, At.mono p e4 (hk.le fun b hb => by have := e5 b; omega) h6⟩
    have hh : w'.heap[g]? = w.heap[g]? := by
      simp only [RepX] at hr
      rcases hr with ⟨rfl, _⟩ | ⟨hne, g', off', cap', xs, sz, f1, q1, q2, q3, q4, q5, q6, q7⟩
      · simp at h2
      · simp only [List.cons.injEq, Value.slice.injEq, Option.some.injEq, Addr.mk.injEq, and_true, true_and] at q1
        obtain ⟨⟨rfl, rfl⟩, rfl⟩ := q1
        rcases q7 with ⟨_, hz, _⟩ | ⟨_, _, he, _⟩
        · exact (hk.z _ hz).2
        · exact hk.k _ (by rw [he]; simp; omega)
    intro j u hu
    have := h5 j u hu
    simp only [World.cell?] at this ⊢
    rw [hh]; exact this
  | .cap i :: p, x, cs, f, oa, y, c, ob, hr, hk, h => by
    simp only [At] at h ⊢
    obtain ⟨q, l, z, cp, u, rfl, h2, rfl, h4, h5, h6⟩ := h
    obtain ⟨cp', u', _, _, fr, fy, e1, e2, e3, _, e4, e5, _⟩ := fn_cap hr h2
    simp only [List.cons.injEq, Value.func.injEq, and_true, true_and] at e1
    subst e1
    rw [h4] at e2
    cases e2
    exact ⟨q, l, z, cp, u, rfl, h2, rfl, h4, h5, At.mono p e4 (hk.le fun b hb => by have := e5 b; omega) h6⟩
  | .dr :: p, x, cs, f, oa, y, c, ob, hr, hk, h => by
    simp only [At] at h ⊢
    obtain ⟨o, z, g, off, c2, rfl, rfl, h4, h5, h6⟩ := h
    obtain ⟨g', off', c2', fy, e1, e2, e3, e4, e5, e6⟩ := ptr_cells hr
    simp only [List.cons.injEq, Value.pointer.injEq, Option.some.injEq, Addr.mk.injEq, and_true] at e1
    obtain ⟨rfl, rfl⟩ := e1
    obtain rfl := cells_eq (by omega) h5 e3
    refine ⟨o, z, g, off, c2, rfl, rfl, h4, ?_, At.mono p e4 (hk.le fun b hb => by have := e5 b; omega) h6⟩
    have hh : w'.heap[g]? = w.heap[g]? := by
      rcases e6 with hz | hg
      · exact (hk.z _ hz).2
      · exact hk.k _ hg
    intro j u hu
    have := h5 j u hu
    simp only [World.cell?] at this ⊢
    rw [hh]; exact this

/-- An owned slice's element taken out. -/
theorem own_split {w : World} {Z : Nat → Prop} {l : List D} {g off cap : Nat} {f : FP} (h : RepX w Z (.slice true l) [.slice (some ⟨g, off, none⟩) l.length cap] f) {i : Nat} {z : D} (hi : l[i]? = some z) :
    ∃ (cur : Array Value) (e : TypeId) (c1 c2 c3 : List Value) (fr fy : FP), off = 0 ∧ cap ≤ maxLen ∧ l.length ≤ cap ∧ w.heap[g]? = some (.cells cur e (0, 0)) ∧ cur.size = cap * z.size ∧
      cur.toList.take (l.length * z.size) = c1 ++ c2 ++ c3 ∧ c1.length = i * z.size ∧ c2.length = z.size ∧ RepX w Z z c2 fy ∧ (∀ b, f b = (if b = g then 1 else 0) + fr b + fy b) ∧
      ∀ (w' : World) (Z' : Nat → Prop) (y' : D) (c2' : List Value) (f' : FP) (cur' : Array Value), y'.size = z.size → Keeps Z Z' fr w w' → RepX w' Z' y' c2' f' →
        w'.heap[g]? = some (.cells cur' e (0, 0)) → cur'.size = cap * z.size → cur'.toList.take (l.length * z.size) = c1 ++ c2' ++ c3 →
        RepX w' Z' (.slice true (l.set i y')) [.slice (some ⟨g, off, none⟩) l.length cap] (fun b => (if b = g then 1 else 0) + fr b + f' b) := by
  simp only [RepX] at h
  rcases h with ⟨rfl, _⟩ | ⟨hne, g', off', cap', xs, sz, f1, q1, q2, q3, q4, q5, q6, q7⟩
  · simp at hi
  · simp only [List.cons.injEq, Value.slice.injEq, Option.some.injEq, Addr.mk.injEq, and_true, true_and] at q1
    obtain ⟨⟨rfl, rfl⟩, rfl⟩ := q1
    rcases q7 with ⟨ho, _⟩ | ⟨_, hoff, he, cur, e, hh, hcs, htk⟩
    · cases ho
    · obtain ⟨c1, c2, c3, fr, fy, e1, e2, e3, e4, e5⟩ := RepXs.split l i q6 hi
      have hlt : i < l.length := (List.getElem?_eq_some_iff.1 hi).1
      obtain rfl : z.size = sz := q5 z (List.mem_of_getElem? hi)
      refine ⟨cur, e, c1, c2, c3, fr, fy, hoff, q2, q3, hh, hcs, by rw [htk, e1], by rw [e2, chunk_get q5 hlt], RepX.len z e3, e3, fun b => by rw [he, e4]; omega, ?_⟩
      intro w' Z' y' c2' f' cur' hy hk hr hh' hcs' htk'
      simp only [RepX]
      refine .inr ⟨by intro hn; simp at hn; exact hne hn, g, off, cap, c1 ++ c2' ++ c3, z.size, fun b => fr b + f' b, by simp, q2, by simpa using q3, ?_, ?_, e5 w' Z' y' c2' f' hk hr, .inr ⟨by simp, hoff, fun b => by dsimp only; omega, cur', e, hh', hcs', by rw [List.length_set, htk']⟩⟩
      · have := RepX.len y' hr
        have h0 := congrArg List.length e1
        have := RepX.len z e3
        simp only [List.length_append] at h0 ⊢
        simp only [List.length_set]
        omega
      · intro x hx
        rcases List.mem_or_eq_of_mem_set hx with h | h
        · exact q5 x h
        · rw [h]; exact hy

theorem At.idx_split {w : World} {Z : Nat → Prop} {i : Nat} {p : List Step} {x : D} {cs : List Value} {oa : Option (Nat × Nat)} {y : D} {c : List Value} {ob : Option (Nat × Nat)} {f : FP}
    (h : RepX w Z x cs f) (ha : At w (.idx i :: p) x cs oa y c ob) (ho : ownP (.idx i :: p) x = true) :
    ∃ (l : List D) (z : D) (g cap : Nat) (cur : Array Value) (e : TypeId) (c1 c2 c3 : List Value) (fr fy : FP), x = .slice true l ∧ l[i]? = some z ∧ ownP p z = true ∧
      cs = [.slice (some ⟨g, 0, none⟩) l.length cap] ∧ cap ≤ maxLen ∧ l.length ≤ cap ∧ w.heap[g]? = some (.cells cur e (0, 0)) ∧ cur.size = cap * z.size ∧
      cur.toList.take (l.length * z.size) = c1 ++ c2 ++ c3 ∧ c1.length = i * z.size ∧ c2.length = z.size ∧ RepX w Z z c2 fy ∧ (∀ b, f b = (if b = g then 1 else 0) + fr b + fy b) ∧
      At w p z c2 (some (g, i * z.size)) y c ob ∧
      ∀ (w' : World) (Z' : Nat → Prop) (y' : D) (c2' : List Value) (f' : FP) (cur' : Array Value), y'.size = z.size → Keeps Z Z' fr w w' → RepX w' Z' y' c2' f' →
        w'.heap[g]? = some (.cells cur' e (0, 0)) → cur'.size = cap * z.size → cur'.toList.take (l.length * z.size) = c1 ++ c2' ++ c3 →
        RepX w' Z' (.slice true (l.set i y')) cs (fun b => (if b = g then 1 else 0) + fr b + f' b) := by
  simp only [At] at ha
  obtain ⟨o, l, z, g, off, cap, d2, rfl, h2, rfl, h4, h5, h6⟩ := ha
  simp only [ownP, D.sub, h2, Bool.and_eq_true] at ho
  obtain ⟨rfl, hop⟩ := ho
  obtain ⟨cur, e, c1, c2, c3, fr, fy, rfl, q1, q2, q3, q4, q5, q6, q7, q8, q9, q10⟩ := own_split h h2
  have : d2 = c2 := by
    refine cells_eq (w := w) (g := g) (o := i * z.size) (by omega) (by simpa using h5) ?_
    intro j u hu
    refine cell_of_take q3 (m := l.length * z.size) ?_
    rw [q5, List.append_assoc, List.getElem?_append_right (by omega), q6, Nat.add_sub_cancel_left, List.getElem?_append_left (List.getElem?_eq_some_iff.1 hu).1, hu]
  subst this
  rw [Nat.zero_add] at h6
  exact ⟨l, z, g, cap, cur, e, c1, d2, c3, fr, fy, rfl, h2, hop, rfl, q1, q2, q3, q4, q5, q6, q7, q8, q9, h6, q10⟩

theorem At.cap_split {w : World} {Z : Nat → Prop} {i : Nat} {p : List Step} {x : D} {cs : List Value} {oa : Option (Nat × Nat)} {y : D} {c : List Value} {ob : Option (Nat × Nat)} {f : FP}
    (h : RepX w Z x cs f) (ha : At w (.cap i :: p) x cs oa y c ob) :
    ∃ (k : Nat) (l : List D) (z : D) (cp : Array Value) (u : Value) (fr fy : FP), x = .fn k l ∧ l[i]? = some z ∧ cs = [.func (.func k) #[] cp] ∧ cp[i]? = some u ∧ z.size = 1 ∧
      At w p z [u] none y c ob ∧ RepX w Z z [u] fy ∧ (∀ b, f b = fr b + fy b) ∧
      ∀ (w' : World) (Z' : Nat → Prop) (y' : D) (f' : FP), y'.size = 1 → Keeps Z Z' fr w w' → RepX w' Z' y' [u] f' → RepX w' Z' (.fn k (l.set i y')) cs (fun b => fr b + f' b) := by
  simp only [At] at ha
  obtain ⟨k, l, z, cp, u, rfl, h2, rfl, h4, h5, h6⟩ := ha
  obtain ⟨cp', u', _, _, fr, fy, e1, e2, e3, _, e4, e5, e6⟩ := fn_cap h h2
  simp only [List.cons.injEq, Value.func.injEq, and_true, true_and] at e1
  subst e1
  rw [h4] at e2
  cases e2
  exact ⟨k, l, z, cp, u, fr, fy, rfl, h2, rfl, h4, h5, h6, e4, e5, e6⟩

theorem At.dr_split {w : World} {Z : Nat → Prop} {p : List Step} {x : D} {cs : List Value} {oa : Option (Nat × Nat)} {y : D} {c : List Value} {ob : Option (Nat × Nat)} {f : FP}
    (h : RepX w Z x cs f) (ha : At w (.dr :: p) x cs oa y c ob) (ho : ownP (.dr :: p) x = true) :
    ∃ (z : D) (g : Nat) (cur : Array Value) (e : TypeId) (fy : FP), x = .ptr true z ∧ ownP p z = true ∧ cs = [.pointer (some ⟨g, 0, none⟩)] ∧ w.heap[g]? = some (.cells cur e (0, 0)) ∧
      cur.toList.length = z.size ∧ RepX w Z z cur.toList fy ∧ (∀ b, f b = (if b = g then 1 else 0) + fy b) ∧ At w p z cur.toList (some (g, 0)) y c ob ∧
      ∀ (w' : World) (Z' : Nat → Prop) (y' : D) (f' : FP) (cur' : Array Value), RepX w' Z' y' cur'.toList f' → w'.heap[g]? = some (.cells cur' e (0, 0)) →
        RepX w' Z' (.ptr true y') cs (fun b => (if b = g then 1 else 0) + f' b) := by
  simp only [At] at ha
  obtain ⟨o, z, g, off, c2, rfl, rfl, h4, h5, h6⟩ := ha
  simp only [ownP, D.sub, Bool.and_eq_true] at ho
  obtain ⟨rfl, hop⟩ := ho
  simp only [RepX] at h
  obtain ⟨g', off', c', f1, e1, e2, e3⟩ := h
  simp only [List.cons.injEq, Value.pointer.injEq, Option.some.injEq, Addr.mk.injEq, and_true] at e1
  obtain ⟨rfl, rfl⟩ := e1
  rcases e3 with ⟨q, _⟩ | ⟨_, rfl, he, cur, e, hh, rfl⟩
  · cases q
  · have : c2 = cur.toList := by
      refine cells_eq (w := w) (g := g) (o := 0) (by have := RepX.len z e2; omega) h5 ?_
      intro j u hu
      rw [Nat.zero_add]
      exact cell_of_take (m := cur.toList.length) hh (by rw [List.take_length]; exact hu)
    subst this
    refine ⟨z, g, cur, e, f1, rfl, hop, rfl, hh, RepX.len z e2, e2, he, h6, ?_⟩
    intro w' Z' y' f' cur' hr hh'
    simp only [RepX]
    exact ⟨g, 0, cur'.toList, f', rfl, hr, .inr ⟨by simp, rfl, fun b => rfl, cur', e, hh', rfl⟩⟩

theorem setP_size : ∀ (p : List Step) {x y y' : D}, getP p x = some y → y'.size = y.size → (setP p x y').size = x.size
  | [], x, y, y', h, hs => by simp [getP] at h; subst h; simpa [setP] using hs
  | .fld i :: p, x, y, y', h, hs => by
    cases x with
    | agg l =>
      simp only [getP, D.sub, setP] at h ⊢
      cases hi : l[i]? with
      | none => rfl
      | some z =>
        simp only [hi, Option.bind_some] at h ⊢
        simp only [D.upd, D.size]
        have := setP_size p h hs
        clear h
        induction l generalizing i with
        | nil => simp at hi
        | cons a l ih =>
          cases i with
          | zero => simp at hi; subst hi; simp [D.sizes, this]
          | succ i => simp at hi; simp [D.sizes, ih i hi]
    | _ => simp [setP, D.sub]
  | .idx i :: p, x, y, y', h, hs => by
    cases x with
    | slice o l =>
      simp only [setP, D.sub]
      cases hi : l[i]? <;> simp [D.upd, D.size]
    | _ => simp [setP, D.sub]
  | .cap i :: p, x, y, y', h, hs => by
    cases x with
    | fn k l =>
      simp only [setP, D.sub]
      cases hi : l[i]? <;> simp [D.upd, D.size]
    | _ => simp [setP, D.sub]
  | .dr :: p, x, y, y', h, hs => by
    cases x with
    | ptr o z => simp [setP, D.sub, D.upd, D.size]
    | _ => simp [setP, D.sub]
end AS
set_option linter.unusedVariables false
set_option linter.unusedSimpArgs false
namespace AS
open Go

theorem At.focus {w : World} {Z : Nat → Prop} : ∀ (p : List Step) {x : D} {cs : List Value} {f : FP} {oa : Option (Nat × Nat)} {y : D} {c : List Value} {ob : Option (Nat × Nat)},
    RepX w Z x cs f → At w p x cs oa y c ob → ownP p x = true →
    ∃ (fr fy : FP), RepX w Z y c fy ∧ (∀ b, f b = fr b + fy b) ∧
      ∀ (w' : World) (Z' : Nat → Prop) (y' : D) (f' : FP), y'.size = y.size → Keeps Z Z' fr w w' → RepX w' Z' y' c f' → RepX w' Z' (setP p x y') cs (fun b => fr b + f' b)
  | [], x, cs, f, oa, y, c, ob, h, ha, _ => by
    simp only [At] at ha
    obtain ⟨rfl, rfl, rfl⟩ := ha
    exact ⟨fun _ => 0, f, h, fun b => by simp, fun w' Z' y' f' _ _ hr => by simpa [setP] using hr⟩
  | .fld i :: p, x, cs, f, oa, y, c, ob, h, ha, ho => by
    obtain ⟨l, z, c1, c2, c3, fr, fy, rfl, h2, rfl, h4, h5, h6, h7, h8, h9⟩ := At.fld_split h ha
    simp only [ownP, D.sub, h2, Bool.true_and] at ho
    obtain ⟨fr2, fy2, k1, k2, k3⟩ := At.focus p h7 h6 ho
    refine ⟨fun b => fr b + fr2 b, fy2, k1, fun b => by rw [h8, k2]; dsimp only; omega, ?_⟩
    intro w' Z' y' f' hs hk hr
    have h10 := k3 w' Z' y' f' hs (hk.le fun b hb => by omega) hr
    have h11 := h9 w' Z' _ _ _ (hk.le fun b hb => by omega) h10
    simp only [setP, D.sub, h2, D.upd]
    exact h11.congr fun b => by omega
  | .idx i :: p, x, cs, f, oa, y, c, ob, h, ha, ho => by
    obtain ⟨l, z, g, cap, cur, e, c1, c2, c3, fr, fy, rfl, h2, hop, rfl, q1, q2, q3, q4, q5, q6, q7, q8, q9, q10, q11⟩ := At.idx_split h ha ho
    obtain ⟨fr2, fy2, k1, k2, k3⟩ := At.focus p q8 q10 hop
    refine ⟨fun b => (if b = g then 1 else 0) + fr b + fr2 b, fy2, k1, fun b => by rw [q9, k2]; dsimp only; omega, ?_⟩
    intro w' Z' y' f' hs hk hr
    have h10 := k3 w' Z' y' f' hs (hk.le fun b hb => by omega) hr
    have h11 := q11 w' Z' _ _ _ cur (setP_size p (At.get p q10) hs) (hk.le fun b hb => by omega) h10 (by rw [hk.k g (by simp; omega)]; exact q3) q4 q5
    simp only [setP, D.sub, h2, D.upd]
    exact h11.congr fun b => by omega
  | .cap i :: p, x, cs, f, oa, y, c, ob, h, ha, ho => by
    obtain ⟨k, l, z, cp, u, fr, fy, rfl, h2, rfl, h4, h5, h6, h7, h8, h9⟩ := At.cap_split h ha
    simp only [ownP, D.sub, h2, Bool.true_and] at ho
    obtain ⟨fr2, fy2, k1, k2, k3⟩ := At.focus p h7 h6 ho
    refine ⟨fun b => fr b + fr2 b, fy2, k1, fun b => by rw [h8, k2]; dsimp only; omega, ?_⟩
    intro w' Z' y' f' hs hk hr
    have h10 := k3 w' Z' y' f' hs (hk.le fun b hb => by omega) hr
    have h11 := h9 w' Z' _ _ (by rw [setP_size p (At.get p h6) hs]; exact h5) (hk.le fun b hb => by omega) h10
    simp only [setP, D.sub, h2, D.upd]
    exact h11.congr fun b => by omega
  | .dr :: p, x, cs, f, oa, y, c, ob, h, ha, ho => by
    obtain ⟨z, g, cur, e, fy, rfl, hop, rfl, q3, q4, q5, q6, q7, q8⟩ := At.dr_split h ha ho
    obtain ⟨fr2, fy2, k1, k2, k3⟩ := At.focus p q5 q7 hop
    refine ⟨fun b => (if b = g then 1 else 0) + fr2 b, fy2, k1, fun b => by rw [q6, k2]; dsimp only; omega, ?_⟩
    intro w' Z' y' f' hs hk hr
    have h10 := k3 w' Z' y' f' hs (hk.le fun b hb => by omega) hr
    have h11 := q8 w' Z' _ _ cur h10 (by rw [hk.k g (by simp; omega)]; exact q3)
    simp only [setP, D.sub, D.upd]
    exact h11.congr fun b => by omega

theorem At.flds {w : World} {Z : Nat → Prop} : ∀ (p : List Step) {x : D} {cs : List Value} {f : FP} {oa : Option (Nat × Nat)} {y : D} {c : List Value} {ob : Option (Nat × Nat)},
    RepX w Z x cs f → At w p x cs oa y c ob → hasIdx p = false →
    ∃ (d1 d3 : List Value) (fr fy : FP), cs = d1 ++ c ++ d3 ∧ ob = oa.map (fun a => (a.1, a.2 + d1.length)) ∧ RepX w Z y c fy ∧ (∀ b, f b = fr b + fy b) ∧
      ∀ (w' : World) (Z' : Nat → Prop) (y' : D) (c' : List Value) (f' : FP), Keeps Z Z' fr w w' → RepX w' Z' y' c' f' → RepX w' Z' (setP p x y') (d1 ++ c' ++ d3) (fun b => fr b + f' b)
  | [], x, cs, f, oa, y, c, ob, h, ha, _ => by
    simp only [At] at ha
    obtain ⟨rfl, rfl, rfl⟩ := ha
    exact ⟨[], [], fun _ => 0, f, by simp, by cases ob <;> simp, h, fun b => by simp, fun w' Z' y' c' f' _ hr => by simpa [setP] using hr⟩
  | .idx i :: p, _, _, _, _, _, _, _, _, _, hi => by simp [hasIdx] at hi
  | .cap i :: p, _, _, _, _, _, _, _, _, _, hi => by simp [hasIdx] at hi
  | .dr :: p, _, _, _, _, _, _, _, _, _, hi => by simp [hasIdx] at hi
  | .fld i :: p, x, cs, f, oa, y, c, ob, h, ha, hi => by
    obtain ⟨l, z, c1, c2, c3, fr, fy, rfl, h2, rfl, h4, h5, h6, h7, h8, h9⟩ := At.fld_split h ha
    simp only [hasIdx] at hi
    obtain ⟨d1, d3, fr2, fy2, rfl, k0, k1, k2, k3⟩ := At.flds p h7 h6 hi
    refine ⟨c1 ++ d1, d3 ++ c3, fun b => fr b + fr2 b, fy2, by simp, ?_, k1, fun b => by rw [h8, k2]; dsimp only; omega, ?_⟩
    · rw [k0]; cases oa <;> simp [Nat.add_assoc]
    · intro w' Z' y' c' f' hk hr
      have h10 := k3 w' Z' y' c' f' (hk.le fun b hb => by omega) hr
      have h11 := h9 w' Z' _ _ _ (hk.le fun b hb => by omega) h10
      simp only [setP, D.sub, h2, D.upd]
      have e : c1 ++ d1 ++ c' ++ (d3 ++ c3) = c1 ++ (d1 ++ c' ++ d3) ++ c3 := by simp
      rw [e]
      exact h11.congr fun b => by omega

/-- The cells of a block, some of them anew. -/
def spliced (cur : Array Value) (o : Nat) (c : List Value) : Array Value := (cur.toList.take o ++ c ++ cur.toList.drop (o + c.length)).toArray

theorem spliced_size {cur : Array Value} {o : Nat} {c : List Value} (h : o + c.length ≤ cur.size) : (spliced cur o c).size = cur.size := by
  simp [spliced]; omega

theorem spliced_take {cur : Array Value} {o m : Nat} {c c' a b : List Value} (hc : c'.length = c.length) (h : cur.toList.take m = a ++ c ++ b) (ha : a.length = o) :
    (spliced cur o c').toList.take m = a ++ c' ++ b := by
  have h1 : cur.toList = a ++ c ++ b ++ cur.toList.drop m := by rw [← h, List.take_append_drop]
  have h2 : cur.toList.take o = a := by rw [h1]; simp [← ha]
  have h3 : cur.toList.drop (o + c.length) = b ++ cur.toList.drop m := by
    conv => lhs; rw [h1]
    rw [List.append_assoc (a ++ c), ← ha, ← List.length_append, List.drop_left]
  simp only [spliced, hc, h2, h3]
  have hl := congrArg List.length h
  simp only [List.length_take, List.length_append, Array.length_toList] at hl
  rw [← List.append_assoc]
  by_cases hlm : m ≤ cur.size
  · rw [List.take_append_of_le_length (by simp; omega), List.take_of_length_le (by simp; omega)]
  · rw [List.drop_of_length_le (by simp; omega), List.append_nil, List.take_of_length_le (by simp; omega)]

theorem At.store {w : World} {Z : Nat → Prop} : ∀ (p : List Step) {x : D} {cs : List Value} {f : FP} {oa : Option (Nat × Nat)} {y : D} {c : List Value} {ob : Option (Nat × Nat)},
    RepX w Z x cs f → At w p x cs oa y c ob → ownP p x = true → hasIdx p = true → ob ≠ none → (∀ b, f b ≤ 1) →
    ∃ (g o : Nat) (cur : Array Value) (e : TypeId) (fr fy : FP), ob = some (g, o) ∧ w.heap[g]? = some (.cells cur e (0, 0)) ∧ o + c.length ≤ cur.size ∧ fr g = 1 ∧ RepX w Z y c fy ∧ (∀ b, f b = fr b + fy b) ∧
      ∀ (w' : World) (Z' : Nat → Prop) (y' : D) (c' : List Value) (f' : FP), c'.length = c.length → y'.size = y.size → w'.heap[g]? = some (.cells (spliced cur o c') e (0, 0)) →
        Keeps Z Z' (fun b => if b = g then 0 else fr b) w w' → RepX w' Z' y' c' f' → RepX w' Z' (setP p x y') cs (fun b => fr b + f' b)
  | [], _, _, _, _, _, _, _, _, _, _, hi, _, _ => by simp [hasIdx] at hi
  | .fld i :: p, x, cs, f, oa, y, c, ob, h, ha, ho, hi, hb, h1 => by
    obtain ⟨l, z, c1, c2, c3, fr, fy, rfl, h2, rfl, h4, h5, h6, h7, h8, h9⟩ := At.fld_split h ha
    simp only [ownP, D.sub, h2, Bool.true_and] at ho
    simp only [hasIdx] at hi
    obtain ⟨g, o, cur, e, fr2, fy2, k1, k2, k3, k4, k5, k6, k7⟩ := At.store p h7 h6 ho hi hb (fun b => by have := h1 b; have := h8 b; omega)
    have hg0 : fr g = 0 := by have := h1 g; have := h8 g; have := k6 g; omega
    refine ⟨g, o, cur, e, fun b => fr b + fr2 b, fy2, k1, k2, k3, by dsimp only; omega, k5, fun b => by rw [h8, k6]; dsimp only; omega, ?_⟩
    intro w' Z' y' c' f' hc hs hh hk hr
    have h10 := k7 w' Z' y' c' f' hc hs hh (hk.le fun b hb => by split <;> simp_all; omega) hr
    have h11 := h9 w' Z' _ _ _ (hk.le fun b hb => by split <;> simp_all; omega) h10
    simp only [setP, D.sub, h2, D.upd]
    exact h11.congr fun b => by omega
  | .idx i :: p, x, cs, f, oa, y, c, ob, h, ha, ho, _, hb, h1 => by
    obtain ⟨l, z, g, cap, cur, e, c1, c2, c3, fr, fy, rfl, h2, hop, rfl, q1, q2, q3, q4, q5, q6, q7, q8, q9, q10, q11⟩ := At.idx_split h ha ho
    have hlt : i < l.length := (List.getElem?_eq_some_iff.1 h2).1
    have hmul : i * z.size + z.size ≤ l.length * z.size := by have := Nat.mul_le_mul_right z.size hlt; rw [Nat.succ_mul] at this; exact this
    have hmul2 : l.length * z.size ≤ cap * z.size := Nat.mul_le_mul_right _ q2
    by_cases hi : hasIdx p = true
    · obtain ⟨g2, o2, cur2, e2, fr2, fy2, k1, k2, k3, k4, k5, k6, k7⟩ := At.store p q8 q10 hop hi hb (fun b => by have := h1 b; have := q9 b; omega)
      have hne : g2 ≠ g := by
        intro e
        subst e
        have := h1 g2; have := q9 g2; have := k6 g2; simp at *; omega
      have hg0 : fr g2 = 0 := by have := h1 g2; have := q9 g2; have := k6 g2; omega
      refine ⟨g2, o2, cur2, e2, fun b => (if b = g then 1 else 0) + fr b + fr2 b, fy2, k1, k2, k3, by simp [hne]; omega, k5, fun b => by rw [q9, k6]; dsimp only; omega, ?_⟩
      intro w' Z' y' c' f' hc hs hh hk hr
      have h10 := k7 w' Z' y' c' f' hc hs hh (hk.le fun b hb => by split <;> simp_all; omega) hr
      have h11 := q11 w' Z' _ _ _ cur (setP_size p (At.get p q10) hs) (hk.le fun b hb => by split <;> simp_all; omega) h10 (by rw [hk.k g (by simp [hne.symm]; omega)]; exact q3) q4 q5
      simp only [setP, D.sub, h2, D.upd]
      exact h11.congr fun b => by omega
    · obtain ⟨d1, d3, fr2, fy2, rfl, k0, k1, k2, k3⟩ := At.flds p q8 q10 (by simpa using hi)
      have hcl : c1.length + (d1 ++ c ++ d3).length ≤ cur.size := by rw [q6, q7, q4]; omega
      refine ⟨g, i * z.size + d1.length, cur, e, fun b => (if b = g then 1 else 0) + fr b + fr2 b, fy2, by rw [k0]; rfl, q3, by simp at hcl; omega, ?_, k1, fun b => by rw [q9, k2]; dsimp only; omega, ?_⟩
      · have := h1 g; have := q9 g; have := k2 g; simp at *; omega
      · intro w' Z' y' c' f' hc hs hh hk hr
        have hg0 : fr g = 0 ∧ fr2 g = 0 := by have := h1 g; have := q9 g; have := k2 g; simp at *; omega
        have h10 := k3 w' Z' y' c' f' (hk.le fun b hb => by split <;> simp_all; omega) hr
        have h11 := q11 w' Z' _ _ _ _ (setP_size p (At.get p q10) hs) (hk.le fun b hb => by split <;> simp_all; omega) h10 hh (by rw [spliced_size (by simp at hcl ⊢; omega), q4])
          (by
            have := spliced_take (cur := cur) (o := i * z.size + d1.length) (m := l.length * z.size) (c := c) (c' := c') (a := c1 ++ d1) (b := d3 ++ c3) hc (by rw [q5]; simp) (by simp [q6])
            rw [this]; simp)
        simp only [setP, D.sub, h2, D.upd]
        exact h11.congr fun b => by omega
  | .cap i :: p, x, cs, f, oa, y, c, ob, h, ha, ho, _, hb, h1 => by
    obtain ⟨k, l, z, cp, u, fr, fy, rfl, h2, rfl, h4, h5, h6, h7, h8, h9⟩ := At.cap_split h ha
    simp only [ownP, D.sub, h2, Bool.true_and] at ho
    by_cases hi : hasIdx p = true
    · obtain ⟨g, o, cur, e, fr2, fy2, k1, k2, k3, k4, k5, k6, k7⟩ := At.store p h7 h6 ho hi hb (fun b => by have := h1 b; have := h8 b; omega)
      have hg0 : fr g = 0 := by have := h1 g; have := h8 g; have := k6 g; omega
      refine ⟨g, o, cur, e, fun b => fr b + fr2 b, fy2, k1, k2, k3, by dsimp only; omega, k5, fun b => by rw [h8, k6]; dsimp only; omega, ?_⟩
      intro w' Z' y' c' f' hc hs hh hk hr
      have h10 := k7 w' Z' y' c' f' hc hs hh (hk.le fun b hb => by split <;> simp_all; omega) hr
      have h11 := h9 w' Z' _ _ (by rw [setP_size p (At.get p h6) hs]; exact h5) (hk.le fun b hb => by split <;> simp_all; omega) h10
      simp only [setP, D.sub, h2, D.upd]
      exact h11.congr fun b => by omega
    · obtain ⟨d1, d3, fr2, fy2, _, k0, _⟩ := At.flds p h7 h6 (by simpa using hi)
      exact absurd k0 hb
  | .dr :: p, x, cs, f, oa, y, c, ob, h, ha, ho, _, hb, h1 => by
    obtain ⟨z, g, cur, e, fy, rfl, hop, rfl, q3, q4, q5, q6, q7, q8⟩ := At.dr_split h ha ho
    by_cases hi : hasIdx p = true
    · obtain ⟨g2, o2, cur2, e2, fr2, fy2, k1, k2, k3, k4, k5, k6, k7⟩ := At.store p q5 q7 hop hi hb (fun b => by have := h1 b; have := q6 b; omega)
      have hne : g2 ≠ g := by
        intro e
        subst e
        have := h1 g2; have := q6 g2; have := k6 g2; simp at *; omega
      refine ⟨g2, o2, cur2, e2, fun b => (if b = g then 1 else 0) + fr2 b, fy2, k1, k2, k3, by simp [hne]; omega, k5, fun b => by rw [q6, k6]; dsimp only; omega, ?_⟩
      intro w' Z' y' c' f' hc hs hh hk hr
      have h10 := k7 w' Z' y' c' f' hc hs hh (hk.le fun b hb => by split <;> simp_all; omega) hr
      have h11 := q8 w' Z' _ _ cur h10 (by rw [hk.k g (by simp [hne.symm]; omega)]; exact q3)
      simp only [setP, D.sub, D.upd]
      exact h11.congr fun b => by omega
    · obtain ⟨d1, d3, fr2, fy2, hcur, k0, k1, k2, k3⟩ := At.flds p q5 q7 (by simpa using hi)
      have hcl := congrArg List.length hcur
      simp only [Array.length_toList, List.length_append] at hcl
      refine ⟨g, d1.length, cur, e, fun b => (if b = g then 1 else 0) + fr2 b, fy2, by rw [k0]; simp, q3, by omega, ?_, k1, fun b => by rw [q6, k2]; dsimp only; omega, ?_⟩
      · have := h1 g; have := q6 g; have := k2 g; simp at *; omega
      · intro w' Z' y' c' f' hc hs hh hk hr
        have hg0 : fr2 g = 0 := by have := h1 g; have := q6 g; have := k2 g; simp at *; omega
        have h10 := k3 w' Z' y' c' f' (hk.le fun b hb => by split <;> simp_all <;> omega) hr
        have hsp : (spliced cur d1.length c').toList = d1 ++ c' ++ d3 := by
          have := spliced_take (cur := cur) (o := d1.length) (m := cur.toList.length) (c := c) (c' := c') (a := d1) (b := d3) hc (by rw [List.take_length, hcur]) rfl
          rwa [List.take_of_length_le (by rw [Array.length_toList, spliced_size (by omega), Array.length_toList]; exact Nat.le_refl _)] at this
        have h11 := q8 w' Z' _ _ (spliced cur d1.length c') (by rw [hsp]; exact h10) hh
        simp only [setP, D.sub, D.upd]
        exact h11.congr fun b => by omega
end AS
set_option linter.unusedVariables false
set_option linter.unusedSimpArgs false
namespace AS
open Go

inductive SV where
  | un
  | d (x : D)
  | box (x : D)
  | tup (l : List (Option D))
  | ref (r : Nat) (p : List Step)
  | adr (r : Nat) (p : List Step)
  | mad (r : Nat) (p : List Step)
  | ima (x : D)
  deriving Inhabited

def SV.root : SV → Option Nat
  | .ref r _ => some r
  | .adr r _ => some r
  | .mad r _ => some r
  | _ => none
def SV.path : SV → List Step
  | .ref _ p => p
  | .adr _ p => p
  | .mad _ p => p
  | _ => []

def tmOf (a : Act) (t : Nat) : Value := a.tmps.getD t undef

def RootOf (w : World) (T : Nat → SV) (tm : Nat → Value) (r : Nat) (x : D) (cs : List Value) (oa : Option (Nat × Nat)) : Prop :=
  (T r = .d x ∧ cs = (tm r).cells.toList ∧ oa = none) ∨
  (∃ (b : Nat) (cur : Array Value) (e : TypeId), T r = .box x ∧ tm r = .pointer (some ⟨b, 0, none⟩) ∧ w.heap[b]? = some (.cells cur e (0, 0)) ∧ cs = cur.toList ∧ oa = some (b, 0))

def TupRep (w : World) (Z : Nat → Prop) : List (Option D) → List Value → FP → Prop
  | [], vs, f => vs = [] ∧ ∀ b, f b = 0
  | some x :: l, vs, f => ∃ (v : Value) (vs2 : List Value) (f1 f2 : FP), vs = v :: vs2 ∧ (∀ b, f b = f1 b + f2 b) ∧ RepV w Z x v f1 ∧ TupRep w Z l vs2 f2
  | none :: l, vs, f => ∃ (v : Value) (vs2 : List Value), vs = v :: vs2 ∧ TupRep w Z l vs2 f

/-- What hangs on no other slot. -/
def SRepN (w : World) (Z : Nat → Prop) (v : Value) : SV → FP → Prop
  | .un, f => ∀ b, f b = 0
  | .d x, f => RepV w Z x v f
  | .box x, f => ∃ (g : Nat) (cur : Array Value) (e : TypeId) (f1 : FP), v = .pointer (some ⟨g, 0, none⟩) ∧ w.heap[g]? = some (.cells cur e (0, 0)) ∧ RepX w Z x cur.toList f1 ∧
      ∀ b, f b = (if b = g then 1 else 0) + f1 b
  | .tup l, f => ∃ vs : Array Value, v = .tuple vs ∧ TupRep w Z l vs.toList f
  | .ima x, f => (∀ b, f b = 0) ∧ ∃ (g o : Nat) (c : List Value), v = .pointer (some ⟨g, o, none⟩) ∧ Z g ∧ (∀ j u, c[j]? = some u → w.cell? ⟨g, o + j, none⟩ = some u) ∧ RepX w Z x c (fun _ => 0)
  | .ref _ _, _ => False
  | .adr _ _, _ => False
  | .mad _ _, _ => False

/-- What the value of a way is: what lies there itself; its address; the address of a like of it that nobody writes. -/
def wayOk (w : World) (Z : Nat → Prop) (v : Value) (y : D) (c : List Value) (ob : Option (Nat × Nat)) : SV → Prop
  | .ref _ _ => v.cells.toList = c ∧ vAgg v = y.isAgg
  | .adr _ _ => ∃ (g o : Nat), ob = some (g, o) ∧ v = .pointer (some ⟨g, o, none⟩)
  | .mad _ _ => ∃ (g o : Nat), v = .pointer (some ⟨g, o, none⟩) ∧ Z g ∧ ∀ j u, c[j]? = some u → w.cell? ⟨g, o + j, none⟩ = some u
  | _ => False

def SRepR (w : World) (Z : Nat → Prop) (T : Nat → SV) (tm : Nat → Value) (v : Value) (s : SV) (r : Nat) : Prop :=
  ∃ (x : D) (cs : List Value) (oa : Option (Nat × Nat)) (y : D) (c : List Value) (ob : Option (Nat × Nat)), RootOf w T tm r x cs oa ∧ At w s.path x cs oa y c ob ∧ ownP s.path x = true ∧ wayOk w Z v y c ob s

def SRep (w : World) (Z : Nat → Prop) (T : Nat → SV) (tm : Nat → Value) (v : Value) (s : SV) (f : FP) : Prop :=
  match s.root with
  | none => SRepN w Z v s f
  | some r => (∀ b, f b = 0) ∧ SRepR w Z T tm v s r

theorem SRep.none {w : World} {Z : Nat → Prop} {T : Nat → SV} {tm : Nat → Value} {v : Value} {s : SV} {f : FP} (h : s.root = none) : SRep w Z T tm v s f ↔ SRepN w Z v s f := by
  simp [SRep, h]
theorem SRep.some {w : World} {Z : Nat → Prop} {T : Nat → SV} {tm : Nat → Value} {v : Value} {s : SV} {f : FP} {r : Nat} (h : s.root = some r) : SRep w Z T tm v s f ↔ (∀ b, f b = 0) ∧ SRepR w Z T tm v s r := by
  simp [SRep, h]

theorem wayOk.mono {w w' : World} {Z Z' : Nat → Prop} {v : Value} {y : D} {c : List Value} {ob : Option (Nat × Nat)} {s : SV} (hz : ∀ b, Z b → Z' b ∧ w'.heap[b]? = w.heap[b]?) (h : wayOk w Z v y c ob s) :
    wayOk w' Z' v y c ob s := by
  cases s with
  | mad r p =>
    obtain ⟨g, o, h1, h2, h3⟩ := h
    refine ⟨g, o, h1, (hz g h2).1, fun j u hu => ?_⟩
    have := h3 j u hu
    simp only [World.cell?] at this ⊢
    rw [(hz g h2).2]; exact this
  | _ => exact h

/-- Of what was there, all stands but what lies at 'tk'. -/
structure Fr (tk : FP) (w w' : World) : Prop where
  os : w'.os = w.os
  tape : w'.tape = w.tape
  output : w'.output = w.output
  size : w.heap.size ≤ w'.heap.size
  block : ∀ k, k < w.heap.size → tk k = 0 → w'.heap[k]? = w.heap[k]?

theorem Fr.refl (tk : FP) (w : World) : Fr tk w w := ⟨rfl, rfl, rfl, Nat.le_refl _, fun _ _ _ => rfl⟩

structure Core (w0 : World) (tk : FP) (n : Nat) (Z0 Z : Nat → Prop) (F : Nat → FP) (S : FP) (T : Nat → SV) (a : Act) (w : World) : Prop where
  size : a.tmps.size = n
  dfr : a.defers = []
  rep : ∀ t, SRep w Z T (tmOf a) (tmOf a t) (T t) (F t)
  lt : ∀ t, n ≤ t → T t = .un
  dis : ∀ t t' b, t ≠ t' → F t b + F t' b ≤ 1
  one : ∀ t b, F t b + S b ≤ 1
  zf : ∀ b, Z b → b < w.heap.size ∧ S b = 0 ∧ ∀ t, F t b = 0
  own : ∀ b, (0 < S b ∨ ∃ t, 0 < F t b) → b < w.heap.size ∧ (w0.heap.size ≤ b ∨ 0 < tk b)
  zz : ∀ b, Z0 b → Z b
  zn : ∀ b, Z b → Z0 b ∨ w0.heap.size ≤ b ∨ 0 < tk b
  fr : Fr tk w0 w
  tz : TZ w Z

theorem TupRep.mono {w w' : World} {Z Z' : Nat → Prop} (hz : ∀ b, Z b → Z' b ∧ w'.heap[b]? = w.heap[b]?) :
    ∀ (l : List (Option D)) {vs : List Value} {f : FP}, (∀ b, 0 < f b → w'.heap[b]? = w.heap[b]?) → TupRep w Z l vs f → TupRep w' Z' l vs f
  | [], _, _, _, h => h
  | some x :: l, _, _, hf, h => by
    obtain ⟨v, vs2, f1, f2, h1, h2, h3, h4⟩ := h
    exact ⟨v, vs2, f1, f2, h1, h2, RepV.mono hz (fun b hb => hf b (by rw [h2]; omega)) h3, TupRep.mono hz l (fun b hb => hf b (by rw [h2]; omega)) h4⟩
  | none :: l, _, _, hf, h => by
    obtain ⟨v, vs2, h1, h2⟩ := h
    exact ⟨v, vs2, h1, TupRep.mono hz l hf h2⟩

theorem SRepN.mono {w w' : World} {Z Z' : Nat → Prop} {v : Value} {s : SV} {f : FP} (hk : Keeps Z Z' f w w') (h : SRepN w Z v s f) : SRepN w' Z' v s f := by
  cases s with
  | un => exact h
  | d x => exact RepV.mono hk.z hk.k h
  | box x =>
    obtain ⟨g, cur, e, f1, h1, h2, h3, h4⟩ := h
    exact ⟨g, cur, e, f1, h1, by rw [hk.k g (by rw [h4]; simp; omega)]; exact h2, RepX.mono hk.z x (fun b hb => hk.k b (by rw [h4]; omega)) h3, h4⟩
  | tup l => obtain ⟨vs, h1, h2⟩ := h; exact ⟨vs, h1, TupRep.mono hk.z l hk.k h2⟩
  | ima x =>
    obtain ⟨h0, g, o, c, h1, h2, h3, h4⟩ := h
    refine ⟨h0, g, o, c, h1, (hk.z g h2).1, ?_, RepX.mono hk.z x (fun b hb => by omega) h4⟩
    intro j u hu
    have := h3 j u hu
    simp only [World.cell?] at this ⊢
    rw [(hk.z g h2).2]; exact this
  | ref r p => exact h.elim
  | adr r p => exact h.elim
  | mad r p => exact h.elim

section
variable {w0 : World} {tk : FP} {n : Nat} {Z0 Z : Nat → Prop} {F : Nat → FP} {S : FP} {T : Nat → SV} {a : Act} {w : World}

/-- A root's own reading. -/
theorem Core.root (h : Core w0 tk n Z0 Z F S T a w) {r : Nat} {x : D} {cs : List Value} {oa : Option (Nat × Nat)} (hr : RootOf w T (tmOf a) r x cs oa) :
    ∃ f1 : FP, RepX w Z x cs f1 ∧ (∀ b, f1 b ≤ F r b) ∧ ((oa = none ∧ ∀ b, F r b = f1 b) ∨ ∃ g, oa = some (g, 0) ∧ ∀ b, F r b = (if b = g then 1 else 0) + f1 b) := by
  have h1 := h.rep r
  rcases hr with ⟨ht, rfl, rfl⟩ | ⟨b, cur, e, ht, hp, hh, rfl, rfl⟩
  · rw [ht] at h1
    simp only [SRep, SV.root, SRepN] at h1
    exact ⟨F r, h1.2, fun _ => Nat.le_refl _, .inl ⟨rfl, fun _ => rfl⟩⟩
  · rw [ht] at h1
    simp only [SRep, SV.root, SRepN] at h1
    obtain ⟨g, cur', e', f1, k1, k2, k3, k4⟩ := h1
    rw [hp] at k1
    simp only [Value.pointer.injEq, Option.some.injEq, Addr.mk.injEq, and_true] at k1
    subst k1
    rw [hh] at k2
    simp only [Option.some.injEq, Obj.cells.injEq, and_true] at k2
    obtain ⟨rfl, rfl⟩ := k2
    exact ⟨f1, k3, fun c => by rw [k4]; omega, .inr ⟨b, rfl, k4⟩⟩

theorem RootOf.world {w' : World} {tm : Nat → Value} {r : Nat} {x : D} {cs : List Value} {oa : Option (Nat × Nat)} (hr : RootOf w T tm r x cs oa) (hb : ∀ g, oa = some (g, 0) → w'.heap[g]? = w.heap[g]?) :
    RootOf w' T tm r x cs oa := by
  rcases hr with hr | ⟨b, cur, e, ht, hp, hh, rfl, rfl⟩
  · exact .inl hr
  · exact .inr ⟨b, cur, e, ht, hp, by rw [hb b rfl]; exact hh, rfl, rfl⟩

/-- The world goes on: what is not spare stands as it was. -/
theorem Core.step (h : Core w0 tk n Z0 Z F S T a w) {w' : World} {Z' : Nat → Prop} {S' : FP} (hf : Fr S w w') (hs1 : ∀ b, S' b ≤ 1)
    (hs2 : ∀ b, 0 < S' b → b < w'.heap.size ∧ (w.heap.size ≤ b ∨ 0 < S b)) (hz1 : ∀ b, Z b → Z' b)
    (hz2 : ∀ b, Z' b → Z b ∨ (b < w'.heap.size ∧ (w.heap.size ≤ b ∨ 0 < S b) ∧ S' b = 0)) : Core w0 tk n Z0 Z' F S' T a w' := by
  have hF : ∀ t b, 0 < F t b → b < w.heap.size ∧ S b = 0 := fun t b hb => ⟨(h.own b (.inr ⟨t, hb⟩)).1, by have := h.one t b; omega⟩
  have hk : ∀ t, Keeps Z Z' (F t) w w' := fun t =>
    ⟨fun b hb => ⟨hz1 b hb, hf.block b (h.zf b hb).1 (h.zf b hb).2.1⟩, fun b hb => hf.block b (hF t b hb).1 (hF t b hb).2⟩
  refine ⟨h.size, h.dfr, ?_, h.lt, h.dis, ?_, ?_, ?_, fun b hb => hz1 b (h.zz b hb), ?_, ?_, TZ.mono (hk 0).z h.tz⟩
  · intro t
    have h1 := h.rep t
    cases hr : (T t).root with
    | none => rw [SRep.none hr] at h1 ⊢; exact h1.mono (hk t)
    | some r =>
      rw [SRep.some hr] at h1 ⊢
      obtain ⟨h0, x, cs, oa, y, c, ob, k1, k2, k3, k4⟩ := h1
      obtain ⟨f1, r1, r2, r3⟩ := h.root k1
      refine ⟨h0, x, cs, oa, y, c, ob, k1.world ?_, At.mono _ r1 ((hk r).le fun b hb => by have := r2 b; omega) k2, k3, k4.mono (hk r).z⟩
      intro g hg
      rcases r3 with ⟨hn, _⟩ | ⟨g', hg', he⟩
      · rw [hn] at hg; cases hg
      · rw [hg'] at hg; cases hg; exact (hk r).k g (by rw [he]; simp; omega)
  · intro t b
    by_cases hb : 0 < S' b
    · have h3 := hs2 b hb
      have h4 : F t b = 0 := by
        by_cases h0 : 0 < F t b
        · have := hF t b h0; omega
        · omega
      have := hs1 b; omega
    · have := h.one t b; omega
  · intro b hb
    rcases hz2 b hb with hz | ⟨h3, h4, h5⟩
    · have h6 := h.zf b hz
      have hsz := hf.size
      refine ⟨by omega, ?_, h6.2.2⟩
      by_cases h0 : 0 < S' b
      · have := hs2 b h0; omega
      · omega
    · refine ⟨h3, h5, fun t => ?_⟩
      by_cases h0 : 0 < F t b
      · have := hF t b h0; omega
      · omega
  · intro b hb
    have hsz := hf.size
    have hsz0 := h.fr.size
    rcases hb with hb | ⟨t, hb⟩
    · have h3 := hs2 b hb
      refine ⟨h3.1, ?_⟩
      rcases h3.2 with h4 | h4
      · left; omega
      · exact (h.own b (.inl h4)).2
    · have := h.own b (.inr ⟨t, hb⟩)
      exact ⟨by omega, this.2⟩
  · intro b hb
    have hsz0 := h.fr.size
    rcases hz2 b hb with hz | ⟨h3, h4, _⟩
    · exact h.zn b hz
    · rcases h4 with h4 | h4
      · right; left; omega
      · right; exact (h.own b (.inl h4)).2
  · refine ⟨hf.os.trans h.fr.os, hf.tape.trans h.fr.tape, hf.output.trans h.fr.output, Nat.le_trans h.fr.size hf.size, ?_⟩
    intro k hk1 hk2
    have hsz0 := h.fr.size
    have hS : S k = 0 := by
      by_cases h0 : 0 < S k
      · have := (h.own k (.inl h0)).2; omega
      · omega
    rw [hf.block k (by omega) hS, h.fr.block k hk1 hk2]

/-- Less spare. -/
theorem Core.less (h : Core w0 tk n Z0 Z F S T a w) {S' : FP} (hs : ∀ b, S' b ≤ S b) : Core w0 tk n Z0 Z F S' T a w :=
  ⟨h.size, h.dfr, h.rep, h.lt, h.dis, fun t b => by have := h.one t b; have := hs b; omega,
    fun b hb => by have h1 := h.zf b hb; have := hs b; exact ⟨h1.1, by omega, h1.2.2⟩,
    fun b hb => h.own b (by rcases hb with hb | hb
                            · left; have := hs b; omega
                            · exact .inr hb), h.zz, h.zn, h.fr, h.tz⟩

def put (T : Nat → SV) (dst : Nat) (s : SV) : Nat → SV := fun t => if t = dst then s else if (T t).root = some dst then .un else T t
def updF (F : Nat → FP) (dst : Nat) (f : FP) : Nat → FP := fun t => if t = dst then f else F t

theorem RootOf.put {tm tm' : Nat → Value} {r : Nat} {x : D} {cs : List Value} {oa : Option (Nat × Nat)} (hr : RootOf w T tm r x cs oa) {dst : Nat} {s : SV} (hne : r ≠ dst) (htm : tm' r = tm r) :
    RootOf w (put T dst s) tm' r x cs oa := by
  rcases hr with ⟨ht, rfl, rfl⟩ | ⟨b, cur, e, ht, hp, hh, rfl, rfl⟩
  · exact .inl ⟨by simp [AS.put, hne, ht, SV.root], by rw [htm], rfl⟩
  · exact .inr ⟨b, cur, e, by simp [AS.put, hne, ht, SV.root], by rw [htm]; exact hp, hh, rfl, rfl⟩

theorem SRepR.put {tm tm' : Nat → Value} {v : Value} {s s' : SV} {r dst : Nat} (hs : SRepR w Z T tm v s r) (hne : r ≠ dst) (htm : tm' r = tm r) : SRepR w Z (put T dst s') tm' v s r := by
  obtain ⟨x, cs, oa, y, c, ob, k1, k2, k3, k4⟩ := hs
  exact ⟨x, cs, oa, y, c, ob, k1.put hne htm, k2, k3, k4⟩

/-- One slot anew. -/
theorem Core.set (h : Core w0 tk n Z0 Z F S T a w) {dst : Nat} {a' : Act} {s : SV} {f S' : FP} (hsz : a'.tmps.size = n) (hdf : a'.defers = []) (htm : ∀ t, t ≠ dst → tmOf a' t = tmOf a t)
    (hs : SRep w Z (put T dst s) (tmOf a') (tmOf a' dst) s f) (hb : ∀ b, f b + S' b ≤ S b + F dst b) (hlt : n ≤ dst → s = .un) :
    Core w0 tk n Z0 Z (updF F dst f) S' (put T dst s) a' w := by
  have hsum : ∀ t b, t ≠ dst → F t b + (S b + F dst b) ≤ 1 := by
    intro t b ht
    have h1 := h.dis t dst b ht; have h2 := h.one t b; have h3 := h.one dst b
    omega
  refine ⟨hsz, hdf, ?_, ?_, ?_, ?_, ?_, ?_, h.zz, h.zn, h.fr, h.tz⟩
  · intro t
    by_cases ht : t = dst
    · subst ht
      have e : put T t s t = s := by simp [put]
      rw [e]
      simpa [updF] using hs
    · have e2 : updF F dst f t = F t := by simp [updF, ht]
      rw [e2, htm t ht]
      have h1 := h.rep t
      by_cases hr : (T t).root = some dst
      · have e : put T dst s t = .un := by simp [put, ht, hr]
        rw [e, SRep.none rfl]
        rw [SRep.some hr] at h1
        exact h1.1
      · have e : put T dst s t = T t := by simp [put, ht, hr]
        rw [e]
        cases hroot : (T t).root with
        | none => rw [SRep.none hroot] at h1 ⊢; exact h1
        | some r =>
          rw [SRep.some hroot] at h1 ⊢
          have hne : r ≠ dst := by intro e; subst e; exact hr hroot
          exact ⟨h1.1, h1.2.put hne (htm r hne)⟩
  · intro t ht
    by_cases e : t = dst
    · subst e; simp [put, hlt ht]
    · simp only [put, e, if_false]; split
      · rfl
      · exact h.lt t ht
  · intro t t' b hne
    by_cases e : t = dst
    · subst e
      have := hsum t' b (by omega)
      have := hb b
      simp only [updF, if_true, if_neg (Ne.symm hne)]
      omega
    · by_cases e' : t' = dst
      · subst e'
        have := hsum t b e
        have := hb b
        simp only [updF, if_true, if_neg e]
        omega
      · simp only [updF, if_neg e, if_neg e']
        exact h.dis t t' b hne
  · intro t b
    by_cases e : t = dst
    · subst e
      have := h.one t b
      have := hb b
      simp only [updF, if_true]
      omega
    · have := hsum t b e
      have := hb b
      simp only [updF, if_neg e]
      omega
  · intro b hz
    have h1 := h.zf b hz
    have h2 := h1.2.2 dst
    have := hb b
    refine ⟨h1.1, by omega, fun t => ?_⟩
    by_cases e : t = dst
    · subst e; simp only [updF, if_true]; omega
    · simp only [updF, if_neg e]; exact h1.2.2 t
  · intro b hx
    refine h.own b ?_
    have := hb b
    rcases hx with hx | ⟨t, hx⟩
    · by_cases h0 : 0 < S b
      · exact .inl h0
      · exact .inr ⟨dst, by omega⟩
    · by_cases e : t = dst
      · subst e
        simp only [updF, if_true] at hx
        by_cases h0 : 0 < S b
        · exact .inl h0
        · exact .inr ⟨t, by omega⟩
      · simp only [updF, if_neg e] at hx
        exact .inr ⟨t, hx⟩

theorem tmOf_put {a : Act} {dst : Nat} {v : Value} (h : dst < a.tmps.size) (t : Nat) : tmOf (a.put (some dst) v) t = if t = dst then v else tmOf a t := by
  unfold tmOf
  simp only [Act.put, Array.getD_eq_getD_getElem?, Array.getElem?_setIfInBounds]
  by_cases e : t = dst
  · subst e; simp [h]
  · simp [e, Ne.symm e]

theorem size_put (a : Act) (dst : Option Nat) (v : Value) : (a.put dst v).tmps.size = a.tmps.size := by
  cases dst <;> simp [Act.put]
theorem dfr_put (a : Act) (dst : Option Nat) (v : Value) : (a.put dst v).defers = a.defers := by
  cases dst <;> simp [Act.put]

/-- A value of its own put into a slot. -/
theorem Core.putN (h : Core w0 tk n Z0 Z F S T a w) {dst : Nat} {v : Value} {s : SV} {f S' : FP} (hd : dst < n) (hr : s.root = none) (hs : SRepN w Z v s f) (hb : ∀ b, f b + S' b ≤ S b + F dst b) :
    Core w0 tk n Z0 Z (updF F dst f) S' (AS.put T dst s) (a.put (some dst) v) w := by
  have hd' : dst < a.tmps.size := by rw [h.size]; exact hd
  refine h.set (by rw [size_put, h.size]) (by rw [dfr_put, h.dfr]) (fun t ht => by rw [tmOf_put hd', if_neg ht]) ?_ hb (fun hn => by omega)
  rw [tmOf_put hd', if_pos rfl]
  rw [SRep.none hr]; exact hs

/-- A way to another slot put into a slot. -/
theorem Core.putR (h : Core w0 tk n Z0 Z F S T a w) {dst r : Nat} {v : Value} {s : SV} (hd : dst < n) (hr : s.root = some r) (hne : r ≠ dst) (hs : SRepR w Z T (tmOf a) v s r) :
    Core w0 tk n Z0 Z (updF F dst fun _ => 0) S (AS.put T dst s) (a.put (some dst) v) w := by
  have hd' : dst < a.tmps.size := by rw [h.size]; exact hd
  refine h.set (by rw [size_put, h.size]) (by rw [dfr_put, h.dfr]) (fun t ht => by rw [tmOf_put hd', if_neg ht]) ?_ (fun b => by omega) (fun hn => by omega)
  rw [tmOf_put hd', if_pos rfl]
  rw [SRep.some hr]
  exact ⟨fun _ => rfl, hs.put hne (by rw [tmOf_put hd', if_neg hne])⟩

/-- What a slot owns becomes spare. -/
theorem Core.take (h : Core w0 tk n Z0 Z F S T a w) {r : Nat} {x : D} (ht : T r = .d x) :
    Core w0 tk n Z0 Z (updF F r fun _ => 0) (fun b => S b + F r b) (AS.put T r .un) a w ∧ RepV w Z x (tmOf a r) (F r) := by
  refine ⟨h.set h.size h.dfr (fun _ _ => rfl) ?_ (fun b => by omega) (fun _ => rfl), ?_⟩
  · simp [SRep, SV.root, SRepN]
  · have h1 := h.rep r
    rw [ht] at h1
    simpa [SRep, SV.root, SRepN] using h1

/-- A slot forgotten. -/
theorem Core.drop (h : Core w0 tk n Z0 Z F S T a w) (r : Nat) : Core w0 tk n Z0 Z (updF F r fun _ => 0) S (AS.put T r .un) a w :=
  h.set h.size h.dfr (fun _ _ => rfl) (by simp [SRep, SV.root, SRepN]) (fun b => by omega) (fun _ => rfl)
end
end AS
set_option linter.unusedVariables false
set_option linter.unusedSimpArgs false
namespace AS
open Go

mutual
theorem RepX.oneCell {w : World} {Z : Nat → Prop} : ∀ (x : D) {cs : List Value} {f : FP}, RepX w Z x cs f → ∀ u ∈ cs, u.oneCell' = true
  | .int _ _, _, _, h => by simp only [RepX] at h; simp [h.1, Value.oneCell']
  | .bool _, _, _, h => by simp only [RepX] at h; simp [h.1, Value.oneCell']
  | .str _, _, _, h => by simp only [RepX] at h; simp [h.1, Value.oneCell']
  | .nil, _, _, h => by simp only [RepX] at h; simp [h.1, Value.oneCell']
  | .nilo, _, _, h => by simp only [RepX] at h; simp [h.1, Value.oneCell']
  | .hole, _, _, h => by simp only [RepX] at h; obtain ⟨⟨v, rfl, hv⟩, _⟩ := h; simpa using hv
  | .slice _ _, _, _, h => by
    simp only [RepX] at h
    rcases h with ⟨_, _, _, _, h, _⟩ | ⟨_, _, _, _, _, _, _, h, _⟩ <;> simp [h, Value.oneCell']
  | .agg l, _, _, h => by simp only [RepX] at h; exact RepXs.oneCell l h
  | .ptr _ _, _, _, h => by simp only [RepX] at h; obtain ⟨_, _, _, _, h, _⟩ := h; simp [h, Value.oneCell']
  | .fn _ _, _, _, h => by simp only [RepX] at h; obtain ⟨_, h, _⟩ := h; simp [h, Value.oneCell']
theorem RepXs.oneCell {w : World} {Z : Nat → Prop} : ∀ (l : List D) {cs : List Value} {f : FP}, RepXs w Z l cs f → ∀ u ∈ cs, u.oneCell' = true
  | [], _, _, h => by simp only [RepXs] at h; simp [h.1]
  | x :: l, _, _, h => by
    simp only [RepXs] at h
    obtain ⟨c1, c2, f1, f2, rfl, _, h1, h2⟩ := h
    intro u hu
    rcases List.mem_append.1 hu with hu | hu
    · exact RepX.oneCell x h1 u hu
    · exact RepXs.oneCell l h2 u hu
end

theorem At.flds_world {w w' : World} : ∀ (p : List Step) {x : D} {cs : List Value} {oa : Option (Nat × Nat)} {y : D} {c : List Value} {ob : Option (Nat × Nat)},
    hasIdx p = false → At w p x cs oa y c ob → At w' p x cs oa y c ob
  | [], _, _, _, _, _, _, _, h => by simp only [At] at h ⊢; exact h
  | .idx _ :: _, _, _, _, _, _, _, hi, _ => by simp [hasIdx] at hi
  | .cap _ :: _, _, _, _, _, _, _, hi, _ => by simp [hasIdx] at hi
  | .dr :: _, _, _, _, _, _, _, hi, _ => by simp [hasIdx] at hi
  | .fld i :: p, _, _, _, _, _, _, hi, h => by
    simp only [At] at h ⊢
    simp only [hasIdx] at hi
    obtain ⟨l, z, c1, c2, c3, h1, h2, h3, h4, h5, h6⟩ := h
    exact ⟨l, z, c1, c2, c3, h1, h2, h3, h4, h5, At.flds_world p hi h6⟩

theorem sizes_set {l : List D} {i : Nat} {z z' : D} (h : l[i]? = some z) (hs : z'.size = z.size) (k : Nat) : D.sizes ((l.set i z').take k) = D.sizes (l.take k) := by
  induction l generalizing i k with
  | nil => simp at h
  | cons a l ih =>
    cases k with
    | zero => simp
    | succ k =>
      cases i with
      | zero => simp at h; subst h; simp [D.sizes, hs]
      | succ i => simp at h; simp [D.sizes, ih h k]

theorem setP_isAgg : ∀ (p : List Step) {x y : D}, p ≠ [] → (setP p x y).isAgg = x.isAgg
  | [], _, _, h => absurd rfl h
  | .fld i :: p, x, y, _ => by
    cases x <;> simp [setP, D.sub]
    rename_i l
    cases l[i]? <;> simp [D.upd, D.isAgg]
  | .idx i :: p, x, y, _ => by
    cases x <;> simp [setP, D.sub]
    rename_i o l
    cases l[i]? <;> simp [D.upd, D.isAgg]
  | .cap i :: p, x, y, _ => by
    cases x <;> simp [setP, D.sub]
    rename_i o l
    cases l[i]? <;> simp [D.upd, D.isAgg]
  | .dr :: p, x, y, _ => by
    cases x <;> simp [setP, D.sub, D.upd, D.isAgg]

/-- A way through fields alone leads to the same cells when something is stored behind an index. -/
theorem At.flds_upd {w w' : World} : ∀ (q : List Step) {p : List Step} {x : D} {cs : List Value} {oa : Option (Nat × Nat)} {y1 : D} {c1 : List Value} {ob : Option (Nat × Nat)} {y y' : D},
    hasIdx q = false → hasIdx p = true → getP p x = some y → y'.size = y.size → At w q x cs oa y1 c1 ob → ownP q x = true →
    ∃ y2, At w' q (setP p x y') cs oa y2 c1 ob ∧ y2.isAgg = y1.isAgg ∧ ownP q (setP p x y') = true
  | [], p, x, cs, oa, y1, c1, ob, y, y', _, hp, _, _, h, _ => by
    simp only [At] at h
    obtain ⟨rfl, rfl, rfl⟩ := h
    exact ⟨setP p y1 y', by simp [At], setP_isAgg p (by intro e; subst e; simp [hasIdx] at hp), by simp [ownP]⟩
  | .idx _ :: _, _, _, _, _, _, _, _, _, _, hi, _, _, _, _, _ => by simp [hasIdx] at hi
  | .cap _ :: _, _, _, _, _, _, _, _, _, _, hi, _, _, _, _, _ => by simp [hasIdx] at hi
  | .dr :: _, _, _, _, _, _, _, _, _, _, hi, _, _, _, _, _ => by simp [hasIdx] at hi
  | .fld i :: q, p, x, cs, oa, y1, c1, ob, y, y', hi, hp, hg, hs, h, ho => by
    simp only [hasIdx] at hi
    simp only [At] at h
    obtain ⟨l, z, d1, d2, d3, rfl, h2, rfl, h4, h5, h6⟩ := h
    simp only [ownP, D.sub, h2, Bool.true_and] at ho
    cases p with
    | nil => simp [hasIdx] at hp
    | cons s p =>
      cases s with
      | idx j => simp [getP, D.sub] at hg
      | cap j => simp [getP, D.sub] at hg
      | dr => simp [getP, D.sub] at hg
      | fld j =>
        simp only [hasIdx] at hp
        simp only [getP, D.sub] at hg
        cases hj : l[j]? with
        | none => simp [hj] at hg
        | some zj =>
          simp only [hj, Option.bind_some] at hg
          have hsz := setP_size p hg hs
          simp only [setP, D.sub, hj, D.upd]
          by_cases e : j = i
          · subst e
            obtain rfl : zj = z := by rw [hj] at h2; exact Option.some.inj h2
            obtain ⟨y2, k1, k2, k3⟩ := At.flds_upd (w' := w') q hi hp hg hs h6 ho
            have hlt : j < l.length := (List.getElem?_eq_some_iff.1 hj).1
            refine ⟨y2, ?_, k2, by simp [ownP, D.sub, hlt, k3]⟩
            simp only [At]
            exact ⟨l.set j (setP p zj y'), setP p zj y', d1, d2, d3, rfl, by simp [hlt], rfl, by rw [sizes_set hj hsz]; exact h4, by rw [hsz]; exact h5, k1⟩
          · refine ⟨y1, ?_, rfl, by simp [ownP, D.sub, List.getElem?_set_ne e, h2, ho]⟩
            simp only [At]
            exact ⟨l.set j (setP p zj y'), z, d1, d2, d3, rfl, by rw [List.getElem?_set_ne e]; exact h2, rfl, by rw [sizes_set hj hsz]; exact h4, h5, At.flds_world q hi h6⟩

def SV.setR (s : SV) (p : List Step) (y : D) : SV :=
  match s with
  | .d x => .d (setP p x y)
  | .box x => .box (setP p x y)
  | s => s
def stT (T : Nat → SV) (r : Nat) (p : List Step) (y : D) : Nat → SV := fun t =>
  if t = r then (T r).setR p y else if (T t).root = some r ∧ ¬ (hasIdx p = true ∧ hasIdx (T t).path = false) then .un else T t

theorem heap_setRow {w : World} {g : Nat} {cur : Array Value} {e : TypeId} {fr : Nat × Nat} (hh : w.heap[g]? = some (.cells cur e fr)) (cs : Array Value) (k : Nat) :
    (w.setRow g cs).heap[k]? = if k = g then some (.cells cs e fr) else w.heap[k]? := by
  by_cases h : k = g
  · subst h; rw [if_pos rfl]; exact setRow_heap w k cur cs e fr hh
  · rw [if_neg h]; exact setRow_other w g k cs h

section
variable {w0 : World} {tk : FP} {n : Nat} {Z0 Z : Nat → Prop} {F : Nat → FP} {S : FP} {T : Nat → SV} {a : Act} {w : World}

theorem Core.store (h : Core w0 tk n Z0 Z F S T a w) {r : Nat} {p : List Step} {x y : D} {cs c : List Value} {oa : Option (Nat × Nat)} {g o : Nat}
    (hr : RootOf w T (tmOf a) r x cs oa) (ha : At w p x cs oa y c (some (g, o))) (ho : ownP p x = true) :
    ∃ (cur : Array Value) (e : TypeId), w.heap[g]? = some (.cells cur e (0, 0)) ∧ o + c.length ≤ cur.size ∧
      ∀ (y' : D) (c' : List Value) (f : FP), c'.length = c.length → y'.size = y.size → RepX w Z y' c' f → (∀ b, f b ≤ S b) →
        ∃ F', Core w0 tk n Z0 Z F' (fun b => S b - f b) (stT T r p y') a (w.setRow g (spliced cur o c')) := by
  obtain ⟨f1, r1, r2, r3⟩ := h.root hr
  have hone : ∀ b, F r b ≤ 1 := fun b => by have := h.one r b; omega
  -- the block, and what the slot holds behind the store
  have key : ∃ (cur : Array Value) (e : TypeId), w.heap[g]? = some (.cells cur e (0, 0)) ∧ o + c.length ≤ cur.size ∧ F r g = 1 ∧
      ∀ (y' : D) (c' : List Value) (f : FP), c'.length = c.length → y'.size = y.size → RepX (w.setRow g (spliced cur o c')) Z y' c' f → (∀ b, f b ≤ S b) →
        ∃ f2 : FP, (∀ b, f2 b ≤ F r b + f b) ∧ SRepN (w.setRow g (spliced cur o c')) Z (tmOf a r) ((T r).setR p y') f2 ∧
          (hasIdx p = true → RootOf (w.setRow g (spliced cur o c')) (stT T r p y') (tmOf a) r (setP p x y') cs oa) := by
    by_cases hi : hasIdx p = true
    · obtain ⟨g', o', cur, e, fr, fy, k1, k2, k3, k4, k5, k6, k7⟩ := At.store p r1 ha ho hi (by simp) (fun b => Nat.le_trans (r2 b) (hone b))
      simp only [Option.some.injEq, Prod.mk.injEq] at k1
      obtain ⟨rfl, rfl⟩ := k1
      have hFg : F r g = 1 := by have := r2 g; have := hone g; have := k6 g; omega
      refine ⟨cur, e, k2, k3, hFg, ?_⟩
      intro y' c' f hc hs hy hf
      have hz : ∀ b, Z b → Z b ∧ (w.setRow g (spliced cur o c')).heap[b]? = w.heap[b]? := by
        intro b hb
        refine ⟨hb, ?_⟩
        rw [heap_setRow k2, if_neg]
        intro e; subst e
        have := (h.zf b hb).2.2 r; omega
      have hx := k7 (w.setRow g (spliced cur o c')) Z y' c' f hc hs (by rw [heap_setRow k2, if_pos rfl]) ⟨hz, fun b hb => by
        rw [heap_setRow k2, if_neg]; intro e; subst e; simp at hb⟩ hy
      rcases hr with ⟨ht, rfl, rfl⟩ | ⟨b, curb, eb, ht, hp, hh, rfl, rfl⟩
      · have h0 := h.rep r
        rw [ht] at h0
        simp only [SRep, SV.root, SRepN] at h0
        refine ⟨fun b => fr b + f b, fun b => by have := r2 b; have := k6 b; dsimp only; omega, ?_, fun _ => ?_⟩
        · rw [ht]
          simp only [SV.setR, SRepN]
          exact ⟨by rw [setP_isAgg p (by intro e; subst e; simp [hasIdx] at hi)]; exact h0.1, hx⟩
        · exact .inl ⟨by simp [stT, ht, SV.setR], rfl, rfl⟩
      · rcases r3 with ⟨hn, _⟩ | ⟨g2, hg2, he⟩
        · cases hn
        · cases hg2
          have hne : b ≠ g := by
            intro e; subst e
            have := he b; have := hone b; have := k6 b; simp at *; omega
          have hh' : (w.setRow g (spliced cur o c')).heap[b]? = some (.cells curb eb (0, 0)) := by rw [heap_setRow k2, if_neg hne]; exact hh
          refine ⟨fun k => (if k = b then 1 else 0) + (fr k + f k), fun k => by have := he k; have := k6 k; dsimp only; omega, ?_, fun _ => ?_⟩
          · rw [ht]
            simp only [SV.setR, SRepN]
            exact ⟨b, curb, eb, _, hp, hh', hx, fun k => rfl⟩
          · exact .inr ⟨b, curb, eb, by simp [stT, ht, SV.setR], hp, hh', rfl, rfl⟩
    · obtain ⟨d1, d3, fr, fy, rfl, k0, k1, k2, k3⟩ := At.flds p r1 ha (by simpa using hi)
      rcases hr with ⟨ht, _, rfl⟩ | ⟨b, curb, eb, ht, hp, hh, hcs, rfl⟩
      · simp at k0
      · simp only [Option.map_some, Option.some.injEq, Prod.mk.injEq, Nat.zero_add] at k0
        obtain ⟨rfl, rfl⟩ := k0
        rcases r3 with ⟨hn, _⟩ | ⟨g2, hg2, he⟩
        · cases hn
        · cases hg2
          have hFg : F r g = 1 := by have := he g; have := hone g; simp at *; omega
          have hcl := congrArg List.length hcs
          simp only [List.length_append, Array.length_toList] at hcl
          refine ⟨curb, eb, hh, by omega, hFg, ?_⟩
          intro y' c' f hc hs hy hf
          have hz : ∀ b, Z b → Z b ∧ (w.setRow g (spliced curb d1.length c')).heap[b]? = w.heap[b]? := by
            intro b hb
            refine ⟨hb, ?_⟩
            rw [heap_setRow hh, if_neg]
            intro e; subst e
            have := (h.zf b hb).2.2 r; omega
          have hfg : fr g = 0 := by have := he g; have := hone g; have := k2 g; simp at *; omega
          have hx := k3 (w.setRow g (spliced curb d1.length c')) Z y' c' f ⟨hz, fun b hb => by
            rw [heap_setRow hh, if_neg]; intro e; subst e; omega⟩ hy
          have hsp : (spliced curb d1.length c').toList = d1 ++ c' ++ d3 := by
            simp only [spliced, hc, ← hcs]
            simp [List.drop_append]
          refine ⟨fun k => (if k = g then 1 else 0) + (fr k + f k), fun k => by have := he k; have := k2 k; dsimp only; omega, ?_, fun h => absurd h hi⟩
          rw [ht]
          simp only [SV.setR, SRepN]
          exact ⟨g, _, eb, _, hp, by rw [heap_setRow hh, if_pos rfl], by rw [hsp]; exact hx, fun k => rfl⟩
  obtain ⟨cur, e, q1, q2, q3, q4⟩ := key
  refine ⟨cur, e, q1, q2, ?_⟩
  intro y' c' f hc hs hy hf
  have hSg : S g = 0 := by have := h.one r g; omega
  have hz : ∀ b, Z b → Z b ∧ (w.setRow g (spliced cur o c')).heap[b]? = w.heap[b]? := by
    intro b hb
    refine ⟨hb, ?_⟩
    rw [heap_setRow q1, if_neg]
    intro e; subst e
    have := (h.zf b hb).2.2 r; omega
  have hoth : ∀ b, b ≠ g → (w.setRow g (spliced cur o c')).heap[b]? = w.heap[b]? := fun b hb => by rw [heap_setRow q1, if_neg hb]
  obtain ⟨f2, m1, m2, m3⟩ := q4 y' c' f hc hs (RepX.mono hz y' (fun b hb => hoth b (by intro e; subst e; have := hf b; omega)) hy) hf
  have hsum : ∀ t b, t ≠ r → F t b + (S b + F r b) ≤ 1 := by
    intro t b ht
    have h1 := h.dis t r b ht; have h2 := h.one t b; have h3 := h.one r b
    omega
  have hkt : ∀ t, t ≠ r → Keeps Z Z (F t) w (w.setRow g (spliced cur o c')) := fun t ht =>
    ⟨hz, fun b hb => hoth b (by intro e; subst e; have := hsum t b ht; omega)⟩
  have hsize : (w.setRow g (spliced cur o c')).heap.size = w.heap.size := by simp [World.setRow]
  have hroot : ∀ r', r' ≠ r → ∀ {x1 : D} {cs1 : List Value} {oa1 : Option (Nat × Nat)}, RootOf w T (tmOf a) r' x1 cs1 oa1 → RootOf (w.setRow g (spliced cur o c')) (stT T r p y') (tmOf a) r' x1 cs1 oa1 := by
    intro r' hne x1 cs1 oa1 hr'
    obtain ⟨f3, s1, s2, s3⟩ := h.root hr'
    have e : ∀ s, T r' = s → s.root = none → stT T r p y' r' = s := by
      intro s hs h0
      simp [stT, hne, hs, h0]
    rcases hr' with ⟨ht, rfl, rfl⟩ | ⟨b, cb, eb, ht, hp, hh, rfl, rfl⟩
    · exact .inl ⟨e _ ht rfl, rfl, rfl⟩
    · refine .inr ⟨b, cb, eb, e _ ht rfl, hp, ?_, rfl, rfl⟩
      rcases s3 with ⟨hn, _⟩ | ⟨g2, hg2, he⟩
      · cases hn
      · cases hg2
        rw [(hkt r' hne).k b (by rw [he]; simp; omega)]; exact hh
  refine ⟨updF F r f2, h.size, h.dfr, ?_, ?_, ?_, ?_, ?_, ?_, h.zz, h.zn, ?_, TZ.mono hz h.tz⟩
  · intro t
    by_cases ht : t = r
    · subst ht
      have e1 : stT T t p y' t = (T t).setR p y' := by simp [stT]
      have e2 : updF F t f2 t = f2 := by simp [updF]
      have e3 : ((T t).setR p y').root = none := by
        rcases hr with ⟨ht, _⟩ | ⟨_, _, _, ht, _⟩ <;> rw [ht] <;> rfl
      rw [e1, e2, SRep.none e3]; exact m2
    · have e2 : updF F r f2 t = F t := by simp [updF, ht]
      rw [e2]
      have h1 := h.rep t
      cases hroot' : (T t).root with
      | none =>
        have e1 : stT T r p y' t = T t := by simp [stT, ht, hroot']
        rw [SRep.none hroot'] at h1
        rw [e1, SRep.none hroot']
        exact h1.mono (hkt t ht)
      | some r' =>
        rw [SRep.some hroot'] at h1
        by_cases hkill : (T t).root = some r ∧ ¬ (hasIdx p = true ∧ hasIdx (T t).path = false)
        · have e1 : stT T r p y' t = .un := by simp only [stT, if_neg ht, if_pos hkill]
          rw [e1, SRep.none rfl]
          exact h1.1
        · have e1 : stT T r p y' t = T t := by simp only [stT, if_neg ht, if_neg hkill]
          rw [e1, SRep.some hroot']
          obtain ⟨h0, x1, cs1, oa1, y1, c1, ob1, u1, u2, u3, u4⟩ := h1
          refine ⟨h0, ?_⟩
          by_cases hrr : r' = r
          · subst hrr
            have hk2 : hasIdx p = true ∧ hasIdx (T t).path = false := by
              by_cases hc2 : hasIdx p = true ∧ hasIdx (T t).path = false
              · exact hc2
              · exact absurd ⟨hroot', hc2⟩ hkill
            have huniq : x1 = x ∧ cs1 = cs ∧ oa1 = oa := by
              rcases u1 with ⟨n1, rfl, rfl⟩ | ⟨b1, cb1, eb1, n1, n2, n3, rfl, rfl⟩
              · rcases hr with ⟨v1, rfl, rfl⟩ | ⟨b2, cb2, eb2, v1, _⟩
                · rw [n1] at v1; cases v1; exact ⟨rfl, rfl, rfl⟩
                · rw [n1] at v1; cases v1
              · rcases hr with ⟨v1, _⟩ | ⟨b2, cb2, eb2, v1, v2, v3, rfl, rfl⟩
                · rw [n1] at v1; cases v1
                · rw [n1] at v1; cases v1
                  rw [n2] at v2; cases v2
                  rw [n3] at v3; cases v3
                  exact ⟨rfl, rfl, rfl⟩
            obtain ⟨rfl, rfl, rfl⟩ := huniq
            obtain ⟨y2, t1, t2, t3⟩ := At.flds_upd (w' := w.setRow g (spliced cur o c')) _ hk2.2 hk2.1 (At.get p ha) hs u2 u3
            refine ⟨_, cs1, oa1, y2, c1, ob1, m3 hk2.1, t1, t3, ?_⟩
            have u5 := u4.mono hz
            revert u5
            cases T t <;> simp [wayOk, t2]
          · obtain ⟨f3, s1, s2, s3⟩ := h.root u1
            exact ⟨x1, cs1, oa1, y1, c1, ob1, hroot _ hrr u1, At.mono _ s1 ((hkt _ hrr).le fun b hb => by have := s2 b; omega) u2, u3, u4.mono hz⟩
  · intro t ht
    have hrn : r < n := by
      by_cases hrn : r < n
      · exact hrn
      · have h0 := h.lt r (by omega)
        rcases hr with ⟨ht, _⟩ | ⟨_, _, _, ht, _⟩ <;> rw [h0] at ht <;> cases ht
    have e : t ≠ r := by omega
    simp only [stT, if_neg e]
    split
    · rfl
    · exact h.lt t ht
  · intro t t' b hne
    have := m1 b
    have := hf b
    by_cases e : t = r
    · subst e
      have := hsum t' b (by omega)
      simp only [updF, if_true, if_neg (Ne.symm hne)]; omega
    · by_cases e' : t' = r
      · subst e'
        have := hsum t b e
        simp only [updF, if_true, if_neg e]; omega
      · simp only [updF, if_neg e, if_neg e']; exact h.dis t t' b hne
  · intro t b
    have := m1 b
    have := hf b
    by_cases e : t = r
    · subst e
      have := h.one t b
      simp only [updF, if_true]; omega
    · have := h.one t b
      simp only [updF, if_neg e]; omega
  · intro b hb
    have h1 := h.zf b hb
    have := m1 b; have := hf b; have h2 := h1.2.2 r
    refine ⟨by rw [hsize]; exact h1.1, by omega, fun t => ?_⟩
    by_cases e : t = r
    · subst e; simp only [updF, if_true]; omega
    · simp only [updF, if_neg e]; exact h1.2.2 t
  · intro b hb
    rw [hsize]
    refine h.own b ?_
    have := m1 b; have := hf b
    rcases hb with hb | ⟨t, hb⟩
    · left; omega
    · by_cases e : t = r
      · subst e
        simp only [updF, if_true] at hb
        by_cases h0 : 0 < S b
        · exact .inl h0
        · exact .inr ⟨t, by omega⟩
      · simp only [updF, if_neg e] at hb
        exact .inr ⟨t, hb⟩
  · have hg := (h.own g (.inr ⟨r, by omega⟩)).2
    refine ⟨h.fr.os, h.fr.tape, h.fr.output, by rw [hsize]; exact h.fr.size, ?_⟩
    intro k hk1 hk2
    rw [hoth k (by intro e; subst e; omega)]
    exact h.fr.block k hk1 hk2
end
end AS
set_option linter.unusedVariables false
set_option linter.unusedSimpArgs false
namespace AS
open Go

inductive Opd where
  | t (n : Nat)
  | c (x : D)

inductive MK where
  | mv (x : Opd)
  | mvt (x : Nat)
  | asg (x : Opd)
  | box (x : Opd)
  | boxm (x : Nat)
  | alloc (z : D)
  | fa (x i off : Nat)
  | ia (x : Nat) (i : Opd) (sz : Nat)
  | ld (x sz : Nat) (ag : Bool)
  | st (x : Nat) (v : Opd) (sz : Nat)
  | stm (x : Nat) (v : Nat) (sz : Nat)
  | bin (op : BinOp) (x y : Opd)
  | eqb (ne : Bool) (x y : Opd)
  | eqn (ne : Bool) (x : Opd)
  | nt (x : Opd)
  | neg (x : Opd)
  | cvi (k : IntKind) (x : Opd)
  | len (str : Bool) (x : Opd)
  | mmx (mx : Bool) (x y : Opd)
  | app (s x : Opd) (sz : Nat)
  | bsl (parts : List Opd) (sz : Nat)
  | bld (z : List D) (parts : List (Nat × Opd))
  | mk (z : D) (n : Opd)
  | sls (x : Opd) (lo hi : Option Opd)
  | sl (x : Opd) (lo hi : Option Opd) (sz : Nat)
  | ix (x i : Opd)
  | pick (c a b : Opd)
  | call (f : Nat) (args : List Opd)
  | callT (f : Nat) (args : List (Bool × Opd))
  | callO (f : Nat) (args : List Opd)
  | ext (x i : Nat)
  | b2s (x : Opd)
  | i2s (x : Opd)
  | mkf (g : Nat) (caps : List (Bool × Nat))
  | bldw (z : List D) (i k : Nat) (rest : List (Nat × Opd)) (m : Nat)
  | stw (x v sz m i : Nat)
  | callf (k : Nat) (args : List (Bool × Opd))
  | callP (f : Nat) (pre : List Opd) (k : Nat) (post : List Opd)

structure MOp where
  dst : Option Nat
  k : MK
  g : Option (Nat × Bool) := none

/-! ### Integers within their kinds -/
def InR : IntKind → Int → Prop
  | .i64, n => -9223372036854775808 ≤ n ∧ n ≤ 9223372036854775807
  | .i32, n => -2147483648 ≤ n ∧ n ≤ 2147483647
  | .u8, n => 0 ≤ n ∧ n ≤ 255
  | .u64, n => 0 ≤ n ∧ n ≤ 18446744073709551615
  | _, _ => False

theorem wrap_InR {k : IntKind} {n : Int} (h : InR k n) : k.wrap n = n := by
  cases k <;> simp only [InR] at h <;> try exact h.elim
  all_goals (simp only [IntKind.wrap, IntKind.bits, IntKind.signed]; simp)
  · split <;> omega
  · split <;> omega
  · omega
  · omega

/-! ### The two-place operators on data -/
def binW : BinOp → D → D → (D → Prop) → Prop
  | .add, .int k a, .int k' b, K => k = k' ∧ InR k (a + b) ∧ K (.int k (a + b))
  | .add, .str s, .str t, K => s.length + t.length ≤ 1099511627776 ∧ K (.str (s ++ t))
  | .sub, .int k a, .int k' b, K => k = k' ∧ InR k (a - b) ∧ K (.int k (a - b))
  | .mul, .int k a, .int k' b, K => k = k' ∧ InR k (a * b) ∧ K (.int k (a * b))
  | .quo, .int k a, .int k' b, K => k = k' ∧ b ≠ 0 ∧ InR k (a.tdiv b) ∧ K (.int k (a.tdiv b))
  | .rem, .int k a, .int k' b, K => k = k' ∧ b ≠ 0 ∧ K (.int k (a.tmod b))
  | .and, .int k a, .int k' b, K => k = k' ∧ (0 ≤ a ∧ InR k a) ∧ (0 ≤ b ∧ InR k b) ∧ K (.int k ((a.toNat &&& b.toNat : Nat) : Int))
  | .or, .int k a, .int k' b, K => k = k' ∧ (0 ≤ a ∧ InR k a) ∧ (0 ≤ b ∧ InR k b) ∧ K (.int k ((a.toNat ||| b.toNat : Nat) : Int))
  | .andNot, .int k a, .int k' b, K => k = k' ∧ (0 ≤ a ∧ InR k a) ∧ (0 ≤ b ∧ InR k b) ∧ K (.int k (((a.toNat &&& b.toNat) ^^^ a.toNat : Nat) : Int))
  | .shl, .int k a, .int _ b, K => (0 ≤ b ∧ b < 64) ∧ k.bits = 64 ∧ InR k (a * 2 ^ b.toNat) ∧ K (.int k (a * 2 ^ b.toNat))
  | .shr, .int k a, .int _ b, K => (0 ≤ b ∧ b < 64) ∧ k.bits = 64 ∧ K (.int k (a / 2 ^ b.toNat))
  | .eql, .int k a, .int k' b, K => k = k' ∧ K (.bool (decide (a = b)))
  | .neq, .int k a, .int k' b, K => k = k' ∧ K (.bool (decide (a ≠ b)))
  | .lss, .int k a, .int k' b, K => k = k' ∧ K (.bool (decide (a < b)))
  | .leq, .int k a, .int k' b, K => k = k' ∧ K (.bool (decide (a ≤ b)))
  | .gtr, .int k a, .int k' b, K => k = k' ∧ K (.bool (decide (b < a)))
  | .geq, .int k a, .int k' b, K => k = k' ∧ K (.bool (decide (b ≤ a)))
  | .eql, .str s, .str t, K => K (.bool (decide (s = t)))
  | .neq, .str s, .str t, K => K (.bool (decide (s ≠ t)))
  | _, _, _, _ => False

/-! ### Reading -/
def rootD (T : Nat → SV) (r : Nat) : Option D := match T r with
  | .d x => some x
  | .box x => some x
  | _ => none
def dataOf (T : Nat → SV) : SV → Option D
  | .d x => some x
  | .ref r p => (rootD T r).bind (getP p)
  | _ => none
def rd (T : Nat → SV) : Opd → Option D
  | .t n => dataOf T (T n)
  | .c x => some x
def rds (T : Nat → SV) : List Opd → Option (List D)
  | [] => some []
  | x :: l => (rd T x).bind fun y => (rds T l).map (y :: ·)

def rdW (T : Nat → SV) (x : Opd) (K : D → Prop) : Prop := ∃ y, rd T x = some y ∧ K y

/-- The operand itself is data of which nothing is owned. -/
def here (T : Nat → SV) : Opd → Bool
  | .t n => match T n with | .d x => x.imm | _ => false
  | .c x => x.imm
def heres (T : Nat → SV) : List Opd → Bool
  | [] => true
  | x :: l => here T x && heres T l

def resSV : List D → SV
  | [] => .un
  | [x] => .d x
  | x :: y :: l => .tup ((x :: y :: l).map some)
end AS
set_option linter.unusedVariables false
set_option linter.unusedSimpArgs false
namespace AS
open Go

/-! ### Contracts -/
def OutsRep (w : World) (Z : Nat → Prop) (vs : List Value) : List (Nat × D) → FP → Prop
  | [], f => ∀ b, f b = 0
  | (i, y) :: l, f => ∃ (v : Value) (f1 f2 : FP), vs[i]? = some v ∧ (∀ b, f b = f1 b + f2 b) ∧ RepV w Z y v f1 ∧ OutsRep w Z vs l f2

def ResRep (w : World) (Z : Nat → Prop) (v : Value) (res : List D) (f : FP) : Prop :=
  match res with
  | [] => ∀ b, f b = 0
  | [x] => RepV w Z x v f
  | x :: y :: l => ∃ vs : Array Value, v = .tuple vs ∧ TupRep w Z ((x :: y :: l).map some) vs.toList f

structure Returns (w : World) (Z : Nat → Prop) (F : FP) (vs : List Value) (outs : List (Nat × D)) (res : List D) (v : Value) (w' : World) (Z' : Nat → Prop) (G H : FP) : Prop where
  res : ResRep w' Z' v res G
  outs : OutsRep w' Z' vs outs H
  one : ∀ b, G b + H b ≤ 1
  own : ∀ b, 0 < G b + H b → b < w'.heap.size ∧ (w.heap.size ≤ b ∨ 0 < F b)
  z1 : ∀ b, Z b → Z' b
  z2 : ∀ b, Z' b → Z b ∨ (b < w'.heap.size ∧ (w.heap.size ≤ b ∨ 0 < F b))
  z3 : ∀ b, Z' b → G b + H b = 0
  fr : Fr F w w'

def Con (P : Program) (f : Nat) (args : List D) (outs : List (Nat × D)) (res : List D) : Prop :=
  (∃ (fn : Func) (c : Code), P.funcs[f]? = some fn ∧ fn.body = some c ∧ (fn.name == "runtime.NumGoroutine") = false) ∧
  ∀ (w : World) (Z : Nat → Prop) (vs : List Value) (F : FP), RepVs w Z args vs F → (∀ b, F b ≤ 1) → (∀ b, 0 < F b → b < w.heap.size) → (∀ b, Z b → b < w.heap.size ∧ F b = 0) → TZ w Z →
    Calls P f vs.toArray w fun e w' => ∃ (v : Value) (Z' : Nat → Prop) (G H : FP), e = .returned v ∧ Returns w Z F vs outs res v w' Z' G H

/-! ### What an operation gives -/
def natW (x : Option D) (K : Nat → Prop) : Prop := match x with
  | some (.int _ j) => 0 ≤ j ∧ K j.toNat
  | _ => False
def boolW (x : Option D) (A B : Prop) : Prop := match x with
  | some (.bool b) => (b = true → A) ∧ (b = false → B)
  | _ => False
def fldW (y : Option D) (i off : Nat) (Q : Prop) : Prop := match y with
  | some (.agg l) => i < l.length ∧ D.sizes (l.take i) = off ∧ Q
  | _ => False
def loW (x : Option (Option D)) (K : Nat → Prop) : Prop := match x with
  | none => K 0
  | some y => natW y K
def hiW (x : Option (Option D)) (n : Nat) (K : Nat → Prop) : Prop := match x with
  | none => K n
  | some y => natW y K

def wayD (T : Nat → SV) (r : Nat) (p : List Step) : Option D := (rootD T r).bind (getP p)

def sizesAll (sz : Nat) (l : List D) : Prop := ∀ x ∈ l, x.size = sz

def evW (P : Program) (T : Nat → SV) : MK → (SV → Prop) → Prop
  | .mv (.c x), K => K (.d x)
  | .mv (.t n), K => match T n with
    | .d x => if x.imm then K (.d x) else K (.ref n [])
    | .ref r p => K (.ref r p)
    | _ => False
  | .fa n i off, K => match T n with
    | .box x => fldW (some x) i off (K (.adr n [.fld i]))
    | .adr r p => fldW (wayD T r p) i off (K (.adr r (p ++ [.fld i])))
    | .mad r p => fldW (wayD T r p) i off (K (.mad r (p ++ [.fld i])))
    | .ima (.agg l) => ∃ z, l[i]? = some z ∧ D.sizes (l.take i) = off ∧ K (.ima z)
    | _ => False
  | .ia n i sz, K => natW (rd T i) fun j => match T n with
    | .d (.slice false l) => ∃ z, l[j]? = some z ∧ z.size = sz ∧ K (.ima z)
    | .d (.slice true l) => ∃ z, l[j]? = some z ∧ z.size = sz ∧ K (.adr n [.idx j])
    | .ref r p => match wayD T r p with
      | some (.slice true l) => ∃ z, l[j]? = some z ∧ z.size = sz ∧ K (.adr r (p ++ [.idx j]))
      | _ => False
    | _ => False
  | .ld n sz ag, K => match T n with
    | .box y => (y.size = sz ∧ y.isAgg = ag) ∧ if y.imm then K (.d y) else K (.ref n [])
    | .adr r p => match wayD T r p with
      | some y => (y.size = sz ∧ y.isAgg = ag) ∧ if y.imm then K (.d y) else K (.ref r p)
      | none => False
    | .mad r p => match wayD T r p with
      | some y => (y.size = sz ∧ y.isAgg = ag) ∧ if y.imm then K (.d y) else K (.ref r p)
      | none => False
    | .ima y => (y.size = sz ∧ y.isAgg = ag ∧ y.imm = true) ∧ K (.d y)
    | _ => False
  | .bin op x y, K => match rd T x, rd T y with
    | some a, some b => binW op a b fun z => K (.d z)
    | _, _ => False
  | .eqb ne x y, K => match rd T x, rd T y with
    | some (.bool a), some (.bool b) => K (.d (.bool (if ne then a != b else a == b)))
    | _, _ => False
  | .eqn ne x, K => match rd T x with
    | some .nil => K (.d (.bool (!ne)))
    | some .nilo => K (.d (.bool (!ne)))
    | some (.slice _ l) => (l ≠ [] → K (.d (.bool ne))) ∧ (l = [] → K (.d (.bool true)) ∧ K (.d (.bool false)))
    | _ => False
  | .nt x, K => match rd T x with
    | some (.bool b) => K (.d (.bool !b))
    | _ => False
  | .neg x, K => match rd T x with
    | some (.int k n) => InR k (-n) ∧ K (.d (.int k (-n)))
    | _ => False
  | .cvi k x, K => match rd T x with
    | some (.int _ n) => InR k n ∧ K (.d (.int k n))
    | _ => False
  | .len true x, K => match rd T x with
    | some (.str s) => s.length ≤ 9223372036854775807 → K (.d (.int .i64 s.length))
    | _ => False
  | .len false x, K => match rd T x with
    | some (.slice _ l) => l.length ≤ 9223372036854775807 → K (.d (.int .i64 l.length))
    | some .nil => K (.d (.int .i64 0))
    | _ => False
  | .mmx mx x y, K => match rd T x, rd T y with
    | some (.int k a), some (.int k' b) => k = k' ∧ K (.d (.int k (if mx then max a b else min a b)))
    | _, _ => False
  | .mk z n, K => natW (rd T n) fun j => j ≤ 1099511627776 ∧ K (.d (.slice true (List.replicate j z)))
  | .sls x lo hi, K => match rd T x with
    | some (.str s) => loW (lo.map (rd T)) fun a => hiW (hi.map (rd T)) s.length fun b => (a ≤ b ∧ b ≤ s.length) ∧ K (.d (.str ((s.take b).drop a)))
    | _ => False
  | .sl (.t n) lo hi sz, K => match T n with
    | .d (.slice false l) => sizesAll sz l ∧ loW (lo.map (rd T)) fun a => hiW (hi.map (rd T)) l.length fun b => (a ≤ b ∧ b ≤ l.length) ∧ K (.d (.slice false ((l.take b).drop a)))
    | _ => False
  | .ix x i, K => match rd T x with
    | some (.str s) => natW (rd T i) fun j => ∃ c, s[j]? = some c ∧ K (.d (.int .u8 c.toNat))
    | _ => False
  | .pick c a b, K => boolW (rd T c) (∃ y, rd T a = some y ∧ y.imm = true ∧ K (.d y)) (∃ y, rd T b = some y ∧ y.imm = true ∧ K (.d y))
  | .call f args, K => match rds T args with
    | some ds => ∃ r, Con P f (D.toImms ds) [] r ∧ (D.solids r = true ∨ heres T args = true) ∧ K (resSV r)
    | none => False
  | .ext n i, K => match T n with
    | .tup l => match l[i]? with
      | some (some y) => y.imm = true ∧ K (.d y)
      | _ => False
    | _ => False
  | .b2s x, K => match rd T x with
    | some (.slice _ l) => ∃ bs : List UInt8, l = bs.map (fun b => D.int .u8 b.toNat) ∧ K (.d (.str bs))
    | _ => False
  | .i2s x, K => match rd T x with
    | some (.int _ n) => (0 ≤ n ∧ n < 128) ∧ K (.d (.str [UInt8.ofNat n.toNat]))
    | _ => False
  | .alloc z, K => K (.box z)
  | .bsl parts sz, K => match rds T parts with
    | some ys => (heres T parts = true ∧ ys.length ≤ 1024 ∧ sizesAll sz ys) ∧ K (.d (.slice true ys))
    | none => False
  | _, _ => False

def SV.safe (d : Nat) : SV → SV
  | .ref r p => if r = d then .un else .ref r p
  | .adr r p => if r = d then .un else .adr r p
  | .mad r p => if r = d then .un else .mad r p
  | s => s

/-- Cells that stand for a slot's data as a whole stay so behind a call that writes through it. -/
def isMad (s : SV) (r : Nat) : Bool := match s with
  | .mad r' [] => r' == r
  | _ => false
def keepM (T T' : Nat → SV) (r d : Nat) : Nat → SV := fun t => if t ≠ d ∧ r ≠ d ∧ isMad (T t) r = true then T t else T' t
/-! ### Data that is moved -/
def sameAdr (s : SV) (r : Nat) (p : List Step) : Bool := match s with
  | .adr r' q => r' == r && decide (q = p)
  | _ => false
/-- What is taken out of a slot's data leaves a hole. -/
def hlT (T : Nat → SV) (r : Nat) (p : List Step) : Nat → SV := fun t =>
  if t = r then (T r).setR p .hole else if (T t).root = some r then (if sameAdr (T t) r p then T t else .un) else T t
def srcTake (T : Nat → SV) : Opd → Option (D × (Nat → SV))
  | .c x => some (x, T)
  | .t n => match T n with
    | .d x => some (x, if x.imm then T else put T n .un)
    | .ref r [] => match T r with
      | .d x => some (x, put T r .un)
      | .box x => some (x, put T r .un)
      | _ => none
    | .ref r (q :: p) => match wayD T r (q :: p) with
      | some (.slice true l) => some (.slice true l, hlT T r (q :: p))
      | some .nilo => some (.nilo, hlT T r (q :: p))
      | _ => none
    | _ => none
def takes (T : Nat → SV) : List Opd → Option (List D × (Nat → SV))
  | [] => some ([], T)
  | x :: l => (srcTake T x).bind fun a => (takes a.2 l).map fun b => (a.1 :: b.1, b.2)
/-- Arguments: those that are moved, then those that are read. -/
def takenOf : List (Bool × Opd) → List Opd
  | [] => []
  | (true, x) :: l => x :: takenOf l
  | (false, _) :: l => takenOf l
def mergeA (T : Nat → SV) : List (Bool × Opd) → List D → Option (List D)
  | [], [] => some []
  | (true, _) :: l, y :: ys => (mergeA T l ys).map (y :: ·)
  | (false, x) :: l, ys => (rd T x).bind fun y => (mergeA T l ys).map (y.toImm :: ·)
  | _, _ => none
def argTakes (T : Nat → SV) (args : List (Bool × Opd)) : Option (List D × (Nat → SV)) :=
  (takes T (takenOf args)).bind fun a => (mergeA a.2 args a.1).map fun ds => (ds, a.2)

/-- What is appended to. -/
def baseOf : D → Option (List D)
  | .nil => some []
  | .slice true l => some l
  | _ => none
/-- What is appended: taken where it is owned, copied where nothing in it is. -/
def tailOf (T : Nat → SV) : Opd → Option (List D × (Nat → SV))
  | .t n => match T n with
    | .d (.slice true es) => if D.imms es then some (es, T) else some (es, put T n .un)
    | .d (.slice false es) => some (es, T)
    | .d .nil => some ([], T)
    | .ref r p => match wayD T r p with
      | some (.slice _ es) => if D.imms es then some (es, T) else none
      | _ => none
    | _ => none
  | .c .nil => some ([], T)
  | .c (.slice _ []) => some ([], T)
  | _ => none

/-! ### Function values -/
/-- A variable that is captured: frozen, or moved into the function value. -/
def capT (T : Nat → SV) : Bool × Nat → Option (D × (Nat → SV))
  | (true, m) => match T m with
    | .box x => some (.ptr true x, put T m .un)
    | _ => none
  | (false, m) => match T m with
    | .box x => some (.ptr false x.toImm, put T m (.ima x.toImm))
    | .ima x => some (.ptr false x, T)
    | _ => none
def capsT (T : Nat → SV) : List (Bool × Nat) → Option (List D × (Nat → SV))
  | [] => some ([], T)
  | c :: l => (capT T c).bind fun a => (capsT a.2 l).map fun b => (a.1 :: b.1, b.2)
def capIx : List (Bool × Nat) → Nat → Nat → Option Nat
  | [], _, _ => none
  | (b, m) :: l, t, j => bif b && Nat.beq m t then some j else capIx l t (j + 1)
/-- The ways to what was moved. -/
def wayB (T : Nat → SV) (d : Nat) (caps : List (Bool × Nat)) : Nat → SV := fun t => match capIx caps t 0 with
  | some j => .adr d [.cap j, .dr]
  | none => T t
/-- A way that is told anew. -/
def setW (T : Nat → SV) (m : Nat) (s : SV) : Nat → SV := fun t => bif Nat.beq t m then s else T t
def fnAt (T : Nat → SV) (k : Nat) : Option (Nat × Nat × List D) := match T k with
  | .d (.fn g caps) => some (k, g, caps)
  | .ref r [] => match T r with
    | .d (.fn g caps) => some (r, g, caps)
    | _ => none
  | _ => none
/-- What comes back of the captured variables that may be written. -/
def capOuts : Nat → List D → List (Nat × D)
  | _, [] => []
  | i, .ptr true y :: l => (i, .ptr true y) :: capOuts (i + 1) l
  | i, _ :: l => capOuts (i + 1) l
def capsLike : List D → List D → Prop
  | [], [] => True
  | .ptr false x :: l, c :: m => (c = .ptr false x ∧ x.imm = true) ∧ capsLike l m
  | .ptr true _ :: l, c :: m => (∃ y, c = .ptr true y ∧ y.solid = true) ∧ capsLike l m
  | _, _ => False
def isCapA (s : SV) (k : Nat) : Bool := match s with
  | .adr r [.cap _, .dr] => r == k
  | _ => false
/-- Ways to variables that a function value holds stay behind a call that got it. -/
def keepA (T T' : Nat → SV) (k d : Nat) : Nat → SV := fun t => if t ≠ d ∧ k ≠ d ∧ isCapA (T t) k = true then T t else T' t

/-- What an operation asks, and what follows. -/
def opW (P : Program) (T : Nat → SV) (m : MOp) (K : (Nat → SV) → Prop) : Prop :=
  match m.k, m.dst with
  | .asg x, some d => match srcTake T x with
    | some (y, T') => K (put T' d (.d y))
    | none => False
  | .box x, some d => match srcTake T x with
    | some (y, T') => K (put T' d (.box y))
    | none => False
  | .mvt n, some d => match T n with
    | .tup l => K (put (put T n .un) d (.tup l))
    | _ => False
  | .boxm n, some d => match T n with
    | .d _ => n ≠ d ∧ K (put T d (.mad n []))
    | _ => False
  | .alloc z, some d => K (put T d (.box z))
  | .st n v sz, none => match srcTake T v with
    | some (y', T') => match T' n with
      | .box x => (x.size = sz ∧ y'.size = sz) ∧ K (stT T' n [] y')
      | .adr r p => (∃ x y, rootD T' r = some x ∧ getP p x = some y ∧ y.size = sz) ∧ y'.size = sz ∧ K (stT T' r p y')
      | _ => False
    | none => False
  | .stm n v sz, none => match T n, T v with
    | .box x, .ref r p => (n ≠ r ∧ x.size = sz ∧ ∃ y, wayD T r p = some y ∧ y.size = sz) ∧ K (put T n (.mad r p))
    | _, _ => False
  | .app s x sz, some d => match srcTake T s with
    | some (y, T') => match baseOf y with
      | some l => match tailOf T' x with
        | some (es, T'') => (l.length + es.length ≤ 1099511627776 ∧ sizesAll sz l ∧ sizesAll sz es) ∧ K (put T'' d (.d (.slice true (l ++ es))))
        | none => False
      | none => False
    | none => False
  | .bsl parts sz, some d => match takes T parts with
    | some (ys, T') => (ys.length ≤ 1024 ∧ sizesAll sz ys) ∧ K (put T' d (.d (.slice true ys)))
    | none => False
  | .bld z parts, some d => match takes T (parts.map (·.2)) with
    | some (ys, T') => (sizesAll 1 z ∧ sizesAll 1 ys) ∧ K (put T' d (.d (.agg (((parts.map (·.1)).zip ys).foldl (fun l p => l.set p.1 p.2) z))))
    | none => False
  | .bldw z i k rest m, some d => match takes T (.t k :: rest.map (·.2)) with
    | some (ys, T') => ((sizesAll 1 z ∧ sizesAll 1 ys) ∧ (∃ l, T k = .ref m [] ∧ T m = .d (.slice true l)) ∧ T' m = .un ∧ Nat.beq m d = false ∧ (rest.all fun p => !Nat.beq p.1 i) = true) ∧
        K (setW (put T' d (.d (.agg (((i :: rest.map (·.1)).zip ys).foldl (fun l p => l.set p.1 p.2) z)))) m (.ref d [.fld i]))
    | none => False
  | .stw n v sz m i, none => match T n, T v with
    | .box x, .d y => ((x.size = sz ∧ y.size = sz) ∧ y.imm = false ∧ T m = .ref v [.fld i] ∧ Nat.beq n v = false ∧ Nat.beq m n = false) ∧ K (setW (stT (put T v .un) n [] y) m (.ref n [.fld i]))
    | _, _ => False
  | .callT f args, some d => match argTakes T args with
    | some (ds, T') => ∃ r, Con P f ds [] r ∧ D.solids r = true ∧ K (put T' d (resSV r))
    | none => False
  | .callO f (.t n :: args), some d => match T n with
    | .d y => match rds (put T n .un) args with
      | some ds => ∃ r y', Con P f (y :: D.toImms ds) [(0, y')] r ∧ (y'.size = y.size ∧ y'.isAgg = y.isAgg ∧ y'.solid = true ∧ D.solids r = true) ∧ K (keepM T (put (put T n (.d y')) d (resSV r)) n d)
      | none => False
    | .ref rt p => match rds (put T rt .un) args, wayD T rt p with
      | some ds, some y => ∃ r y', Con P f (y :: D.toImms ds) [(0, y')] r ∧ (y'.size = y.size ∧ y'.isAgg = y.isAgg ∧ y'.solid = true ∧ D.solids r = true) ∧ K (keepM T (put (put T rt ((T rt).setR p y')) d (resSV r)) rt d)
      | _, _ => False
    | _ => False
  | .mkf g caps, some d => match capsT T caps with
    | some (ds, T') => (caps.all fun c => c.2 != d) = true ∧ K (wayB (put T' d (.d (.fn g ds))) d caps)
    | none => False
  | .callf k args, some d => match fnAt T k with
    | some (r0, g, caps) => match argTakes (put T r0 .un) args with
      | some (ds, T') => ∃ r caps', Con P g (ds ++ caps) (capOuts ds.length caps') r ∧ capsLike caps caps' ∧ D.solids r = true ∧ K (put (put T' r0 (.d (.fn g caps'))) d (resSV r))
      | none => False
    | none => False
  | .callP f pre k post, some d => match T k with
    | .d (.fn g caps) => match rds (put T k .un) pre, rds (put T k .un) post with
      | some ds, some es => ∃ r caps', Con P f (D.toImms ds ++ .fn g caps :: D.toImms es) [(ds.length, .fn g caps')] r ∧ capsLike caps caps' ∧ D.solids r = true ∧
          K (keepA T (put (put T k (.d (.fn g caps'))) d (resSV r)) k d)
      | _, _ => False
    | _ => False
  | .ext n i, some d => match T n with
    | .tup l => match l[i]? with
      | some (some y) => K (put (put T n (.tup (l.set i none))) d (.d y))
      | _ => False
    | _ => False
  | .alloc _, none => False
  | .mk _ _, none => False
  | .bsl _ _, none => False
  | k, some d => evW P T k fun s => K (put T d (s.safe d))
  | k, none => evW P T k fun _ => K T
end AS
set_option linter.unusedVariables false
set_option linter.unusedSimpArgs false
namespace AS
open Go

def okConst : Value → D → Bool
  | .int k n, .int k' n' => k == k' && n == n'
  | .bool b, .bool b' => b == b'
  | .string s, .str l => s.toList == l && decide (l.length ≤ 1048576)
  | .slice none 0 0, .nil => true
  | .slice none 0 0, .nilo => true
  | .slice none 0 0, .slice _ [] => true
  | _, _ => false
def okFn (g : Nat) : D → Bool
  | .fn g' [] => g == g'
  | _ => false
def okOpd : Operand → Opd → Bool
  | .tmp t, .t n => t == n
  | .const v, .c x => okConst v x
  | .func g, .c x => okFn g x
  | _, _ => false
def okOpds : List Operand → List Opd → Bool
  | [], [] => true
  | x :: l, y :: m => okOpd x y && okOpds l m
  | _, _ => false

theorem string_of_toList {s : ByteArray} {l : List UInt8} (h : s.toList = l) : s = ⟨l.toArray⟩ := by
  rw [ByteArray.toList_eq] at h
  cases s with
  | mk d => simp only [] at h; rw [← h]

theorem okConst_rep {v : Value} {x : D} (h : okConst v x = true) (w : World) (Z : Nat → Prop) : RepV w Z x v (fun _ => 0) := by
  unfold okConst at h
  split at h
  · simp only [Bool.and_eq_true, beq_iff_eq] at h
    obtain ⟨rfl, rfl⟩ := h
    exact ⟨rfl, by simp [RepX, Value.cells]⟩
  · simp only [beq_iff_eq] at h
    subst h
    exact ⟨rfl, by simp [RepX, Value.cells]⟩
  · simp only [Bool.and_eq_true, beq_iff_eq, decide_eq_true_eq] at h
    obtain ⟨h1, h2⟩ := h
    rw [string_of_toList h1]
    exact ⟨rfl, by simp [RepX, Value.cells, maxLen]; omega⟩
  · exact ⟨rfl, by simp [RepX, Value.cells]⟩
  · exact ⟨rfl, by simp [RepX, Value.cells]⟩
  · refine ⟨rfl, ?_⟩
    simp only [RepX]
    exact .inl ⟨trivial, fun _ => trivial, none, 0, rfl, Nat.zero_le _, fun _ => rfl, fun _ => rfl⟩
  · cases h

theorem okFn_rep {g : Nat} {x : D} (h : okFn g x = true) (w : World) (Z : Nat → Prop) : RepV w Z x (.func (.func g) #[] #[]) (fun _ => 0) := by
  unfold okFn at h
  split at h
  · simp only [beq_iff_eq] at h
    subst h
    refine ⟨rfl, ?_⟩
    simp only [RepX, RepXs]
    exact ⟨#[], by simp [Value.cells], by simp, by simp, fun _ => by simp⟩
  · cases h

theorem cells_single {v u : Value} (h1 : vAgg v = false) (h2 : v.cells.toList = [u]) : v = u := by
  cases v <;> simp_all [vAgg, Value.cells]

section
variable {w : World} {Z : Nat → Prop} {v : Value} {f : FP}
theorem RepV.int {k : IntKind} {n : Int} (h : RepV w Z (.int k n) v f) : v = .int k n ∧ ∀ b, f b = 0 := by
  obtain ⟨h1, h2⟩ := h; simp only [RepX] at h2; exact ⟨cells_single h1 h2.1, h2.2⟩
theorem RepV.bool {x : Bool} (h : RepV w Z (.bool x) v f) : v = .bool x ∧ ∀ b, f b = 0 := by
  obtain ⟨h1, h2⟩ := h; simp only [RepX] at h2; exact ⟨cells_single h1 h2.1, h2.2⟩
theorem RepV.str {s : List UInt8} (h : RepV w Z (.str s) v f) : v = .string ⟨s.toArray⟩ ∧ s.length ≤ maxLen ∧ ∀ b, f b = 0 := by
  obtain ⟨h1, h2⟩ := h; simp only [RepX] at h2; exact ⟨cells_single h1 h2.1, h2.2⟩
theorem RepV.nilo (h : RepV w Z .nilo v f) : v = .slice none 0 0 ∧ ∀ b, f b = 0 := by
  obtain ⟨h1, h2⟩ := h
  simp only [RepX] at h2
  exact ⟨cells_single h1 h2.1, h2.2⟩
theorem RepV.nil (h : RepV w Z .nil v f) : v = .slice none 0 0 ∧ ∀ b, f b = 0 := by
  obtain ⟨h1, h2⟩ := h; simp only [RepX] at h2; exact ⟨cells_single h1 h2.1, h2.2⟩
theorem RepV.mkInt (k : IntKind) (n : Int) : RepV w Z (.int k n) (.int k n) (fun _ => 0) := ⟨rfl, by simp [RepX, Value.cells]⟩
theorem RepV.mkBool (b : Bool) : RepV w Z (.bool b) (.bool b) (fun _ => 0) := ⟨rfl, by simp [RepX, Value.cells]⟩
theorem RepV.mkStr {s : List UInt8} (h : s.length ≤ maxLen) : RepV w Z (.str s) (.string ⟨s.toArray⟩) (fun _ => 0) := ⟨rfl, by simp [RepX, Value.cells, h]⟩
/-- A slice's header. -/
theorem RepV.slice {o : Bool} {l : List D} (h : RepV w Z (.slice o l) v f) : ∃ (a : Option Addr) (cap : Nat), v = .slice a l.length cap ∧ l.length ≤ cap ∧ cap ≤ maxLen ∧ (l ≠ [] → ∃ g off, a = some ⟨g, off, none⟩) := by
  obtain ⟨h1, h2⟩ := h
  simp only [RepX] at h2
  rcases h2 with ⟨rfl, _, a, cap, h3, h4, _⟩ | ⟨hne, g, off, cap, xs, sz, f1, h3, h4, h5, _⟩
  · exact ⟨a, cap, cells_single h1 h3, Nat.zero_le _, h4, fun h => absurd rfl h⟩
  · exact ⟨_, cap, cells_single h1 h3, h5, h4, fun _ => ⟨g, off, rfl⟩⟩
end

section
variable {w0 : World} {tk : FP} {n : Nat} {Z0 Z : Nat → Prop} {F : Nat → FP} {S : FP} {T : Nat → SV} {a : Act} {w : World}

theorem rootD_root (h : Core w0 tk n Z0 Z F S T a w) {r : Nat} {x : D} (hx : rootD T r = some x) : ∃ cs oa, RootOf w T (tmOf a) r x cs oa := by
  unfold rootD at hx
  have h1 := h.rep r
  split at hx
  · rename_i y hT
    cases hx
    exact ⟨_, none, .inl ⟨hT, rfl, rfl⟩⟩
  · rename_i y hT
    cases hx
    rw [hT] at h1
    obtain ⟨g, cur, e, f1, k1, k2, k3, k4⟩ := h1
    exact ⟨_, _, .inr ⟨g, cur, e, hT, k1, k2, rfl, rfl⟩⟩
  · cases hx

theorem root_rootD {r : Nat} {x : D} {cs : List Value} {oa : Option (Nat × Nat)} (h : RootOf w T (tmOf a) r x cs oa) : rootD T r = some x := by
  rcases h with ⟨h, _⟩ | ⟨_, _, _, h, _⟩ <;> simp [rootD, h]

/-- A way, opened. -/
theorem Core.way (h : Core w0 tk n Z0 Z F S T a w) {t r : Nat} (hr : (T t).root = some r) :
    ∃ (x : D) (cs : List Value) (oa : Option (Nat × Nat)) (y : D) (c : List Value) (ob : Option (Nat × Nat)) (fr fy : FP), RootOf w T (tmOf a) r x cs oa ∧ rootD T r = some x ∧ At w (T t).path x cs oa y c ob ∧
      ownP (T t).path x = true ∧ wayOk w Z (tmOf a t) y c ob (T t) ∧ wayD T r (T t).path = some y ∧ RepX w Z y c fy ∧ (∀ b, fr b + fy b ≤ F r b) := by
  have h1 := h.rep t
  rw [SRep.some hr] at h1
  obtain ⟨_, x, cs, oa, y, c, ob, k1, k2, k3, k4⟩ := h1
  obtain ⟨f1, r1, r2, _⟩ := h.root k1
  obtain ⟨fr, fy, q1, q2, _⟩ := At.focus _ r1 k2 k3
  have hx := root_rootD k1
  exact ⟨x, cs, oa, y, c, ob, fr, fy, k1, hx, k2, k3, k4, by simp [wayD, hx, At.get _ k2], q1, fun b => by have := r2 b; have := q2 b; omega⟩

theorem Core.rd (h : Core w0 tk n Z0 Z F S T a w) {x : Operand} {x' : Opd} (ho : okOpd x x' = true) {y : D} (hy : rd T x' = some y) :
    ∃ fy : FP, RepV w Z y (a.eval x) fy ∧ (∀ b, 0 < fy b → ∃ t, 0 < F t b) := by
  unfold okOpd at ho
  split at ho
  · rename_i t t'
    simp only [beq_iff_eq] at ho
    subst ho
    simp only [AS.rd] at hy
    have he : a.eval (.tmp t) = tmOf a t := rfl
    rw [he]
    cases hT : T t with
    | d z =>
      rw [hT] at hy
      simp only [dataOf, Option.some.injEq] at hy
      subst hy
      have h1 := h.rep t
      rw [hT] at h1
      exact ⟨F t, h1, fun b hb => ⟨t, hb⟩⟩
    | ref r p =>
      rw [hT] at hy
      have hr : (T t).root = some r := by rw [hT]; rfl
      obtain ⟨x, cs, oa, y2, c, ob, fr, fy, k1, k2, k3, k4, k5, k6, k7, k8⟩ := h.way hr
      rw [hT] at k6 k5
      have hy2 : y2 = y := by
        simp only [dataOf] at hy
        simp only [wayD, SV.path] at k6
        rw [hy] at k6; cases k6; rfl
      subst hy2
      exact ⟨fy, ⟨k5.2, by rw [k5.1]; exact k7⟩, fun b hb => ⟨r, by have := k8 b; omega⟩⟩
    | _ => rw [hT] at hy; simp [dataOf] at hy
  · simp only [AS.rd, Option.some.injEq] at hy
    subst hy
    exact ⟨fun _ => 0, okConst_rep ho w Z, fun b hb => absurd hb (by simp)⟩
  · simp only [AS.rd, Option.some.injEq] at hy
    subst hy
    exact ⟨fun _ => 0, okFn_rep ho w Z, fun b hb => absurd hb (by simp)⟩
  · cases ho

theorem Core.rdInt (h : Core w0 tk n Z0 Z F S T a w) {x : Operand} {x' : Opd} (ho : okOpd x x' = true) {k : IntKind} {m : Int} (hy : AS.rd T x' = some (.int k m)) : a.eval x = .int k m := by
  obtain ⟨fy, h1, _⟩ := h.rd ho hy; exact h1.int.1
theorem Core.rdBool (h : Core w0 tk n Z0 Z F S T a w) {x : Operand} {x' : Opd} (ho : okOpd x x' = true) {m : Bool} (hy : AS.rd T x' = some (.bool m)) : a.eval x = .bool m := by
  obtain ⟨fy, h1, _⟩ := h.rd ho hy; exact h1.bool.1
theorem Core.rdStr (h : Core w0 tk n Z0 Z F S T a w) {x : Operand} {x' : Opd} (ho : okOpd x x' = true) {m : List UInt8} (hy : AS.rd T x' = some (.str m)) : a.eval x = .string ⟨m.toArray⟩ ∧ m.length ≤ maxLen := by
  obtain ⟨fy, h1, _⟩ := h.rd ho hy; exact ⟨h1.str.1, h1.str.2.1⟩
theorem Core.rdNat (h : Core w0 tk n Z0 Z F S T a w) {x : Operand} {x' : Opd} (ho : okOpd x x' = true) {K : Nat → Prop} (hy : natW (AS.rd T x') K) : ∃ k m, a.eval x = .int k m ∧ 0 ≤ m ∧ K m.toNat := by
  unfold natW at hy
  split at hy
  · rename_i k m hx; exact ⟨k, m, h.rdInt ho hx, hy.1, hy.2⟩
  · exact hy.elim
end
end AS
set_option linter.unusedVariables false
set_option linter.unusedSimpArgs false
namespace AS
open Go

def okCells : List Value → List D → Bool
  | [], [] => true
  | v :: vs, x :: l => okConst v x && okCells vs l
  | _, _ => false
def okZ (vs : List Value) (z : D) : Bool := match z with
  | .agg l => okCells vs l
  | x => okCells vs [x]
def okElem (P : Program) (t : TypeId) (p : TypeInfo → Bool) : Bool := match P.underlying t with
  | some (.slice e) => match P.info? e with
    | some i => p i
    | none => false
  | _ => false
def okInfo (P : Program) (t : TypeId) (p : TypeInfo → Bool) : Bool := match P.info? t with
  | some i => p i
  | none => false
def okFld (P : Program) (t : TypeId) (i off : Nat) : Bool := match P.underlying t with
  | some (.struct fs) => match fs[i]? with
    | some fd => fd.offset == off && okInfo P fd.type fun x => x.size != 0
    | none => false
  | _ => false
def okLd (P : Program) (t : TypeId) (sz : Nat) (ag : Bool) : Bool := match P.underlying t with
  | some (.struct _) => ag && okInfo P t fun i => i.size == sz
  | some (.array _ _) => ag && okInfo P t fun i => i.size == sz
  | some _ => !ag && sz == 1
  | none => false
def okStr (P : Program) (t : TypeId) : Bool := match P.underlying t with
  | some .string => true
  | _ => false
def okBool (P : Program) (t : TypeId) : Bool := match P.underlying t with
  | some .bool => true
  | _ => false
def okInt (P : Program) (t : TypeId) (k : IntKind) : Bool := match P.underlying t with
  | some (.int k') => k' == k
  | _ => false
def okSome (P : Program) (t : TypeId) : Bool := (P.underlying t).isSome
def okOpt : Option Operand → Option Opd → Bool
  | none, none => true
  | some x, some y => okOpd x y
  | _, _ => false
def isRange : Nat → List (Nat × Operand) → Bool
  | _, [] => true
  | k, (i, _) :: l => i == k && isRange (k + 1) l
def okParts : List (Nat × Operand) → List (Nat × Opd) → Bool
  | [], [] => true
  | (i, x) :: l, (j, y) :: m => i == j && okOpd x y && okParts l m
  | _, _ => false
/-- A struct whose fields are one cell each, in order. -/
def okFlat (P : Program) (t : TypeId) (n : Nat) : Bool := match P.underlying t with
  | some (.struct fs) => fs.size == n && (List.range n).all fun i => match fs[i]? with
    | some fd => fd.offset == i && okInfo P fd.type fun x => x.size == 1
    | none => false
  | _ => false

def callB1 (c : Call) (p : Builtin → Operand → TypeId → Bool) : Bool := match c.callee, c.args.toList, c.argTypes.toList with
  | .builtin b, [x], [t] => p b x t
  | _, _, _ => false
def callB2 (c : Call) (p : Builtin → Operand → Operand → Bool) : Bool := match c.callee, c.args.toList with
  | .builtin b, [x, y] => p b x y
  | _, _ => false
def callF (c : Call) (p : Nat → List Operand → Bool) : Bool := match c.callee with
  | .value v => match v with
    | .func f => p f c.args.toList
    | _ => false
  | _ => false
def isNilC : Operand → Bool
  | .const (.slice none 0 0) => true
  | _ => false
def isLen : Builtin → Bool
  | .len => true
  | _ => false
def isMax : Builtin → Bool
  | .max => true
  | _ => false
def isMin : Builtin → Bool
  | .min => true
  | _ => false
def isApp : Builtin → Bool
  | .append => true
  | _ => false
def isEql : BinOp → Bool
  | .eql => true
  | _ => false
def isNeq : BinOp → Bool
  | .neq => true
  | _ => false
def isNot : UnOp → Bool
  | .not => true
  | _ => false
def isNeg : UnOp → Bool
  | .neg => true
  | _ => false
def isT : Operand → Nat → Bool
  | .tmp t, n => t == n
  | _, _ => false
def okElemU8 (P : Program) (t : TypeId) : Bool := match P.underlying t with
  | some (.slice e) => okInt P e .u8
  | _ => false

def okCaps : List Operand → List (Bool × Nat) → Bool
  | [], [] => true
  | x :: xs, c :: cs => isT x c.2 && okCaps xs cs
  | _, _ => false
def callV (c : Call) (p : Operand → List Operand → Bool) : Bool := match c.callee with
  | .value v => p v c.args.toList
  | _ => false

def okK (P : Program) (op : Op) : MK → Bool
  | .mv y => match op with
    | .move x => okOpd x y
    | .assign x => okOpd x y
    | _ => false
  | .mvt n => match op with
    | .move x => isT x n
    | _ => false
  | .asg y => match op with
    | .assign x => okOpd x y
    | _ => false
  | .box y => match op with
    | .box _ x => okOpd x y
    | _ => false
  | .boxm n => match op with
    | .box _ x => isT x n
    | _ => false
  | .alloc z => match op with
    | .alloc t => okInfo P t fun i => match i.zero with | some v => okZ v.cells.toList z | none => false
    | _ => false
  | .fa n i off => match op with
    | .fieldAddr t x f => isT x n && f == i && okFld P t i off
    | _ => false
  | .ia n j sz => match op with
    | .indexAddr t x i => isT x n && okOpd i j && okElem P t fun e => e.size == sz
    | _ => false
  | .ld n sz ag => match op with
    | .load t x => isT x n && okLd P t sz ag
    | _ => false
  | .st n y sz => match op with
    | .store t x v => isT x n && okOpd v y && okInfo P t fun i => i.size == sz
    | _ => false
  | .stm n y sz => match op with
    | .store t x v => isT x n && isT v y && okInfo P t fun i => i.size == sz
    | _ => false
  | .bin op' x' y' => match op with
    | .binOp op _ x y _ => op == op' && okOpd x x' && okOpd y y'
    | _ => false
  | .eqb ne x' y' => match op with
    | .binOp op t x y _ => (if ne then isNeq op else isEql op) && okBool P t && okOpd x x' && okOpd y y'
    | _ => false
  | .eqn ne x' => match op with
    | .binOp op t x y _ => (if ne then isNeq op else isEql op) && isNilC y && okElem P t (fun _ => true) && okOpd x x'
    | _ => false
  | .nt y => match op with
    | .unOp u _ x => isNot u && okOpd x y
    | _ => false
  | .neg y => match op with
    | .unOp u _ x => isNeg u && okOpd x y
    | _ => false
  | .cvi k y => match op with
    | .convert s d x => okSome P s && okInt P d k && okOpd x y
    | _ => false
  | .len str y => match op with
    | .call c => callB1 c fun b x t => isLen b && (if str then okStr P t else okElem P t (fun _ => true)) && okOpd x y
    | _ => false
  | .mmx mx x' y' => match op with
    | .call c => callB2 c fun b x y => (if mx then isMax b else isMin b) && okOpd x x' && okOpd y y'
    | _ => false
  | .app s' x' sz => match op with
    | .call c => callB2 c (fun b s x => isApp b && okOpd s s' && okOpd x x') && (match c.argTypes.toList with
      | [t, t'] => t == t' && okElem P t fun i => i.size == sz && sz != 0 && decide (i.bytes ≤ 128) && match i.zero with | some z => z.cells.size == sz | none => false
      | _ => false)
    | _ => false
  | .bsl ys sz => match op with
    | .buildSlice t n parts => parts.size == n && isRange 0 parts.toList && okOpds (parts.toList.map (·.2)) ys && okElem P t fun i => i.size == sz && (decide (sz ≤ 64)) && sz != 0 && match i.zero with | some z => z.cells.size == sz | none => false
    | _ => false
  | .bld z ys => match op with
    | .build t parts => okParts parts.toList ys && (ys.all fun p => decide (p.1 < z.length)) && okFlat P t z.length && okInfo P t fun i => match i.zero with | some v => okCells v.cells.toList z | none => false
    | _ => false
  | .bldw z i k rest _ => match op with
    | .build t parts => okParts parts.toList ((i, .t k) :: rest) && (((i, Opd.t k) :: rest).all fun p => decide (p.1 < z.length)) && okFlat P t z.length && okInfo P t fun i => match i.zero with | some v => okCells v.cells.toList z | none => false
    | _ => false
  | .stw n v sz _ _ => match op with
    | .store t x y => isT x n && isT y v && okInfo P t fun i => i.size == sz
    | _ => false
  | .mk z y => match op with
    | .makeSlice t l c => okOpd l y && okOpd c y && okElem P t fun i => decide (i.bytes ≤ 128) && i.size == z.size && match i.zero with | some v => okZ v.cells.toList z | none => false
    | _ => false
  | .sls y lo' hi' => match op with
    | .slice t x lo hi mx => mx.isNone && okStr P t && okOpd x y && okOpt lo lo' && okOpt hi hi'
    | _ => false
  | .sl y lo' hi' sz => match op with
    | .slice t x lo hi mx => mx.isNone && okElem P t (fun i => i.size == sz) && okOpd x y && okOpt lo lo' && okOpt hi hi'
    | _ => false
  | .ix y j => match op with
    | .index t x i => okStr P t && okOpd x y && okOpd i j
    | _ => false
  | .pick c' x' y' => match op with
    | .pick c x y => okOpd c c' && okOpd x x' && okOpd y y'
    | _ => false
  | .call f' ys => match op with
    | .call c => callF c fun f xs => f == f' && okOpds xs ys
    | _ => false
  | .callT f' ys => match op with
    | .call c => callF c fun f xs => f == f' && okOpds xs (ys.map (·.2))
    | _ => false
  | .callO f' ys => match op with
    | .call c => callF c fun f xs => f == f' && okOpds xs ys
    | _ => false
  | .mkf g caps => match op with
    | .makeFunc (.func f) first xs => f == g && first.isEmpty && okCaps xs.toList caps
    | _ => false
  | .callf k ys => match op with
    | .call c => callV c fun v xs => isT v k && okOpds xs (ys.map (·.2))
    | _ => false
  | .callP f' pre k post => match op with
    | .call c => callF c fun f xs => f == f' && okOpds xs (pre ++ .t k :: post)
    | _ => false
  | .ext n j => match op with
    | .extract x i => isT x n && i == j
    | _ => false
  | .b2s y => match op with
    | .convert s d x => okElem P s (fun _ => true) && okElemU8 P s && okStr P d && okOpd x y
    | _ => false
  | .i2s y => match op with
    | .convert s d x => okSome P s && okStr P d && okOpd x y
    | _ => false

theorem isT_iff {x : Operand} {n : Nat} (h : isT x n = true) : x = .tmp n := by
  unfold isT at h
  split at h
  · simp only [beq_iff_eq] at h; rw [h]
  · cases h
theorem isNilC_iff {x : Operand} (h : isNilC x = true) : x = .const (.slice none 0 0) := by
  unfold isNilC at h
  split at h
  · rfl
  · cases h
theorem callB1_iff {c : Call} {p : Builtin → Operand → TypeId → Bool} (h : callB1 c p = true) : ∃ b x t, c = { callee := .builtin b, args := #[x], argTypes := #[t] } ∧ p b x t = true := by
  obtain ⟨c1, c2, c3⟩ := c
  unfold callB1 at h
  split at h
  · rename_i b x t h1 h2 h3
    simp only at h1 h2 h3
    exact ⟨b, x, t, by rw [h1, ← Array.toArray_toList (xs := c2), ← Array.toArray_toList (xs := c3), h2, h3], h⟩
  · cases h
theorem callB2_iff {c : Call} {p : Builtin → Operand → Operand → Bool} (h : callB2 c p = true) : ∃ b x y, c = { callee := .builtin b, args := #[x, y], argTypes := c.argTypes } ∧ p b x y = true := by
  obtain ⟨c1, c2, c3⟩ := c
  unfold callB2 at h
  split at h
  · rename_i b x y h1 h2
    simp only at h1 h2
    exact ⟨b, x, y, by rw [h1, ← Array.toArray_toList (xs := c2), h2], h⟩
  · cases h
theorem callF_iff {c : Call} {p : Nat → List Operand → Bool} (h : callF c p = true) : ∃ f, c = { callee := .value (.func f), args := c.args, argTypes := c.argTypes } ∧ p f c.args.toList = true := by
  obtain ⟨c1, c2, c3⟩ := c
  unfold callF at h
  split at h
  · rename_i v h1
    simp only at h1
    split at h
    · rename_i f
      exact ⟨f, by rw [h1], h⟩
    · cases h
  · cases h

theorem callV_iff {c : Call} {p : Operand → List Operand → Bool} (h : callV c p = true) : ∃ v, c = { callee := .value v, args := c.args, argTypes := c.argTypes } ∧ p v c.args.toList = true := by
  obtain ⟨c1, c2, c3⟩ := c
  unfold callV at h
  split at h
  · rename_i v h1
    simp only at h1
    exact ⟨v, by rw [h1], h⟩
  · cases h

theorem okElem_iff {P : Program} {t : TypeId} {p : TypeInfo → Bool} (h : okElem P t p = true) : ∃ e i, P.underlying t = some (.slice e) ∧ P.info? e = some i ∧ p i = true := by
  unfold okElem at h
  split at h
  · rename_i e he
    split at h
    · rename_i i hi; exact ⟨e, i, he, hi, h⟩
    · cases h
  · cases h
theorem okInfo_iff {P : Program} {t : TypeId} {p : TypeInfo → Bool} (h : okInfo P t p = true) : ∃ i, P.info? t = some i ∧ p i = true := by
  unfold okInfo at h
  split at h
  · rename_i i hi; exact ⟨i, hi, h⟩
  · cases h
theorem okStr_iff {P : Program} {t : TypeId} (h : okStr P t = true) : P.underlying t = some .string := by
  unfold okStr at h; split at h
  · assumption
  · cases h
theorem okBool_iff {P : Program} {t : TypeId} (h : okBool P t = true) : P.underlying t = some .bool := by
  unfold okBool at h; split at h
  · assumption
  · cases h
theorem okInt_iff {P : Program} {t : TypeId} {k : IntKind} (h : okInt P t k = true) : P.underlying t = some (.int k) := by
  unfold okInt at h; split at h
  · rename_i k' hk; simp only [beq_iff_eq] at h; rw [hk, h]
  · cases h
theorem okFld_iff {P : Program} {t : TypeId} {i off : Nat} (h : okFld P t i off = true) : ∃ fs fd inf, P.underlying t = some (.struct fs) ∧ fs[i]? = some fd ∧ fd.offset = off ∧ P.info? fd.type = some inf ∧ inf.size ≠ 0 := by
  unfold okFld at h
  split at h
  · rename_i fs hfs
    split at h
    · rename_i fd hfd
      simp only [Bool.and_eq_true, beq_iff_eq] at h
      obtain ⟨inf, h1, h2⟩ := okInfo_iff h.2
      exact ⟨fs, fd, inf, hfs, hfd, h.1, h1, by simpa using h2⟩
    · cases h
  · cases h

theorem okCells_rep {w : World} {Z : Nat → Prop} : ∀ {vs : List Value} {l : List D}, okCells vs l = true → RepXs w Z l vs (fun _ => 0)
  | [], [], _ => by simp [RepXs]
  | v :: vs, x :: l, h => by
    simp only [okCells, Bool.and_eq_true] at h
    have h1 := okConst_rep h.1 w Z
    have h2 : v.cells.toList = [v] := by
      have h := h.1
      unfold okConst at h
      split at h <;> first | rfl | cases h
    simp only [RepXs]
    exact ⟨[v], vs, fun _ => 0, fun _ => 0, rfl, fun _ => rfl, by rw [← h2]; exact h1.2, okCells_rep h.2⟩
  | [], _ :: _, h => by simp [okCells] at h
  | _ :: _, [], h => by simp [okCells] at h

theorem okZ_rep {w : World} {Z : Nat → Prop} {vs : List Value} {z : D} (h : okZ vs z = true) : RepX w Z z vs (fun _ => 0) := by
  have one : ∀ {x : D}, okCells vs [x] = true → RepX w Z x vs (fun _ => 0) := by
    intro x hx
    have := okCells_rep (w := w) (Z := Z) hx
    simp only [RepXs] at this
    obtain ⟨c1, c2, f1, f2, rfl, h2, h3, rfl, h4⟩ := this
    rw [List.append_nil]
    exact h3.congr fun b => by have := h2 b; have := h4 b; omega
  unfold okZ at h
  split at h
  · simp only [RepX]; exact okCells_rep h
  · exact one h

section
variable {P : Program} {o : Oper} {a : Act} {w w' : World} {K : Act → World → Prop} {Q : Exit → Act → World → Prop}
theorem wp_value {v : Value} (h : (execOp a.eval o).run P w = .ok (.value v) w') (hk : K (a.put o.dst v) w') : o.wp P a w K Q := by
  simp only [Oper.wp, h, Oper.upon]; exact hk
theorem wp_skipped (h : (execOp a.eval o).run P w = .ok .skip w') (hk : K (a.put o.dst undef) w') : o.wp P a w K Q := by
  simp only [Oper.wp, h, Oper.upon]; exact hk
end

theorem bitsval {k : IntKind} {x : Int} (h0 : 0 ≤ x) (h : InR k x) : (BitVec.ofInt k.bits x).toNat = x.toNat ∧ x.toNat < 2 ^ k.bits := by
  have hlt : x.toNat < 2 ^ k.bits := by
    cases k <;> simp only [InR] at h <;> try exact h.elim
    all_goals (simp only [IntKind.bits]; omega)
  refine ⟨?_, hlt⟩
  rw [BitVec.toNat_ofInt, Int.emod_eq_of_lt h0 (by omega)]

theorem bitsin {k : IntKind} {m : Nat} {x : Int} (h : InR k x) (hm : m ≤ x.toNat) (h0 : 0 ≤ x) : InR k (m : Int) := by
  cases k <;> simp only [InR] at h ⊢ <;> try exact h.elim
  all_goals omega

theorem or_InR {k : IntKind} {x y : Int} (h : InR k x) (h0 : 0 ≤ x) (h' : InR k y) (h0' : 0 ≤ y) : InR k ((x.toNat ||| y.toNat : Nat) : Int) := by
  cases k <;> simp only [InR] at h h' ⊢ <;> try exact h.elim
  · have := Nat.or_lt_two_pow (n := 31) (show x.toNat < 2 ^ 31 by omega) (show y.toNat < 2 ^ 31 by omega); omega
  · have := Nat.or_lt_two_pow (n := 63) (show x.toNat < 2 ^ 63 by omega) (show y.toNat < 2 ^ 63 by omega); omega
  · have := Nat.or_lt_two_pow (n := 8) (show x.toNat < 2 ^ 8 by omega) (show y.toNat < 2 ^ 8 by omega); omega
  · have := Nat.or_lt_two_pow (n := 64) (show x.toNat < 2 ^ 64 by omega) (show y.toNat < 2 ^ 64 by omega); omega

theorem xor_and_le (x y : Nat) : (x &&& y) ^^^ x ≤ x := by
  have e : (x &&& y) ^^^ x = x &&& ((x &&& y) ^^^ x) := by
    apply Nat.eq_of_testBit_eq
    intro i
    simp only [Nat.testBit_and, Nat.testBit_xor]
    cases x.testBit i <;> cases y.testBit i <;> rfl
  rw [e]; exact Nat.and_le_left

theorem andNot_nat (n : Nat) (x y : BitVec n) : (x &&& ~~~y).toNat = (x.toNat &&& y.toNat) ^^^ x.toNat := by
  apply Nat.eq_of_testBit_eq
  intro i
  simp only [BitVec.toNat_and, Nat.testBit_and, Nat.testBit_xor, BitVec.toNat_not]
  by_cases hi : i < n
  · rw [show 2 ^ n - 1 - y.toNat = 2 ^ n - (y.toNat + 1) from by omega, Nat.testBit_two_pow_sub_succ y.isLt]
    simp [hi]
    cases x.toNat.testBit i <;> cases y.toNat.testBit i <;> rfl
  · have hx : x.toNat.testBit i = false := Nat.testBit_lt_two_pow (Nat.lt_of_lt_of_le x.isLt (Nat.pow_le_pow_right (by omega) (by omega)))
    simp [hx]

theorem shift_min {k : IntKind} {y : Int} (h : y < 64) (hk : k.bits = 64) : min y.toNat k.bits = y.toNat := by omega
theorem beq_dec {α : Type} [DecidableEq α] [BEq α] [LawfulBEq α] (x y : α) : (x == y) = decide (x = y) := by
  by_cases h : x = y <;> simp [h]

theorem binW_run {P : Program} {w : World} {op : BinOp} {x y r : D} {t : TypeId} {u v : Operand} {Z : Nat → Prop} {va vb : Value} {f g : FP} (h : binW op x y fun z => z = r) (hx : RepV w Z x va f) (hy : RepV w Z y vb g) :
    ∃ vr, (do eqGuard op t u v va vb; binOp op t va vb : Sem Value).run P w = .ok vr w ∧ RepV w Z r vr (fun _ => 0) := by
  unfold binW at h
  split at h <;> first | exact h.elim | skip
  all_goals first
    | (obtain ⟨rfl, _⟩ := hx.int; obtain ⟨rfl, _⟩ := hy.int)
    | (obtain ⟨rfl, hxl, _⟩ := hx.str; obtain ⟨rfl, hyl, _⟩ := hy.str)
  · obtain ⟨rfl, h1, rfl⟩ := h
    refine ⟨_, ?_, RepV.mkInt _ _⟩
    simp [eqGuard, binOp, Op.intArith, wrap_InR h1]
  · obtain ⟨h1, rfl⟩ := h
    refine ⟨_, ?_, RepV.mkStr (by simp [maxLen]; omega)⟩
    simp [eqGuard, binOp, run_string_add_sum, ByteArray.size_mk', ByteArray.mk_append_mk, show (_ : Nat) ≤ 9223372036854775807 from Nat.le_trans h1 (by decide)]
  · obtain ⟨rfl, h1, rfl⟩ := h
    exact ⟨_, by simp [eqGuard, binOp, Op.intArith, wrap_InR h1], RepV.mkInt _ _⟩
  · obtain ⟨rfl, h1, rfl⟩ := h
    exact ⟨_, by simp [eqGuard, binOp, Op.intArith, wrap_InR h1], RepV.mkInt _ _⟩
  · obtain ⟨rfl, hb, h1, rfl⟩ := h
    exact ⟨_, by simp [eqGuard, binOp, Op.intDiv, hb, wrap_InR h1], RepV.mkInt _ _⟩
  · obtain ⟨rfl, hb, rfl⟩ := h
    exact ⟨_, by simp [eqGuard, binOp, Op.intDiv, hb], RepV.mkInt _ _⟩
  · obtain ⟨rfl, ⟨h1, h2⟩, ⟨h3, h4⟩, rfl⟩ := h
    refine ⟨_, ?_, RepV.mkInt _ _⟩
    simp only [eqGuard, binOp, Op.intBits, if_true, ne_eq, not_true_eq_false, if_false, Sem.run_bind, Sem.run_pure, Result.andThen_ok, Bool.not_false]
    rw [BitVec.toNat_and, (bitsval h1 h2).1, (bitsval h3 h4).1, wrap_InR (bitsin h2 Nat.and_le_left h1)]
  · obtain ⟨rfl, ⟨h1, h2⟩, ⟨h3, h4⟩, rfl⟩ := h
    refine ⟨_, ?_, RepV.mkInt _ _⟩
    simp only [eqGuard, binOp, Op.intBits, if_true, ne_eq, not_true_eq_false, if_false, Sem.run_bind, Sem.run_pure, Result.andThen_ok, Bool.not_false]
    rw [BitVec.toNat_or, (bitsval h1 h2).1, (bitsval h3 h4).1, wrap_InR (or_InR h2 h1 h4 h3)]
  · obtain ⟨rfl, ⟨h1, h2⟩, ⟨h3, h4⟩, rfl⟩ := h
    refine ⟨_, ?_, RepV.mkInt _ _⟩
    simp only [eqGuard, binOp, Op.intBits, if_true, ne_eq, not_true_eq_false, if_false, Sem.run_bind, Sem.run_pure, Result.andThen_ok, Bool.not_false]
    rw [andNot_nat, (bitsval h1 h2).1, (bitsval h3 h4).1, wrap_InR (bitsin h2 (xor_and_le _ _) h1)]
  · obtain ⟨⟨h1, h2⟩, h3, h4, rfl⟩ := h
    refine ⟨_, ?_, RepV.mkInt _ _⟩
    simp [eqGuard, binOp, Op.shift, Int.not_lt.2 h1, shift_min h2 h3, wrap_InR h4]
  · obtain ⟨⟨h1, h2⟩, h3, rfl⟩ := h
    refine ⟨_, ?_, RepV.mkInt _ _⟩
    simp [eqGuard, binOp, Op.shift, Int.not_lt.2 h1, shift_min h2 h3]
    rw [Int.fdiv_eq_ediv_of_nonneg _ (Int.le_of_lt (Int.pow_pos (by omega)))]
  · obtain ⟨rfl, rfl⟩ := h
    exact ⟨_, by simp [eqGuard, binOp, Op.intCmp]; rfl, RepV.mkBool _⟩
  · obtain ⟨rfl, rfl⟩ := h
    exact ⟨_, by simp [eqGuard, binOp, Op.intCmp]; rfl, RepV.mkBool _⟩
  · obtain ⟨rfl, rfl⟩ := h
    exact ⟨_, by simp [eqGuard, binOp, Op.intCmp], RepV.mkBool _⟩
  · obtain ⟨rfl, rfl⟩ := h
    exact ⟨_, by simp [eqGuard, binOp, Op.intCmp], RepV.mkBool _⟩
  · obtain ⟨rfl, rfl⟩ := h
    exact ⟨_, by simp [eqGuard, binOp, Op.intCmp], RepV.mkBool _⟩
  · obtain ⟨rfl, rfl⟩ := h
    exact ⟨_, by simp [eqGuard, binOp, Op.intCmp], RepV.mkBool _⟩
  · subst h
    exact ⟨_, by simp [eqGuard, binOp, Op.stringOp]; exact beq_dec _ _, RepV.mkBool _⟩
  · subst h
    exact ⟨_, by simp [eqGuard, binOp, Op.stringOp]; exact beq_dec _ _, RepV.mkBool _⟩
end AS
set_option linter.unusedVariables false
set_option linter.unusedSimpArgs false
namespace AS
open Go

theorem ownP_append : ∀ (p : List Step) {q : List Step} {x y : D}, getP p x = some y → ownP (p ++ q) x = (ownP p x && ownP q y)
  | [], q, x, y, h => by simp [getP] at h; subst h; simp [ownP]
  | s :: p, q, x, y, h => by
    simp only [getP] at h
    cases hs : x.sub s with
    | none => simp [hs] at h
    | some z =>
      simp only [hs, Option.bind_some] at h
      simp only [List.cons_append, ownP, hs, ownP_append p h, Bool.and_assoc]

theorem addr_add (g o m : Nat) : (⟨g, o, none⟩ : Addr).add m = ⟨g, o + m, none⟩ := by
  unfold Addr.add
  split
  · rename_i h; subst h; rfl
  · rfl

/-- A field behind a place. -/
theorem way_fld {w : World} {Z : Nat → Prop} {p : List Step} {x : D} {cs : List Value} {oa : Option (Nat × Nat)} {l : List D} {c : List Value} {ob : Option (Nat × Nat)} {fy : FP} {i : Nat}
    (h : At w p x cs oa (.agg l) c ob) (hr : RepX w Z (.agg l) c fy) (hi : i < l.length) :
    ∃ (z : D) (c1 c2 c3 : List Value), l[i]? = some z ∧ c = c1 ++ c2 ++ c3 ∧ c1.length = D.sizes (l.take i) ∧ At w (p ++ [.fld i]) x cs oa z c2 (ob.map fun a => (a.1, a.2 + D.sizes (l.take i))) ∧ ownP (p ++ [.fld i]) x = ownP p x := by
  have hz : l[i]? = some l[i] := List.getElem?_eq_getElem hi
  simp only [RepX] at hr
  obtain ⟨c1, c2, c3, fr, fz, e1, e2, e3, e4, _⟩ := RepXs.split l i hr hz
  refine ⟨l[i], c1, c2, c3, hz, e1, e2, At.append p h ?_, ?_⟩
  · simp only [At]
    exact ⟨l, l[i], c1, c2, c3, rfl, hz, e1, e2, RepX.len _ e3, rfl, rfl, by rw [e2]⟩
  · rw [ownP_append p (At.get p h)]
    simp [ownP, D.sub, hz]

theorem way_idx {w : World} {Z : Nat → Prop} {p : List Step} {x : D} {cs : List Value} {oa : Option (Nat × Nat)} {l : List D} {c : List Value} {ob : Option (Nat × Nat)} {fy : FP} {i : Nat} {z : D}
    (h : At w p x cs oa (.slice true l) c ob) (hr : RepX w Z (.slice true l) c fy) (hi : l[i]? = some z) :
    ∃ (g off cap : Nat) (c2 : List Value), c = [.slice (some ⟨g, off, none⟩) l.length cap] ∧ At w (p ++ [.idx i]) x cs oa z c2 (some (g, off + i * z.size)) ∧ ownP (p ++ [.idx i]) x = ownP p x := by
  obtain ⟨g, off, cap, c2, fy2, e1, _, _, e2, e3, e4, e5⟩ := slice_elem_cells hr hi
  refine ⟨g, off, cap, c2, e1, At.append p h ?_, ?_⟩
  · simp only [At]
    exact ⟨true, l, z, g, off, cap, c2, rfl, hi, e1, e2, e3, rfl, rfl, rfl⟩
  · rw [ownP_append p (At.get p h)]
    simp [ownP, D.sub, hi]

theorem run_fieldAt {P : Program} {w : World} {t : TypeId} {i off g o : Nat} (h : okFld P t i off = true) : (Instr.fieldAt t (.pointer (some ⟨g, o, none⟩)) i).run P w = .ok (.pointer (some ⟨g, o + off, none⟩)) w := by
  obtain ⟨fs, fd, inf, h1, h2, h3, h4, h5⟩ := okFld_iff h
  simp [Instr.fieldAt, run_underlying h1, h2, Instr.sureAddr, fieldPlace, Go.sizeOf, typeInfo, h4, h5, h3, addr_add]

theorem run_indexAt {P : Program} {w : World} {t : TypeId} {sz g o n cap : Nat} {k : IntKind} {j : Int} (h : okElem P t (fun e => e.size == sz) = true) (h0 : 0 ≤ j) (hj : j.toNat < n) :
    (Instr.indexAt t (.slice (some ⟨g, o, none⟩) n cap) (.int k j)).run P w = .ok (.pointer (some ⟨g, o + j.toNat * sz, none⟩)) w := by
  obtain ⟨e, i, h1, h2, h3⟩ := okElem_iff h
  simp only [beq_iff_eq] at h3
  have hlt : j < (n : Int) := by omega
  simp [Instr.indexAt, asIntOf, run_underlying h1, h0, hlt, Go.sizeOf, typeInfo, h2, h3, addr_add]

theorem run_loadAt {P : Program} {w : World} {t : TypeId} {sz g o : Nat} {ag : Bool} {c : List Value} (h : okLd P t sz ag = true) (hl : c.length = sz) (h1 : ∀ u ∈ c, u.oneCell' = true)
    (hc : ∀ j u, c[j]? = some u → w.cell? ⟨g, o + j, none⟩ = some u) : ∃ v, (Instr.loadAt t (.pointer (some ⟨g, o, none⟩))).run P w = .ok v w ∧ v.cells.toList = c ∧ vAgg v = ag := by
  have hcs := run_loadCells_list (P := P) (w := w) ⟨g, o, none⟩ c (fun j u hu => by rw [addr_add]; exact hc j u hu)
  rw [hl] at hcs
  unfold okLd at h
  split at h
  · rename_i fs hfs
    simp only [Bool.and_eq_true] at h
    obtain ⟨rfl, h2⟩ := h
    obtain ⟨i, h3, h4⟩ := okInfo_iff h2
    simp only [beq_iff_eq] at h4
    exact ⟨.agg c.toArray, by simp [Instr.loadAt, Instr.sureAddr, loadVar, isAgg, run_underlying hfs, Go.sizeOf, typeInfo, h3, h4, hcs], by simp [Value.cells], rfl⟩
  · rename_i len e hfs
    simp only [Bool.and_eq_true] at h
    obtain ⟨rfl, h2⟩ := h
    obtain ⟨i, h3, h4⟩ := okInfo_iff h2
    simp only [beq_iff_eq] at h4
    exact ⟨.agg c.toArray, by simp [Instr.loadAt, Instr.sureAddr, loadVar, isAgg, run_underlying hfs, Go.sizeOf, typeInfo, h3, h4, hcs], by simp [Value.cells], rfl⟩
  · rename_i d hn1 hn2 hd
    simp only [Bool.and_eq_true, beq_iff_eq, Bool.not_eq_true'] at h
    obtain ⟨rfl, rfl⟩ := h
    match c, hl with
    | [u], _ =>
      have hu := hc 0 u rfl
      rw [Nat.add_zero] at hu
      have hone := h1 u (by simp)
      have hag : (isAgg t).run P w = .ok false w := by
        cases d with
        | struct fs => exact (hn1 fs rfl).elim
        | array n e => exact (hn2 n e rfl).elim
        | _ => simp [isAgg, run_underlying hd]
      refine ⟨u, ?_, ?_, ?_⟩
      · simp [Instr.loadAt, Instr.sureAddr, loadVar, hag, hu]
      · cases u <;> simp_all [Value.cells, Value.oneCell']
      · cases u <;> simp_all [vAgg, Value.oneCell']
  · cases h
end AS
set_option linter.unusedVariables false
set_option linter.unusedSimpArgs false
namespace AS
open Go

section
variable {P : Program} {w0 : World} {tk : FP} {n : Nat} {Z0 Z : Nat → Prop} {F : Nat → FP} {S : FP} {T : Nat → SV} {a : Act} {w : World} {o : Oper}

theorem srep_d {tm : Nat → Value} {x : D} {v : Value} (h : RepV w Z x v (fun _ => 0)) : SRep w Z T tm v (.d x) (fun _ => 0) := by
  rw [SRep.none rfl]; exact h

theorem RepV.imm0 {x : D} {v : Value} {f : FP} (h : RepV w Z x v f) (hi : x.imm = true) : RepV w Z x v (fun _ => 0) :=
  h.congr fun b => by rw [RepX.imm0 x hi h.2 b]

theorem RepX.imm_le {x : D} {cs : List Value} {f : FP} (h : RepX w Z x cs f) (hi : x.imm = true) : RepX w Z x cs (fun _ => 0) :=
  h.congr fun b => by rw [RepX.imm0 x hi h b]

theorem ex_mv (h : Core w0 tk n Z0 Z F S T a w) {x : Operand} {y : Opd} (hop : o.op = .move x ∨ o.op = .assign x) (hok : okOpd x y = true) {s : SV} (hev : evW P T (.mv y) fun s' => s' = s) :
    ∃ v, (execOp a.eval o).run P w = .ok (.value v) w ∧ SRep w Z T (tmOf a) v s (fun _ => 0) := by
  refine ⟨a.eval x, by rcases hop with hop | hop <;> simp [execOp, hop], ?_⟩
  cases y with
  | c z =>
    simp only [evW] at hev
    subst hev
    obtain ⟨f, h1, h2⟩ := h.rd hok (y := z) rfl
    cases x <;> simp only [okOpd] at hok <;> try (cases hok)
    · exact srep_d (okConst_rep hok w Z)
    · exact srep_d (okFn_rep hok w Z)
  | t m =>
    cases x <;> simp only [okOpd] at hok <;> try (cases hok)
    rename_i t
    simp only [beq_iff_eq] at hok
    subst hok
    have he : a.eval (.tmp t) = tmOf a t := rfl
    rw [he]
    have h1 := h.rep t
    simp only [evW] at hev
    split at hev
    · rename_i z hT
      rw [hT, SRep.none rfl] at h1
      split at hev
      · rename_i hi
        subst hev
        exact srep_d (RepV.imm0 h1 hi)
      · subst hev
        rw [SRep.some (r := t) rfl]
        refine ⟨fun _ => rfl, z, _, none, z, _, none, .inl ⟨hT, rfl, rfl⟩, by simp [SV.path, At], by simp [SV.path, ownP], rfl, h1.1⟩
    · rename_i r p hT
      subst hev
      rw [hT, SRep.some (r := r) rfl] at h1
      rw [SRep.some (r := r) rfl]
      exact ⟨fun _ => rfl, h1.2⟩
    · exact hev.elim

theorem ex_fa (h : Core w0 tk n Z0 Z F S T a w) {t m i off : Nat} (hop : o.op = .fieldAddr t (.tmp m) i) (hok : okFld P t i off = true) {s : SV} (hev : evW P T (.fa m i off) fun s' => s' = s) :
    ∃ v, (execOp a.eval o).run P w = .ok (.value v) w ∧ SRep w Z T (tmOf a) v s (fun _ => 0) := by
  have hrun : ∀ g q, tmOf a m = .pointer (some ⟨g, q, none⟩) → (execOp a.eval o).run P w = .ok (.value (.pointer (some ⟨g, q + off, none⟩))) w := by
    intro g q hq
    have he : a.eval (.tmp m) = .pointer (some ⟨g, q, none⟩) := hq
    simp [execOp, hop, he, run_fieldAt hok]
  simp only [evW] at hev
  split at hev
  · rename_i x hT
    have h1 := h.rep m
    rw [hT, SRep.none rfl] at h1
    obtain ⟨g, cur, e, f1, k1, k2, k3, k4⟩ := h1
    cases x with
    | agg l =>
      simp only [fldW] at hev
      obtain ⟨hi, rfl, rfl⟩ := hev
      have hr : RootOf w T (tmOf a) m (.agg l) cur.toList (some (g, 0)) := .inr ⟨g, cur, e, hT, k1, k2, rfl, rfl⟩
      have ha : At w [] (.agg l) cur.toList (some (g, 0)) (.agg l) cur.toList (some (g, 0)) := by simp [At]
      obtain ⟨z, c1, c2, c3, q1, q2, q3, q4, q5⟩ := way_fld ha k3 hi
      refine ⟨_, hrun _ _ k1, ?_⟩
      rw [SRep.some (r := m) rfl]
      exact ⟨fun _ => rfl, .agg l, _, _, z, c2, _, hr, q4, by rw [show (SV.adr m [.fld i]).path = [] ++ [.fld i] from rfl, q5]; rfl, _, _, rfl, rfl⟩
    | _ => simp only [fldW] at hev
  · rename_i r p hT
    have hr : (T m).root = some r := by rw [hT]; rfl
    obtain ⟨x, cs, oa, y, c, ob, fr, fy, k1, k2, k3, k4, k5, k6, k7, k8⟩ := h.way hr
    rw [hT] at k3 k4 k5 k6
    simp only [SV.path] at k3 k4 k6
    rw [k6] at hev
    cases y with
    | agg l =>
      simp only [fldW] at hev
      obtain ⟨hi, rfl, rfl⟩ := hev
      obtain ⟨z, c1, c2, c3, q1, q2, q3, q4, q5⟩ := way_fld k3 k7 hi
      obtain ⟨g, q, rfl, hv⟩ := k5
      refine ⟨_, hrun _ _ hv, ?_⟩
      rw [SRep.some (r := r) rfl]
      exact ⟨fun _ => rfl, x, cs, oa, z, c2, _, k1, q4, by simp only [SV.path]; rw [q5]; exact k4, _, _, rfl, rfl⟩
    | _ => simp only [fldW] at hev
  · rename_i r p hT
    have hr : (T m).root = some r := by rw [hT]; rfl
    obtain ⟨x, cs, oa, y, c, ob, fr, fy, k1, k2, k3, k4, k5, k6, k7, k8⟩ := h.way hr
    rw [hT] at k3 k4 k5 k6
    simp only [SV.path] at k3 k4 k6
    rw [k6] at hev
    cases y with
    | agg l =>
      simp only [fldW] at hev
      obtain ⟨hi, rfl, rfl⟩ := hev
      obtain ⟨z, c1, c2, c3, q1, q2, q3, q4, q5⟩ := way_fld k3 k7 hi
      obtain ⟨g, q, hv, hz, hc⟩ := k5
      refine ⟨_, hrun _ _ hv, ?_⟩
      rw [SRep.some (r := r) rfl]
      refine ⟨fun _ => rfl, x, cs, oa, z, c2, _, k1, q4, by simp only [SV.path]; rw [q5]; exact k4, g, _, rfl, hz, ?_⟩
      intro j u hu
      have := hc (D.sizes (l.take i) + j) u (by rw [q2, List.append_assoc, List.getElem?_append_right (by omega), q3, Nat.add_sub_cancel_left, List.getElem?_append_left (List.getElem?_eq_some_iff.1 hu).1, hu])
      rwa [← Nat.add_assoc] at this
    | _ => simp only [fldW] at hev
  · rename_i l hT
    obtain ⟨z, hz, rfl, rfl⟩ := hev
    have h1 := h.rep m
    rw [hT, SRep.none rfl] at h1
    obtain ⟨_, g, q, c, k1, k2, k3, k4⟩ := h1
    simp only [RepX] at k4
    obtain ⟨c1, c2, c3, fr, fz, e1, e2, e3, e4, _⟩ := RepXs.split l i k4 hz
    refine ⟨_, hrun _ _ k1, ?_⟩
    rw [SRep.none rfl]
    refine ⟨fun _ => rfl, g, _, c2, rfl, k2, ?_, e3.congr fun b => by have := e4 b; omega⟩
    intro j u hu
    have := k3 (D.sizes (l.take i) + j) u (by rw [e1, List.append_assoc, List.getElem?_append_right (by omega), e2, Nat.add_sub_cancel_left, List.getElem?_append_left (List.getElem?_eq_some_iff.1 hu).1, hu])
    rwa [← Nat.add_assoc] at this
  · exact hev.elim

theorem ex_ia (h : Core w0 tk n Z0 Z F S T a w) {t m sz : Nat} {i : Operand} {j : Opd} (hop : o.op = .indexAddr t (.tmp m) i) (hij : okOpd i j = true) (hok : okElem P t (fun e => e.size == sz) = true)
    {s : SV} (hev : evW P T (.ia m j sz) fun s' => s' = s) :
    ∃ v, (execOp a.eval o).run P w = .ok (.value v) w ∧ SRep w Z T (tmOf a) v s (fun _ => 0) := by
  simp only [evW] at hev
  obtain ⟨k, q, hi, h0, hev⟩ := h.rdNat hij hev
  have hrun : ∀ g off cap len, tmOf a m = .slice (some ⟨g, off, none⟩) len cap → q.toNat < len → (execOp a.eval o).run P w = .ok (.value (.pointer (some ⟨g, off + q.toNat * sz, none⟩))) w := by
    intro g off cap len hq hlt
    have he : a.eval (.tmp m) = .slice (some ⟨g, off, none⟩) len cap := hq
    simp [execOp, hop, he, hi, run_indexAt hok h0 hlt]
  split at hev
  · rename_i l hT
    obtain ⟨z, hz, rfl, rfl⟩ := hev
    have h1 := h.rep m
    rw [hT, SRep.none rfl] at h1
    have h2 : RepV w Z (.slice false l) (tmOf a m) (F m) := h1
    obtain ⟨g, off, cap, c2, fy, e1, e2, e3, e4, e5, e6, e7⟩ := slice_elem_cells h2.2 hz
    have hv := cells_single h2.1 e1
    have hf0 : ∀ b, F m b = 0 := by
      have h3 := h2.2
      simp only [RepX] at h3
      rcases h3 with ⟨rfl, hf, _⟩ | ⟨_, _, _, _, _, _, _, _, _, _, _, _, _, h7⟩
      · exact hf
      · rcases h7 with ⟨_, _, hf, _⟩ | ⟨hc, _⟩
        · exact hf
        · cases hc
    have hzg : Z g := by
      have h3 := h2.2
      simp only [RepX] at h3
      rcases h3 with ⟨rfl, hf, _⟩ | ⟨_, g', off', cap', _, _, _, hc, _, _, _, _, _, h7⟩
      · simp at hz
      · rw [e1] at hc
        simp only [List.cons.injEq, Value.slice.injEq, Option.some.injEq, Addr.mk.injEq, and_true, true_and] at hc
        obtain ⟨⟨rfl, rfl⟩, rfl⟩ := hc
        rcases h7 with ⟨_, hz, _⟩ | ⟨hc, _⟩
        · exact hz
        · cases hc
    refine ⟨_, hrun _ _ _ _ hv (List.getElem?_eq_some_iff.1 hz).1, ?_⟩
    rw [SRep.none rfl]
    exact ⟨fun _ => rfl, g, _, c2, rfl, hzg, e5, e6.congr fun b => by have := e7 b; have := hf0 b; omega⟩
  · rename_i l hT
    obtain ⟨z, hz, rfl, rfl⟩ := hev
    have h1 := h.rep m
    rw [hT, SRep.none rfl] at h1
    have h2 : RepV w Z (.slice true l) (tmOf a m) (F m) := h1
    have hr : RootOf w T (tmOf a) m (.slice true l) (tmOf a m).cells.toList none := .inl ⟨hT, rfl, rfl⟩
    have ha : At w [] (.slice true l) (tmOf a m).cells.toList none (.slice true l) (tmOf a m).cells.toList none := by simp [At]
    obtain ⟨g, off, cap, c2, q1, q2, q3⟩ := way_idx ha h2.2 hz
    have hv := cells_single h2.1 q1
    refine ⟨_, hrun _ _ _ _ hv (List.getElem?_eq_some_iff.1 hz).1, ?_⟩
    rw [SRep.some (r := m) rfl]
    exact ⟨fun _ => rfl, _, _, _, z, c2, _, hr, q2, by rw [show (SV.adr m [.idx q.toNat]).path = [] ++ [.idx q.toNat] from rfl, q3]; rfl, _, _, rfl, rfl⟩
  · rename_i r p hT
    have hr : (T m).root = some r := by rw [hT]; rfl
    obtain ⟨x, cs, oa, y, c, ob, fr, fy, k1, k2, k3, k4, k5, k6, k7, k8⟩ := h.way hr
    rw [hT] at k3 k4 k5 k6
    simp only [SV.path] at k3 k4 k6
    rw [k6] at hev
    split at hev
    · rename_i l hl
      cases hl
      obtain ⟨z, hz, rfl, rfl⟩ := hev
      obtain ⟨g, off, cap, c2, q1, q2, q3⟩ := way_idx k3 k7 hz
      have hv := cells_single (v := tmOf a m) k5.2 (by rw [k5.1]; exact q1)
      refine ⟨_, hrun _ _ _ _ hv (List.getElem?_eq_some_iff.1 hz).1, ?_⟩
      rw [SRep.some (r := r) rfl]
      exact ⟨fun _ => rfl, x, cs, oa, z, c2, _, k1, q2, by simp only [SV.path]; rw [q3]; exact k4, _, _, rfl, rfl⟩
    · exact hev.elim
  · exact hev.elim

theorem ex_ld (h : Core w0 tk n Z0 Z F S T a w) {t m sz : Nat} {ag : Bool} (hop : o.op = .load t (.tmp m)) (hok : okLd P t sz ag = true)
    {s : SV} (hev : evW P T (.ld m sz ag) fun s' => s' = s) :
    ∃ v, (execOp a.eval o).run P w = .ok (.value v) w ∧ SRep w Z T (tmOf a) v s (fun _ => 0) := by
  have hrun : ∀ g q c, tmOf a m = .pointer (some ⟨g, q, none⟩) → c.length = sz → (∀ u ∈ c, u.oneCell' = true) → (∀ j u, c[j]? = some u → w.cell? ⟨g, q + j, none⟩ = some u) →
      ∃ v, (execOp a.eval o).run P w = .ok (.value v) w ∧ v.cells.toList = c ∧ vAgg v = ag := by
    intro g q c hq hl h1 hc
    obtain ⟨v, h2, h3, h4⟩ := run_loadAt hok hl h1 hc
    have he : a.eval (.tmp m) = .pointer (some ⟨g, q, none⟩) := hq
    exact ⟨v, by simp [execOp, hop, he, h2], h3, h4⟩
  -- what a way holds
  have hway : ∀ (r : Nat) (p : List Step), (∃ (x : D) (cs : List Value) (oa : Option (Nat × Nat)) (y : D) (c : List Value) (ob : Option (Nat × Nat)) (fr fy : FP), RootOf w T (tmOf a) r x cs oa ∧ At w p x cs oa y c ob ∧ ownP p x = true ∧ RepX w Z y c fy ∧ (∀ b, fr b + fy b ≤ F r b) ∧ y.size = sz ∧ y.isAgg = ag ∧
      (if y.imm = true then (.d y = s) else (.ref r p = s)) ∧ ∃ v, (execOp a.eval o).run P w = .ok (.value v) w ∧ v.cells.toList = c ∧ vAgg v = ag) →
      ∃ v, (execOp a.eval o).run P w = .ok (.value v) w ∧ SRep w Z T (tmOf a) v s (fun _ => 0) := by
    rintro r p ⟨x, cs, oa, y, c, ob, fr, fy, k1, k3, k4, k7, k8, h1, h2, h3, v, hv, hvc, hva⟩
    refine ⟨v, hv, ?_⟩
    split at h3
    · rename_i hi
      subst h3
      exact srep_d ⟨by rw [hva, h2], by rw [hvc]; exact k7.imm_le hi⟩
    · subst h3
      rw [SRep.some (r := r) rfl]
      exact ⟨fun _ => rfl, x, cs, oa, y, c, ob, k1, k3, k4, hvc, by rw [hva, h2]⟩
  simp only [evW] at hev
  split at hev
  · rename_i y hT
    have h1 := h.rep m
    rw [hT, SRep.none rfl] at h1
    obtain ⟨g, cur, e, f1, k1, k2, k3, k4⟩ := h1
    refine hway m [] ⟨y, cur.toList, some (g, 0), y, cur.toList, some (g, 0), fun _ => 0, f1, .inr ⟨g, cur, e, hT, k1, k2, rfl, rfl⟩, by simp [At], by simp [ownP], k3, fun b => by have := k4 b; dsimp only; omega, hev.1.1, hev.1.2, ?_, ?_⟩
    · have h2 := hev.2
      split at h2 <;> simp_all
    · refine hrun g 0 cur.toList k1 (by rw [RepX.len y k3]; exact hev.1.1) (RepX.oneCell y k3) ?_
      intro j u hu
      simp only [World.cell?, k2, Nat.zero_add]
      simpa using hu
  · rename_i r p hT
    have hr : (T m).root = some r := by rw [hT]; rfl
    obtain ⟨x, cs, oa, y, c, ob, fr, fy, k1, k2, k3, k4, k5, k6, k7, k8⟩ := h.way hr
    rw [hT] at k3 k4 k5 k6
    simp only [SV.path] at k3 k4 k6
    rw [k6] at hev
    simp only at hev
    obtain ⟨g, q, rfl, hv⟩ := k5
    refine hway r p ⟨x, cs, oa, y, c, _, fr, fy, k1, k3, k4, k7, k8, hev.1.1, hev.1.2, ?_, ?_⟩
    · have h2 := hev.2
      split at h2 <;> simp_all
    · refine hrun g q c hv (by rw [RepX.len y k7]; exact hev.1.1) (RepX.oneCell y k7) ?_
      exact At.cells p k3 (fun b hb j u hu => by
        rcases k1 with ⟨_, _, rfl⟩ | ⟨b', cur, e, _, _, hh, rfl, rfl⟩
        · cases hb
        · cases hb
          simp only [World.cell?, hh, Nat.zero_add]
          simpa using hu) (g, q) rfl
  · rename_i r p hT
    have hr : (T m).root = some r := by rw [hT]; rfl
    obtain ⟨x, cs, oa, y, c, ob, fr, fy, k1, k2, k3, k4, k5, k6, k7, k8⟩ := h.way hr
    rw [hT] at k3 k4 k5 k6
    simp only [SV.path] at k3 k4 k6
    rw [k6] at hev
    simp only at hev
    obtain ⟨g, q, hv, hz, hc⟩ := k5
    refine hway r p ⟨x, cs, oa, y, c, ob, fr, fy, k1, k3, k4, k7, k8, hev.1.1, hev.1.2, ?_, hrun g q c hv (by rw [RepX.len y k7]; exact hev.1.1) (RepX.oneCell y k7) hc⟩
    have h2 := hev.2
    split at h2 <;> simp_all
  · rename_i y hT
    have h1 := h.rep m
    rw [hT, SRep.none rfl] at h1
    obtain ⟨_, g, q, c, k1, k2, k3, k4⟩ := h1
    obtain ⟨⟨e1, e2, e3⟩, rfl⟩ := hev
    obtain ⟨v, hv, hvc, hva⟩ := hrun g q c k1 (by rw [RepX.len y k4]; exact e1) (RepX.oneCell y k4) k3
    exact ⟨v, hv, srep_d ⟨by rw [hva, e2], by rw [hvc]; exact k4⟩⟩
  · exact hev.elim
end
end AS
set_option linter.unusedVariables false
set_option linter.unusedSimpArgs false
namespace AS
open Go

theorem RepXs.append {w : World} {Z : Nat → Prop} : ∀ (l1 : List D) {l2 : List D} {cs : List Value} {f : FP}, RepXs w Z (l1 ++ l2) cs f ↔
    ∃ (c1 c2 : List Value) (f1 f2 : FP), cs = c1 ++ c2 ∧ (∀ b, f b = f1 b + f2 b) ∧ RepXs w Z l1 c1 f1 ∧ RepXs w Z l2 c2 f2
  | [], l2, cs, f => by
    simp only [List.nil_append, RepXs]
    constructor
    · intro h; exact ⟨[], cs, fun _ => 0, f, rfl, fun b => by simp, ⟨rfl, fun _ => rfl⟩, h⟩
    · rintro ⟨c1, c2, f1, f2, rfl, h2, ⟨rfl, h3⟩, h4⟩
      exact h4.congr fun b => by rw [h2, h3]; omega
  | x :: l1, l2, cs, f => by
    simp only [List.cons_append, RepXs]
    constructor
    · rintro ⟨c1, c2, f1, f2, rfl, h2, h3, h4⟩
      obtain ⟨d1, d2, g1, g2, rfl, h5, h6, h7⟩ := (RepXs.append l1).1 h4
      exact ⟨c1 ++ d1, d2, fun b => f1 b + g1 b, g2, by simp, fun b => by rw [h2, h5]; dsimp only; omega, ⟨c1, d1, f1, g1, rfl, fun _ => rfl, h3, h6⟩, h7⟩
    · rintro ⟨c1, c2, f1, f2, rfl, h2, ⟨d1, d2, g1, g2, rfl, h5, h6, h7⟩, h8⟩
      exact ⟨d1, d2 ++ c2, g1, fun b => g2 b + f2 b, by simp, fun b => by rw [h2, h5]; dsimp only; omega, h6, (RepXs.append l1).2 ⟨d2, c2, g2, f2, rfl, fun _ => rfl, h7, h8⟩⟩

theorem binW_ex {op : BinOp} {x y : D} {K : D → Prop} (h : binW op x y K) : ∃ z, binW op x y (fun z' => z' = z) ∧ K z := by
  unfold binW at h ⊢
  split at h
  all_goals first
    | exact h.elim
    | exact ⟨_, ⟨h.1, h.2.1, h.2.2.1, rfl⟩, h.2.2.2⟩
    | exact ⟨_, ⟨h.1, h.2.1, rfl⟩, h.2.2⟩
    | exact ⟨_, ⟨h.1, rfl⟩, h.2⟩
    | exact ⟨_, rfl, h⟩

section
variable {P : Program} {w0 : World} {tk : FP} {n : Nat} {Z0 Z : Nat → Prop} {F : Nat → FP} {S : FP} {T : Nat → SV} {a : Act} {w : World} {o : Oper} {s : SV}

def Ex (P : Program) (w : World) (Z : Nat → Prop) (T : Nat → SV) (a : Act) (o : Oper) (s : SV) : Prop :=
  ∃ v, (execOp a.eval o).run P w = .ok (.value v) w ∧ SRep w Z T (tmOf a) v s (fun _ => 0)

theorem ex_bin (h : Core w0 tk n Z0 Z F S T a w) {op : BinOp} {t ty : TypeId} {x y : Operand} {x' y' : Opd} (hop : o.op = .binOp op t x y ty) (hx : okOpd x x' = true) (hy : okOpd y y' = true)
    (hev : evW P T (.bin op x' y') fun s' => s' = s) : Ex P w Z T a o s := by
  simp only [evW] at hev
  split at hev
  · rename_i p q hp hq
    obtain ⟨z, h1, rfl⟩ := binW_ex hev
    obtain ⟨f1, r1, _⟩ := h.rd hx hp
    obtain ⟨f2, r2, _⟩ := h.rd hy hq
    obtain ⟨v, hv, hr⟩ := binW_run (P := P) (w := w) (t := t) (u := x) (v := y) h1 r1 r2
    refine ⟨v, ?_, srep_d hr⟩
    simp only [execOp, hop]
    simp only [Sem.run_bind] at hv ⊢
    rw [hv]
    rfl
  · exact hev.elim

theorem ex_eqb (h : Core w0 tk n Z0 Z F S T a w) {ne : Bool} {t ty : TypeId} {x y : Operand} {x' y' : Opd} (hop : o.op = .binOp (if ne then .neq else .eql) t x y ty) (ht : okBool P t = true) (hx : okOpd x x' = true) (hy : okOpd y y' = true)
    (hev : evW P T (.eqb ne x' y') fun s' => s' = s) : Ex P w Z T a o s := by
  simp only [evW] at hev
  split at hev
  · rename_i p q hp hq
    subst hev
    refine ⟨_, ?_, srep_d (RepV.mkBool _)⟩
    have e1 := h.rdBool hx hp
    have e2 := h.rdBool hy hq
    have ht' := okBool_iff ht
    cases ne
    · simp [execOp, hop, e1, e2, eqGuard, run_eql_bool w t p q ht']
    · simp [execOp, hop, e1, e2, eqGuard, run_neq_bool w t p q ht', bne]
  · exact hev.elim

theorem ex_eqn (h : Core w0 tk n Z0 Z F S T a w) {ne : Bool} {t ty : TypeId} {x : Operand} {x' : Opd} (hop : o.op = .binOp (if ne then .neq else .eql) t x (.const (.slice none 0 0)) ty) (ht : okElem P t (fun _ => true) = true) (hx : okOpd x x' = true)
    {K : SV → Prop} (hev : evW P T (.eqn ne x') K) : ∃ s, K s ∧ Ex P w Z T a o s := by
  obtain ⟨e, i, ht', _, _⟩ := okElem_iff ht
  have hc : a.eval (.const (.slice none 0 0)) = .slice none 0 0 := rfl
  have key : ∀ (ad : Option Addr) (l c : Nat), a.eval x = .slice ad l c → (execOp a.eval o).run P w = .ok (.value (.bool (if ne then !ad.isNone else ad.isNone))) w := by
    intro ad l c hv
    cases ne
    · simp [execOp, hop, hv, hc, eqGuard, Lib.run_eql_slice_nil w t e ad l c 0 0 ht']
    · simp [execOp, hop, hv, hc, eqGuard, run_neq_slice_nil_any w t e ad l c 0 0 ht']
  simp only [evW] at hev
  split at hev
  · rename_i hp
    obtain ⟨f, r, _⟩ := h.rd hx hp
    refine ⟨_, hev, _, key _ _ _ r.nil.1, ?_⟩
    cases ne <;> exact srep_d (RepV.mkBool _)
  · rename_i hp
    obtain ⟨f, r, _⟩ := h.rd hx hp
    refine ⟨_, hev, _, key _ _ _ r.nilo.1, ?_⟩
    cases ne <;> exact srep_d (RepV.mkBool _)
  · rename_i o' l hp
    obtain ⟨f, r, _⟩ := h.rd hx hp
    obtain ⟨ad, cap, hv, _, _, hs⟩ := r.slice
    by_cases hne : l = []
    · refine ⟨.d (.bool (if ne then !ad.isNone else ad.isNone)), ?_, _, key _ _ _ hv, srep_d (RepV.mkBool _)⟩
      have h2 := hev.2 hne
      cases (if ne = true then !ad.isNone else ad.isNone)
      · exact h2.2
      · exact h2.1
    · obtain ⟨g, off, rfl⟩ := hs hne
      refine ⟨_, hev.1 hne, _, key _ _ _ hv, ?_⟩
      cases ne <;> exact srep_d (RepV.mkBool _)
  · exact hev.elim

theorem ex_nt (h : Core w0 tk n Z0 Z F S T a w) {t : TypeId} {x : Operand} {x' : Opd} (hop : o.op = .unOp .not t x) (hx : okOpd x x' = true)
    (hev : evW P T (.nt x') fun s' => s' = s) : Ex P w Z T a o s := by
  simp only [evW] at hev
  split at hev
  · rename_i b hb
    subst hev
    exact ⟨_, by simp [execOp, hop, h.rdBool hx hb, Op.unary], srep_d (RepV.mkBool _)⟩
  · exact hev.elim

theorem ex_neg (h : Core w0 tk n Z0 Z F S T a w) {t : TypeId} {x : Operand} {x' : Opd} (hop : o.op = .unOp .neg t x) (hx : okOpd x x' = true)
    (hev : evW P T (.neg x') fun s' => s' = s) : Ex P w Z T a o s := by
  simp only [evW] at hev
  split at hev
  · rename_i k m hb
    obtain ⟨hr, rfl⟩ := hev
    exact ⟨_, by simp [execOp, hop, h.rdInt hx hb, Op.unary, Op.intArith, wrap_InR hr], srep_d (RepV.mkInt _ _)⟩
  · exact hev.elim

theorem ex_cvi (h : Core w0 tk n Z0 Z F S T a w) {src dst : TypeId} {k : IntKind} {x : Operand} {x' : Opd} (hop : o.op = .convert src dst x) (hs : okSome P src = true) (hd : okInt P dst k = true) (hx : okOpd x x' = true)
    (hev : evW P T (.cvi k x') fun s' => s' = s) : Ex P w Z T a o s := by
  simp only [evW] at hev
  split at hev
  · rename_i k' m hb
    obtain ⟨hr, rfl⟩ := hev
    obtain ⟨d, hd'⟩ := Option.isSome_iff_exists.mp hs
    exact ⟨_, by simp [execOp, hop, h.rdInt hx hb, convert, run_underlying hd', run_underlying (okInt_iff hd), Conv.intToInt, wrap_InR hr], srep_d (RepV.mkInt _ _)⟩
  · exact hev.elim

theorem ex_len (h : Core w0 tk n Z0 Z F S T a w) {str : Bool} {t : TypeId} {x : Operand} {x' : Opd} (hop : o.op = .call { callee := .builtin .len, args := #[x], argTypes := #[t] })
    (ht : (if str then okStr P t else okElem P t (fun _ => true)) = true) (hx : okOpd x x' = true)
    (hev : evW P T (.len str x') fun s' => s' = s) : Ex P w Z T a o s := by
  cases str
  · simp only [Bool.false_eq_true, if_false] at ht
    obtain ⟨e, i, ht', _, _⟩ := okElem_iff ht
    have key : ∀ (ad : Option Addr) (l c : Nat), a.eval x = .slice ad l c → (execOp a.eval o).run P w = .ok (.value (.int .i64 l)) w := by
      intro ad l c hv
      simp [execOp, hop, resolve, invoke, builtin, hv, Builtin.len_, run_underlying ht', goInt]
    simp only [evW] at hev
    split at hev
    · rename_i o' l hp
      obtain ⟨f, r, _⟩ := h.rd hx hp
      obtain ⟨ad, cap, hv, h1, h2, _⟩ := r.slice
      obtain rfl := hev (by simp only [maxLen] at h2; omega)
      exact ⟨_, key _ _ _ hv, srep_d (RepV.mkInt _ _)⟩
    · rename_i hp
      subst hev
      obtain ⟨f, r, _⟩ := h.rd hx hp
      exact ⟨_, key _ _ _ r.nil.1, srep_d (RepV.mkInt _ _)⟩
    · exact hev.elim
  · simp only [if_true] at ht
    simp only [evW] at hev
    split at hev
    · rename_i l hp
      obtain ⟨hv, h2⟩ := h.rdStr hx hp
      obtain rfl := hev (by simp only [maxLen] at h2; omega)
      refine ⟨_, ?_, srep_d (RepV.mkInt _ _)⟩
      simp [execOp, hop, resolve, invoke, builtin, hv, Builtin.len_, run_underlying (okStr_iff ht), goInt, ByteArray.size_mk']
    · exact hev.elim

theorem ex_mmx (h : Core w0 tk n Z0 Z F S T a w) {mx : Bool} {ts : Array TypeId} {x y : Operand} {x' y' : Opd} (hop : o.op = .call { callee := .builtin (if mx then .max else .min), args := #[x, y], argTypes := ts })
    (hx : okOpd x x' = true) (hy : okOpd y y' = true) (hev : evW P T (.mmx mx x' y') fun s' => s' = s) : Ex P w Z T a o s := by
  simp only [evW] at hev
  split at hev
  · rename_i k p k' q hp hq
    obtain ⟨rfl, rfl⟩ := hev
    refine ⟨_, ?_, srep_d (RepV.mkInt _ _)⟩
    cases mx
    · simp [execOp, hop, resolve, invoke, builtin, h.rdInt hx hp, h.rdInt hy hq, run_min_int2]
      split <;> omega
    · simp [execOp, hop, resolve, invoke, builtin, h.rdInt hx hp, h.rdInt hy hq, run_max_int2]
      split <;> omega
  · exact hev.elim

theorem ex_ix (h : Core w0 tk n Z0 Z F S T a w) {t : TypeId} {x i : Operand} {x' i' : Opd} (hop : o.op = .index t x i) (ht : okStr P t = true) (hx : okOpd x x' = true) (hi : okOpd i i' = true)
    (hev : evW P T (.ix x' i') fun s' => s' = s) : Ex P w Z T a o s := by
  simp only [evW] at hev
  split at hev
  · rename_i l hp
    obtain ⟨hv, h2⟩ := h.rdStr hx hp
    obtain ⟨k, q, hq, h0, c, hc, rfl⟩ := h.rdNat hi hev
    refine ⟨_, ?_, srep_d (RepV.mkInt _ _)⟩
    have hlt : q.toNat < l.length := (List.getElem?_eq_some_iff.1 hc).1
    have hg : (⟨l.toArray⟩ : ByteArray)[q.toNat]? = some c := by
      rw [ByteArray.getElem?_lt' _ _ (by simpa [ByteArray.size_mk'] using hlt)]
      have := (List.getElem?_eq_some_iff.1 hc).2
      simp only [Option.some.injEq]
      rw [← this]; rfl
    simp [execOp, hop, hv, hq, Instr.index, asIntOf, run_underlying (okStr_iff ht), h0, hg]
  · exact hev.elim

theorem ex_pick (h : Core w0 tk n Z0 Z F S T a w) {c x y : Operand} {c' x' y' : Opd} (hop : o.op = .pick c x y) (hc : okOpd c c' = true) (hx : okOpd x x' = true) (hy : okOpd y y' = true)
    (hev : evW P T (.pick c' x' y') fun s' => s' = s) : Ex P w Z T a o s := by
  simp only [evW, boolW] at hev
  split at hev
  · rename_i b hb
    have hv := h.rdBool hc hb
    cases b
    · obtain ⟨z, h1, h2, rfl⟩ := hev.2 rfl
      obtain ⟨f, r, _⟩ := h.rd hy h1
      exact ⟨_, by simp [execOp, hop, hv, asBool], srep_d (RepV.imm0 r h2)⟩
    · obtain ⟨z, h1, h2, rfl⟩ := hev.1 rfl
      obtain ⟨f, r, _⟩ := h.rd hx h1
      exact ⟨_, by simp [execOp, hop, hv, asBool], srep_d (RepV.imm0 r h2)⟩
  · exact hev.elim

theorem TupRep.get {w : World} {Z : Nat → Prop} : ∀ {l : List (Option D)} {vs : List Value} {f : FP} {i : Nat} {x : D}, TupRep w Z l vs f → l[i]? = some (some x) →
    ∃ (v : Value) (fr fx : FP), vs[i]? = some v ∧ RepV w Z x v fx ∧ (∀ b, f b = fr b + fx b) ∧ TupRep w Z (l.set i none) vs fr
  | [], _, _, i, _, _, hi => by simp at hi
  | some y :: l, vs, f, 0, x, h, hi => by
    obtain ⟨v, vs2, f1, f2, rfl, h2, h3, h4⟩ := h
    simp only [List.getElem?_cons_zero, Option.some.injEq] at hi
    subst hi
    exact ⟨v, f2, f1, rfl, h3, fun b => by rw [h2]; omega, v, vs2, rfl, h4⟩
  | none :: l, vs, f, 0, x, h, hi => by simp at hi
  | some y :: l, vs, f, i + 1, x, h, hi => by
    obtain ⟨v, vs2, f1, f2, rfl, h2, h3, h4⟩ := h
    simp only [List.getElem?_cons_succ] at hi
    obtain ⟨v', fr, fx, e1, e2, e3, e4⟩ := TupRep.get h4 hi
    exact ⟨v', fun b => f1 b + fr b, fx, by simpa using e1, e2, fun b => by rw [h2, e3]; dsimp only; omega, v, vs2, f1, fr, rfl, fun _ => rfl, h3, e4⟩
  | none :: l, vs, f, i + 1, x, h, hi => by
    obtain ⟨v, vs2, rfl, h4⟩ := h
    simp only [List.getElem?_cons_succ] at hi
    obtain ⟨v', fr, fx, e1, e2, e3, e4⟩ := TupRep.get h4 hi
    exact ⟨v', fr, fx, by simpa using e1, e2, e3, v, vs2, rfl, e4⟩

theorem ex_ext (h : Core w0 tk n Z0 Z F S T a w) {m i : Nat} (hop : o.op = .extract (.tmp m) i) (hev : evW P T (.ext m i) fun s' => s' = s) : Ex P w Z T a o s := by
  simp only [evW] at hev
  split at hev
  · rename_i l hT
    split at hev
    · rename_i y hy
      obtain ⟨hi, rfl⟩ := hev
      have h1 := h.rep m
      rw [hT, SRep.none rfl] at h1
      obtain ⟨vs, hv, ht⟩ := h1
      obtain ⟨v, fr, fx, e1, e2, _, _⟩ := TupRep.get ht hy
      have he : a.eval (.tmp m) = .tuple vs := hv
      have e1' : vs[i]? = some v := by simpa using e1
      exact ⟨v, by simp [execOp, hop, he, Instr.extract, e1'], srep_d (RepV.imm0 e2 hi)⟩
    · exact hev.elim
  · exact hev.elim

theorem optD (h : Core w0 tk n Z0 Z F S T a w) {x : Option Operand} {x' : Option Opd} (hx : okOpt x x' = true) {K : Nat → Prop} :
    (loW (x'.map (rd T)) K → (x = none ∧ K 0) ∨ ∃ y k m, x = some y ∧ a.eval y = .int k m ∧ 0 ≤ m ∧ K m.toNat) ∧
    (∀ N, hiW (x'.map (rd T)) N K → (x = none ∧ K N) ∨ ∃ y k m, x = some y ∧ a.eval y = .int k m ∧ 0 ≤ m ∧ K m.toNat) := by
  unfold okOpt at hx
  split at hx
  · simp only [Option.map_none, loW, hiW]
    exact ⟨fun h => .inl ⟨trivial, h⟩, fun N h => .inl ⟨trivial, h⟩⟩
  · rename_i y y'
    simp only [Option.map_some, loW, hiW]
    constructor
    · intro hk
      obtain ⟨k, m, h1, h2, h3⟩ := h.rdNat hx hk
      exact .inr ⟨y, k, m, rfl, h1, h2, h3⟩
    · intro N hk
      obtain ⟨k, m, h1, h2, h3⟩ := h.rdNat hx hk
      exact .inr ⟨y, k, m, rfl, h1, h2, h3⟩
  · cases hx

theorem run_bounds {P : Program} {w : World} {isS : Bool} {len cap : Nat} {lo hi : Option Value} {p q : Nat} (hl : (lo = none ∧ p = 0) ∨ ∃ k, ∃ m : Int, lo = some (.int k m) ∧ 0 ≤ m ∧ m.toNat = p)
    (hh : (hi = none ∧ q = len) ∨ ∃ k, ∃ m : Int, hi = some (.int k m) ∧ 0 ≤ m ∧ m.toNat = q) (hpq : p ≤ q) (hq : q ≤ len) (hc : len ≤ cap) :
    (Instr.sliceBounds isS len cap lo hi none).run P w = .ok (p, q, cap) w := by
  have b1 : ∀ (k : IntKind) (m : Int) (y : Nat) (c : BoundsCode), 0 ≤ m → m.toNat ≤ y → (Instr.sliceBound (.int k m) y c).run P w = .ok m.toNat w := by
    intro k m y c h0 h1
    exact run_sliceBound w k m y c h0 (by omega)
  rcases hl with ⟨rfl, rfl⟩ | ⟨k, m, rfl, h0, rfl⟩ <;> rcases hh with ⟨rfl, rfl⟩ | ⟨k', m', rfl, h0', rfl⟩
  · simp [Instr.sliceBounds]
  · simp [Instr.sliceBounds, b1 k' m' cap _ h0' (by omega)]
  · simp [Instr.sliceBounds, b1 k m _ _ h0 hpq]
  · simp [Instr.sliceBounds, b1 k' m' cap _ h0' (by omega), b1 k m _ _ h0 hpq]

/-- The bounds of a slice expression, met. -/
theorem boundsD (h : Core w0 tk n Z0 Z F S T a w) {lo hi : Option Operand} {lo' hi' : Option Opd} (hlo : okOpt lo lo' = true) (hhi : okOpt hi hi' = true) {N cap : Nat} {isS : Bool} {K : Nat → Nat → Prop} (hc : N ≤ cap)
    (hev : loW (lo'.map (rd T)) fun p => hiW (hi'.map (rd T)) N fun q => (p ≤ q ∧ q ≤ N) ∧ K p q) :
    ∃ p q, p ≤ q ∧ q ≤ N ∧ K p q ∧ (Instr.sliceBounds isS N cap (lo.map a.eval) (hi.map a.eval) none).run P w = .ok (p, q, cap) w := by
  rcases (optD h hlo).1 hev with ⟨rfl, h1⟩ | ⟨y, k, m, rfl, e1, e2, h1⟩
  · rcases (optD h hhi).2 N h1 with ⟨rfl, h2⟩ | ⟨y', k', m', rfl, e1', e2', h2⟩
    · exact ⟨0, N, h2.1.1, h2.1.2, h2.2, run_bounds (.inl ⟨rfl, rfl⟩) (.inl ⟨rfl, rfl⟩) h2.1.1 h2.1.2 hc⟩
    · exact ⟨0, m'.toNat, h2.1.1, h2.1.2, h2.2, run_bounds (.inl ⟨rfl, rfl⟩) (.inr ⟨k', m', by simp [e1'], e2', rfl⟩) h2.1.1 h2.1.2 hc⟩
  · rcases (optD h hhi).2 N h1 with ⟨rfl, h2⟩ | ⟨y', k', m', rfl, e1', e2', h2⟩
    · exact ⟨m.toNat, N, h2.1.1, h2.1.2, h2.2, run_bounds (.inr ⟨k, m, by simp [e1], e2, rfl⟩) (.inl ⟨rfl, rfl⟩) h2.1.1 h2.1.2 hc⟩
    · exact ⟨m.toNat, m'.toNat, h2.1.1, h2.1.2, h2.2, run_bounds (.inr ⟨k, m, by simp [e1], e2, rfl⟩) (.inr ⟨k', m', by simp [e1'], e2', rfl⟩) h2.1.1 h2.1.2 hc⟩

theorem ex_sls (h : Core w0 tk n Z0 Z F S T a w) {t : TypeId} {x : Operand} {x' : Opd} {lo hi : Option Operand} {lo' hi' : Option Opd} (hop : o.op = .slice t x lo hi none) (ht : okStr P t = true) (hx : okOpd x x' = true)
    (hlo : okOpt lo lo' = true) (hhi : okOpt hi hi' = true) (hev : evW P T (.sls x' lo' hi') fun s' => s' = s) : Ex P w Z T a o s := by
  simp only [evW] at hev
  split at hev
  · rename_i l hp
    obtain ⟨hv, hl⟩ := h.rdStr hx hp
    obtain ⟨p, q, h1, h2, rfl, hb⟩ := boundsD (P := P) (isS := false) h hlo hhi (Nat.le_refl _) hev
    refine ⟨.string ⟨((l.take q).drop p).toArray⟩, ?_, srep_d (RepV.mkStr (by simp; omega))⟩
    have e : (⟨l.toArray⟩ : ByteArray).size = l.length := by simp [ByteArray.size_mk']
    simp [execOp, hop, hv, Instr.sliceAt, Instr.slice, run_underlying (okStr_iff ht), e, hb, ByteArray.extract_mk, List.drop_take]
  · exact hev.elim

theorem ex_sl (h : Core w0 tk n Z0 Z F S T a w) {t : TypeId} {x : Operand} {x' : Opd} {lo hi : Option Operand} {lo' hi' : Option Opd} (hop : o.op = .slice t x lo hi none) {sz0 : Nat} (ht : okElem P t (fun i => i.size == sz0) = true) (hx : okOpd x x' = true)
    (hlo : okOpt lo lo' = true) (hhi : okOpt hi hi' = true) (hev : evW P T (.sl x' lo' hi' sz0) fun s' => s' = s) : Ex P w Z T a o s := by
  obtain ⟨e, inf, ht', hinf, hsz0⟩ := okElem_iff ht
  simp only [beq_iff_eq] at hsz0
  cases x' with
  | c z => simp only [evW] at hev
  | t m =>
    cases x <;> simp only [okOpd] at hx <;> try (cases hx)
    rename_i m'
    simp only [beq_iff_eq] at hx
    subst hx
    simp only [evW] at hev
    split at hev
    · rename_i l hT
      have h1 := h.rep m'
      rw [hT, SRep.none rfl] at h1
      have h2 : RepV w Z (.slice false l) (tmOf a m') (F m') := h1
      obtain ⟨ad, cap, hv, hle, hcap, hs⟩ := h2.slice
      obtain ⟨hsz1, hev⟩ := hev
      obtain ⟨p, q, hpq, hq, rfl, hb⟩ := boundsD (P := P) (isS := true) h hlo hhi hle hev
      have he : a.eval (.tmp m') = .slice ad l.length cap := hv
      have hrun : (execOp a.eval o).run P w = .ok (.value (.slice (if cap = p then ad else ad.map (·.add (p * inf.size))) (q - p) (cap - p))) w := by
        simp only [execOp, hop, he, Instr.sliceAt, Instr.slice]
        simp only [Sem.run_bind, run_underlying ht', Result.andThen_ok, hb, Go.sizeOf, typeInfo, run_program, hinf, Sem.run_pure, Option.map_none]
      refine ⟨_, hrun, srep_d ?_⟩
      by_cases hne : (l.take q).drop p = []
      · refine ⟨rfl, ?_⟩
        have hqp : q - p = 0 := by
          have := congrArg List.length hne
          simp at this; omega
        rw [hne]
        simp only [RepX]
        refine .inl ⟨trivial, fun _ => trivial, (if cap = p then ad else ad.map (·.add (p * inf.size))), cap - p, by simp [Value.cells, hqp], by omega, ?_, fun hf => by cases hf⟩
        intro hn
        by_cases hcp : cap = p
        · omega
        · rw [if_neg hcp] at hn
          have hadn : ad = none := by cases ad <;> simp_all
          have h3 := h2.2
          rw [hv] at h3
          simp only [RepX] at h3
          rcases h3 with ⟨_, _, a', cap', hc, _, h5, _⟩ | ⟨_, g, off, cap', xs, sz, f1, hc, _⟩
          · simp only [Value.cells, List.cons.injEq, Value.slice.injEq, and_true] at hc
            have := h5 (by rw [← hc.1]; exact hadn); omega
          · simp only [Value.cells, List.cons.injEq, Value.slice.injEq, and_true] at hc
            rw [hadn] at hc; simp at hc
      · have hplt : p < q := by
          rcases Nat.lt_or_ge p q with h | h
          · exact h
          · exfalso; apply hne; apply List.drop_of_length_le; simp; omega
        have h3 := h2.2
        rw [hv] at h3
        simp only [RepX] at h3
        rcases h3 with ⟨rfl, _⟩ | ⟨_, g, off, cap', xs, sz, f1, hc, hm, hlc, hxl, hsz, hxs, h7⟩
        · simp at hne
        · simp only [Value.cells, List.cons.injEq, Value.slice.injEq, and_true, true_and] at hc
          obtain ⟨rfl, rfl⟩ := hc
          rcases h7 with ⟨_, hzg, hf0, hf1, hcell⟩ | ⟨hcon, _⟩
          · have hl3 : l = l.take p ++ (l.take q).drop p ++ l.drop q := by
              rw [List.drop_take, List.append_assoc]
              conv => lhs; rw [← List.take_append_drop p l]
              congr 1
              conv => lhs; rw [← List.take_append_drop (q - p) (l.drop p)]
              rw [List.drop_drop]
              congr 2; omega
            rw [hl3] at hxs
            obtain ⟨c12, c3, f12, f3, rfl, e1, e2, e3⟩ := (RepXs.append _).1 hxs
            obtain ⟨c1, c2, g1, g2, rfl, e4, e5, e6⟩ := (RepXs.append _).1 e2
            have hl1 : c1.length = p * sz := by
              rw [RepXs.len _ e5, sizes_uniform (sz := sz) (fun x hx => hsz x (List.mem_of_mem_take hx)), List.length_take]; congr 1; omega
            have hl2 : c2.length = (q - p) * sz := by
              rw [RepXs.len _ e6, sizes_uniform (sz := sz) (fun x hx => hsz x (List.mem_of_mem_take (List.mem_of_mem_drop hx))), List.length_drop, List.length_take, Nat.min_eq_left hq]
            have hinfsz : inf.size = sz := by
              cases l with
              | nil => simp at hne
              | cons y l => rw [hsz0, ← hsz1 y (by simp), hsz y (by simp)]
            refine ⟨rfl, ?_⟩
            simp only [RepX]
            refine .inr ⟨hne, g, off + p * inf.size, cap - p, c2, sz, fun _ => 0, ?_, by omega, by simp; omega, by rw [hl2, List.length_drop, List.length_take, Nat.min_eq_left hq], fun x hx => hsz x (List.mem_of_mem_take (List.mem_of_mem_drop hx)), e6.congr fun b => by have := hf1 b; have := e1 b; have := e4 b; omega, .inl ⟨trivial, hzg, by simp, by simp, ?_⟩⟩
            · rw [if_neg (by omega)]
              simp only [Option.map_some, addr_add, Value.cells, List.length_drop, List.length_take]
              congr 2; omega
            · intro j u hu
              have := hcell (p * sz + j) u (by rw [List.append_assoc, List.getElem?_append_right (by omega), hl1, Nat.add_sub_cancel_left, List.getElem?_append_left (List.getElem?_eq_some_iff.1 hu).1, hu])
              rw [hinfsz, Nat.add_assoc]; exact this
          · cases hcon
    · exact hev.elim

theorem ex_b2s (h : Core w0 tk n Z0 Z F S T a w) {src dst : TypeId} {x : Operand} {x' : Opd} (hop : o.op = .convert src dst x) (hs : okElem P src (fun _ => true) = true)
    (he : (match P.underlying src with | some (.slice e) => okInt P e .u8 | _ => false) = true) (hd : okStr P dst = true) (hx : okOpd x x' = true)
    (hev : evW P T (.b2s x') fun s' => s' = s) : Ex P w Z T a o s := by
  obtain ⟨e, inf, ht', _, _⟩ := okElem_iff hs
  rw [ht'] at he
  simp only at he
  simp only [evW] at hev
  split at hev
  · rename_i o' l hp
    obtain ⟨bs, rfl, rfl⟩ := hev
    obtain ⟨f, r, _⟩ := h.rd hx hp
    obtain ⟨ad, cap, hv, hle, hcap, hs'⟩ := r.slice
    have hml : bs.length ≤ maxLen := by simp at hle; omega
    refine ⟨.string ⟨bs.toArray⟩, ?_, srep_d (RepV.mkStr hml)⟩
    have hfold : ∀ (bs : List UInt8) (z : ByteArray), (bs.map fun b => (b.toNat : Int)).foldl (fun r n => r.push (UInt8.ofNat n.toNat)) z = ⟨z.data ++ bs.toArray⟩ := by
      intro bs
      induction bs with
      | nil => intro z; simp
      | cons b bs ih => intro z; simp only [List.map_cons, List.foldl_cons, ih]; simp [ByteArray.push, Int.toNat_natCast]
    have hconv : (Conv.bytesToString (.slice ad (bs.map fun b => D.int .u8 b.toNat).length cap)).run P w = .ok (.string ⟨bs.toArray⟩) w := by
      cases bs with
      | nil =>
        cases ad with
        | none => rfl
        | some ad =>
          exact run_bytesToString (P := P) w ad 0 cap [] (by simp [loadCells, loadCellsFrom])
      | cons b0 bs0 =>
        obtain ⟨g, off, rfl⟩ := hs' (by simp)
        have hcells : ∀ j, j < (b0 :: bs0).length → w.cell? ((⟨g, off, none⟩ : Addr).add j) = some (Value.int .u8 ((b0 :: bs0).getD j 0).toNat) := by
          intro j hj
          have hz : ((b0 :: bs0).map fun b => D.int .u8 b.toNat)[j]? = some (D.int .u8 ((b0 :: bs0).getD j 0).toNat) := by
            rw [List.getElem?_map, List.getElem?_eq_getElem hj, List.getD_eq_getElem?_getD, List.getElem?_eq_getElem hj]; rfl
          have hrx := r.2
          rw [hv] at hrx
          obtain ⟨g', off', cap', c2, fy, e1, _, _, e2, e3, e4, _⟩ := slice_elem_cells hrx hz
          simp only [Value.cells, List.cons.injEq, Value.slice.injEq, Option.some.injEq, Addr.mk.injEq, and_true, true_and] at e1
          obtain ⟨⟨rfl, rfl⟩, rfl⟩ := e1
          simp only [RepX] at e4
          have := e3 0 _ (by rw [e4.1]; rfl)
          simp only [D.size, Nat.mul_one, Nat.add_zero] at this
          rw [addr_add]; exact this
        have hload := run_loadCells (P := P) (w := w) ⟨g, off, none⟩ (b0 :: bs0).length (fun j => Value.int .u8 ((b0 :: bs0).getD j 0).toNat) hcells
        have := run_bytesToString (P := P) w ⟨g, off, none⟩ (b0 :: bs0).length cap ((b0 :: bs0).map fun b => (b.toNat : Int)) (by
          rw [hload]
          congr 1
          apply Array.ext
          · simp
          · intro i h1 h2
            simp at h1 h2
            cases i with
            | zero => simp
            | succ i => simp [List.getD_eq_getElem?_getD, List.getElem?_eq_getElem (show i < bs0.length by omega)])
        rw [hfold] at this
        simpa using this
    simp only [execOp, hop, hv, Sem.run_bind, run_convert_bytes_string w src dst e ad _ cap ht' (okInt_iff he) (okStr_iff hd), hconv, Result.andThen_ok, Sem.run_pure]
  · exact hev.elim

theorem ex_i2s (h : Core w0 tk n Z0 Z F S T a w) {src dst : TypeId} {x : Operand} {x' : Opd} (hop : o.op = .convert src dst x) (hs : okSome P src = true) (hd : okStr P dst = true) (hx : okOpd x x' = true)
    (hev : evW P T (.i2s x') fun s' => s' = s) : Ex P w Z T a o s := by
  simp only [evW] at hev
  split at hev
  · rename_i k m hb
    obtain ⟨⟨h0, h1⟩, rfl⟩ := hev
    obtain ⟨d, hd'⟩ := Option.isSome_iff_exists.mp hs
    refine ⟨_, ?_, srep_d (RepV.mkStr (by simp [maxLen]))⟩
    have he : Utf8.encode m = ⟨[UInt8.ofNat m.toNat].toArray⟩ := by
      have hval : Utf8.valid m = true := by simp [Utf8.valid]; omega
      simp only [Utf8.encode, hval, if_true]
      rw [if_pos (by omega)]
    simp [execOp, hop, h.rdInt hx hb, convert, run_underlying hd', run_underlying (okStr_iff hd), Conv.intToString, he]
  · exact hev.elim
end
end AS
set_option linter.unusedVariables false
set_option linter.unusedSimpArgs false
namespace AS
open Go

section
variable {P : Program} {w : World}

theorem run_firstX {size n : Nat} {ad : Option Addr} {c : Nat} {cs : List Value} (hl : cs.length = n * size) (h0 : ad = none → cs = []) (h : ∀ b, ad = some b → ∀ j u, cs[j]? = some u → w.cell? (b.add j) = some u) (len : Nat) :
    (Builtin.firstCells size n (.slice ad len c)).run P w = .ok cs.toArray w := by
  cases ad with
  | none => rw [h0 rfl]; exact run_firstCells_none w size n len c
  | some b => exact run_firstCells_some w size n b len c cs hl (h b rfl)

variable {t ty e : TypeId} {i : TypeInfo} {z : Value}

theorem app_none (ht : P.underlying t = some (.slice e)) (hi : P.info? e = some i) {base ax : Option Addr} {sLen sCap c : Nat} (hle : sLen ≤ sCap) :
    (Builtin.append_ #[t, t] ty #[.slice base sLen sCap, .slice ax 0 c]).run P w = .ok (.slice base sLen sCap) w := by
  have hf : (Builtin.firstCells i.size 0 (.slice ax 0 c)).run P w = .ok #[] w := by
    cases ax <;> simp [Builtin.firstCells, loadCells, loadCellsFrom]
  cases base <;> simp [Builtin.append_, run_underlying ht, Go.sizeOf, typeInfo, hi, Builtin.lenOf, hle, hf, storeCells]

theorem app_room (ht : P.underlying t = some (.slice e)) (hi : P.info? e = some i) {g sLen sCap n c : Nat} {cur : Array Value} {e' : TypeId} (hg : w.heap[g]? = some (.cells cur e' (0, 0)))
    {ax : Option Addr} {news : List Value} (hl : news.length = n * i.size) (h0 : ax = none → news = []) (h : ∀ b, ax = some b → ∀ j u, news[j]? = some u → w.cell? (b.add j) = some u)
    (h1 : ∀ u ∈ news, u.oneCell' = true) (hroom : sLen + n ≤ sCap) (hfit : sLen * i.size + news.length ≤ cur.size) :
    (Builtin.append_ #[t, t] ty #[.slice (some ⟨g, 0, none⟩) sLen sCap, .slice ax n c]).run P w = .ok (.slice (some ⟨g, 0, none⟩) (sLen + n) sCap) (w.setRow g (spliced cur (sLen * i.size) news)) := by
  have hf := run_firstX (P := P) (w := w) (c := c) hl h0 h n
  have hst := run_storeCells_at P g (sLen * i.size) e' news 0 cur w hg (by simpa using hfit) h1
  simp only [Nat.add_zero] at hst
  simp [Builtin.append_, run_underlying ht, Go.sizeOf, typeInfo, hi, Builtin.lenOf, hroom, hf, Addr.add_lit, hst, spliced]

theorem app_grow (ht : P.underlying t = some (.slice e)) (hi : P.info? e = some i) (hz : i.zero = some z) {base ax : Option Addr} {sLen sCap n c : Nat} {olds news : List Value}
    (hlo : olds.length = sLen * i.size) (h0o : base = none → olds = []) (ho : ∀ b, base = some b → ∀ j u, olds[j]? = some u → w.cell? (b.add j) = some u)
    (hl : news.length = n * i.size) (h0 : ax = none → news = []) (h : ∀ b, ax = some b → ∀ j u, news[j]? = some u → w.cell? (b.add j) = some u)
    (hg : sCap < sLen + n) (hb : (sLen + n) * i.bytes ≤ 140737488355328) (h63 : sLen + n ≤ 1099511627776) :
    (Builtin.append_ #[t, t] ty #[.slice base sLen sCap, .slice ax n c]).run P w =
      .ok (.slice (some ⟨w.heap.size, 0, none⟩) (sLen + n) (grownCap w (sLen + n) sCap e))
        (w.drew.alloc (.cells (olds.toArray ++ news.toArray ++ Builtin.zeroCells z.cells (grownCap w (sLen + n) sCap e - (sLen + n))) e)) := by
  have hn : ¬ (sLen + n ≤ sCap) := by omega
  have h63' : ¬ (9223372036854775807 < ((sLen : Int) + (n : Int))) := by omega
  have h48' : ¬ (281474976710656 < Builtin.nextslicecap (sLen + n) sCap * i.bytes) := by
    have := growslice_fits (bytes := i.bytes) hg hb
    omega
  have hf := run_firstX (P := P) (w := w.drew) (c := c) hl h0 (by simpa using h) n
  have hfo := run_firstX (P := P) (w := w.drew) (c := sCap) hlo h0o (by simpa using ho) sLen
  simp [Builtin.append_, run_underlying ht, Go.sizeOf, typeInfo, zeroValue, hi, hz, Builtin.lenOf, hn, h63', h48', Question.forced, hf, hfo, newRow, grownCap]
  congr 2
  apply Array.ext'
  simp [List.append_assoc]
end

theorem madeCells_list (z : Array Value) : ∀ j, (madeCells z (j * z.size)).toList = (List.replicate j z.toList).flatten := by
  intro j
  induction j with
  | zero => simp [madeCells]
  | succ j ih =>
    have h : (madeCells z ((j + 1) * z.size)).toList = (madeCells z (j * z.size)).toList ++ z.toList := by
      apply List.ext_getElem?
      intro k
      simp only [madeCells, Array.toList_map, Array.toList_range, List.getElem?_map]
      by_cases hk : k < j * z.size
      · rw [List.getElem?_append_left (by simpa using hk)]
        simp only [List.getElem?_map]
        rw [List.getElem?_range (by rw [Nat.succ_mul]; omega), List.getElem?_range hk]
      · rw [List.getElem?_append_right (by simpa using hk)]
        simp only [List.length_map, List.length_range]
        by_cases hk2 : k < (j + 1) * z.size
        · rw [List.getElem?_range hk2]
          rw [Nat.succ_mul] at hk2
          have hlt : k - j * z.size < z.size := by omega
          have hm : k % z.size = k - j * z.size := by
            conv => lhs; rw [show k = (k - j * z.size) + j * z.size from by omega]
            rw [Nat.add_mul_mod_self_right, Nat.mod_eq_of_lt hlt]
          simp [hm, hlt]
        · rw [List.getElem?_eq_none (by simpa using hk2)]
          rw [Nat.succ_mul] at hk2
          rw [List.getElem?_eq_none (by simp; omega)]
          rfl
    rw [h, ih, List.replicate_succ', List.flatten_append]
    simp

theorem RepXs.replicate {w : World} {Z : Nat → Prop} {z : D} {cs : List Value} (h : RepX w Z z cs (fun _ => 0)) : ∀ j, RepXs w Z (List.replicate j z) (List.replicate j cs).flatten (fun _ => 0)
  | 0 => by simp [RepXs]
  | j + 1 => by
    simp only [List.replicate_succ, List.flatten_cons, RepXs]
    exact ⟨cs, _, fun _ => 0, fun _ => 0, rfl, fun _ => rfl, h, RepXs.replicate h j⟩

def ind (g : Nat) : FP := fun b => if b = g then 1 else 0

theorem Fr.alloc (w : World) (o : Obj) (S : FP) : Fr S w (w.alloc o) :=
  ⟨rfl, rfl, rfl, by simp, fun k hk _ => heap_alloc_old w o hk⟩
theorem Fr.allocD (w : World) (o : Obj) (S : FP) : Fr S w (w.drew.alloc o) :=
  ⟨rfl, rfl, rfl, by simp, fun k hk _ => heap_alloc_old w.drew o hk⟩

section
variable {P : Program} {w0 : World} {tk : FP} {n : Nat} {Z0 Z : Nat → Prop} {F : Nat → FP} {T : Nat → SV} {a : Act} {w : World} {o : Oper}

/-- A value of this footprint put into its slot, the rest of the spare given up. -/
theorem Core.putAll {S : FP} (h : Core w0 tk n Z0 Z F S T a w) {d : Nat} {v : Value} {s : SV} {f : FP} (hd : d < n) (hr : s.root = none) (hs : SRepN w Z v s f) (hf : ∀ b, f b ≤ S b) :
    Core w0 tk n Z0 Z (updF F d f) (fun _ => 0) (AS.put T d s) (a.put (some d) v) w :=
  h.putN hd hr hs (fun b => by have := hf b; omega)

/-- A new block of the call's own. -/
theorem Core.newBlock {S : FP} (h : Core w0 tk n Z0 Z F S T a w) {w' : World} (hfr : Fr (fun _ => 0) w w') (hsz : w'.heap.size = w.heap.size + 1) :
    Core w0 tk n Z0 Z F (fun b => S b + ind w.heap.size b) T a w' := by
  have hS : S w.heap.size = 0 := by
    by_cases h0 : 0 < S w.heap.size
    · have := (h.own _ (.inl h0)).1; omega
    · omega
  refine h.step (S' := fun b => S b + ind w.heap.size b) ⟨hfr.os, hfr.tape, hfr.output, hfr.size, fun k hk _ => hfr.block k hk rfl⟩ ?_ ?_ (fun _ hb => hb) (fun _ hb => .inl hb)
  · intro b
    have := h.one 0 b
    by_cases e : b = w.heap.size
    · subst e; simp only [ind, if_true]; omega
    · simp only [ind, if_neg e]; omega
  · intro b hb
    by_cases e : b = w.heap.size
    · subst e; exact ⟨by omega, .inl (Nat.le_refl _)⟩
    · simp only [ind, if_neg e, Nat.add_zero] at hb
      have := (h.own _ (.inl hb)).1
      exact ⟨by omega, .inr hb⟩

theorem sv_alloc (h : Core w0 tk n Z0 Z F (fun _ => 0) T a w) {t : TypeId} {z : D} (hop : o.op = .alloc t) (hok : okInfo P t (fun i => match i.zero with | some v => okZ v.cells.toList z | none => false) = true) {d : Nat} (hdst : o.dst = some d) (hd : d < n)
    {Q : Exit → Act → World → Prop} :
    o.wp P a w (fun a' w' => ∃ Z' F', Core w0 tk n Z0 Z' F' (fun _ => 0) (AS.put T d (.box z)) a' w') Q := by
  obtain ⟨i, hi, hz⟩ := okInfo_iff hok
  cases hzv : i.zero with
  | none => simp [hzv] at hz
  | some v =>
    simp only [hzv] at hz
    have hrun : (execOp a.eval o).run P w = .ok (.value (.pointer (some ⟨w.heap.size, 0, none⟩))) (w.alloc (.cells v.cells t)) := by
      simp [execOp, hop, Instr.alloc, zeroValue, typeInfo, hi, hzv, newVar, newRow]
    refine wp_value hrun ?_
    rw [hdst]
    have h1 := h.newBlock (Fr.alloc w (.cells v.cells t) _) (by simp)
    refine ⟨Z, _, h1.putAll hd rfl (f := ind w.heap.size) ?_ (fun b => by simp)⟩
    exact ⟨w.heap.size, v.cells, t, fun _ => 0, rfl, heap_alloc_new w _, okZ_rep hz, fun b => by simp [ind]⟩

theorem sv_mk (h : Core w0 tk n Z0 Z F (fun _ => 0) T a w) {t : TypeId} {l c : Operand} {z : D} {y : Opd} (hop : o.op = .makeSlice t l c) (hl : okOpd l y = true) (hc : okOpd c y = true)
    (hok : okElem P t (fun i => decide (i.bytes ≤ 128) && i.size == z.size && match i.zero with | some v => okZ v.cells.toList z | none => false) = true)
    {K : SV → Prop} (hev : evW P T (.mk z y) K) {d : Nat} (hdst : o.dst = some d) (hd : d < n) {Q : Exit → Act → World → Prop} :
    ∃ j, K (.d (.slice true (List.replicate j z))) ∧ o.wp P a w (fun a' w' => ∃ Z' F', Core w0 tk n Z0 Z' F' (fun _ => 0) (AS.put T d (.d (.slice true (List.replicate j z)))) a' w') Q := by
  obtain ⟨e, i, ht, hi, hp⟩ := okElem_iff hok
  simp only [Bool.and_eq_true, decide_eq_true_eq, beq_iff_eq] at hp
  obtain ⟨⟨hb, hsz⟩, hz⟩ := hp
  simp only [evW] at hev
  obtain ⟨k1, m, e1, h0, hj, hK⟩ := h.rdNat hl hev
  obtain ⟨k2, m2, e2, _, _, _⟩ := h.rdNat hc hev
  have hm : a.eval c = .int k2 m := by
    have q1 : ∃ k0 m0, rd T y = some (.int k0 m0) := by
      unfold natW at hev; split at hev
      · exact ⟨_, _, by assumption⟩
      · exact hev.elim
    obtain ⟨k0, m0, q1⟩ := q1
    have e3 := h.rdInt hl q1
    have e4 := h.rdInt hc q1
    rw [e1] at e3; rw [e2] at e4
    cases e3; cases e4
    exact e2
  cases hzv : i.zero with
  | none => simp [hzv] at hz
  | some v =>
    simp only [hzv] at hz
    have hzr := okZ_rep (w := w) (Z := Z) hz
    have hzl : v.cells.size = z.size := by have := RepX.len z hzr; simpa using this
    refine ⟨m.toNat, hK, ?_⟩
    have hbm : i.bytes * m.toNat ≤ 128 * 1099511627776 := Nat.mul_le_mul hb hj
    have hrm := run_make (P := P) w t e i v ht hi hzv k1 k2 m m h0 (Int.le_refl _) (by
      have : ((i.bytes * m.toNat : Nat) : Int) ≤ 281474976710656 := by omega
      rw [Int.natCast_mul, Int.toNat_of_nonneg h0] at this; exact this) (by omega)
    have hrun : (execOp a.eval o).run P w = .ok (.value (.slice (some ⟨w.heap.size, 0, none⟩) m.toNat m.toNat)) (w.alloc (.cells (madeCells v.cells (m.toNat * i.size)) e)) := by
      simp [execOp, hop, e1, hm, hrm]
    refine wp_value hrun ?_
    rw [hdst]
    have h1 := h.newBlock (Fr.alloc w (.cells (madeCells v.cells (m.toNat * i.size)) e) _) (by simp)
    have hcells := madeCells_list v.cells m.toNat
    rw [hzl, ← hsz] at hcells
    have hrz := okZ_rep (w := w.alloc (.cells (madeCells v.cells (m.toNat * i.size)) e)) (Z := Z) hz
    have hrs := RepXs.replicate hrz m.toNat
    rw [← hcells] at hrs
    by_cases hm0 : m.toNat = 0
    · refine ⟨Z, _, h1.putAll hd rfl (f := fun _ => 0) ?_ (fun b => by simp)⟩
      refine ⟨rfl, ?_⟩
      simp only [RepX, hm0, List.replicate_zero]
      exact .inl ⟨trivial, fun _ => trivial, some ⟨w.heap.size, 0, none⟩, 0, by simp [Value.cells], Nat.zero_le _, fun _ => rfl, fun _ => rfl⟩
    · refine ⟨Z, _, h1.putAll hd rfl (f := ind w.heap.size) ?_ (fun b => by simp)⟩
      refine ⟨rfl, ?_⟩
      simp only [RepX]
      refine .inr ⟨by simp; omega, w.heap.size, 0, m.toNat, _, i.size, fun _ => 0, by simp [Value.cells], by simp [maxLen]; omega, by simp, ?_, ?_, hrs, .inr ⟨trivial, rfl, fun b => by simp [ind], _, e, heap_alloc_new w _, size_madeCells _ _, ?_⟩⟩
      · simp [size_madeCells]
      · intro x hx; rw [List.eq_of_mem_replicate hx, hsz]
      · rw [List.take_of_length_le (by simp [size_madeCells])]
end
end AS
set_option linter.unusedVariables false
set_option linter.unusedSimpArgs false
namespace AS
open Go

theorem okOpds_len : ∀ {xs : List Operand} {ys : List Opd}, okOpds xs ys = true → xs.length = ys.length
  | [], [], _ => rfl
  | x :: xs, y :: ys, h => by simp only [okOpds, Bool.and_eq_true] at h; simp [okOpds_len h.2]
  | [], _ :: _, h => by simp [okOpds] at h
  | _ :: _, [], h => by simp [okOpds] at h

section
variable {P : Program} {w0 : World} {tk : FP} {n : Nat} {Z0 Z : Nat → Prop} {F : Nat → FP} {S : FP} {T : Nat → SV} {a : Act} {w : World} {o : Oper}

theorem run_enter {f : Nat} {xs : Array Operand} {ts : Array TypeId} (hop : o.op = .call { callee := .value (.func f), args := xs, argTypes := ts })
    (hf : ∃ (fn : Func) (c : Code), P.funcs[f]? = some fn ∧ fn.body = some c ∧ (fn.name == "runtime.NumGoroutine") = false) :
    (execOp a.eval o).run P w = .ok (.enter f (xs.map a.eval)) w := by
  obtain ⟨fn, c, h1, h2, h3⟩ := hf
  simp only [execOp, hop, resolve, Deferred.ofValue, Act.eval, invoke, Sem.run_bind, Sem.run_pure, Result.andThen_ok, callFunc, run_program, h1, h3, Bool.false_eq_true, if_false, h2, Option.isNone_some]
  simp

theorem wp_enter {f : Nat} {vs : Array Value} {K : Act → World → Prop} {Q : Exit → Act → World → Prop} (hrun : (execOp a.eval o).run P w = .ok (.enter f vs) w)
    {R : Ending → World → Prop} (hc : Calls P f vs w R) (hk : ∀ e w', R e w' → ∃ v, e = .returned v ∧ K (a.put o.dst v) w') : o.wp P a w K Q := by
  simp only [Oper.wp, hrun, Oper.upon]
  refine hc.mono ?_
  intro e w' hr
  obtain ⟨v, rfl, h⟩ := hk e w' hr
  exact h

theorem Core.rdBlock (h : Core w0 tk n Z0 Z F S T a w) {x : Operand} {x' : Opd} (ho : okOpd x x' = true) {y : D} (hy : AS.rd T x' = some y) :
    ∃ fy : FP, RepV w Z y (a.eval x) fy ∧ (∀ b, 0 < fy b → b < w.heap.size ∧ S b = 0) := by
  obtain ⟨fy, h1, h2⟩ := h.rd ho hy
  refine ⟨fy, h1, fun b hb => ?_⟩
  obtain ⟨t, ht⟩ := h2 b hb
  exact ⟨(h.own b (.inr ⟨t, ht⟩)).1, by have := h.one t b; omega⟩

theorem RepV.toImm {Z Z' : Nat → Prop} {x : D} {v : Value} {f : FP} (h : RepV w Z x v f) (hz : ∀ b, Z b → Z' b) (hf : ∀ b, 0 < f b → Z' b) : RepV w Z' x.toImm v (fun _ => 0) := by
  refine ⟨?_, RepX.toImm hz x hf h.2⟩
  rw [h.1]; cases x <;> rfl

theorem rds_rep (h : Core w0 tk n Z0 Z F S T a w) {Z' : Nat → Prop} (hz : ∀ b, Z b → Z' b) (hs : ∀ b, b < w.heap.size → S b = 0 → Z' b) : ∀ {xs : List Operand} {ys : List Opd} {ds : List D}, okOpds xs ys = true → rds T ys = some ds →
    RepVs w Z' (D.toImms ds) (xs.map a.eval) (fun _ => 0)
  | [], [], ds, _, hr => by simp only [rds, Option.some.injEq] at hr; subst hr; simp [D.toImms, RepVs]
  | x :: xs, y :: ys, ds, ho, hr => by
    simp only [okOpds, Bool.and_eq_true] at ho
    simp only [rds] at hr
    cases hy : rd T y with
    | none => simp [hy] at hr
    | some d =>
      cases hys : rds T ys with
      | none => simp [hy, hys] at hr
      | some ds' =>
        simp only [hy, hys, Option.bind_some, Option.map_some, Option.some.injEq] at hr
        subst hr
        obtain ⟨fy, h1, h2⟩ := h.rdBlock ho.1 hy
        simp only [D.toImms, RepVs, List.map_cons]
        exact ⟨a.eval x, _, fun _ => 0, fun _ => 0, rfl, fun _ => rfl, h1.toImm hz (fun b hb => hs b (h2 b hb).1 (h2 b hb).2), rds_rep h hz hs ho.2 hys⟩
  | [], _ :: _, _, ho, _ => by simp [okOpds] at ho
  | _ :: _, [], _, ho, _ => by simp [okOpds] at ho

/-- Arguments of which nothing is owned, in the zone itself. -/
theorem heres_rep (h : Core w0 tk n Z0 Z F S T a w) : ∀ {xs : List Operand} {ys : List Opd} {ds : List D}, okOpds xs ys = true → rds T ys = some ds → heres T ys = true →
    RepVs w Z (D.toImms ds) (xs.map a.eval) (fun _ => 0)
  | [], [], ds, _, hr, _ => by simp only [rds, Option.some.injEq] at hr; subst hr; simp [D.toImms, RepVs]
  | x :: xs, y :: ys, ds, ho, hr, hh => by
    simp only [okOpds, Bool.and_eq_true] at ho
    simp only [heres, Bool.and_eq_true] at hh
    simp only [rds] at hr
    cases hy : rd T y with
    | none => simp [hy] at hr
    | some d =>
      cases hys : rds T ys with
      | none => simp [hy, hys] at hr
      | some ds' =>
        simp only [hy, hys, Option.bind_some, Option.map_some, Option.some.injEq] at hr
        subst hr
        obtain ⟨fy, h1, h2⟩ := h.rd ho.1 hy
        have himm : d.imm = true := by
          have h3 := hh.1
          cases y with
          | c z => simp only [rd, Option.some.injEq] at hy; subst hy; exact h3
          | t m =>
            simp only [here] at h3
            split at h3
            · rename_i z hz
              simp only [rd, hz, dataOf, Option.some.injEq] at hy
              subst hy; exact h3
            · cases h3
        have h4 := RepV.imm0 h1 himm
        simp only [D.toImms, RepVs, List.map_cons]
        exact ⟨a.eval x, _, fun _ => 0, fun _ => 0, rfl, fun _ => rfl, h4.toImm (fun _ h => h) (fun b hb => by simp at hb), heres_rep h ho.2 hys hh.2⟩
  | [], _ :: _, _, ho, _, _ => by simp [okOpds] at ho
  | _ :: _, [], _, ho, _, _ => by simp [okOpds] at ho

theorem TupRep.solid {w : World} {Z Z' : Nat → Prop} : ∀ {l : List D} {vs : List Value} {f : FP}, D.solids l = true → TupRep w Z (l.map some) vs f → TupRep w Z' (l.map some) vs f
  | [], _, _, _, h => h
  | x :: l, _, _, hs, h => by
    simp only [D.solids, Bool.and_eq_true] at hs
    simp only [List.map_cons] at h ⊢
    obtain ⟨v, vs2, f1, f2, h1, h2, h3, h4⟩ := h
    exact ⟨v, vs2, f1, f2, h1, h2, ⟨h3.1, RepX.solid x hs.1 h3.2⟩, TupRep.solid hs.2 h4⟩

theorem ResRep.sv {w : World} {Z : Nat → Prop} {v : Value} {r : List D} {f : FP} (h : ResRep w Z v r f) : SRepN w Z v (resSV r) f := by
  match r, h with
  | [], h => exact h
  | [x], h => exact h
  | x :: y :: l, h => obtain ⟨vs, h1, h2⟩ := h; exact ⟨vs, h1, h2⟩

theorem ResRep.solid {w : World} {Z Z' : Nat → Prop} {v : Value} {r : List D} {f : FP} (hs : D.solids r = true) (h : ResRep w Z v r f) : ResRep w Z' v r f := by
  match r, h, hs with
  | [], h, _ => exact h
  | [x], h, hs =>
    simp only [D.solids, Bool.and_true] at hs
    exact ⟨h.1, RepX.solid x hs h.2⟩
  | x :: y :: l, h, hs => obtain ⟨vs, h1, h2⟩ := h; exact ⟨vs, h1, TupRep.solid hs h2⟩

theorem resSV_root (r : List D) : (resSV r).root = none := by
  match r with
  | [] => rfl
  | [x] => rfl
  | x :: y :: l => rfl

theorem SV.safe_none {s : SV} (h : s.root = none) (d : Nat) : s.safe d = s := by
  cases s <;> first | rfl | simp [SV.root] at h

/-- Behind a call: the state goes on with what came back as spare. -/
theorem Core.called (h : Core w0 tk n Z0 Z F S T a w) {vs : List Value} {Zc Z' : Nat → Prop} {r : List D} {v : Value} {w' : World} {G H : FP}
    (hr : Returns w Zc S vs [] r v w' Z' G H) (hc : D.solids r = true ∨ Zc = Z) :
    ∃ Z2, Core w0 tk n Z0 Z2 F G T a w' ∧ ResRep w' Z2 v r G := by
  have hH : ∀ b, H b = 0 := hr.outs
  rcases hc with hs | rfl
  · refine ⟨Z, h.step hr.fr (fun b => by have := hr.one b; omega) (fun b hb => hr.own b (by omega)) (fun _ hb => hb) (fun _ hb => .inl hb), hr.res.solid hs⟩
  · refine ⟨Z', h.step hr.fr (fun b => by have := hr.one b; omega) (fun b hb => hr.own b (by omega)) hr.z1 (fun b hb => ?_), hr.res⟩
    rcases hr.z2 b hb with h1 | ⟨h1, h2⟩
    · exact .inl h1
    · exact .inr ⟨h1, h2, by have := hr.z3 b hb; omega⟩

theorem sv_call (h : Core w0 tk n Z0 Z F (fun _ => 0) T a w) {f : Nat} {xs : Array Operand} {ts : Array TypeId} {ys : List Opd} (hop : o.op = .call { callee := .value (.func f), args := xs, argTypes := ts })
    (hok : okOpds xs.toList ys = true) {K : SV → Prop} (hev : evW P T (.call f ys) K) (hd : ∀ d, o.dst = some d → d < n) {Q : Exit → Act → World → Prop} :
    ∃ s, K s ∧ s.root = none ∧ o.wp P a w (fun a' w' => ∃ Z' F', Core w0 tk n Z0 Z' F' (fun _ => 0) (match o.dst with | some d => AS.put T d s | none => T) a' w') Q := by
  simp only [evW] at hev
  split at hev
  · rename_i ds hds
    obtain ⟨r, ⟨hfn, hcon⟩, hsol, hK⟩ := hev
    refine ⟨resSV r, hK, resSV_root r, ?_⟩
    have key : ∃ Zc, RepVs w Zc (D.toImms ds) (xs.toList.map a.eval) (fun _ => 0) ∧ (∀ b, Zc b → b < w.heap.size ∧ (fun _ => 0 : FP) b = 0) ∧ TZ w Zc ∧ (D.solids r = true ∨ Zc = Z) := by
      rcases hsol with hs | hh
      · exact ⟨fun b => b < w.heap.size, rds_rep h (fun b hb => (h.zf b hb).1) (fun b hb _ => hb) hok hds, fun b hb => ⟨hb, rfl⟩, h.tz.le fun b hb => (h.zf b hb).1, .inl hs⟩
      · exact ⟨Z, heres_rep h hok hds hh, fun b hb => ⟨(h.zf b hb).1, rfl⟩, h.tz, .inr rfl⟩
    obtain ⟨Zc, hrep, hzc, htc, hc⟩ := key
    have hcalls := hcon w Zc (xs.toList.map a.eval) (fun _ => 0) hrep (fun _ => by simp) (fun b hb => by simp at hb) hzc htc
    have hvs : (xs.toList.map a.eval).toArray = xs.map a.eval := by
      apply Array.ext'; simp
    rw [hvs] at hcalls
    refine wp_enter (run_enter hop hfn) hcalls ?_
    rintro e w' ⟨v, Z', G, H, rfl, hret⟩
    refine ⟨v, rfl, ?_⟩
    obtain ⟨Z2, h2, h3⟩ := h.called hret hc
    cases hdst : o.dst with
    | none => exact ⟨Z2, F, h2.less fun b => Nat.zero_le _⟩
    | some d => exact ⟨Z2, _, h2.putAll (hd d hdst) (resSV_root r) h3.sv (fun _ => Nat.le_refl _)⟩
  · exact hev.elim

theorem At.hole {w : World} {y' : D} : ∀ (p : List Step) {x : D} {cs : List Value} {oa : Option (Nat × Nat)} {y : D} {c : List Value} {ob : Option (Nat × Nat)}, y'.size = y.size →
    At w p x cs oa y c ob → ownP p x = true → At w p (setP p x y') cs oa y' c ob ∧ ownP p (setP p x y') = true
  | [], x, cs, oa, y, c, ob, _, h, _ => by
    simp only [At] at h ⊢
    obtain ⟨rfl, rfl, rfl⟩ := h
    exact ⟨⟨rfl, rfl, rfl⟩, rfl⟩
  | .fld i :: p, x, cs, oa, y, c, ob, hs, h, ho => by
    simp only [At] at h ⊢
    obtain ⟨l, z, c1, c2, c3, rfl, h2, h3, h4, h5, h6⟩ := h
    simp only [ownP, D.sub, h2, Bool.true_and] at ho
    have hi : i < l.length := by rw [List.getElem?_eq_some_iff] at h2; exact h2.1
    have hz : (setP p z y').size = z.size := setP_size p (At.get p h6) hs
    obtain ⟨k1, k2⟩ := At.hole p hs h6 ho
    simp only [setP, D.sub, h2, D.upd]
    refine ⟨⟨l.set i (setP p z y'), setP p z y', c1, c2, c3, rfl, by simp [hi], h3, by rw [sizes_set h2 hz]; exact h4, by rw [hz]; exact h5, k1⟩, ?_⟩
    simp only [ownP, D.sub, List.getElem?_set_self hi, Bool.true_and]; exact k2
  | .idx i :: p, x, cs, oa, y, c, ob, hs, h, ho => by
    simp only [At] at h ⊢
    obtain ⟨o, l, z, g, off, cap, c2, rfl, h2, h3, h4, h5, h6⟩ := h
    simp only [ownP, D.sub, h2, Bool.and_eq_true] at ho
    have hi : i < l.length := by rw [List.getElem?_eq_some_iff] at h2; exact h2.1
    have hz : (setP p z y').size = z.size := setP_size p (At.get p h6) hs
    obtain ⟨k1, k2⟩ := At.hole p hs h6 ho.2
    simp only [setP, D.sub, h2, D.upd]
    refine ⟨⟨o, l.set i (setP p z y'), setP p z y', g, off, cap, c2, rfl, by simp [hi], by simpa using h3, by rw [hz]; exact h4, by rw [hz]; exact h5, by rw [hz]; exact k1⟩, ?_⟩
    simp only [ownP, D.sub, List.getElem?_set_self hi, Bool.and_eq_true]; exact ⟨ho.1, k2⟩
  | .cap i :: p, x, cs, oa, y, c, ob, hs, h, ho => by
    simp only [At] at h ⊢
    obtain ⟨q, l, z, cp, u, rfl, h2, h3, h4, h5, h6⟩ := h
    simp only [ownP, D.sub, h2, Bool.true_and] at ho
    have hi : i < l.length := by rw [List.getElem?_eq_some_iff] at h2; exact h2.1
    have hz : (setP p z y').size = z.size := setP_size p (At.get p h6) hs
    obtain ⟨k1, k2⟩ := At.hole p hs h6 ho
    simp only [setP, D.sub, h2, D.upd]
    refine ⟨⟨q, l.set i (setP p z y'), setP p z y', cp, u, rfl, by simp [hi], h3, h4, by rw [hz]; exact h5, k1⟩, ?_⟩
    simp only [ownP, D.sub, List.getElem?_set_self hi, Bool.true_and]; exact k2
  | .dr :: p, x, cs, oa, y, c, ob, hs, h, ho => by
    simp only [At] at h ⊢
    obtain ⟨o, z, g, off, c2, rfl, h3, h4, h5, h6⟩ := h
    simp only [ownP, D.sub, Bool.and_eq_true] at ho
    have hz : (setP p z y').size = z.size := setP_size p (At.get p h6) hs
    obtain ⟨k1, k2⟩ := At.hole p hs h6 ho.2
    simp only [setP, D.sub, D.upd]
    refine ⟨⟨o, setP p z y', g, off, c2, rfl, h3, by rw [hz]; exact h4, h5, k1⟩, ?_⟩
    simp only [ownP, D.sub, Bool.and_eq_true]; exact ⟨ho.1, k2⟩

theorem At.addr_eq {w : World} : ∀ (p : List Step) {x : D} {cs : List Value} {oa : Option (Nat × Nat)} {y y2 : D} {c c2 : List Value} {ob ob2 : Option (Nat × Nat)},
    At w p x cs oa y c ob → At w p x cs oa y2 c2 ob2 → ob = ob2
  | [], _, _, _, _, _, _, _, _, _, h, k => by
    simp only [At] at h k
    rw [h.2.2, k.2.2]
  | .fld i :: p, _, _, _, _, _, _, _, _, _, h, k => by
    simp only [At] at h k
    obtain ⟨l, z, c1, c2, c3, rfl, h2, rfl, h4, h5, h6⟩ := h
    obtain ⟨l', z', d1, d2, d3, e1, k2, e2, k4, k5, k6⟩ := k
    cases e1
    rw [h2] at k2; cases k2
    have e3 : c1 = d1 ∧ c2 ++ c3 = d2 ++ d3 := List.append_inj (by rw [← List.append_assoc, e2, List.append_assoc]) (by rw [h4, k4])
    obtain ⟨rfl, e3⟩ := e3
    obtain ⟨rfl, rfl⟩ := List.append_inj e3 (by rw [h5, k5])
    exact At.addr_eq p h6 k6
  | .idx i :: p, _, _, _, _, _, _, _, _, _, h, k => by
    simp only [At] at h k
    obtain ⟨o, l, z, g, off, cap, c2, rfl, h2, rfl, h4, h5, h6⟩ := h
    obtain ⟨o', l', z', g', off', cap', d2, e1, k2, e2, k4, k5, k6⟩ := k
    cases e1
    rw [h2] at k2; cases k2
    simp only [List.cons.injEq, Value.slice.injEq, Option.some.injEq, Addr.mk.injEq, and_true, true_and] at e2
    obtain ⟨⟨rfl, rfl⟩, -⟩ := e2
    have : c2 = d2 := by
      apply List.ext_getElem?
      intro j
      by_cases hj : j < c2.length
      · have hj' : j < d2.length := by omega
        have a1 := h5 j c2[j] (List.getElem?_eq_getElem hj)
        have a2 := k5 j d2[j] (List.getElem?_eq_getElem hj')
        rw [List.getElem?_eq_getElem hj, List.getElem?_eq_getElem hj']
        rw [a1] at a2; exact a2
      · rw [List.getElem?_eq_none (by omega), List.getElem?_eq_none (by omega)]
    subst this
    exact At.addr_eq p h6 k6
  | .cap i :: p, _, _, _, _, _, _, _, _, _, h, k => by
    simp only [At] at h k
    obtain ⟨q, l, z, cp, u, rfl, h2, rfl, h4, h5, h6⟩ := h
    obtain ⟨q', l', z', cp', u', e1, k2, e2, k4, k5, k6⟩ := k
    cases e1
    rw [h2] at k2; cases k2
    simp only [List.cons.injEq, Value.func.injEq, and_true, true_and] at e2
    subst e2
    rw [h4] at k4; cases k4
    exact At.addr_eq p h6 k6
  | .dr :: p, _, _, _, _, _, _, _, _, _, h, k => by
    simp only [At] at h k
    obtain ⟨o, z, g, off, c2, rfl, rfl, h4, h5, h6⟩ := h
    obtain ⟨o', z', g', off', d2, e1, e2, k4, k5, k6⟩ := k
    cases e1
    simp only [List.cons.injEq, Value.pointer.injEq, Option.some.injEq, Addr.mk.injEq, and_true] at e2
    obtain ⟨rfl, rfl⟩ := e2
    obtain rfl := cells_eq (by omega) h5 k5
    exact At.addr_eq p h6 k6

/-- A list taken out of a slot's data. -/
theorem Core.takeP (h : Core w0 tk n Z0 Z F S T a w) {m r : Nat} {p : List Step} {y0 : D} (hp : p ≠ []) (hT : T m = .ref r p) (hw : wayD T r p = some y0) (hsz : y0.size = 1) :
    ∃ (F' : Nat → FP) (f : FP), Core w0 tk n Z0 Z F' (fun b => S b + f b) (hlT T r p) a w ∧ RepV w Z y0 (tmOf a m) f := by
  classical
  have hr : (T m).root = some r := by rw [hT]; rfl
  obtain ⟨x, cs, oa, y, c, ob, fr0, fy0, k1, k2, k3, k4, k5, k6, k7, k8⟩ := h.way hr
  rw [hT] at k3 k4 k5 k6
  simp only [SV.path] at k3 k4 k6
  have hy : y = y0 := by rw [k6] at hw; exact Option.some.inj hw
  subst hy
  obtain ⟨f1, r1, r2, r3⟩ := h.root k1
  obtain ⟨fr, fy, q1, q2, q3⟩ := At.focus p r1 k3 k4
  have hcell : RepX w Z .hole c (fun _ => 0) := by
    have hl := RepX.len _ q1
    rw [hsz] at hl
    have h1c := RepX.oneCell _ q1
    match c, hl, h1c with
    | [v], _, h1c => simp only [RepX]; exact ⟨⟨v, rfl, h1c v (by simp)⟩, fun _ => trivial⟩
  have hx' := q3 w Z .hole (fun _ => 0) (by rw [hsz]; simp [D.size]) ⟨fun b hb => ⟨hb, rfl⟩, fun b _ => rfl⟩ hcell
  obtain ⟨ha1, ha2⟩ := At.hole (y' := .hole) p (by rw [hsz]; simp [D.size]) k3 k4
  -- the slot itself
  have hroot : ∃ fR : FP, (∀ b, fR b + fy b ≤ F r b) ∧ SRepN w Z (tmOf a r) ((T r).setR p .hole) fR ∧ (T r).root = none ∧ T r ≠ .un ∧ RootOf w (hlT T r p) (tmOf a) r (setP p x .hole) cs oa := by
    rcases k1 with ⟨ht, rfl, rfl⟩ | ⟨b, cur, e, ht, hpp, hh, rfl, rfl⟩
    · have h0 := h.rep r
      rw [ht] at h0
      simp only [SRep, SV.root, SRepN] at h0
      refine ⟨fun b => fr b + 0, fun b => by have := r2 b; have := q2 b; dsimp only; omega, ?_, by rw [ht]; rfl, by rw [ht]; simp, ?_⟩
      · rw [ht]; simp only [SV.setR, SRepN]; exact ⟨by rw [setP_isAgg p hp]; exact h0.1, hx'⟩
      · exact .inl ⟨by simp [hlT, ht, SV.setR], rfl, rfl⟩
    · rcases r3 with ⟨hn, _⟩ | ⟨g, hg, he⟩
      · cases hn
      · cases hg
        refine ⟨fun k => (if k = b then 1 else 0) + (fr k + 0), fun k => by have := he k; have := q2 k; dsimp only; omega, ?_, by rw [ht]; rfl, by rw [ht]; simp, ?_⟩
        · rw [ht]; simp only [SV.setR, SRepN]; exact ⟨b, cur, e, _, hpp, hh, hx', fun k => rfl⟩
        · exact .inr ⟨b, cur, e, by simp [hlT, ht, SV.setR], hpp, hh, rfl, rfl⟩
  obtain ⟨fR, hfR, hrepR, hrn, hru, hRO⟩ := hroot
  have hF0 : ∀ t r', (T t).root = some r' → ∀ b, F t b = 0 := fun t r' ht => by
    have := h.rep t; rw [SRep.some ht] at this; exact this.1
  refine ⟨fun t => if t = r then fR else F t, fy, ⟨h.size, h.dfr, ?_, ?_, ?_, ?_, ?_, ?_, h.zz, h.zn, h.fr, h.tz⟩, ?_⟩
  · intro t
    by_cases ht : t = r
    · subst ht
      have e1 : hlT T t p t = (T t).setR p .hole := by simp [hlT]
      rw [e1, SRep.none (by cases hTt : T t <;> simp only [hTt] at hrn hru <;> first | rfl | cases hrn | exact absurd rfl hru), if_pos rfl]
      exact hrepR
    · rw [if_neg ht]
      cases hrt : (T t).root with
      | none =>
        have e1 : hlT T r p t = T t := by simp [hlT, ht, hrt]
        have := h.rep t
        rw [e1, SRep.none hrt]; rw [SRep.none hrt] at this; exact this
      | some r' =>
        by_cases hrr : r' = r
        · subst hrr
          by_cases hs : sameAdr (T t) r' p = true
          · have hTt : T t = .adr r' p := by
              unfold sameAdr at hs
              split at hs
              · rename_i r2 q2 e; simp only [Bool.and_eq_true, beq_iff_eq, decide_eq_true_eq] at hs; rw [e, hs.1, hs.2]
              · cases hs
            have e1 : hlT T r' p t = .adr r' p := by rw [← hTt]; simp only [hlT, if_neg ht, hrt, if_true, hs]
            rw [e1, SRep.some (r := r') rfl]
            refine ⟨hF0 t r' hrt, setP p x .hole, cs, oa, .hole, c, ob, hRO, ha1, ha2, ?_⟩
            have h1 := h.rep t
            rw [SRep.some hrt] at h1
            obtain ⟨_, x2, cs2, oa2, y2, c2, ob2, j1, j2, j3, j4⟩ := h1
            rw [hTt] at j2 j4
            simp only [SV.path] at j2
            have e2 : x2 = x ∧ cs2 = cs ∧ oa2 = oa := by
              rcases j1 with ⟨u1, u2, u3⟩ | ⟨b, cur, e, u1, u2, u3, u4, u5⟩ <;> rcases k1 with ⟨v1, v2, v3⟩ | ⟨b', cur', e', v1, v2, v3, v4, v5⟩
              · rw [u1] at v1; cases v1; exact ⟨rfl, by rw [u2, v2], by rw [u3, v3]⟩
              · rw [u1] at v1; cases v1
              · rw [u1] at v1; cases v1
              · rw [u1] at v1; cases v1
                rw [u2] at v2; cases v2
                rw [u3] at v3; cases v3
                exact ⟨rfl, by rw [u4, v4], by rw [u5, v5]⟩
            obtain ⟨rfl, rfl, rfl⟩ := e2
            have e3 := At.addr_eq p j2 k3
            simp only [wayOk] at j4 ⊢
            rw [← e3]; exact j4
          · have e1 : hlT T r' p t = .un := by simp only [hlT, if_neg ht, hrt, if_true, hs]; rfl
            rw [e1, SRep.none rfl]
            exact hF0 t r' hrt
        · have e1 : hlT T r p t = T t := by simp [hlT, ht, hrt, hrr]
          have h1 := h.rep t
          rw [e1, SRep.some hrt]; rw [SRep.some hrt] at h1
          obtain ⟨h0, x2, cs2, oa2, y2, c2, ob2, j1, j2, j3, j4⟩ := h1
          refine ⟨h0, x2, cs2, oa2, y2, c2, ob2, ?_, j2, j3, j4⟩
          have hTr : hlT T r p r' = T r' := by
            have : (T r').root = none := by rcases j1 with ⟨u, _⟩ | ⟨_, _, _, u, _⟩ <;> rw [u] <;> rfl
            simp [hlT, hrr, this]
          rcases j1 with ⟨u1, u2, u3⟩ | ⟨b, cur, e, u1, u2⟩
          · exact .inl ⟨by rw [hTr]; exact u1, u2, u3⟩
          · exact .inr ⟨b, cur, e, by rw [hTr]; exact u1, u2⟩
  · intro t ht
    have := h.lt t ht
    by_cases htr : t = r
    · subst htr; exact absurd this hru
    · have hrt : (T t).root = none := by rw [this]; rfl
      simp [hlT, htr, hrt, this]
  · intro t t' b hne
    have := h.dis t t' b hne
    have := hfR b
    by_cases h1 : t = r
    · subst h1; simp only [if_true, if_neg (Ne.symm hne)]; omega
    · by_cases h2 : t' = r
      · subst h2; simp only [if_true, if_neg h1]; omega
      · simp only [if_neg h1, if_neg h2]; omega
  · intro t b
    have h1 := h.one t b
    have h2 := hfR b
    have h3 := h.one r b
    by_cases ht : t = r
    · subst ht; simp only [if_true]; omega
    · simp only [if_neg ht]; have := h.dis t r b ht; omega
  · intro b hb
    have h1 := h.zf b hb
    have h2 := hfR b
    have h3 := h1.2.2 r
    refine ⟨h1.1, by omega, fun t => ?_⟩
    by_cases ht : t = r
    · subst ht; simp only [if_true]; omega
    · simp only [if_neg ht]; exact h1.2.2 t
  · intro b hb
    refine h.own b ?_
    have h2 := hfR b
    rcases hb with hb | ⟨t, ht⟩
    · by_cases h4 : 0 < S b
      · exact .inl h4
      · exact .inr ⟨r, by omega⟩
    · by_cases htr : t = r
      · subst htr; simp only [if_true] at ht; exact .inr ⟨t, by omega⟩
      · simp only [if_neg htr] at ht; exact .inr ⟨t, ht⟩
  · exact ⟨k5.2, by rw [k5.1]; exact q1⟩

/-- Data that is moved, met. -/
theorem Core.src (h : Core w0 tk n Z0 Z F S T a w) {x : Operand} {x' : Opd} (ho : okOpd x x' = true) {y : D} {T' : Nat → SV} (hs : srcTake T x' = some (y, T')) :
    ∃ (F' : Nat → FP) (f : FP), Core w0 tk n Z0 Z F' (fun b => S b + f b) T' a w ∧ RepV w Z y (a.eval x) f := by
  cases x' with
  | c z =>
    simp only [srcTake, Option.some.injEq, Prod.mk.injEq] at hs
    obtain ⟨rfl, rfl⟩ := hs
    cases x <;> simp only [okOpd] at ho <;> try (cases ho)
    · exact ⟨F, fun _ => 0, h, okConst_rep ho w Z⟩
    · exact ⟨F, fun _ => 0, h, okFn_rep ho w Z⟩
  | t m =>
    cases x <;> simp only [okOpd] at ho <;> try (cases ho)
    rename_i m'
    simp only [beq_iff_eq] at ho
    subst ho
    have he : a.eval (.tmp m') = tmOf a m' := rfl
    rw [he]
    simp only [srcTake] at hs
    split at hs
    · rename_i z hT
      simp only [Option.some.injEq, Prod.mk.injEq] at hs
      obtain ⟨rfl, rfl⟩ := hs
      split
      · rename_i hi
        have h1 := h.rep m'
        rw [hT, SRep.none rfl] at h1
        exact ⟨F, fun _ => 0, h, RepV.imm0 h1 hi⟩
      · obtain ⟨h1, h2⟩ := h.take hT
        exact ⟨_, F m', h1, h2⟩
    · rename_i r hT
      have hr : (T m').root = some r := by rw [hT]; rfl
      obtain ⟨x, cs, oa, y2, c, ob, fr, fy, k1, k2, k3, k4, k5, k6, k7, k8⟩ := h.way hr
      rw [hT] at k3 k5
      simp only [SV.path, At] at k3
      obtain ⟨rfl, rfl, rfl⟩ := k3
      split at hs
      · rename_i z hTr
        simp only [Option.some.injEq, Prod.mk.injEq] at hs
        obtain ⟨rfl, rfl⟩ := hs
        obtain ⟨h1, h2⟩ := h.take hTr
        have hx : y2 = z := by simp only [rootD, hTr, Option.some.injEq] at k2; exact k2.symm
        subst hx
        have hcs : c = (tmOf a r).cells.toList := by
          rcases k1 with ⟨_, q, _⟩ | ⟨_, _, _, q, _⟩
          · exact q
          · rw [hTr] at q; cases q
        exact ⟨_, F r, h1, ⟨k5.2, by rw [k5.1, hcs]; exact h2.2⟩⟩
      · rename_i z hTr
        simp only [Option.some.injEq, Prod.mk.injEq] at hs
        obtain ⟨rfl, rfl⟩ := hs
        have hx : y2 = z := by simp only [rootD, hTr, Option.some.injEq] at k2; exact k2.symm
        subst hx
        obtain ⟨f1, r1, r2, _⟩ := h.root k1
        refine ⟨_, f1, h.set (dst := r) (s := .un) (f := fun _ => 0) (S' := fun b => S b + f1 b) h.size h.dfr (fun _ _ => rfl) ?_ (fun b => by have := r2 b; omega) (fun _ => rfl), ⟨k5.2, by rw [k5.1]; exact r1⟩⟩
        simp [SRep, SV.root, SRepN]
      · cases hs
    · rename_i r q p hT
      split at hs
      · rename_i l hw
        simp only [Option.some.injEq, Prod.mk.injEq] at hs
        obtain ⟨rfl, rfl⟩ := hs
        exact h.takeP (by simp) hT hw (by simp [D.size])
      · rename_i hw
        simp only [Option.some.injEq, Prod.mk.injEq] at hs
        obtain ⟨rfl, rfl⟩ := hs
        exact h.takeP (by simp) hT hw (by simp [D.size])
      · cases hs
    · cases hs

theorem Core.srcs (h : Core w0 tk n Z0 Z F S T a w) : ∀ {xs : List Operand} {ys : List Opd}, okOpds xs ys = true → ∀ {ds : List D} {T' : Nat → SV}, takes T ys = some (ds, T') →
    ∃ (F' : Nat → FP) (f : FP), Core w0 tk n Z0 Z F' (fun b => S b + f b) T' a w ∧ RepVs w Z ds (xs.map a.eval) f := by
  intro xs
  induction xs generalizing F S T with
  | nil =>
    intro ys ho ds T' ht
    cases ys with
    | nil =>
      simp only [takes, Option.some.injEq, Prod.mk.injEq] at ht
      obtain ⟨rfl, rfl⟩ := ht
      exact ⟨F, fun _ => 0, h, by simp [RepVs]⟩
    | cons y ys => simp [okOpds] at ho
  | cons x xs ih =>
    intro ys ho ds T' ht
    cases ys with
    | nil => simp [okOpds] at ho
    | cons y ys =>
      simp only [okOpds, Bool.and_eq_true] at ho
      simp only [takes] at ht
      cases hs : srcTake T y with
      | none => simp [hs] at ht
      | some p =>
        obtain ⟨y1, T1⟩ := p
        cases hts : takes T1 ys with
        | none => simp [hs, hts] at ht
        | some q =>
          obtain ⟨ds1, T2⟩ := q
          simp only [hs, hts, Option.bind_some, Option.map_some, Option.some.injEq, Prod.mk.injEq] at ht
          obtain ⟨rfl, rfl⟩ := ht
          obtain ⟨F1, f1, h1, r1⟩ := h.src ho.1 hs
          obtain ⟨F2, f2, h2, r2⟩ := ih h1 ho.2 hts
          refine ⟨F2, fun b => f1 b + f2 b, ?_, ?_⟩
          · exact h2.less fun b => by dsimp only; omega
          · simp only [RepVs, List.map_cons]
            exact ⟨a.eval x, _, f1, f2, rfl, fun _ => rfl, r1, r2⟩
end
end AS
