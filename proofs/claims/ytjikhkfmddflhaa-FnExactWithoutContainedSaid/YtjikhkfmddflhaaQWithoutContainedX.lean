/- Contracts of the library, laid at this program. No condition. -/
import Derived.Test.YtjikhkfmddflhaaKc
import Derived.Shelf.SlSortCmp.NoneTotal
import Derived.Test.YtjikhkfmddflhaaProg
set_option maxRecDepth 100000
set_option linter.unusedVariables false
set_option linter.unusedSimpArgs false
namespace Go.Proofs
open Go.Shelf
def Try.sortE_ren : Go.Shelf.Ren := ⟨fun | 6 => 108 | 15 => 152 | 14 => 151 | 28 => 173 | 29 => 174 | 20 => 165 | 21 => 166 | 22 => 167 | 23 => 168 | 24 => 169 | 25 => 170 | 26 => 171 | 27 => 172 | 46 => 176 | 47 => 177 | 48 => 178 | 49 => 179 | 50 => 180 | 57 => 182 | n => n, fun | 22 => 31 | 24 => 85 | 25 => 117 | 3 => 3 | 39 => 96 | 0 => 0 | 53 => 149 | 55 => 151 | 4 => 4 | 46 => 142 | 45 => 141 | 50 => 146 | 5 => 5 | 9 => 9 | 66 => 153 | 70 => 157 | 76 => 160 | 77 => 161 | n => n, fun | n => n⟩
theorem Try.sortE : Go.Proofs.SlLaysF0.n6 Try.prog Try.sortE_ren := {
  mixed := by kernel_rfl
  f6 := ⟨Try.f108.name, by decide, Try.func108.trans (congrArg some (by kernel_rfl))⟩
  f14 := ⟨Try.f151.name, by decide, Try.func151.trans (congrArg some (by kernel_rfl))⟩
  f15 := Try.func152.trans (congrArg some (by kernel_rfl))
  f20 := ⟨Try.f165.name, by decide, Try.func165.trans (congrArg some (by kernel_rfl))⟩
  f21 := ⟨Try.f166.name, by decide, Try.func166.trans (congrArg some (by kernel_rfl))⟩
  f22 := ⟨Try.f167.name, by decide, Try.func167.trans (congrArg some (by kernel_rfl))⟩
  f23 := ⟨Try.f168.name, by decide, Try.func168.trans (congrArg some (by kernel_rfl))⟩
  f24 := ⟨Try.f169.name, by decide, Try.func169.trans (congrArg some (by kernel_rfl))⟩
  f25 := ⟨Try.f170.name, by decide, Try.func170.trans (congrArg some (by kernel_rfl))⟩
  f26 := ⟨Try.f171.name, by decide, Try.func171.trans (congrArg some (by kernel_rfl))⟩
  f27 := ⟨Try.f172.name, by decide, Try.func172.trans (congrArg some (by kernel_rfl))⟩
  f28 := Try.func173.trans (congrArg some (by kernel_rfl))
  f29 := Try.func174.trans (congrArg some (by kernel_rfl))
  f46 := ⟨Try.f176.name, by decide, Try.func176.trans (congrArg some (by kernel_rfl))⟩
  f47 := Try.func177.trans (congrArg some (by kernel_rfl))
  f48 := Try.func178.trans (congrArg some (by kernel_rfl))
  f49 := ⟨Try.f179.name, by decide, Try.func179.trans (congrArg some (by kernel_rfl))⟩
  f50 := ⟨Try.f180.name, by decide, Try.func180.trans (congrArg some (by kernel_rfl))⟩
  f57 := ⟨Try.f182.name, by decide, Try.func182.trans (congrArg some (by kernel_rfl))⟩
  t0 := Try.underlying0
  a0 := Try.isAgg0
  z0 := Try.sizeOf0
  v0 := Try.zeroValue0
  t3 := Try.underlying3
  a3 := Try.isAgg3
  z3 := Try.sizeOf3
  v3 := Try.zeroValue3
  t4 := Try.underlying4
  a4 := Try.isAgg4
  z4 := Try.sizeOf4
  v4 := Try.zeroValue4
  t5 := Try.underlying5
  a5 := Try.isAgg5
  z5 := Try.sizeOf5
  v5 := Try.zeroValue5
  t9 := Try.underlying9
  a9 := Try.isAgg9
  z9 := Try.sizeOf9
  v9 := Try.zeroValue9
  t22 := Try.underlying31
  a22 := Try.isAgg31
  z22 := Try.sizeOf31
  v22 := Try.zeroValue31
  t25 := Try.underlying117
  a25 := Try.isAgg117
  z25 := Try.sizeOf117
  v25 := Try.zeroValue117
  t39 := Try.underlying96
  a39 := Try.isAgg96
  z39 := Try.sizeOf96
  v39 := Try.zeroValue96
  t45 := Try.underlying141
  a45 := Try.isAgg141
  z45 := Try.sizeOf141
  v45 := Try.zeroValue141
  t46 := Try.underlying142
  a46 := Try.isAgg142
  z46 := Try.sizeOf142
  v46 := Try.zeroValue142
  t50 := Try.underlying146
  a50 := Try.isAgg146
  z50 := Try.sizeOf146
  v50 := Try.zeroValue146
  t53 := Try.underlying149
  a53 := Try.isAgg149
  z53 := Try.sizeOf149
  v53 := Try.zeroValue149
  t55 := Try.underlying151
  a55 := Try.isAgg151
  z55 := Try.sizeOf151
  v55 := Try.zeroValue151
  t66 := Try.underlying153
  a66 := Try.isAgg153
  z66 := Try.sizeOf153
  v66 := Try.zeroValue153
  t70 := Try.underlying157
  a70 := Try.isAgg157
  z70 := Try.sizeOf157
  v70 := Try.zeroValue157
  t76 := Try.underlying160
  a76 := Try.isAgg160
  z76 := Try.sizeOf160
  v76 := Try.zeroValue160
  t77 := Try.underlying161
  a77 := Try.isAgg161
  z77 := Try.sizeOf161
  v77 := Try.zeroValue161 }
end Go.Proofs
namespace AS.W
open Go Go.Proofs Go.RowKit
open Go.Sort in
theorem sw_other {α : Type} [Inhabited α] {enc : α → List Value} {k : Nat} {w : World} {blk m : Nat} {dk : Array α} {os : Array Obj} {b : Nat} (hb : b < w.heap.size) (hne : b ≠ blk) : (sortWorldK enc k w blk 0 m dk os).heap[b]? = w.heap[b]? := by
  simp only [sortWorldK, Go.Sort.grow, putRowK, putRow, mapBlock, Go.Sort.ahead]
  rw [Array.getElem?_append_left (by simpa using hb), Array.getElem?_modify, if_neg (Ne.symm hne)]
open Go.Sort in
theorem sw_size {α : Type} [Inhabited α] {enc : α → List Value} {k : Nat} {w : World} {blk m : Nat} {dk : Array α} {os : Array Obj} : (sortWorldK enc k w blk 0 m dk os).heap.size = w.heap.size + os.size := by
  simp [sortWorldK, Go.Sort.grow, putRowK, putRow, mapBlock, Go.Sort.ahead]
open Go.Sort in
theorem sw_blk {α : Type} [Inhabited α] {enc : α → List Value} {k : Nat} {w : World} {blk m : Nat} {dk : Array α} {os : Array Obj} {cur : Array Value} {e : TypeId} {fr : Nat × Nat} (h : w.heap[blk]? = some (.cells cur e fr)) :
    (sortWorldK enc k w blk 0 m dk os).heap[blk]? = some (.cells (putCells id 0 (flatK enc k dk) cur) e fr) := by
  have hb : blk < w.heap.size := (Array.getElem?_eq_some_iff.1 h).1
  simp only [sortWorldK, Go.Sort.grow, putRowK, putRow, mapBlock, Go.Sort.ahead]
  rw [Array.getElem?_append_left (by simpa using hb), Array.getElem?_modify, if_pos rfl, h]
  rfl
theorem reps_cons {w : World} {Z : Nat → Prop} {x : D} {l : List D} {v : Value} {cs : List Value} {f : FP} (hx : x.size = 1) : RepXs w Z (x :: l) (v :: cs) f ↔ ∃ f1 f2 : FP, (∀ b, f b = f1 b + f2 b) ∧ RepX w Z x [v] f1 ∧ RepXs w Z l cs f2 := by
  constructor
  · intro h
    simp only [RepXs] at h
    obtain ⟨c1, c2, f1, f2, e, h1, h2, h3⟩ := h
    have hl := RepX.len _ h2
    rw [hx] at hl
    match c1, hl with
    | [u], _ =>
      simp only [List.cons_append, List.nil_append, List.cons.injEq] at e
      obtain ⟨rfl, rfl⟩ := e
      exact ⟨f1, f2, h1, h2, h3⟩
  · rintro ⟨f1, f2, h1, h2, h3⟩
    simp only [RepXs]
    exact ⟨[v], cs, f1, f2, rfl, h1, h2, h3⟩
theorem reps_perm {w : World} {Z : Nat → Prop} {P P' : List (D × Value)} (h : P.Perm P') : ∀ {f : FP}, (∀ p ∈ P, p.1.size = 1) → RepXs w Z (P.map Prod.fst) (P.map Prod.snd) f → RepXs w Z (P'.map Prod.fst) (P'.map Prod.snd) f := by
  induction h with
  | nil => intro f _ h; exact h
  | cons x _ ih =>
    intro f hs h
    simp only [List.map_cons] at h ⊢
    obtain ⟨f1, f2, h1, h2, h3⟩ := (reps_cons (hs x (by simp))).1 h
    exact (reps_cons (hs x (by simp))).2 ⟨f1, f2, h1, h2, ih (fun p hp => hs p (by simp [hp])) h3⟩
  | swap x y l =>
    intro f hs h
    simp only [List.map_cons] at h ⊢
    obtain ⟨f1, f2, h1, h2, h3⟩ := (reps_cons (hs y (by simp))).1 h
    obtain ⟨f3, f4, h4, h5, h6⟩ := (reps_cons (hs x (by simp))).1 h3
    refine (reps_cons (hs x (by simp))).2 ⟨f3, fun b => f1 b + f4 b, fun b => by have := h1 b; have := h4 b; dsimp only; omega, h5, ?_⟩
    exact (reps_cons (hs y (by simp))).2 ⟨f1, f4, fun _ => rfl, h2, h6⟩
  | trans h1 _ ih1 ih2 =>
    intro f hs h
    exact ih2 (fun p hp => hs p (h1.mem_iff.2 hp)) (ih1 hs h)
theorem reps_get {w : World} {Z : Nat → Prop} : ∀ {l : List D} {cs : List Value} {f : FP}, (∀ x ∈ l, x.size = 1) → RepXs w Z l cs f → ∀ (i : Nat) (h1 : i < l.length) (h2 : i < cs.length), ∃ fi : FP, RepX w Z l[i] [cs[i]] fi ∧ ∀ b, fi b ≤ f b
  | [], cs, f, _, h, i, h1, _ => by simp at h1
  | x :: l, [], f, _, h, i, _, h2 => by simp at h2
  | x :: l, v :: cs, f, hs, h, i, h1, h2 => by
    obtain ⟨f1, f2, e, k1, k2⟩ := (reps_cons (hs x (by simp))).1 h
    cases i with
    | zero => exact ⟨f1, k1, fun b => by have := e b; omega⟩
    | succ i =>
      obtain ⟨fi, k3, k4⟩ := reps_get (fun y hy => hs y (by simp [hy])) k2 i (by simpa using h1) (by simpa using h2)
      exact ⟨fi, by simpa using k3, fun b => by have := e b; have := k4 b; omega⟩
theorem agg_flat {P : Program} {t : TypeId} {n : Nat} (h : okFlat P t n = true) : ∀ w, (isAgg t).run P w = .ok true w := by
  intro w
  unfold okFlat at h
  split at h
  · rename_i fs hu
    simp [isAgg, run_underlying hu]
  · cases h
theorem size_info {P : Program} {t : TypeId} {n : Nat} (h : okInfo P t (fun i => i.size == n) = true) : ∀ w, (Go.sizeOf t).run P w = .ok n w := by
  intro w
  obtain ⟨i, hi, h2⟩ := okInfo_iff h
  simp only [beq_iff_eq] at h2
  simp [Go.sizeOf, typeInfo, hi, h2]
end AS.W
