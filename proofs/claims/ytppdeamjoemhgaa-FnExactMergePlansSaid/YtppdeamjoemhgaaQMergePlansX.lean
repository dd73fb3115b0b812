/- Contracts of the library, laid at this program. No condition. -/
import Derived.Test.YtppdeamjoemhgaaKc
import Derived.Shelf.Spec.SlicesGrow
import Derived.Test.YtppdeamjoemhgaaProg
set_option maxRecDepth 100000
set_option linter.unusedVariables false
set_option linter.unusedSimpArgs false
namespace Go.Proofs
open Go.Shelf
def Try.growT_ren : Go.Shelf.Ren := ⟨fun | 4 => 48 | n => n, fun | 22 => 30 | 25 => 53 | 3 => 3 | 4 => 4 | 9 => 9 | 20 => 20 | 0 => 0 | n => n, fun | n => n⟩
theorem Try.growT : Go.Proofs.Lays8.n4 Try.prog Try.growT_ren := {
  mixed := by kernel_rfl
  f4 := ⟨Try.f48.name, by decide, Try.func48.trans (congrArg some (by kernel_rfl))⟩
  t0 := Try.underlying0
  a0 := Try.isAgg0
  z0 := Try.sizeOf0
  v0 := Try.zeroValue0
  t3 := Try.underlying3
  a3 := Try.isAgg3
  z3 := Try.sizeOf3
  v3 := Try.zeroValue3
  t4 := Try.underlying4
  a4 := Try.isAgg4
  z4 := Try.sizeOf4
  v4 := Try.zeroValue4
  t9 := Try.underlying9
  a9 := Try.isAgg9
  z9 := Try.sizeOf9
  v9 := Try.zeroValue9
  t20 := Try.underlying20
  a20 := Try.isAgg20
  z20 := Try.sizeOf20
  v20 := Try.zeroValue20
  t22 := Try.underlying30
  a22 := Try.isAgg30
  z22 := Try.sizeOf30
  v22 := Try.zeroValue30 }
end Go.Proofs
namespace AS.W
open Go Go.Proofs Go.RowKit
theorem grow_info : (Try.prog.info? (Try.growT_ren.t 25)).map (fun i => (i.zero, i.size, i.bytes)) = some (some (.agg #[.int .i64 0, .slice none 0 0, .slice none 0 0, .int .i64 0]), 4, 64) := by kernel_rfl
theorem con_grow {n : Nat} (hn : n ≤ 1048576) {w : World} {Z : Nat → Prop} {F : FP} {vs : List Value} {a : Option Addr} (hZ : ∀ b, Z b → b < w.heap.size) :
    Calls Try.prog (Try.growT_ren.f 4) #[.slice a 0 0, .int .i64 n] w fun e w' => ∃ (v : Value) (Z' : Nat → Prop) (G H : FP), e = .returned v ∧ Returns w Z F vs [] [.room 4] v w' Z' G H := by
  obtain ⟨i0, hi, hz0, hz1, hz2⟩ := info_parts grow_info
  by_cases h0 : n = 0
  · subst h0
    refine (Any8.slices_Grow_room Try.growT a 0 0 0 w (Nat.le_refl _) (by omega) (by omega) (by omega)).mono ?_
    rintro e w' ⟨rfl, rfl⟩
    refine ⟨_, Z, fun _ => 0, fun _ => 0, rfl, ⟨⟨rfl, ?_⟩, fun _ => rfl, fun _ => Nat.zero_le _, fun b hb => absurd hb (Nat.lt_irrefl 0), fun _ h => h, fun _ h => .inl h, fun _ _ => rfl, Fr.refl _ _⟩⟩
    simp only [RepX]
    exact .inl ⟨a, rfl, by simp⟩
  · refine (Any8.slices_Grow_grow Try.growT i0 _ hi hz0 (by omega) a 0 0 n [] w (Nat.le_refl _) (by omega) (by rw [hz2]; omega) (by omega) (by simp) (fun _ => rfl) (fun _ _ j v hv => by simp at hv)).mono ?_
    rintro e w' ⟨rfl, rfl⟩
    have hmax : maxLen = 9223372036854775807 := rfl
    have hge := grownCap_ge w (0 + n) 0 (Try.growT_ren.t 25)
    have hle := grownCap_le_maxLen w (0 + n) 0 (Try.growT_ren.t 25) (by rw [hmax]; omega)
    generalize grownCap w (0 + n) 0 (Try.growT_ren.t 25) = cap at *
    refine ⟨_, Z, ind w.heap.size, fun _ => 0, rfl, ⟨⟨rfl, ?_⟩, fun _ => rfl, fun b => by simp only [ind]; split <;> omega, fun b hb => ?_, fun _ h => h, fun _ h => .inl h, fun b hb => ?_, Fr.allocD _ _ _⟩⟩
    · simp only [RepX]
      refine .inr ⟨w.heap.size, cap, _, _, rfl, hle, fun b => rfl, (by show (w.heap.push _)[w.heap.size]? = _; simp; exact ⟨rfl, rfl⟩), ?_⟩
      simp only [List.size_toArray, List.length_nil, Array.size_append, size_zeroCells, Value.cells]
      simp
      omega
    · simp only [ind] at hb
      split at hb
      · rename_i e; rw [e]; exact ⟨by show w.heap.size < (w.heap.push _).size; simp, .inl (Nat.le_refl _)⟩
      · omega
    · have := hZ b hb
      simp only [ind]
      rw [if_neg (by omega)]
end AS.W
