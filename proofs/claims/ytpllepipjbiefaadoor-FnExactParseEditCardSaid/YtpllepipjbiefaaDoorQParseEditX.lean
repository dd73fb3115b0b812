/- Contracts of the library, laid at this program. No condition. -/
import Derived.Test.YtpllepipjbiefaaDoorKc
import Derived.Shelf.Strings.Builder1
import Derived.Shelf.Strconv.Itoa0
import Derived.Shelf.Strconv.Itoa1
import Derived.Shelf.LaysM
import Derived.Shelf.Strconv.Itoa2
import Derived.Shelf.Strconv.Itoa3
import Derived.Shelf.Strings.Search1
import Derived.Shelf.Strings.Search2
import Derived.Shelf.Strings.Search3
import Derived.Shelf.Strings.Cut
import Derived.Shelf.Strings.Shaped
import Derived.Shelf.Unicode.DecodeSlow
import Derived.Shelf.Strings.SplitCore
import Derived.RangeFuncBox
import Derived.RangeFuncLeaves
import Derived.Shelf.Abstract
import Derived.WalkKit
import Derived.OwnWalkIn
import Derived.TacticsInMore
import Derived.LoopNIn
import Derived.LoopIn
import Derived.Test.YtpllepipjbiefaaDoorProg
set_option maxRecDepth 100000
set_option linter.unusedVariables false
set_option linter.unusedSimpArgs false
namespace Go.Proofs
open Go.Shelf
def Tryd.lays171_ren : Go.Shelf.Ren := ⟨fun | 171 => 34 | 243 => 60 | 246 => 87 | 283 => 96 | 284 => 97 | 285 => 98 | 286 => 99 | 129 => 106 | 317 => 105 | 318 => 107 | 319 => 108 | 320 => 109 | 337 => 112 | 338 => 113 | n => n, fun | 3 => 3 | 9 => 9 | 2 => 2 | 4 => 4 | 171 => 118 | 0 => 0 | 53 => 119 | 37 => 65 | 5 => 5 | 173 => 122 | 212 => 127 | 51 => 128 | 20 => 20 | 213 => 129 | 46 => 98 | 232 => 139 | 233 => 140 | n => n, fun | 17 => 1 | 18 => 4 | 19 => 5 | n => n⟩
theorem Tryd.lays171 : Go.Proofs.Lays.n171 Tryd.prog Tryd.lays171_ren := {
  mixed := by kernel_rfl
  f129 := Tryd.func106.trans (congrArg some (by kernel_rfl))
  f171 := Tryd.func34.trans (congrArg some (by kernel_rfl))
  f243 := Tryd.func60.trans (congrArg some (by kernel_rfl))
  f246 := Tryd.func87.trans (congrArg some (by kernel_rfl))
  f283 := Tryd.func96.trans (congrArg some (by kernel_rfl))
  f284 := Tryd.func97.trans (congrArg some (by kernel_rfl))
  f285 := Tryd.func98.trans (congrArg some (by kernel_rfl))
  f286 := Tryd.func99.trans (congrArg some (by kernel_rfl))
  f317 := Tryd.func105.trans (congrArg some (by kernel_rfl))
  f318 := Tryd.func107.trans (congrArg some (by kernel_rfl))
  f319 := Tryd.func108.trans (congrArg some (by kernel_rfl))
  f320 := Tryd.func109.trans (congrArg some (by kernel_rfl))
  f337 := Tryd.func112.trans (congrArg some (by kernel_rfl))
  f338 := Tryd.func113.trans (congrArg some (by kernel_rfl))
  t0 := Tryd.underlying0
  a0 := Tryd.isAgg0
  z0 := Tryd.sizeOf0
  v0 := Tryd.zeroValue0
  t2 := Tryd.underlying2
  a2 := Tryd.isAgg2
  z2 := Tryd.sizeOf2
  v2 := Tryd.zeroValue2
  t3 := Tryd.underlying3
  a3 := Tryd.isAgg3
  z3 := Tryd.sizeOf3
  v3 := Tryd.zeroValue3
  t4 := Tryd.underlying4
  a4 := Tryd.isAgg4
  z4 := Tryd.sizeOf4
  v4 := Tryd.zeroValue4
  t5 := Tryd.underlying5
  a5 := Tryd.isAgg5
  z5 := Tryd.sizeOf5
  v5 := Tryd.zeroValue5
  t9 := Tryd.underlying9
  a9 := Tryd.isAgg9
  z9 := Tryd.sizeOf9
  v9 := Tryd.zeroValue9
  t20 := Tryd.underlying20
  a20 := Tryd.isAgg20
  z20 := Tryd.sizeOf20
  v20 := Tryd.zeroValue20
  t37 := Tryd.underlying65
  a37 := Tryd.isAgg65
  z37 := Tryd.sizeOf65
  v37 := Tryd.zeroValue65
  t46 := Tryd.underlying98
  a46 := Tryd.isAgg98
  z46 := Tryd.sizeOf98
  v46 := Tryd.zeroValue98
  t51 := Tryd.underlying128
  a51 := Tryd.isAgg128
  z51 := Tryd.sizeOf128
  v51 := Tryd.zeroValue128
  t53 := Tryd.underlying119
  a53 := Tryd.isAgg119
  z53 := Tryd.sizeOf119
  v53 := Tryd.zeroValue119
  t171 := Tryd.underlying118
  a171 := Tryd.isAgg118
  z171 := Tryd.sizeOf118
  v171 := Tryd.zeroValue118
  t173 := Tryd.underlying122
  a173 := Tryd.isAgg122
  z173 := Tryd.sizeOf122
  v173 := Tryd.zeroValue122
  t212 := Tryd.underlying127
  a212 := Tryd.isAgg127
  z212 := Tryd.sizeOf127
  v212 := Tryd.zeroValue127
  t213 := Tryd.underlying129
  a213 := Tryd.isAgg129
  z213 := Tryd.sizeOf129
  t232 := Tryd.underlying139
  a232 := Tryd.isAgg139
  z232 := Tryd.sizeOf139
  v232 := Tryd.zeroValue139
  t233 := Tryd.underlying140
  a233 := Tryd.isAgg140
  z233 := Tryd.sizeOf140
  v233 := Tryd.zeroValue140
  g17 := by kernel_rfl
  g18 := by kernel_rfl
  g19 := by kernel_rfl }
open Go.RowKit Go.Sort Go.Lib in
theorem Tryd.strconv_Itoa_small (i : Nat) (hi : i < 100) (w : World) :
    Calls Tryd.prog 34 #[.int .i64 i] w fun e w' => e = .returned (.string ⟨(Lib.decDigits i).toArray⟩) ∧ w' = w := Any.strconv_Itoa_small Tryd.lays171 i hi w
def Tryd.lays219_ren : Go.Shelf.Ren := ⟨fun | 219 => 93 | 217 => 101 | 225 => 102 | 224 => 103 | 267 => 104 | 266 => 110 | 314 => 111 | n => n, fun | 9 => 9 | 3 => 3 | 4 => 4 | 5 => 5 | 46 => 98 | 146 => 136 | 51 => 128 | n => n, fun | 1 => 0 | n => n⟩
theorem Tryd.lays219 : Go.Proofs.Lays.n219 Tryd.prog Tryd.lays219_ren := {
  mixed := by kernel_rfl
  f217 := Tryd.func101.trans (congrArg some (by kernel_rfl))
  f219 := Tryd.func93.trans (congrArg some (by kernel_rfl))
  f224 := Tryd.func103.trans (congrArg some (by kernel_rfl))
  f225 := Tryd.func102.trans (congrArg some (by kernel_rfl))
  f266 := Tryd.func110.trans (congrArg some (by kernel_rfl))
  f267 := Tryd.func104.trans (congrArg some (by kernel_rfl))
  f314 := Tryd.func111.trans (congrArg some (by kernel_rfl))
  t3 := Tryd.underlying3
  a3 := Tryd.isAgg3
  z3 := Tryd.sizeOf3
  v3 := Tryd.zeroValue3
  t4 := Tryd.underlying4
  a4 := Tryd.isAgg4
  z4 := Tryd.sizeOf4
  v4 := Tryd.zeroValue4
  t5 := Tryd.underlying5
  a5 := Tryd.isAgg5
  z5 := Tryd.sizeOf5
  v5 := Tryd.zeroValue5
  t9 := Tryd.underlying9
  a9 := Tryd.isAgg9
  z9 := Tryd.sizeOf9
  v9 := Tryd.zeroValue9
  t46 := Tryd.underlying98
  a46 := Tryd.isAgg98
  z46 := Tryd.sizeOf98
  v46 := Tryd.zeroValue98
  t51 := Tryd.underlying128
  a51 := Tryd.isAgg128
  z51 := Tryd.sizeOf128
  v51 := Tryd.zeroValue128
  t146 := Tryd.underlying136
  a146 := Tryd.isAgg136
  z146 := Tryd.sizeOf136
  v146 := Tryd.zeroValue136
  g1 := by kernel_rfl }
open Go.RowKit Go.Lib in
theorem Tryd.stringslite_Index_one (s : ByteArray) (c : UInt8) (w : World) :
    Calls Tryd.prog 93 #[.string s, .string ⟨#[c]⟩] w fun e w' => e = .returned (.int .i64 (Lib.indexByte s.data.toList c)) ∧ w' = w := Any.stringslite_Index_one Tryd.lays219 s c w
def Tryd.lays143_ren : Go.Shelf.Ren := ⟨fun | 143 => 92 | 219 => 93 | 217 => 101 | 225 => 102 | 224 => 103 | 267 => 104 | 266 => 110 | 314 => 111 | n => n, fun | 9 => 9 | 3 => 3 | 4 => 4 | 5 => 5 | 46 => 98 | 146 => 136 | 51 => 128 | n => n, fun | 1 => 0 | n => n⟩
theorem Tryd.lays143 : Go.Proofs.Lays.n143 Tryd.prog Tryd.lays143_ren := {
  mixed := by kernel_rfl
  f143 := Tryd.func92.trans (congrArg some (by kernel_rfl))
  f217 := Tryd.func101.trans (congrArg some (by kernel_rfl))
  f219 := Tryd.func93.trans (congrArg some (by kernel_rfl))
  f224 := Tryd.func103.trans (congrArg some (by kernel_rfl))
  f225 := Tryd.func102.trans (congrArg some (by kernel_rfl))
  f266 := Tryd.func110.trans (congrArg some (by kernel_rfl))
  f267 := Tryd.func104.trans (congrArg some (by kernel_rfl))
  f314 := Tryd.func111.trans (congrArg some (by kernel_rfl))
  t3 := Tryd.underlying3
  a3 := Tryd.isAgg3
  z3 := Tryd.sizeOf3
  v3 := Tryd.zeroValue3
  t4 := Tryd.underlying4
  a4 := Tryd.isAgg4
  z4 := Tryd.sizeOf4
  v4 := Tryd.zeroValue4
  t5 := Tryd.underlying5
  a5 := Tryd.isAgg5
  z5 := Tryd.sizeOf5
  v5 := Tryd.zeroValue5
  t9 := Tryd.underlying9
  a9 := Tryd.isAgg9
  z9 := Tryd.sizeOf9
  v9 := Tryd.zeroValue9
  t46 := Tryd.underlying98
  a46 := Tryd.isAgg98
  z46 := Tryd.sizeOf98
  v46 := Tryd.zeroValue98
  t51 := Tryd.underlying128
  a51 := Tryd.isAgg128
  z51 := Tryd.sizeOf128
  v51 := Tryd.zeroValue128
  t146 := Tryd.underlying136
  a146 := Tryd.isAgg136
  z146 := Tryd.sizeOf136
  v146 := Tryd.zeroValue136
  g1 := by kernel_rfl }
open Go.RowKit Go.Lib in
theorem Tryd.strings_Index_one (s : ByteArray) (c : UInt8) (w : World) :
    Calls Tryd.prog 92 #[.string s, .string ⟨#[c]⟩] w fun e w' => e = .returned (.int .i64 (Lib.indexByte s.data.toList c)) ∧ w' = w := Any.strings_Index_one Tryd.lays143 s c w
end Go.Proofs
namespace AS.W
open Go Go.Proofs Go.RowKit
/-- What a call leaves that returns a string and turns nothing below the heap's end. -/
theorem ret_below {w w' : World} {Z : Nat → Prop} {F : FP} {vs : List Value} {d : D} {v : Value} (hr : RepV w' Z d v (fun _ => 0)) (hb : Below w.heap.size w w') : Returns w Z F vs [] [d] v w' Z (fun _ => 0) (fun _ => 0) :=
  ⟨hr, fun _ => rfl, fun _ => Nat.zero_le _, fun b hb => absurd hb (Nat.lt_irrefl 0), fun _ h => h, fun _ h => .inl h, fun _ _ => rfl, ⟨hb.os, hb.tape, hb.output, hb.size, fun k hk _ => hb.block k hk⟩⟩
theorem rep_strs {w : World} {Z : Nat → Prop} : ∀ {l : List (List UInt8)} {xs : List Value} {f : FP}, RepXs w Z (l.map cS.enc) xs f → xs = l.map fun s => Value.string ⟨s.toArray⟩
  | [], xs, f, h => by simp only [List.map_nil, RepXs] at h; exact h.1
  | s :: l, xs, f, h => by
    simp only [List.map_cons, RepXs] at h
    obtain ⟨c1, c2, f1, f2, rfl, _, h3, h4⟩ := h
    have h5 : RepX w Z (.str s) c1 f1 := h3
    simp only [RepX] at h5
    rw [h5.1, rep_strs h4]; rfl
end AS.W
namespace AS.W
open Go Go.Proofs Go.RowKit
theorem pcs_miss {c : UInt8} : ∀ {r cur : List UInt8}, Go.Lib.indexByte r c = -1 → pcsA c cur r = [cur ++ r]
  | [], cur, _ => by simp [pcsA]
  | b :: r, cur, h => by
    simp only [Go.Lib.indexByte] at h
    by_cases hb : b = c
    · simp [hb] at h
    · have hb' : (b == c) = false := by simpa using hb
      simp only [hb', Bool.false_eq_true, if_false] at h
      have hr : Go.Lib.indexByte r c = -1 := by
        by_cases hr : Go.Lib.indexByte r c = -1
        · exact hr
        · have := Go.Lib.indexByte_ge r c
          have h2 : ¬ (Go.Lib.indexByte r c == -1) = true := by simpa using hr
          rw [if_neg h2] at h; omega
      simp only [pcsA, hb, if_false]
      rw [pcs_miss hr]; simp
theorem pcs_hit {c : UInt8} : ∀ {r cur : List UInt8} {k : Nat}, Go.Lib.indexByte r c = (k : Int) → k < r.length ∧ pcsA c cur r = (cur ++ r.take k) :: pcsA c [] (r.drop (k + 1))
  | [], cur, k, h => by simp only [Go.Lib.indexByte] at h; omega
  | b :: r, cur, k, h => by
    simp only [Go.Lib.indexByte] at h
    by_cases hb : b = c
    · have : (b == c) = true := by simpa using hb
      rw [if_pos this] at h
      obtain rfl : k = 0 := by omega
      simp [pcsA, hb]
    · have hb' : (b == c) = false := by simpa using hb
      simp only [hb', Bool.false_eq_true, if_false] at h
      have hge := Go.Lib.indexByte_ge r c
      by_cases hr : Go.Lib.indexByte r c = -1
      · rw [if_pos (by simpa using hr)] at h; omega
      · rw [if_neg (by simpa using hr)] at h
        obtain ⟨j, rfl⟩ : ∃ j, k = j + 1 := ⟨k - 1, by omega⟩
        obtain ⟨h1, h2⟩ := pcs_hit (c := c) (r := r) (cur := cur ++ [b]) (k := j) (by omega)
        refine ⟨by simp; omega, ?_⟩
        simp only [pcsA, hb, if_false]
        rw [h2]; simp
theorem extract_take (r : List UInt8) (k : Nat) : (⟨r.toArray⟩ : ByteArray).extract 0 k = ⟨(r.take k).toArray⟩ := by
  have h := Go.Lib.extract_from_zero (⟨r.toArray⟩ : ByteArray) k
  cases he : (⟨r.toArray⟩ : ByteArray).extract 0 k with
  | mk d =>
    rw [he] at h
    simp only [] at h
    congr 1
    exact Array.ext' (by simpa using h)
theorem extract_drop (r : List UInt8) (k : Nat) : (⟨r.toArray⟩ : ByteArray).extract k r.length = ⟨(r.drop k).toArray⟩ := by
  have h := Go.Lib.extract_to_end (⟨r.toArray⟩ : ByteArray) k
  have hs : (⟨r.toArray⟩ : ByteArray).size = r.length := by simp [ByteArray.size]
  rw [hs] at h
  cases he : (⟨r.toArray⟩ : ByteArray).extract k r.length with
  | mk d =>
    rw [he] at h
    simp only [] at h
    congr 1
    exact Array.ext' (by simpa using h)
end AS.W
namespace AS.W
open Go Go.Proofs Go.RowKit Go.Shelf
def restLen (gs : Nat) (w : World) : Nat := match w.cell? ⟨gs, 0, none⟩ with
  | some (.string b) => b.size
  | _ => 0
set_option maxHeartbeats 4000000 in
theorem split_walk {c : UInt8} {s : List UInt8} (hlen : s.length ≤ 9223372036854775807) {g1 o1 gs g3 o3 : Nat} {e0 : TypeId} {Z : Nat → Prop} {f : FP} (hf : ∀ b, f b = if b = gs then 1 else 0) (hZ1 : Z g1) (hZ3 : Z g3) (hn1 : g1 ≠ gs) (hn3 : g3 ≠ gs)
    (l : Nat) (J Jx : List (List UInt8) → World → Prop) (hJ : ∀ pre A B, J pre A → Fr f A B → J pre B) (hJx : ∀ pre A B, Jx pre A → Fr f A B → Jx pre B)
    (hY : ∀ pre x suf W, pcs c s = pre ++ x :: suf → x.length ≤ maxLen → J pre W → ∀ m, YieldAt Fence.wide m Tryd.prog l #[.string ⟨x.toArray⟩] W fun e W' =>
        (e = .returned (.bool true) ∧ J (pre ++ [x]) W' ∧ KpZ Z f W W') ∨ (e = .returned (.bool false) ∧ Jx (pre ++ [x]) W'))
    (W : World) (h1 : W.cell? ⟨g1, o1, none⟩ = some (.string ⟨#[c]⟩)) (h3 : W.cell? ⟨g3, o3, none⟩ = some (.int .i64 0)) (h2 : W.heap[gs]? = some (.cells #[.string ⟨s.toArray⟩] e0 (0, 0))) (h0 : J [] W) :
    CallsIn Fence.wide 3 Tryd.prog 90 #[.func (.yield l) #[] #[], .pointer (some ⟨g1, o1, none⟩), .pointer (some ⟨gs, 0, none⟩), .pointer (some ⟨g3, o3, none⟩)] W fun e W' => (∃ v, e = .returned v) ∧ (J (pcs c s) W' ∨ ∃ pre, Jx pre W') := by
  refine callsIn_of_wp Tryd.func90 rfl trivial ?_ rfl
  simp only [Tryd.ntmps90, List.size_toArray, List.length_cons, List.length_nil, Nat.reduceAdd, Nat.reduceSub, Array.replicate_succ, Array.replicate_zero, List.push_toArray, List.append_toArray, List.nil_append, List.cons_append]
  have hc2 : W.cell? ⟨gs, 0, none⟩ = some (.string ⟨s.toArray⟩) := by simp [World.cell?, h2]
  gi_wp2
  gi_loopw [] (fun wr => ∃ (pre : List (List UInt8)) (r : List UInt8), pcs c s = pre ++ pcs c r ∧ r.length ≤ s.length ∧ wr.heap[gs]? = some (.cells #[.string ⟨r.toArray⟩] e0 (0, 0)) ∧
      wr.cell? ⟨g1, o1, none⟩ = some (.string ⟨#[c]⟩) ∧ wr.cell? ⟨g3, o3, none⟩ = some (.int .i64 0) ∧ J pre wr) (fun wr => restLen gs wr)
  case atStart => exact ⟨[], s, rfl, Nat.le_refl _, h2, h1, h3, h0⟩
  case round =>
    obtain ⟨pre, r, hx, hrl, hh, hc1, hc3, hJ0⟩ := hrel
    have hcr : wr.cell? ⟨gs, 0, none⟩ = some (.string ⟨r.toArray⟩) := by simp [World.cell?, hh]
    by_cases hi : Go.Lib.indexByte r c = -1
    · have hp : pcs c r = [r] := by unfold pcs; rw [pcs_miss hi]; rfl
      obtain ⟨fn, tmps, assign, body, hy, hR⟩ := hY pre r [] wr (by rw [hx, hp]) (by have : maxLen = 9223372036854775807 := rfl; omega) hJ0 2
      gi_wp2_with (refine ⟨trivial, ?_⟩; gi_at_call 92; refine (callsIn_wide.2 (Tryd.strings_Index_one ⟨r.toArray⟩ c _)).mono ?_; rintro e w' ⟨rfl, rfl⟩; rw [hi])
      refine hR.mono ?_
      rintro e W3 (⟨rfl, hJ3, hk3⟩ | ⟨rfl, hJx3⟩)
      · gi_wp2
        go_end0
        exact ⟨⟨_, rfl⟩, .inl (by rw [hx, hp]; exact hJ3)⟩
      · gi_wp2
        go_end0
        exact ⟨⟨_, rfl⟩, .inr ⟨_, hJx3⟩⟩
    · obtain ⟨k, hk⟩ : ∃ k : Nat, Go.Lib.indexByte r c = (k : Int) := ⟨(Go.Lib.indexByte r c).toNat, by have := Go.Lib.indexByte_ge r c; omega⟩
      obtain ⟨hkl, hp⟩ := pcs_hit (cur := []) hk
      have hp : pcs c r = r.take k :: pcs c (r.drop (k + 1)) := by simpa [pcs] using hp
      obtain ⟨fn, tmps, assign, body, hy, hR⟩ := hY pre (r.take k) (pcs c (r.drop (k + 1))) wr (by rw [hx, hp]) (by have : maxLen = 9223372036854775807 := rfl; simp; omega) hJ0 2
      rw [← extract_take] at hy
      gi_wp2_with (refine ⟨trivial, ?_⟩; gi_at_call 92; refine (callsIn_wide.2 (Tryd.strings_Index_one ⟨r.toArray⟩ c _)).mono ?_; rintro e w' ⟨rfl, rfl⟩; rw [hk])
      refine hR.mono ?_
      rintro e W3 (⟨rfl, hJ3, hk3⟩ | ⟨rfl, hJx3⟩)
      · have a2 : W3.heap[gs]? = some (.cells #[.string ⟨r.toArray⟩] e0 (0, 0)) := (hk3.2 gs (.inr (by rw [hf]; simp))).trans hh
        have a1 : W3.cell? ⟨g1, o1, none⟩ = some (.string ⟨#[c]⟩) := (World.cell?_of_block (hk3.2 g1 (.inl hZ1))).trans hc1
        have a3 : W3.cell? ⟨g3, o3, none⟩ = some (.int .i64 0) := (World.cell?_of_block (hk3.2 g3 (.inl hZ3))).trans hc3
        have acr : W3.cell? ⟨gs, 0, none⟩ = some (.string ⟨r.toArray⟩) := by simp [World.cell?, a2]
        have afr : W3.frozen? ⟨gs, 0, none⟩ = false := by simp [World.frozen?, a2]
        gi_wp2
        rw [extract_drop]
        have b2 : (W3.setCell ⟨gs, 0, none⟩ (.string ⟨(r.drop (k + 1)).toArray⟩)).heap[gs]? = some (.cells #[.string ⟨(r.drop (k + 1)).toArray⟩] e0 (0, 0)) := by simp [World.setCell, Array.getElem?_modify, a2]
        have b0 : ∀ b, b ≠ gs → (W3.setCell ⟨gs, 0, none⟩ (.string ⟨(r.drop (k + 1)).toArray⟩)).heap[b]? = W3.heap[b]? := fun b hb => Below.heap_setCell W3 _ _ b hb
        have bfr : Fr f W3 (W3.setCell ⟨gs, 0, none⟩ (.string ⟨(r.drop (k + 1)).toArray⟩)) :=
          ⟨rfl, rfl, rfl, (KeepsWalks.setCell W3 _ _).size, fun b _ h => b0 b (fun e => by rw [hf, if_pos e] at h; omega)⟩
        generalize W3.setCell ⟨gs, 0, none⟩ (.string ⟨(r.drop (k + 1)).toArray⟩) = W4 at *
        refine ⟨⟨pre ++ [r.take k], r.drop (k + 1), by rw [hx, hp]; simp, by simp; omega, b2, (World.cell?_of_block (b0 g1 hn1)).trans a1, (World.cell?_of_block (b0 g3 hn3)).trans a3, hJ _ _ _ hJ3 bfr⟩, ?_⟩
        simp only [restLen, World.cell?, b2, hh]
        simp [ByteArray.size]
        omega
      · gi_wp2
        refine bodyPost_ret (results_none rfl _ _ _) rfl ?_
        exact ⟨⟨_, rfl⟩, .inr ⟨_, hJx3⟩⟩
theorem it_split {u s : List UInt8} {n : Int} (h : u.length = 1 ∧ n = 0) : IterD Tryd.prog 90 [.ptr false (cS.enc u), .ptr true (cS.enc s), .ptr false (cI.enc n)] (pcs (u.headD 0) s) := by
  obtain ⟨hu, rfl⟩ := h
  obtain ⟨c, rfl⟩ : ∃ c, u = [c] := by
    cases u with
    | nil => simp at hu
    | cons c u => cases u with
      | nil => exact ⟨c, rfl⟩
      | cons _ _ => simp at hu
  refine ⟨fun args w => enters_of Tryd.func90 (by kernel_rfl) rfl args w, ?_⟩
  intro w Z cp f hrep hf1 hfs hZ l J Jx hJ hJx hY h0
  have hrep : RepXs w Z [.ptr false (.str [c]), .ptr true (.str s), .ptr false (.int .i64 0)] cp f := hrep
  simp only [RepXs, RepX] at hrep
  obtain ⟨c1, c2, f1, f2, rfl, e1, ⟨g1, o1, cs1, q1, rfl, ⟨rfl, hl1, _⟩, k1⟩, c3, c4, f3, f4, rfl, e2, ⟨g2, o2, cs2, q2, rfl, ⟨rfl, hl2, hq2⟩, k2⟩, c5, c6, f5, f6, rfl, e3, ⟨g3, o3, cs3, q3, rfl, ⟨rfl, _⟩, k3⟩, rfl, e4⟩ := hrep
  have k1 := k1.resolve_right (by simp)
  have k2 := k2.resolve_left (by simp)
  have k3 := k3.resolve_right (by simp)
  obtain ⟨_, hz1, hf1', _, hc1⟩ := k1
  obtain ⟨_, rfl, hf3, cur, e0, hh, hcur⟩ := k2
  obtain ⟨_, hz3, hf5, _, hc3⟩ := k3
  have hff : ∀ b, f b = if b = g2 then 1 else 0 := fun b => by
    have := e1 b; have := e2 b; have := e3 b; have := e4 b; have := hf1' b; have := hf5 b; have := hf3 b; have := hq2 b; omega
  obtain rfl : cur = #[.string ⟨s.toArray⟩] := Array.ext' hcur
  have h1 := hc1 0 (.string ⟨[c].toArray⟩) rfl
  have h3 := hc3 0 (.int .i64 0) rfl
  rw [Nat.add_zero] at h1 h3
  have hn : ∀ g, Z g → g ≠ g2 := fun g hg e => by have := (hZ g hg).2; rw [hff, if_pos e] at this; omega
  exact callsIn_wide.1 (split_walk hl2 hff hz1 hz3 (hn _ hz1) (hn _ hz3) l J Jx hJ hJx hY w h1 h3 hh h0)
end AS.W
