/- Contracts of the library, laid at this program. No condition. -/
import Derived.Test.YtpllepipjbiefaaDoorKc
import Derived.Shelf.Strings.Builder1
import Derived.Shelf.Strconv.Itoa0
import Derived.Shelf.Strconv.Itoa1
import Derived.Shelf.LaysM
import Derived.Shelf.Strconv.Itoa2
import Derived.Shelf.Strconv.Itoa3
import Derived.Shelf.Strings.Search1
import Derived.Shelf.Strings.Search2
import Derived.Shelf.Strings.Search3
import Derived.Shelf.Strings.Cut
import Derived.Shelf.Strings.Shaped
import Derived.Shelf.Unicode.Decode
import Derived.Shelf.Unicode.DecodeSlow
import Derived.Shelf.Unicode.DecodeAny
import Derived.WalkKit
import Derived.Lib.ItoaLen
import Derived.Test.YtpllepipjbiefaaDoorProg
set_option maxRecDepth 100000
set_option linter.unusedVariables false
set_option linter.unusedSimpArgs false
namespace Go.Proofs
open Go.Shelf
def Tryd.lays169_ren : Go.Shelf.Ren := ⟨fun | 169 => 35 | n => n, fun | 70 => 64 | 9 => 9 | 0 => 0 | 72 => 67 | 37 => 65 | 127 => 92 | 3 => 3 | 5 => 5 | n => n, fun | n => n⟩
theorem Tryd.lays169 : Go.Proofs.Lays.n169 Tryd.prog Tryd.lays169_ren := {
  mixed := by kernel_rfl
  f169 := Tryd.func35.trans (congrArg some (by kernel_rfl))
  t0 := Tryd.underlying0
  a0 := Tryd.isAgg0
  z0 := Tryd.sizeOf0
  v0 := Tryd.zeroValue0
  t3 := Tryd.underlying3
  a3 := Tryd.isAgg3
  z3 := Tryd.sizeOf3
  v3 := Tryd.zeroValue3
  t9 := Tryd.underlying9
  a9 := Tryd.isAgg9
  z9 := Tryd.sizeOf9
  v9 := Tryd.zeroValue9
  t37 := Tryd.underlying65
  a37 := Tryd.isAgg65
  z37 := Tryd.sizeOf65
  v37 := Tryd.zeroValue65
  t70 := Tryd.underlying64
  a70 := Tryd.isAgg64
  z70 := Tryd.sizeOf64
  v70 := Tryd.zeroValue64
  t72 := Tryd.underlying67
  a72 := Tryd.isAgg67
  z72 := Tryd.sizeOf67
  v72 := Tryd.zeroValue67
  t127 := Tryd.underlying92
  a127 := Tryd.isAgg92
  z127 := Tryd.sizeOf92
  v127 := Tryd.zeroValue92 }
theorem Tryd.Builder_Extra_169 : Builder.Extra Tryd.prog Tryd.lays169_ren := {
  sizeBuilder := by kernel_rfl
  liesBuilder := by kernel_rfl
  t5 := Tryd.underlying5
  a5 := Tryd.isAgg5
  z5 := Tryd.sizeOf5
  v5 := Tryd.zeroValue5
  infoByte := by kernel_rfl
  cellsByte := by kernel_rfl
  sizeByte := by kernel_rfl
  neB5 := by decide }
open Go.RowKit in
theorem Tryd.Builder_String_any (B b : Nat) (l : List UInt8) (w : World) (h : Lib.IsBuilder 67 5 B b (Lib.byteCells l) w) (hBw : B ≤ w.heap.size) :
    Calls Tryd.prog 35 #[.pointer (some ⟨b, 0, none⟩)] w fun e w' => e = .returned (.string ⟨l.toArray⟩) ∧ Below B w w' := Any.Builder_String_any Tryd.lays169 Tryd.Builder_Extra_169 B b l w h hBw
def Tryd.laysM171_ren : Go.Shelf.Ren := ⟨fun | 171 => 34 | 243 => 60 | 246 => 87 | 283 => 96 | 284 => 97 | 285 => 98 | 286 => 99 | 129 => 106 | 317 => 105 | 318 => 107 | 319 => 108 | 320 => 109 | 337 => 112 | 338 => 113 | n => n, fun | 3 => 3 | 9 => 9 | 2 => 2 | 4 => 4 | 171 => 118 | 0 => 0 | 53 => 119 | 37 => 65 | 5 => 5 | 173 => 122 | 212 => 127 | 51 => 128 | 20 => 20 | 213 => 129 | 46 => 98 | 232 => 139 | 233 => 140 | n => n, fun | 17 => 1 | 18 => 4 | 19 => 5 | n => n⟩
theorem Tryd.laysM171 : Go.Proofs.LaysM.n171 Tryd.prog Tryd.laysM171_ren := {
  mixed := by kernel_rfl
  f129 := Tryd.func106.trans (congrArg some (by kernel_rfl))
  f171 := Tryd.func34.trans (congrArg some (by kernel_rfl))
  f243 := Tryd.func60.trans (congrArg some (by kernel_rfl))
  f246 := Tryd.func87.trans (congrArg some (by kernel_rfl))
  f283 := Tryd.func96.trans (congrArg some (by kernel_rfl))
  f284 := Tryd.func97.trans (congrArg some (by kernel_rfl))
  f285 := Tryd.func98.trans (congrArg some (by kernel_rfl))
  f286 := Tryd.func99.trans (congrArg some (by kernel_rfl))
  f317 := Tryd.func105.trans (congrArg some (by kernel_rfl))
  f318 := Tryd.func107.trans (congrArg some (by kernel_rfl))
  f319 := Tryd.func108.trans (congrArg some (by kernel_rfl))
  f320 := Tryd.func109.trans (congrArg some (by kernel_rfl))
  f337 := Tryd.func112.trans (congrArg some (by kernel_rfl))
  f338 := Tryd.func113.trans (congrArg some (by kernel_rfl))
  t0 := Tryd.underlying0
  a0 := Tryd.isAgg0
  z0 := Tryd.sizeOf0
  v0 := Tryd.zeroValue0
  t2 := Tryd.underlying2
  a2 := Tryd.isAgg2
  z2 := Tryd.sizeOf2
  v2 := Tryd.zeroValue2
  t3 := Tryd.underlying3
  a3 := Tryd.isAgg3
  z3 := Tryd.sizeOf3
  v3 := Tryd.zeroValue3
  t4 := Tryd.underlying4
  a4 := Tryd.isAgg4
  z4 := Tryd.sizeOf4
  v4 := Tryd.zeroValue4
  t5 := Tryd.underlying5
  a5 := Tryd.isAgg5
  z5 := Tryd.sizeOf5
  v5 := Tryd.zeroValue5
  t9 := Tryd.underlying9
  a9 := Tryd.isAgg9
  z9 := Tryd.sizeOf9
  v9 := Tryd.zeroValue9
  t20 := Tryd.underlying20
  a20 := Tryd.isAgg20
  z20 := Tryd.sizeOf20
  v20 := Tryd.zeroValue20
  t37 := Tryd.underlying65
  a37 := Tryd.isAgg65
  z37 := Tryd.sizeOf65
  v37 := Tryd.zeroValue65
  t46 := Tryd.underlying98
  a46 := Tryd.isAgg98
  z46 := Tryd.sizeOf98
  v46 := Tryd.zeroValue98
  t51 := Tryd.underlying128
  a51 := Tryd.isAgg128
  z51 := Tryd.sizeOf128
  v51 := Tryd.zeroValue128
  t53 := Tryd.underlying119
  a53 := Tryd.isAgg119
  z53 := Tryd.sizeOf119
  v53 := Tryd.zeroValue119
  t171 := Tryd.underlying118
  a171 := Tryd.isAgg118
  z171 := Tryd.sizeOf118
  v171 := Tryd.zeroValue118
  t173 := Tryd.underlying122
  a173 := Tryd.isAgg122
  z173 := Tryd.sizeOf122
  v173 := Tryd.zeroValue122
  t212 := Tryd.underlying127
  a212 := Tryd.isAgg127
  z212 := Tryd.sizeOf127
  v212 := Tryd.zeroValue127
  t213 := Tryd.underlying129
  a213 := Tryd.isAgg129
  z213 := Tryd.sizeOf129
  t232 := Tryd.underlying139
  a232 := Tryd.isAgg139
  z232 := Tryd.sizeOf139
  v232 := Tryd.zeroValue139
  t233 := Tryd.underlying140
  a233 := Tryd.isAgg140
  z233 := Tryd.sizeOf140
  v233 := Tryd.zeroValue140
  g17 := by kernel_rfl
  g18 := by kernel_rfl
  g19 := by kernel_rfl
  i0 := by kernel_rfl
  i2 := by kernel_rfl
  i3 := by kernel_rfl
  i4 := by kernel_rfl
  i5 := by kernel_rfl
  i9 := by kernel_rfl
  i20 := by kernel_rfl
  i37 := by kernel_rfl
  i46 := by kernel_rfl
  i51 := by kernel_rfl
  i53 := by kernel_rfl
  i171 := by kernel_rfl
  i173 := by kernel_rfl
  i212 := by kernel_rfl
  i232 := by kernel_rfl
  i233 := by kernel_rfl
  m17 := by kernel_rfl
  m18 := by kernel_rfl
  m19 := by kernel_rfl }
open Go.RowKit Go.Sort Go.Lib in
theorem Tryd.strconv_Itoa (n : Int) (h0 : -9223372036854775808 ≤ n) (h1 : n ≤ 9223372036854775807) (w : World) (htab : Lib.TabIs Tryd.prog w "internal/strconv.uint64pow10" .u64 Lib.pow10Tab) :
    Calls Tryd.prog 34 #[.int .i64 n] w fun e w' => e = .returned (.string ⟨(Lib.itoa n).toArray⟩) ∧ ∃ k os, w' = grow (w.drewN k) os := Any.strconv_Itoa Tryd.laysM171 n h0 h1 w htab
def Tryd.lays171_ren : Go.Shelf.Ren := ⟨fun | 171 => 34 | 243 => 60 | 246 => 87 | 283 => 96 | 284 => 97 | 285 => 98 | 286 => 99 | 129 => 106 | 317 => 105 | 318 => 107 | 319 => 108 | 320 => 109 | 337 => 112 | 338 => 113 | n => n, fun | 3 => 3 | 9 => 9 | 2 => 2 | 4 => 4 | 171 => 118 | 0 => 0 | 53 => 119 | 37 => 65 | 5 => 5 | 173 => 122 | 212 => 127 | 51 => 128 | 20 => 20 | 213 => 129 | 46 => 98 | 232 => 139 | 233 => 140 | n => n, fun | 17 => 1 | 18 => 4 | 19 => 5 | n => n⟩
theorem Tryd.lays171 : Go.Proofs.Lays.n171 Tryd.prog Tryd.lays171_ren := {
  mixed := by kernel_rfl
  f129 := Tryd.func106.trans (congrArg some (by kernel_rfl))
  f171 := Tryd.func34.trans (congrArg some (by kernel_rfl))
  f243 := Tryd.func60.trans (congrArg some (by kernel_rfl))
  f246 := Tryd.func87.trans (congrArg some (by kernel_rfl))
  f283 := Tryd.func96.trans (congrArg some (by kernel_rfl))
  f284 := Tryd.func97.trans (congrArg some (by kernel_rfl))
  f285 := Tryd.func98.trans (congrArg some (by kernel_rfl))
  f286 := Tryd.func99.trans (congrArg some (by kernel_rfl))
  f317 := Tryd.func105.trans (congrArg some (by kernel_rfl))
  f318 := Tryd.func107.trans (congrArg some (by kernel_rfl))
  f319 := Tryd.func108.trans (congrArg some (by kernel_rfl))
  f320 := Tryd.func109.trans (congrArg some (by kernel_rfl))
  f337 := Tryd.func112.trans (congrArg some (by kernel_rfl))
  f338 := Tryd.func113.trans (congrArg some (by kernel_rfl))
  t0 := Tryd.underlying0
  a0 := Tryd.isAgg0
  z0 := Tryd.sizeOf0
  v0 := Tryd.zeroValue0
  t2 := Tryd.underlying2
  a2 := Tryd.isAgg2
  z2 := Tryd.sizeOf2
  v2 := Tryd.zeroValue2
  t3 := Tryd.underlying3
  a3 := Tryd.isAgg3
  z3 := Tryd.sizeOf3
  v3 := Tryd.zeroValue3
  t4 := Tryd.underlying4
  a4 := Tryd.isAgg4
  z4 := Tryd.sizeOf4
  v4 := Tryd.zeroValue4
  t5 := Tryd.underlying5
  a5 := Tryd.isAgg5
  z5 := Tryd.sizeOf5
  v5 := Tryd.zeroValue5
  t9 := Tryd.underlying9
  a9 := Tryd.isAgg9
  z9 := Tryd.sizeOf9
  v9 := Tryd.zeroValue9
  t20 := Tryd.underlying20
  a20 := Tryd.isAgg20
  z20 := Tryd.sizeOf20
  v20 := Tryd.zeroValue20
  t37 := Tryd.underlying65
  a37 := Tryd.isAgg65
  z37 := Tryd.sizeOf65
  v37 := Tryd.zeroValue65
  t46 := Tryd.underlying98
  a46 := Tryd.isAgg98
  z46 := Tryd.sizeOf98
  v46 := Tryd.zeroValue98
  t51 := Tryd.underlying128
  a51 := Tryd.isAgg128
  z51 := Tryd.sizeOf128
  v51 := Tryd.zeroValue128
  t53 := Tryd.underlying119
  a53 := Tryd.isAgg119
  z53 := Tryd.sizeOf119
  v53 := Tryd.zeroValue119
  t171 := Tryd.underlying118
  a171 := Tryd.isAgg118
  z171 := Tryd.sizeOf118
  v171 := Tryd.zeroValue118
  t173 := Tryd.underlying122
  a173 := Tryd.isAgg122
  z173 := Tryd.sizeOf122
  v173 := Tryd.zeroValue122
  t212 := Tryd.underlying127
  a212 := Tryd.isAgg127
  z212 := Tryd.sizeOf127
  v212 := Tryd.zeroValue127
  t213 := Tryd.underlying129
  a213 := Tryd.isAgg129
  z213 := Tryd.sizeOf129
  t232 := Tryd.underlying139
  a232 := Tryd.isAgg139
  z232 := Tryd.sizeOf139
  v232 := Tryd.zeroValue139
  t233 := Tryd.underlying140
  a233 := Tryd.isAgg140
  z233 := Tryd.sizeOf140
  v233 := Tryd.zeroValue140
  g17 := by kernel_rfl
  g18 := by kernel_rfl
  g19 := by kernel_rfl }
open Go.RowKit Go.Sort Go.Lib in
theorem Tryd.strconv_Itoa_small (i : Nat) (hi : i < 100) (w : World) :
    Calls Tryd.prog 34 #[.int .i64 i] w fun e w' => e = .returned (.string ⟨(Lib.decDigits i).toArray⟩) ∧ w' = w := Any.strconv_Itoa_small Tryd.lays171 i hi w
def Tryd.lays219_ren : Go.Shelf.Ren := ⟨fun | 219 => 93 | 217 => 101 | 225 => 102 | 224 => 103 | 267 => 104 | 266 => 110 | 314 => 111 | n => n, fun | 9 => 9 | 3 => 3 | 4 => 4 | 5 => 5 | 46 => 98 | 146 => 136 | 51 => 128 | n => n, fun | 1 => 0 | n => n⟩
theorem Tryd.lays219 : Go.Proofs.Lays.n219 Tryd.prog Tryd.lays219_ren := {
  mixed := by kernel_rfl
  f217 := Tryd.func101.trans (congrArg some (by kernel_rfl))
  f219 := Tryd.func93.trans (congrArg some (by kernel_rfl))
  f224 := Tryd.func103.trans (congrArg some (by kernel_rfl))
  f225 := Tryd.func102.trans (congrArg some (by kernel_rfl))
  f266 := Tryd.func110.trans (congrArg some (by kernel_rfl))
  f267 := Tryd.func104.trans (congrArg some (by kernel_rfl))
  f314 := Tryd.func111.trans (congrArg some (by kernel_rfl))
  t3 := Tryd.underlying3
  a3 := Tryd.isAgg3
  z3 := Tryd.sizeOf3
  v3 := Tryd.zeroValue3
  t4 := Tryd.underlying4
  a4 := Tryd.isAgg4
  z4 := Tryd.sizeOf4
  v4 := Tryd.zeroValue4
  t5 := Tryd.underlying5
  a5 := Tryd.isAgg5
  z5 := Tryd.sizeOf5
  v5 := Tryd.zeroValue5
  t9 := Tryd.underlying9
  a9 := Tryd.isAgg9
  z9 := Tryd.sizeOf9
  v9 := Tryd.zeroValue9
  t46 := Tryd.underlying98
  a46 := Tryd.isAgg98
  z46 := Tryd.sizeOf98
  v46 := Tryd.zeroValue98
  t51 := Tryd.underlying128
  a51 := Tryd.isAgg128
  z51 := Tryd.sizeOf128
  v51 := Tryd.zeroValue128
  t146 := Tryd.underlying136
  a146 := Tryd.isAgg136
  z146 := Tryd.sizeOf136
  v146 := Tryd.zeroValue136
  g1 := by kernel_rfl }
open Go.RowKit Go.Lib in
theorem Tryd.stringslite_Index_one (s : ByteArray) (c : UInt8) (w : World) :
    Calls Tryd.prog 93 #[.string s, .string ⟨#[c]⟩] w fun e w' => e = .returned (.int .i64 (Lib.indexByte s.data.toList c)) ∧ w' = w := Any.stringslite_Index_one Tryd.lays219 s c w
def Tryd.lays143_ren : Go.Shelf.Ren := ⟨fun | 143 => 92 | 219 => 93 | 217 => 101 | 225 => 102 | 224 => 103 | 267 => 104 | 266 => 110 | 314 => 111 | n => n, fun | 9 => 9 | 3 => 3 | 4 => 4 | 5 => 5 | 46 => 98 | 146 => 136 | 51 => 128 | n => n, fun | 1 => 0 | n => n⟩
theorem Tryd.lays143 : Go.Proofs.Lays.n143 Tryd.prog Tryd.lays143_ren := {
  mixed := by kernel_rfl
  f143 := Tryd.func92.trans (congrArg some (by kernel_rfl))
  f217 := Tryd.func101.trans (congrArg some (by kernel_rfl))
  f219 := Tryd.func93.trans (congrArg some (by kernel_rfl))
  f224 := Tryd.func103.trans (congrArg some (by kernel_rfl))
  f225 := Tryd.func102.trans (congrArg some (by kernel_rfl))
  f266 := Tryd.func110.trans (congrArg some (by kernel_rfl))
  f267 := Tryd.func104.trans (congrArg some (by kernel_rfl))
  f314 := Tryd.func111.trans (congrArg some (by kernel_rfl))
  t3 := Tryd.underlying3
  a3 := Tryd.isAgg3
  z3 := Tryd.sizeOf3
  v3 := Tryd.zeroValue3
  t4 := Tryd.underlying4
  a4 := Tryd.isAgg4
  z4 := Tryd.sizeOf4
  v4 := Tryd.zeroValue4
  t5 := Tryd.underlying5
  a5 := Tryd.isAgg5
  z5 := Tryd.sizeOf5
  v5 := Tryd.zeroValue5
  t9 := Tryd.underlying9
  a9 := Tryd.isAgg9
  z9 := Tryd.sizeOf9
  v9 := Tryd.zeroValue9
  t46 := Tryd.underlying98
  a46 := Tryd.isAgg98
  z46 := Tryd.sizeOf98
  v46 := Tryd.zeroValue98
  t51 := Tryd.underlying128
  a51 := Tryd.isAgg128
  z51 := Tryd.sizeOf128
  v51 := Tryd.zeroValue128
  t146 := Tryd.underlying136
  a146 := Tryd.isAgg136
  z146 := Tryd.sizeOf136
  v146 := Tryd.zeroValue136
  g1 := by kernel_rfl }
open Go.RowKit Go.Lib in
theorem Tryd.strings_Index_one (s : ByteArray) (c : UInt8) (w : World) :
    Calls Tryd.prog 92 #[.string s, .string ⟨#[c]⟩] w fun e w' => e = .returned (.int .i64 (Lib.indexByte s.data.toList c)) ∧ w' = w := Any.strings_Index_one Tryd.lays143 s c w
end Go.Proofs
namespace AS.W
open Go Go.Proofs Go.RowKit
/-- What a call leaves that returns a string and turns nothing below the heap's end. -/
theorem ret_below {w w' : World} {Z : Nat → Prop} {F : FP} {vs : List Value} {d : D} {v : Value} (hr : RepV w' Z d v (fun _ => 0)) (hb : Below w.heap.size w w') : Returns w Z F vs [] [d] v w' Z (fun _ => 0) (fun _ => 0) :=
  ⟨hr, fun _ => rfl, fun _ => Nat.zero_le _, fun b hb => absurd hb (Nat.lt_irrefl 0), fun _ h => h, fun _ h => .inl h, fun _ _ => rfl, ⟨hb.os, hb.tape, hb.output, hb.size, fun k hk _ => hb.block k hk⟩⟩
theorem rep_strs {w : World} {Z : Nat → Prop} : ∀ {l : List (List UInt8)} {xs : List Value} {f : FP}, RepXs w Z (l.map cS.enc) xs f → xs = l.map fun s => Value.string ⟨s.toArray⟩
  | [], xs, f, h => by simp only [List.map_nil, RepXs] at h; exact h.1
  | s :: l, xs, f, h => by
    simp only [List.map_cons, RepXs] at h
    obtain ⟨c1, c2, f1, f2, rfl, _, h3, h4⟩ := h
    have h5 : RepX w Z (.str s) c1 f1 := h3
    simp only [RepX] at h5
    rw [h5.1, rep_strs h4]; rfl
end AS.W
namespace AS.W
open Go Go.Proofs Go.RowKit Go.Shelf
theorem bld_info : (Tryd.prog.info? 67).map (·.size) = some 2 := by kernel_rfl
theorem bld_lies : liesAt Tryd.prog Tryd.prog.depth 67 (2 / Tryd.prog.cellsOf 67) 0 67 1 = true := by kernel_rfl
theorem byte_info : (Tryd.prog.info? 5).map (fun i => (i.zero, i.size, i.bytes)) = some (some (.int .u8 0), 1, 1) := by kernel_rfl
set_option maxHeartbeats 1000000 in
theorem copy_used (b : Nat) (w : World) (h0 : w.cell? ⟨b, 0, none⟩ = some (.pointer (some ⟨b, 0, none⟩))) :
    Calls Tryd.prog 58 #[.pointer (some ⟨b, 0, none⟩)] w fun e w' => e = .returned (.tuple #[]) ∧ w' = w := by
  obtain ⟨j, hj, _⟩ := Option.map_eq_some_iff.1 bld_info
  go_enter Tryd.func58, Tryd.ntmps58
  go_wp2
  rw [Go.Lib.run_neq_ptr_same w _ Tryd.underlying64 hj]
  go_wp2
  go_end0
  exact ⟨rfl, rfl⟩
set_option maxHeartbeats 1000000 in
theorem copy_fresh (b : Nat) (w : World) (h0 : w.cell? ⟨b, 0, none⟩ = some (.pointer none)) (hsh : w.shape? b = some (67, 2)) (hfz : w.frozen? ⟨b, 0, none⟩ = false) :
    Calls Tryd.prog 58 #[.pointer (some ⟨b, 0, none⟩)] w fun e w' => e = .returned (.tuple #[]) ∧ w' = w.setCell ⟨b, 0, none⟩ (.pointer (some ⟨b, 0, none⟩)) := by
  obtain ⟨j, hj, hjs⟩ := Option.map_eq_some_iff.1 bld_info
  go_enter Tryd.func58, Tryd.ntmps58
  go_wp2
  rw [Go.Lib.run_to_unsafe w ⟨b, 0, none⟩ Tryd.underlying64 Tryd.underlying109 hj (by rw [hjs]; decide) hsh (Nat.zero_lt_succ 1)]
  simp only [Result.andThen]
  rw [Oper.upon_value]
  go_wp2
  rw [run_callFunc_extern Tryd.func85 (by kernel_rfl) (by kernel_rfl) (by kernel_rfl) (e := Extern.AbiNoEscape.same) (by kernel_rfl)]
  rw [Go.Lib.run_noEscape]
  simp only [Result.andThen]
  rw [Oper.upon_value]
  go_wp2
  rw [Go.Lib.run_from_unsafe w ⟨b, 0, none⟩ Tryd.underlying109 Tryd.underlying64 hj hsh bld_lies]
  simp only [Result.andThen]
  rw [Oper.upon_value]
  go_wp2
  go_end0
  exact ⟨rfl, rfl⟩
theorem copy_check (B b : Nat) (bs : List Value) (w : World) (h : Go.Lib.IsBuilder 67 5 B b bs w) :
    Calls Tryd.prog 58 #[.pointer (some ⟨b, 0, none⟩)] w fun e w' => e = .returned (.tuple #[]) ∧ (Go.Lib.BuilderAt 67 5 B b (.pointer (some ⟨b, 0, none⟩)) bs w' ∧ Below B w w') := by
  rcases h with h | h
  · refine (copy_fresh b w h.cell0 h.shape h.frozen0).mono ?_
    rintro e w' ⟨rfl, rfl⟩
    exact ⟨rfl, h.used _, (Below.refl B w).setCell (p := ⟨b, 0, none⟩) h.1 _⟩
  · refine (copy_used b w h.cell0).mono ?_
    rintro e w' ⟨rfl, rfl⟩
    exact ⟨rfl, h, Below.refl B _⟩
set_option maxHeartbeats 2000000 in
theorem write_str (B b : Nat) (bs : List Value) (s : ByteArray) (w : World) (h : Go.Lib.IsBuilder 67 5 B b bs w) (hlen : bs.length + s.size ≤ 140737488355328) (hBw : B ≤ w.heap.size) :
    Calls Tryd.prog 32 #[.pointer (some ⟨b, 0, none⟩), .string s] w fun e w' => e = .returned (.tuple #[.int .i64 s.size, .nilIface]) ∧ (Go.Lib.BuilderAt 67 5 B b (.pointer (some ⟨b, 0, none⟩)) (bs ++ Go.Lib.strCells s) w' ∧ Below B w w') := by
  obtain ⟨i0, hi, hz0, hz1, hz2⟩ := info_parts byte_info
  have e58 : ∀ args w, (callFunc 58 args).run Tryd.prog w = .ok (.enter 58 args) w := enters_of Tryd.func58 (by kernel_rfl) rfl
  go_enter Tryd.func32, Tryd.ntmps32
  go_wp2_with (go_at_fn 58; refine (copy_check B b bs _ h).mono ?_)
  rintro e w1 ⟨rfl, h1, hb1⟩
  obtain ⟨hB, v, hbk, hown, hne⟩ := h1
  have c0 : w1.cell? ⟨b, 0, none⟩ = some (.pointer (some ⟨b, 0, none⟩)) := by rw [Go.Lib.cell_of_heap hbk]; rfl
  have c1 : w1.cell? ⟨b, 1, none⟩ = some v := by rw [Go.Lib.cell_of_heap hbk]; rfl
  go_wp2_with (at_builtin; refine Go.Lib.wpList_append_own_string _ rfl _ _ 65 9 rfl B 5 i0 Tryd.underlying65 Tryd.underlying9 hi hz0 hz1 hz2 _ _ _ rfl hown s rfl ?c3 ?c4 ?c5 ?_)
  case c3 => unfold maxLen; omega
  case c4 => omega
  case c5 => have := hb1.size; omega
  intro v' w2 hown' hgrow _
  have hlt : b < w1.heap.size := by
    rcases Nat.lt_or_ge b w1.heap.size with h' | h'
    · exact h'
    · simp [Array.getElem?_eq_none h'] at hbk
  have hb2 : w2.heap[b]? = some (.cells #[.pointer (some ⟨b, 0, none⟩), v] 67 (0, 0)) := by
    rw [hgrow.block b hlt (fun e => hne e.symm)]
    exact hbk
  have d0 : w2.cell? ⟨b, 0, none⟩ = some (.pointer (some ⟨b, 0, none⟩)) := by rw [Go.Lib.cell_of_heap hb2]; rfl
  have d1 : w2.cell? ⟨b, 1, none⟩ = some v := by rw [Go.Lib.cell_of_heap hb2]; rfl
  have f1 : w2.frozen? ⟨b, 1, none⟩ = false := Go.Lib.frozen_of_heap hb2 1
  obtain ⟨ao, n', cap, rfl⟩ : ∃ ao n' cap, v' = .slice ao n' cap := by
    rcases hown'.2 with ⟨hv, _⟩ | ⟨g, cap, cur, hv, _⟩
    · exact ⟨_, _, _, hv⟩
    · exact ⟨_, _, _, hv⟩
  go_wp2
  go_ret2
  refine ⟨rfl, ?_, ?_⟩
  · exact Go.Lib.BuilderAt.put (T := 67) (e := 5) hB hb2 (bs' := bs ++ Go.Lib.strCells s) (by simpa [Go.Lib.strCells_length] using hown') (by decide)
  · exact (hb1.grown hgrow (by have := hb1.size; omega) (fun k hk => (hown.lt k hk).1)).setCell (p := ⟨b, 1, none⟩) hB _
theorem itoa_call {w : World} (ht : ∃ (e : TypeId) (fr : Nat × Nat), w.heap[GB]? = some (.cells tabA e fr)) {v : Int} (h0 : -9223372036854775808 ≤ v) (h1 : v ≤ 9223372036854775807) :
    Calls Tryd.prog 34 #[.int .i64 v] w fun e w' => e = .returned (.string ⟨(Go.Lib.itoa v).toArray⟩) ∧ Below w.heap.size w w' := by
  obtain ⟨e, fr, hh⟩ := ht
  have htab : Go.Lib.TabIs Tryd.prog w "internal/strconv.uint64pow10" .u64 Go.Lib.pow10Tab := by
    unfold Go.Lib.TabIs World.var?
    have hg2 : Tryd.prog.globalNamed "internal/strconv.uint64pow10" = some GB := by kernel_rfl
    rw [hg2, Option.bind_some, hh]
    show some tabA = _
    unfold tabA Go.Lib.pow10Tab
    rw [List.map_map]; rfl
  refine (Tryd.strconv_Itoa v h0 h1 w htab).mono ?_
  rintro e w' ⟨rfl, k, os, rfl⟩
  refine ⟨rfl, rfl, rfl, rfl, ?_, fun j hj => ?_⟩
  · show w.heap.size ≤ (w.heap ++ os).size
    simp
  · show (w.heap ++ os)[j]? = _
    rw [Array.getElem?_append_left hj]
theorem hidR {p : Prop} (h : p) : Hid p := h
def accR (tx : Nat → List UInt8) (cs : List Int) : Nat → List UInt8
  | 0 => []
  | k + 1 => accR tx cs k ++ (((tx k ++ [58, 32]) ++ Go.Lib.itoa (cs.getD k 0)) ++ [10])
theorem cat_str (a b : List UInt8) : (⟨a.toArray⟩ : ByteArray) ++ (⟨b.toArray⟩ : ByteArray) = ⟨(a ++ b).toArray⟩ := by
  apply ByteArray.ext
  simp
/-- The two boxes of the call stand, and what was there before. -/
structure Bx (w : World) (g0 t0 t1 t2 t3 : Value) (w1 : World) : Prop where
  bel : Below w.heap.size w w1
  b0 : w1.heap[w.heap.size]? = some (.cells #[g0] 33 (0, 0))
  b1 : w1.heap[w.heap.size + 1]? = some (.cells #[t0, t1, t2, t3] 37 (0, 0))
theorem Bx.lt {w w1 : World} {g0 t0 t1 t2 t3 : Value} (h : Bx w g0 t0 t1 t2 t3 w1) : w.heap.size + 1 < w1.heap.size := (Array.getElem?_eq_some_iff.1 h.b1).1
theorem Bx.below {w w1 w2 : World} {g0 t0 t1 t2 t3 : Value} {B : Nat} (h : Bx w g0 t0 t1 t2 t3 w1) (hB : w.heap.size + 2 ≤ B) (hb : Below B w1 w2) : Bx w g0 t0 t1 t2 t3 w2 :=
  ⟨h.bel.trans (hb.mono (by omega)), by rw [hb.block _ (by omega)]; exact h.b0, by rw [hb.block _ (by omega)]; exact h.b1⟩
theorem Bx.cells {w w1 : World} {g0 t0 t1 t2 t3 : Value} (h : Bx w g0 t0 t1 t2 t3 w1) : w1.cell? ⟨w.heap.size, 0, none⟩ = some g0 ∧ w1.cell? ⟨w.heap.size + 1, 0, none⟩ = some t0 ∧ w1.cell? ⟨w.heap.size + 1, 1, none⟩ = some t1 ∧
    w1.cell? ⟨w.heap.size + 1, 2, none⟩ = some t2 ∧ w1.cell? ⟨w.heap.size + 1, 3, none⟩ = some t3 := by
  refine ⟨?_, ?_, ?_, ?_, ?_⟩ <;> first | (rw [Go.Lib.cell_of_heap h.b0]; rfl) | (rw [Go.Lib.cell_of_heap h.b1]; rfl)
theorem bx_new (w : World) (g0 t0 t1 t2 t3 : Value) : Bx w g0 t0 t1 t2 t3 ((w.alloc (Obj.cells #[g0] 33)).alloc (Obj.cells #[t0, t1, t2, t3] 37)) := by
  refine ⟨((Below.refl _ w).alloc (Nat.le_refl _) _).alloc (by simp) _, ?_, ?_⟩
  · show ((w.heap.push _).push _)[w.heap.size]? = _
    rw [Array.getElem?_push_lt (by simp), Array.getElem_push_eq]
  · show ((w.heap.push _).push _)[w.heap.size + 1]? = _
    have : (w.heap.push (Obj.cells #[g0] 33)).size = w.heap.size + 1 := by simp
    rw [← this, Array.getElem?_push_size]
theorem bat_below {B b : Nat} {p : Value} {bs : List Value} {w w' : World} (h : Go.Lib.BuilderAt 67 5 B b p bs w) (hb : Below w.heap.size w w') : Go.Lib.BuilderAt 67 5 B b p bs w' := by
  have keep : ∀ {k : Nat} {o : Obj}, w.heap[k]? = some o → w'.heap[k]? = some o := fun {k o} h => by
    rw [hb.block k (Array.getElem?_eq_some_iff.1 h).1]; exact h
  obtain ⟨hB, v, h1, h2, h3⟩ := h
  refine ⟨hB, v, keep h1, ?_, h3⟩
  unfold World.ownsRow at h2 ⊢
  obtain ⟨q1, q2⟩ := h2
  refine ⟨q1, ?_⟩
  rcases q2 with q2 | ⟨g, cap, cur, r1, r2⟩
  · exact .inl q2
  · exact .inr ⟨g, cap, cur, r1, r2.1, keep r2.2.1, r2.2.2⟩
theorem isb_below {B b : Nat} {bs : List Value} {w w' : World} (h : Go.Lib.IsBuilder 67 5 B b bs w) (hb : Below w.heap.size w w') : Go.Lib.IsBuilder 67 5 B b bs w' :=
  h.elim (fun h => .inl (bat_below h hb)) (fun h => .inr (bat_below h hb))
set_option maxHeartbeats 4000000 in
theorem report_walk {w : World} {g0 t0 t1 t2 t3 s : Value} {ao : Option Addr} {cap : Nat} {cs : List Int} {tx : Nat → List UInt8} {ra rs : Bool} {n : Int}
    (ht : ∃ (e : TypeId) (fr : Nat × Nat), w.heap[GB]? = some (.cells tabA e fr))
    (hc : cs = [] ∨ ∃ gc off, ao = some ⟨gc, off, none⟩ ∧ ∀ j u, cs[j]? = some u → w.cell? ⟨gc, off + j, none⟩ = some (.int .i64 u))
    (hb : ra = true → rs = true → ∀ u ∈ cs, -9223372036854775808 ≤ u ∧ u ≤ 9223372036854775807)
    (hA : ∀ w1, Below w.heap.size w w1 → Calls Tryd.prog 29 #[.agg #[g0], s, .agg #[t0, t1, t2, t3]] w1 fun e w' => e = .returned (.bool ra) ∧ Below w1.heap.size w1 w')
    (hC : ra = true → ∀ w1, Below w.heap.size w w1 → Calls Tryd.prog 31 #[.agg #[g0], s, .agg #[t0, t1, t2, t3]] w1 fun e w' => e = .returned (.int .i64 n) ∧ Below w1.heap.size w1 w')
    (hS : ra = true → ∀ w1, Below w.heap.size w w1 → Calls Tryd.prog 30 #[.slice ao cs.length cap, .int .i64 n] w1 fun e w' => e = .returned (.bool rs) ∧ Below w1.heap.size w1 w')
    (hT : ra = true → rs = true → ∀ k, k < cs.length → ∀ w1, Below w.heap.size w w1 → Calls Tryd.prog 33 #[.agg #[g0], s, .agg #[t0, t1, t2, t3], .int .i64 k] w1 fun e w' => e = .returned (.string ⟨(tx k).toArray⟩) ∧ Below w1.heap.size w1 w')
    (hl : ra = true → rs = true → ∀ k, k < cs.length → (tx k).length ≤ 1048576 ∧ (accR tx cs (k + 1)).length ≤ 1099511627776) (hn : cs.length ≤ 1099511627776) :
    Calls Tryd.prog 13 #[.agg #[g0], s, .agg #[t0, t1, t2, t3], .slice ao cs.length cap] w fun e w' =>
      e = .returned (.tuple #[.string ⟨(if ra && rs then accR tx cs cs.length else []).toArray⟩, .bool (ra && rs)]) ∧ Below w.heap.size w w' := by
  have e29 : ∀ args w, (callFunc 29 args).run Tryd.prog w = .ok (.enter 29 args) w := enters_of Tryd.func29 (by kernel_rfl) rfl
  have e31 : ∀ args w, (callFunc 31 args).run Tryd.prog w = .ok (.enter 31 args) w := enters_of Tryd.func31 (by kernel_rfl) rfl
  have e30 : ∀ args w, (callFunc 30 args).run Tryd.prog w = .ok (.enter 30 args) w := enters_of Tryd.func30 (by kernel_rfl) rfl
  have e33 : ∀ args w, (callFunc 33 args).run Tryd.prog w = .ok (.enter 33 args) w := enters_of Tryd.func33 (by kernel_rfl) rfl
  have e34 : ∀ args w, (callFunc 34 args).run Tryd.prog w = .ok (.enter 34 args) w := enters_of Tryd.func34 (by kernel_rfl) rfl
  have e32 : ∀ args w, (callFunc 32 args).run Tryd.prog w = .ok (.enter 32 args) w := enters_of Tryd.func32 (by kernel_rfl) rfl
  have e35 : ∀ args w, (callFunc 35 args).run Tryd.prog w = .ok (.enter 35 args) w := enters_of Tryd.func35 (by kernel_rfl) rfl
  have HC := hidR hc
  have HB := hidR hb
  have HA := hidR hA
  have HCC := hidR hC
  have HS := hidR hS
  have HT := hidR hT
  have HL := hidR hl
  clear hc hb hA hC hS hT hl
  go_enter Tryd.func13, Tryd.ntmps13
  go_wp2_with fail
  have hx := bx_new w g0 t0 t1 t2 t3
  generalize (w.alloc (Obj.cells #[g0] 33)).alloc (Obj.cells #[t0, t1, t2, t3] 37) = w1 at hx ⊢
  refine (HA.out w1 hx.bel).mono ?_
  rintro e w2 ⟨rfl, hb2⟩
  have hx2 := hx.below hx.lt hb2
  clear hb2 hx
  obtain ⟨c0, c1, c2, c3, c4⟩ := hx2.cells
  cases ra with
  | false =>
    go_wp2
    go_ret2
    exact ⟨rfl, hx2.bel⟩
  | true =>
    go_wp2_with fail
    refine (HCC.out trivial w2 hx2.bel).mono ?_
    rintro e w3 ⟨rfl, hb3⟩
    have hx3 := hx2.below hx2.lt hb3
    clear hb3 c0 c1 c2 c3 c4 hx2
    go_wp2_with fail
    refine (HS.out trivial w3 hx3.bel).mono ?_
    rintro e w4 ⟨rfl, hb4⟩
    have hx4 := hx3.below hx3.lt hb4
    clear hb4 hx3
    cases rs with
    | false =>
      go_wp2
      go_ret2
      exact ⟨rfl, hx4.bel⟩
    | true =>
      go_wp2_with fail
      have hx5 := hx4.below hx4.lt ((Below.refl w4.heap.size w4).alloc (Nat.le_refl _) (Obj.cells #[Value.pointer none, Value.slice none 0 0] 67))
      have hbl := Go.Lib.fresh_isBuilder 67 5 w4
      have hB5 : w4.heap.size ≤ (w4.alloc (Obj.cells #[Value.pointer none, Value.slice none 0 0] 67)).heap.size := by simp
      have hBB : w.heap.size + 2 ≤ w4.heap.size := hx4.lt
      generalize w4.alloc (Obj.cells #[Value.pointer none, Value.slice none 0 0] 67) = w5 at hx5 hbl hB5 ⊢
      clear hx4
      generalize w4.heap.size = B at hbl hB5 hBB ⊢
      have HHn := hidR hn
      have HHt := hidR ht
      have HBB := hidR hBB
      clear hn ht hBB
      go_loopw [29] (fun i wr => ∃ k : Nat, k ≤ cs.length ∧ i = .int .i64 k ∧ Hid (Bx w g0 t0 t1 t2 t3 wr ∧ Go.Lib.IsBuilder 67 5 B B (Go.Lib.byteCells (accR tx cs k)) wr ∧ B ≤ wr.heap.size)) (fun i _ => cs.length - (intOf i).toNat)
      case atStart => exact ⟨0, Nat.zero_le _, rfl, hidR ⟨hx5, hbl, hB5⟩⟩
      case round =>
        obtain ⟨k, hk, rfl, HR⟩ := hrel
        by_cases hlt : k < cs.length
        · obtain ⟨hx, hbu, hBw⟩ := HR.out
          obtain ⟨gc, off, rfl, hcell⟩ : ∃ gc off, ao = some ⟨gc, off, none⟩ ∧ wr.cell? ⟨gc, off + k, none⟩ = some (.int .i64 cs[k]) := by
            rcases HC.out with he | ⟨gc, off, h1, h2⟩
            · subst he; simp at hlt
            · have h3 := h2 k cs[k] (List.getElem?_eq_getElem hlt)
              have hg : gc < w.heap.size := by
                rcases Nat.lt_or_ge gc w.heap.size with h' | h'
                · exact h'
                · simp [World.cell?, Array.getElem?_eq_none h'] at h3
              exact ⟨gc, off, h1, (World.cell?_of_block (a := ⟨gc, off + k, none⟩) (hx.bel.block gc hg)).trans h3⟩
          obtain ⟨c0, c1, c2, c3, c4⟩ := hx.cells
          have Hx := hidR hx
          have Hbu := hidR hbu
          have HBw := hidR hBw
          clear hx hbu hBw HR
          go_wp2_with fail
          refine (HT.out trivial trivial k hlt wr Hx.out.bel).mono ?_
          rintro e w6 ⟨rfl, hb6⟩
          have hx6 := Hx.out.below Hx.out.lt hb6
          have hbu6 := isb_below Hbu.out hb6
          have hBw6 : B ≤ w6.heap.size := Nat.le_trans HBw.out hb6.size
          clear hb6 c0 c1 c2 c3 c4 hcell Hx Hbu HBw
          have Hx6 := hidR hx6
          have Hbu6 := hidR hbu6
          have HBw6 := hidR hBw6
          clear hx6 hbu6 hBw6
          have hlx := (HL.out trivial trivial k hlt).1
          have hbv := HB.out trivial trivial cs[k] (List.getElem_mem hlt)
          have hli := Go.Lib.itoa_length_le cs[k] hbv.1 hbv.2
          have hla := (HL.out trivial trivial k hlt).2
          have eg : cs.getD k 0 = cs[k] := by simp [List.getD_eq_getElem?_getD, List.getElem?_eq_getElem hlt]
          simp only [accR, eg, List.length_append, List.length_cons, List.length_nil] at hla
          generalize cs[k] = v at *
          have Hla := hidR hla
          have Heg := hidR eg
          clear hla eg
          go_wp2_with fail
          have htw : ∃ (e : TypeId) (fr : Nat × Nat), w6.heap[GB]? = some (.cells tabA e fr) := by
            obtain ⟨e, fr, hh⟩ := HHt.out
            exact ⟨e, fr, by rw [Hx6.out.bel.block GB (Array.getElem?_eq_some_iff.1 hh).1]; exact hh⟩
          refine (itoa_call htw hbv.1 hbv.2).mono ?_
          rintro e w7 ⟨rfl, hb7⟩
          have hx7 := Hx6.out.below Hx6.out.lt hb7
          have hbu7 := isb_below Hbu6.out hb7
          have hBw7 : B ≤ w7.heap.size := Nat.le_trans HBw6.out hb7.size
          clear hb7 Hx6 Hbu6 HBw6 htw
          have Hx7 := hidR hx7
          have Hbu7 := hidR hbu7
          have HBw7 := hidR hBw7
          clear hx7 hbu7 hBw7
          go_wp2_with fail
          have es : ((⟨(tx k).toArray⟩ ++ ⟨#[58, 32]⟩ ++ ⟨(Go.Lib.itoa v).toArray⟩ ++ ⟨#[10]⟩ : ByteArray)) = ⟨(((tx k ++ [58, 32]) ++ Go.Lib.itoa v) ++ [10]).toArray⟩ := by
            show ((⟨(tx k).toArray⟩ ++ ⟨([58, 32] : List UInt8).toArray⟩ ++ ⟨(Go.Lib.itoa v).toArray⟩ ++ ⟨([10] : List UInt8).toArray⟩ : ByteArray)) = _
            rw [cat_str, cat_str, cat_str]
          rw [es]
          refine (write_str B B (Go.Lib.byteCells (accR tx cs k)) _ w7 Hbu7.out ?_ HBw7.out).mono ?_
          · have := Hla.out
            have e1 : (⟨(((tx k ++ [58, 32]) ++ Go.Lib.itoa v) ++ [10]).toArray⟩ : ByteArray).size = (((tx k ++ [58, 32]) ++ Go.Lib.itoa v) ++ [10]).length := by simp [ByteArray.size]
            rw [e1, Go.Lib.byteCells_length]
            simp only [List.length_append, List.length_cons, List.length_nil]
            omega
          rintro e w8 ⟨rfl, hba, hb8⟩
          have hx8 := Hx7.out.below HBB.out hb8
          have hBw8 : B ≤ w8.heap.size := Nat.le_trans HBw7.out hb8.size
          have hbu8 : Go.Lib.IsBuilder 67 5 B B (Go.Lib.byteCells (accR tx cs (k + 1))) w8 := by
            have e2 : Go.Lib.byteCells (accR tx cs (k + 1)) = Go.Lib.byteCells (accR tx cs k) ++ Go.Lib.strCells ⟨(((tx k ++ [58, 32]) ++ Go.Lib.itoa v) ++ [10]).toArray⟩ := by
              simp only [accR, Heg.out]
              rw [Go.Lib.strCells_eq]
              unfold Go.Lib.byteCells
              rw [List.map_append]
            rw [e2]
            exact .inr hba
          clear hb8 Hx7 Hbu7 HBw7 hba es
          have HR8 := hidR (And.intro hx8 (And.intro hbu8 hBw8))
          clear hx8 hbu8 hBw8
          go_wp2
          have hn := HHn.out
          have ew : wrap64 ((k : Int) + 1) = ((k + 1 : Nat) : Int) := by unfold wrap64; omega
          rw [ew]
          refine ⟨⟨k + 1, hlt, rfl, HR8⟩, ?_⟩
          simp only [intOf, Int.toNat_natCast]
          omega
        · obtain ⟨hx, hbu, hBw⟩ := HR.out
          have e : k = cs.length := by omega
          subst e
          have Hx := hidR hx
          have Hbu := hidR hbu
          have HBw := hidR hBw
          clear hx hbu hBw HR
          go_wp2_with fail
          refine (Tryd.Builder_String_any B B (accR tx cs cs.length) wr Hbu.out HBw.out).mono ?_
          rintro e w9 ⟨rfl, hb9⟩
          have hb10 := (Hx.out.below HBB.out hb9).bel
          go_wp2
          go_ret2
          exact ⟨rfl, hb10⟩
/-- A call by its contract, where nothing is handed over. -/
theorem con_calls {P : Program} {f : Nat} {ds : List D} {x : D} (hc : Con P f ds [] [x]) {w : World} {Z : Nat → Prop} {vs : List Value} (hrep : RepVs w Z ds vs (fun _ => 0)) (hz : ∀ b, Z b → b < w.heap.size) (htz : TZ w Z) :
    Calls P f vs.toArray w fun e w' => ∃ (v : Value) (Z' : Nat → Prop) (G : FP), e = .returned v ∧ RepV w' Z' x v G ∧ Below w.heap.size w w' := by
  refine (hc.2 w Z vs _ hrep (fun _ => Nat.zero_le _) (fun b hb => absurd hb (Nat.lt_irrefl 0)) (fun b hb => ⟨hz b hb, rfl⟩) htz).mono ?_
  rintro e w' ⟨v, Z', G, H, rfl, q⟩
  exact ⟨v, Z', G, rfl, q.res, q.fr.os, q.fr.tape, q.fr.output, q.fr.size, fun k hk => q.fr.block k hk rfl⟩
theorem agg_val {v : Value} {cs : List Value} (h : vAgg v = true) (hc : v.cells.toList = cs) : v = .agg cs.toArray := by
  cases v <;> simp [vAgg] at h
  subst hc
  simp [Value.cells]
theorem ret_two {w w' : World} {Z : Nat → Prop} {F : FP} {vs : List Value} {l : List UInt8} {b : Bool} (hl : l.length ≤ maxLen) (hb : Below w.heap.size w w') : Returns w Z F vs [] [cS.enc l, cB.enc b] (.tuple #[.string ⟨l.toArray⟩, .bool b]) w' Z (fun _ => 0) (fun _ => 0) := by
  refine ⟨⟨_, rfl, ⟨_, _, fun _ => 0, fun _ => 0, rfl, fun _ => rfl, RepV.mkStr hl, _, _, fun _ => 0, fun _ => 0, rfl, fun _ => rfl, ⟨rfl, by simp [cB, RepX, Value.cells]⟩, rfl, fun _ => rfl⟩⟩, fun _ => rfl, fun _ => Nat.zero_le _, fun b hb => absurd hb (Nat.lt_irrefl 0), fun _ h => h, fun _ h => .inl h, fun _ _ => rfl, ⟨hb.os, hb.tape, hb.output, hb.size, fun k hk _ => hb.block k hk⟩⟩
end AS.W
