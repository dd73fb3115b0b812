/- Contracts of the library, laid at this program. No condition. -/
import Derived.Test.YtliinmppiocmcaaDoorKc
import Derived.Shelf.Strings.Builder1
import Derived.Shelf.Strings.Builder2
import Derived.Shelf.Strings.OnBuilder
import Derived.Shelf.Strings.Builder2Cap
import Derived.Shelf.Strconv.Itoa0
import Derived.Shelf.Strconv.Itoa1
import Derived.Shelf.LaysM
import Derived.Shelf.Strconv.Itoa2
import Derived.Shelf.Strconv.Itoa3
import Derived.Shelf.Strings.Search1
import Derived.Shelf.Strings.Search2
import Derived.Shelf.Strings.Search3
import Derived.Shelf.Strings.Cut
import Derived.Shelf.Strings.Shaped
import Derived.Shelf.Unicode.DecodeSlow
import Derived.Shelf.Unicode.DecodeAny
import Derived.Test.YtliinmppiocmcaaDoorProg
set_option maxRecDepth 100000
set_option linter.unusedVariables false
set_option linter.unusedSimpArgs false
namespace Go.Proofs
open Go.Shelf
def Tryd.lays156_ren : Go.Shelf.Ren := ⟨fun | 156 => 87 | 165 => 117 | 166 => 62 | 169 => 64 | 240 => 99 | 241 => 129 | 276 => 121 | 277 => 139 | n => n, fun | 31 => 96 | 9 => 9 | 3 => 3 | 4 => 4 | 0 => 0 | 20 => 20 | 72 => 89 | 76 => 92 | 70 => 86 | 37 => 87 | 75 => 91 | 127 => 126 | 164 => 136 | 5 => 5 | 80 => 95 | n => n, fun | n => n⟩
theorem Tryd.lays156 : Go.Proofs.Lays.n156 Tryd.prog Tryd.lays156_ren := {
  mixed := by kernel_rfl
  f156 := Tryd.func87.trans (congrArg some (by kernel_rfl))
  f165 := Tryd.func117.trans (congrArg some (by kernel_rfl))
  f166 := Tryd.func62.trans (congrArg some (by kernel_rfl))
  f169 := Tryd.func64.trans (congrArg some (by kernel_rfl))
  f240 := Tryd.func99.trans (congrArg some (by kernel_rfl))
  f241 := Tryd.func129.trans (congrArg some (by kernel_rfl))
  f276 := Tryd.func121.trans (congrArg some (by kernel_rfl))
  f277 := Tryd.func139.trans (congrArg some (by kernel_rfl))
  t0 := Tryd.underlying0
  a0 := Tryd.isAgg0
  z0 := Tryd.sizeOf0
  v0 := Tryd.zeroValue0
  t3 := Tryd.underlying3
  a3 := Tryd.isAgg3
  z3 := Tryd.sizeOf3
  v3 := Tryd.zeroValue3
  t4 := Tryd.underlying4
  a4 := Tryd.isAgg4
  z4 := Tryd.sizeOf4
  v4 := Tryd.zeroValue4
  t9 := Tryd.underlying9
  a9 := Tryd.isAgg9
  z9 := Tryd.sizeOf9
  v9 := Tryd.zeroValue9
  t20 := Tryd.underlying20
  a20 := Tryd.isAgg20
  z20 := Tryd.sizeOf20
  v20 := Tryd.zeroValue20
  t31 := Tryd.underlying96
  a31 := Tryd.isAgg96
  z31 := Tryd.sizeOf96
  v31 := Tryd.zeroValue96
  t37 := Tryd.underlying87
  a37 := Tryd.isAgg87
  z37 := Tryd.sizeOf87
  v37 := Tryd.zeroValue87
  t70 := Tryd.underlying86
  a70 := Tryd.isAgg86
  z70 := Tryd.sizeOf86
  v70 := Tryd.zeroValue86
  t72 := Tryd.underlying89
  a72 := Tryd.isAgg89
  z72 := Tryd.sizeOf89
  v72 := Tryd.zeroValue89
  t75 := Tryd.underlying91
  a75 := Tryd.isAgg91
  z75 := Tryd.sizeOf91
  v75 := Tryd.zeroValue91
  t76 := Tryd.underlying92
  a76 := Tryd.isAgg92
  z76 := Tryd.sizeOf92
  v76 := Tryd.zeroValue92
  t127 := Tryd.underlying126
  a127 := Tryd.isAgg126
  z127 := Tryd.sizeOf126
  v127 := Tryd.zeroValue126
  t164 := Tryd.underlying136
  a164 := Tryd.isAgg136
  z164 := Tryd.sizeOf136
  v164 := Tryd.zeroValue136 }
theorem Tryd.Builder_Extra_156 : Builder.Extra Tryd.prog Tryd.lays156_ren := {
  sizeBuilder := by kernel_rfl
  liesBuilder := by kernel_rfl
  t5 := Tryd.underlying5
  a5 := Tryd.isAgg5
  z5 := Tryd.sizeOf5
  v5 := Tryd.zeroValue5
  infoByte := by kernel_rfl
  cellsByte := by kernel_rfl
  sizeByte := by kernel_rfl
  neB5 := by decide }
open Go.RowKit in
theorem Tryd.strings_Join_none (a : Option Addr) (c : Nat) (sep : ByteArray) (w : World) :
    Calls Tryd.prog 87 #[.slice a 0 c, .string sep] w fun e w' => e = .returned (.string ⟨#[]⟩) ∧ w' = w := Any.strings_Join_none Tryd.lays156 Tryd.Builder_Extra_156 a c sep w
open Go.RowKit in
theorem Tryd.strings_Join (bk o c : Nat) (xs : List ByteArray) (sep : ByteArray) (w : World) (hcells : ∀ (j : Nat) x, xs[j]? = some x → w.cell? ⟨bk, o + j, none⟩ = some (.string x)) (hbk : bk < w.heap.size) (hN : xs.length ≤ 140737488355328) (hcap : xs.length ≤ c) (hlen : (Lib.join (xs.map (·.data.toList)) sep.data.toList).length ≤ 140737488355328) :
    Calls Tryd.prog 87 #[.slice (some ⟨bk, o, none⟩) xs.length c, .string sep] w fun e w' => e = .returned (.string ⟨(Lib.join (xs.map (·.data.toList)) sep.data.toList).toArray⟩) ∧ Below w.heap.size w w' := Any.strings_Join Tryd.lays156 Tryd.Builder_Extra_156 bk o c xs sep w hcells hbk hN hcap hlen
def Tryd.lays171_ren : Go.Shelf.Ren := ⟨fun | 171 => 63 | 243 => 100 | 246 => 122 | 283 => 130 | 284 => 131 | 285 => 132 | 286 => 133 | 129 => 141 | 317 => 140 | 318 => 142 | 319 => 143 | 320 => 144 | 337 => 147 | 338 => 148 | n => n, fun | 3 => 3 | 9 => 9 | 2 => 2 | 4 => 4 | 171 => 144 | 0 => 0 | 53 => 145 | 37 => 87 | 5 => 5 | 173 => 148 | 212 => 154 | 51 => 155 | 20 => 20 | 213 => 156 | 46 => 128 | 232 => 166 | 233 => 167 | n => n, fun | 17 => 1 | 18 => 4 | 19 => 5 | n => n⟩
theorem Tryd.lays171 : Go.Proofs.Lays.n171 Tryd.prog Tryd.lays171_ren := {
  mixed := by kernel_rfl
  f129 := Tryd.func141.trans (congrArg some (by kernel_rfl))
  f171 := Tryd.func63.trans (congrArg some (by kernel_rfl))
  f243 := Tryd.func100.trans (congrArg some (by kernel_rfl))
  f246 := Tryd.func122.trans (congrArg some (by kernel_rfl))
  f283 := Tryd.func130.trans (congrArg some (by kernel_rfl))
  f284 := Tryd.func131.trans (congrArg some (by kernel_rfl))
  f285 := Tryd.func132.trans (congrArg some (by kernel_rfl))
  f286 := Tryd.func133.trans (congrArg some (by kernel_rfl))
  f317 := Tryd.func140.trans (congrArg some (by kernel_rfl))
  f318 := Tryd.func142.trans (congrArg some (by kernel_rfl))
  f319 := Tryd.func143.trans (congrArg some (by kernel_rfl))
  f320 := Tryd.func144.trans (congrArg some (by kernel_rfl))
  f337 := Tryd.func147.trans (congrArg some (by kernel_rfl))
  f338 := Tryd.func148.trans (congrArg some (by kernel_rfl))
  t0 := Tryd.underlying0
  a0 := Tryd.isAgg0
  z0 := Tryd.sizeOf0
  v0 := Tryd.zeroValue0
  t2 := Tryd.underlying2
  a2 := Tryd.isAgg2
  z2 := Tryd.sizeOf2
  v2 := Tryd.zeroValue2
  t3 := Tryd.underlying3
  a3 := Tryd.isAgg3
  z3 := Tryd.sizeOf3
  v3 := Tryd.zeroValue3
  t4 := Tryd.underlying4
  a4 := Tryd.isAgg4
  z4 := Tryd.sizeOf4
  v4 := Tryd.zeroValue4
  t5 := Tryd.underlying5
  a5 := Tryd.isAgg5
  z5 := Tryd.sizeOf5
  v5 := Tryd.zeroValue5
  t9 := Tryd.underlying9
  a9 := Tryd.isAgg9
  z9 := Tryd.sizeOf9
  v9 := Tryd.zeroValue9
  t20 := Tryd.underlying20
  a20 := Tryd.isAgg20
  z20 := Tryd.sizeOf20
  v20 := Tryd.zeroValue20
  t37 := Tryd.underlying87
  a37 := Tryd.isAgg87
  z37 := Tryd.sizeOf87
  v37 := Tryd.zeroValue87
  t46 := Tryd.underlying128
  a46 := Tryd.isAgg128
  z46 := Tryd.sizeOf128
  v46 := Tryd.zeroValue128
  t51 := Tryd.underlying155
  a51 := Tryd.isAgg155
  z51 := Tryd.sizeOf155
  v51 := Tryd.zeroValue155
  t53 := Tryd.underlying145
  a53 := Tryd.isAgg145
  z53 := Tryd.sizeOf145
  v53 := Tryd.zeroValue145
  t171 := Tryd.underlying144
  a171 := Tryd.isAgg144
  z171 := Tryd.sizeOf144
  v171 := Tryd.zeroValue144
  t173 := Tryd.underlying148
  a173 := Tryd.isAgg148
  z173 := Tryd.sizeOf148
  v173 := Tryd.zeroValue148
  t212 := Tryd.underlying154
  a212 := Tryd.isAgg154
  z212 := Tryd.sizeOf154
  v212 := Tryd.zeroValue154
  t213 := Tryd.underlying156
  a213 := Tryd.isAgg156
  z213 := Tryd.sizeOf156
  t232 := Tryd.underlying166
  a232 := Tryd.isAgg166
  z232 := Tryd.sizeOf166
  v232 := Tryd.zeroValue166
  t233 := Tryd.underlying167
  a233 := Tryd.isAgg167
  z233 := Tryd.sizeOf167
  v233 := Tryd.zeroValue167
  g17 := by kernel_rfl
  g18 := by kernel_rfl
  g19 := by kernel_rfl }
open Go.RowKit Go.Sort Go.Lib in
theorem Tryd.strconv_Itoa_small (i : Nat) (hi : i < 100) (w : World) :
    Calls Tryd.prog 63 #[.int .i64 i] w fun e w' => e = .returned (.string ⟨(Lib.decDigits i).toArray⟩) ∧ w' = w := Any.strconv_Itoa_small Tryd.lays171 i hi w
def Tryd.lays143_ren : Go.Shelf.Ren := ⟨fun | 143 => 127 | 219 => 128 | 217 => 135 | 225 => 136 | 224 => 137 | 267 => 138 | 266 => 145 | 314 => 146 | n => n, fun | 9 => 9 | 3 => 3 | 4 => 4 | 5 => 5 | 46 => 128 | 146 => 163 | 51 => 155 | n => n, fun | 1 => 0 | n => n⟩
theorem Tryd.lays143 : Go.Proofs.Lays.n143 Tryd.prog Tryd.lays143_ren := {
  mixed := by kernel_rfl
  f143 := Tryd.func127.trans (congrArg some (by kernel_rfl))
  f217 := Tryd.func135.trans (congrArg some (by kernel_rfl))
  f219 := Tryd.func128.trans (congrArg some (by kernel_rfl))
  f224 := Tryd.func137.trans (congrArg some (by kernel_rfl))
  f225 := Tryd.func136.trans (congrArg some (by kernel_rfl))
  f266 := Tryd.func145.trans (congrArg some (by kernel_rfl))
  f267 := Tryd.func138.trans (congrArg some (by kernel_rfl))
  f314 := Tryd.func146.trans (congrArg some (by kernel_rfl))
  t3 := Tryd.underlying3
  a3 := Tryd.isAgg3
  z3 := Tryd.sizeOf3
  v3 := Tryd.zeroValue3
  t4 := Tryd.underlying4
  a4 := Tryd.isAgg4
  z4 := Tryd.sizeOf4
  v4 := Tryd.zeroValue4
  t5 := Tryd.underlying5
  a5 := Tryd.isAgg5
  z5 := Tryd.sizeOf5
  v5 := Tryd.zeroValue5
  t9 := Tryd.underlying9
  a9 := Tryd.isAgg9
  z9 := Tryd.sizeOf9
  v9 := Tryd.zeroValue9
  t46 := Tryd.underlying128
  a46 := Tryd.isAgg128
  z46 := Tryd.sizeOf128
  v46 := Tryd.zeroValue128
  t51 := Tryd.underlying155
  a51 := Tryd.isAgg155
  z51 := Tryd.sizeOf155
  v51 := Tryd.zeroValue155
  t146 := Tryd.underlying163
  a146 := Tryd.isAgg163
  z146 := Tryd.sizeOf163
  v146 := Tryd.zeroValue163
  g1 := by kernel_rfl }
open Go.RowKit Go.Lib in
theorem Tryd.strings_Index_one (s : ByteArray) (c : UInt8) (w : World) :
    Calls Tryd.prog 127 #[.string s, .string ⟨#[c]⟩] w fun e w' => e = .returned (.int .i64 (Lib.indexByte s.data.toList c)) ∧ w' = w := Any.strings_Index_one Tryd.lays143 s c w
end Go.Proofs
namespace AS.W
open Go Go.Proofs Go.RowKit
/-- What a call leaves that returns a string and turns nothing below the heap's end. -/
theorem ret_below {w w' : World} {Z : Nat → Prop} {F : FP} {vs : List Value} {d : D} {v : Value} (hr : RepV w' Z d v (fun _ => 0)) (hb : Below w.heap.size w w') : Returns w Z F vs [] [d] v w' Z (fun _ => 0) (fun _ => 0) :=
  ⟨hr, fun _ => rfl, fun _ => Nat.zero_le _, fun b hb => absurd hb (Nat.lt_irrefl 0), fun _ h => h, fun _ h => .inl h, fun _ _ => rfl, ⟨hb.os, hb.tape, hb.output, hb.size, fun k hk _ => hb.block k hk⟩⟩
theorem rep_strs {w : World} {Z : Nat → Prop} : ∀ {l : List (List UInt8)} {xs : List Value} {f : FP}, RepXs w Z (l.map cS.enc) xs f → xs = l.map fun s => Value.string ⟨s.toArray⟩
  | [], xs, f, h => by simp only [List.map_nil, RepXs] at h; exact h.1
  | s :: l, xs, f, h => by
    simp only [List.map_cons, RepXs] at h
    obtain ⟨c1, c2, f1, f2, rfl, _, h3, h4⟩ := h
    have h5 : RepX w Z (.str s) c1 f1 := h3
    simp only [RepX] at h5
    rw [h5.1, rep_strs h4]; rfl
end AS.W
