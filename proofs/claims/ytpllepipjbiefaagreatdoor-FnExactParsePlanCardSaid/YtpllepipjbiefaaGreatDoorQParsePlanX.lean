/- Contracts of the library, laid at this program. No condition. -/
import Derived.Test.YtpllepipjbiefaaGreatDoorKc
import Derived.Shelf.Strings.Builder1
import Derived.Shelf.Strings.Builder2
import Derived.Shelf.Strings.OnBuilder
import Derived.Shelf.Strings.Builder2Cap
import Derived.Shelf.Strconv.Itoa0
import Derived.Shelf.Strconv.Itoa1
import Derived.Shelf.LaysM
import Derived.Shelf.Strconv.Itoa2
import Derived.Shelf.Strconv.Itoa3
import Derived.Shelf.Strings.Search1
import Derived.Shelf.Strings.Search2
import Derived.Shelf.Strings.Search3
import Derived.Shelf.Strings.Cut
import Derived.Shelf.Strings.Count
import Derived.Shelf.Strings.Shaped
import Derived.Shelf.Strings.Split
import Derived.Shelf.Unicode.DecodeSlow
import Derived.Shelf.Strings.SplitCore
import Derived.RangeFuncBox
import Derived.RangeFuncLeaves
import Derived.Shelf.Abstract
import Derived.WalkKit
import Derived.OwnWalkIn
import Derived.TacticsInMore
import Derived.LoopNIn
import Derived.LoopIn
import Derived.Test.YtpllepipjbiefaaGreatDoorProg
set_option maxRecDepth 100000
set_option linter.unusedVariables false
set_option linter.unusedSimpArgs false
namespace Go.Proofs
open Go.Shelf
def Tryz.lays156_ren : Go.Shelf.Ren := ⟨fun | 156 => 57 | 165 => 82 | 166 => 83 | 169 => 84 | 240 => 97 | 241 => 98 | 276 => 110 | 277 => 111 | n => n, fun | 31 => 64 | 9 => 9 | 3 => 3 | 4 => 4 | 0 => 0 | 20 => 20 | 72 => 101 | 76 => 105 | 70 => 99 | 37 => 82 | 75 => 104 | 127 => 116 | 164 => 125 | 5 => 5 | 80 => 71 | n => n, fun | n => n⟩
theorem Tryz.lays156 : Go.Proofs.Lays.n156 Tryz.prog Tryz.lays156_ren := {
  mixed := by kernel_rfl
  f156 := Tryz.func57.trans (congrArg some (by kernel_rfl))
  f165 := Tryz.func82.trans (congrArg some (by kernel_rfl))
  f166 := Tryz.func83.trans (congrArg some (by kernel_rfl))
  f169 := Tryz.func84.trans (congrArg some (by kernel_rfl))
  f240 := Tryz.func97.trans (congrArg some (by kernel_rfl))
  f241 := Tryz.func98.trans (congrArg some (by kernel_rfl))
  f276 := Tryz.func110.trans (congrArg some (by kernel_rfl))
  f277 := Tryz.func111.trans (congrArg some (by kernel_rfl))
  t0 := Tryz.underlying0
  a0 := Tryz.isAgg0
  z0 := Tryz.sizeOf0
  v0 := Tryz.zeroValue0
  t3 := Tryz.underlying3
  a3 := Tryz.isAgg3
  z3 := Tryz.sizeOf3
  v3 := Tryz.zeroValue3
  t4 := Tryz.underlying4
  a4 := Tryz.isAgg4
  z4 := Tryz.sizeOf4
  v4 := Tryz.zeroValue4
  t9 := Tryz.underlying9
  a9 := Tryz.isAgg9
  z9 := Tryz.sizeOf9
  v9 := Tryz.zeroValue9
  t20 := Tryz.underlying20
  a20 := Tryz.isAgg20
  z20 := Tryz.sizeOf20
  v20 := Tryz.zeroValue20
  t31 := Tryz.underlying64
  a31 := Tryz.isAgg64
  z31 := Tryz.sizeOf64
  v31 := Tryz.zeroValue64
  t37 := Tryz.underlying82
  a37 := Tryz.isAgg82
  z37 := Tryz.sizeOf82
  v37 := Tryz.zeroValue82
  t70 := Tryz.underlying99
  a70 := Tryz.isAgg99
  z70 := Tryz.sizeOf99
  v70 := Tryz.zeroValue99
  t72 := Tryz.underlying101
  a72 := Tryz.isAgg101
  z72 := Tryz.sizeOf101
  v72 := Tryz.zeroValue101
  t75 := Tryz.underlying104
  a75 := Tryz.isAgg104
  z75 := Tryz.sizeOf104
  v75 := Tryz.zeroValue104
  t76 := Tryz.underlying105
  a76 := Tryz.isAgg105
  z76 := Tryz.sizeOf105
  v76 := Tryz.zeroValue105
  t127 := Tryz.underlying116
  a127 := Tryz.isAgg116
  z127 := Tryz.sizeOf116
  v127 := Tryz.zeroValue116
  t164 := Tryz.underlying125
  a164 := Tryz.isAgg125
  z164 := Tryz.sizeOf125
  v164 := Tryz.zeroValue125 }
theorem Tryz.Builder_Extra_156 : Builder.Extra Tryz.prog Tryz.lays156_ren := {
  sizeBuilder := by kernel_rfl
  liesBuilder := by kernel_rfl
  t5 := Tryz.underlying5
  a5 := Tryz.isAgg5
  z5 := Tryz.sizeOf5
  v5 := Tryz.zeroValue5
  infoByte := by kernel_rfl
  cellsByte := by kernel_rfl
  sizeByte := by kernel_rfl
  neB5 := by decide }
open Go.RowKit in
theorem Tryz.strings_Join_none (a : Option Addr) (c : Nat) (sep : ByteArray) (w : World) :
    Calls Tryz.prog 57 #[.slice a 0 c, .string sep] w fun e w' => e = .returned (.string ⟨#[]⟩) ∧ w' = w := Any.strings_Join_none Tryz.lays156 Tryz.Builder_Extra_156 a c sep w
open Go.RowKit in
theorem Tryz.strings_Join (bk o c : Nat) (xs : List ByteArray) (sep : ByteArray) (w : World) (hcells : ∀ (j : Nat) x, xs[j]? = some x → w.cell? ⟨bk, o + j, none⟩ = some (.string x)) (hbk : bk < w.heap.size) (hN : xs.length ≤ 140737488355328) (hcap : xs.length ≤ c) (hlen : (Lib.join (xs.map (·.data.toList)) sep.data.toList).length ≤ 140737488355328) :
    Calls Tryz.prog 57 #[.slice (some ⟨bk, o, none⟩) xs.length c, .string sep] w fun e w' => e = .returned (.string ⟨(Lib.join (xs.map (·.data.toList)) sep.data.toList).toArray⟩) ∧ Below w.heap.size w w' := Any.strings_Join Tryz.lays156 Tryz.Builder_Extra_156 bk o c xs sep w hcells hbk hN hcap hlen
def Tryz.lays171_ren : Go.Shelf.Ren := ⟨fun | 171 => 56 | 243 => 81 | 246 => 96 | 283 => 106 | 284 => 107 | 285 => 108 | 286 => 109 | 129 => 115 | 317 => 114 | 318 => 116 | 319 => 117 | 320 => 118 | 337 => 119 | 338 => 120 | n => n, fun | 3 => 3 | 9 => 9 | 2 => 2 | 4 => 4 | 171 => 119 | 0 => 0 | 53 => 120 | 37 => 82 | 5 => 5 | 173 => 123 | 212 => 136 | 51 => 128 | 20 => 20 | 213 => 137 | 46 => 108 | 232 => 141 | 233 => 142 | n => n, fun | 17 => 3 | 18 => 4 | 19 => 5 | n => n⟩
theorem Tryz.lays171 : Go.Proofs.Lays.n171 Tryz.prog Tryz.lays171_ren := {
  mixed := by kernel_rfl
  f129 := Tryz.func115.trans (congrArg some (by kernel_rfl))
  f171 := Tryz.func56.trans (congrArg some (by kernel_rfl))
  f243 := Tryz.func81.trans (congrArg some (by kernel_rfl))
  f246 := Tryz.func96.trans (congrArg some (by kernel_rfl))
  f283 := Tryz.func106.trans (congrArg some (by kernel_rfl))
  f284 := Tryz.func107.trans (congrArg some (by kernel_rfl))
  f285 := Tryz.func108.trans (congrArg some (by kernel_rfl))
  f286 := Tryz.func109.trans (congrArg some (by kernel_rfl))
  f317 := Tryz.func114.trans (congrArg some (by kernel_rfl))
  f318 := Tryz.func116.trans (congrArg some (by kernel_rfl))
  f319 := Tryz.func117.trans (congrArg some (by kernel_rfl))
  f320 := Tryz.func118.trans (congrArg some (by kernel_rfl))
  f337 := Tryz.func119.trans (congrArg some (by kernel_rfl))
  f338 := Tryz.func120.trans (congrArg some (by kernel_rfl))
  t0 := Tryz.underlying0
  a0 := Tryz.isAgg0
  z0 := Tryz.sizeOf0
  v0 := Tryz.zeroValue0
  t2 := Tryz.underlying2
  a2 := Tryz.isAgg2
  z2 := Tryz.sizeOf2
  v2 := Tryz.zeroValue2
  t3 := Tryz.underlying3
  a3 := Tryz.isAgg3
  z3 := Tryz.sizeOf3
  v3 := Tryz.zeroValue3
  t4 := Tryz.underlying4
  a4 := Tryz.isAgg4
  z4 := Tryz.sizeOf4
  v4 := Tryz.zeroValue4
  t5 := Tryz.underlying5
  a5 := Tryz.isAgg5
  z5 := Tryz.sizeOf5
  v5 := Tryz.zeroValue5
  t9 := Tryz.underlying9
  a9 := Tryz.isAgg9
  z9 := Tryz.sizeOf9
  v9 := Tryz.zeroValue9
  t20 := Tryz.underlying20
  a20 := Tryz.isAgg20
  z20 := Tryz.sizeOf20
  v20 := Tryz.zeroValue20
  t37 := Tryz.underlying82
  a37 := Tryz.isAgg82
  z37 := Tryz.sizeOf82
  v37 := Tryz.zeroValue82
  t46 := Tryz.underlying108
  a46 := Tryz.isAgg108
  z46 := Tryz.sizeOf108
  v46 := Tryz.zeroValue108
  t51 := Tryz.underlying128
  a51 := Tryz.isAgg128
  z51 := Tryz.sizeOf128
  v51 := Tryz.zeroValue128
  t53 := Tryz.underlying120
  a53 := Tryz.isAgg120
  z53 := Tryz.sizeOf120
  v53 := Tryz.zeroValue120
  t171 := Tryz.underlying119
  a171 := Tryz.isAgg119
  z171 := Tryz.sizeOf119
  v171 := Tryz.zeroValue119
  t173 := Tryz.underlying123
  a173 := Tryz.isAgg123
  z173 := Tryz.sizeOf123
  v173 := Tryz.zeroValue123
  t212 := Tryz.underlying136
  a212 := Tryz.isAgg136
  z212 := Tryz.sizeOf136
  v212 := Tryz.zeroValue136
  t213 := Tryz.underlying137
  a213 := Tryz.isAgg137
  z213 := Tryz.sizeOf137
  t232 := Tryz.underlying141
  a232 := Tryz.isAgg141
  z232 := Tryz.sizeOf141
  v232 := Tryz.zeroValue141
  t233 := Tryz.underlying142
  a233 := Tryz.isAgg142
  z233 := Tryz.sizeOf142
  v233 := Tryz.zeroValue142
  g17 := by kernel_rfl
  g18 := by kernel_rfl
  g19 := by kernel_rfl }
open Go.RowKit Go.Sort Go.Lib in
theorem Tryz.strconv_Itoa_small (i : Nat) (hi : i < 100) (w : World) :
    Calls Tryz.prog 56 #[.int .i64 i] w fun e w' => e = .returned (.string ⟨(Lib.decDigits i).toArray⟩) ∧ w' = w := Any.strconv_Itoa_small Tryz.lays171 i hi w
def Tryz.lays219_ren : Go.Shelf.Ren := ⟨fun | 219 => 85 | 217 => 99 | 225 => 100 | 224 => 101 | 267 => 102 | 266 => 112 | 314 => 113 | n => n, fun | 9 => 9 | 3 => 3 | 4 => 4 | 5 => 5 | 46 => 108 | 146 => 129 | 51 => 128 | n => n, fun | 1 => 0 | n => n⟩
theorem Tryz.lays219 : Go.Proofs.Lays.n219 Tryz.prog Tryz.lays219_ren := {
  mixed := by kernel_rfl
  f217 := Tryz.func99.trans (congrArg some (by kernel_rfl))
  f219 := Tryz.func85.trans (congrArg some (by kernel_rfl))
  f224 := Tryz.func101.trans (congrArg some (by kernel_rfl))
  f225 := Tryz.func100.trans (congrArg some (by kernel_rfl))
  f266 := Tryz.func112.trans (congrArg some (by kernel_rfl))
  f267 := Tryz.func102.trans (congrArg some (by kernel_rfl))
  f314 := Tryz.func113.trans (congrArg some (by kernel_rfl))
  t3 := Tryz.underlying3
  a3 := Tryz.isAgg3
  z3 := Tryz.sizeOf3
  v3 := Tryz.zeroValue3
  t4 := Tryz.underlying4
  a4 := Tryz.isAgg4
  z4 := Tryz.sizeOf4
  v4 := Tryz.zeroValue4
  t5 := Tryz.underlying5
  a5 := Tryz.isAgg5
  z5 := Tryz.sizeOf5
  v5 := Tryz.zeroValue5
  t9 := Tryz.underlying9
  a9 := Tryz.isAgg9
  z9 := Tryz.sizeOf9
  v9 := Tryz.zeroValue9
  t46 := Tryz.underlying108
  a46 := Tryz.isAgg108
  z46 := Tryz.sizeOf108
  v46 := Tryz.zeroValue108
  t51 := Tryz.underlying128
  a51 := Tryz.isAgg128
  z51 := Tryz.sizeOf128
  v51 := Tryz.zeroValue128
  t146 := Tryz.underlying129
  a146 := Tryz.isAgg129
  z146 := Tryz.sizeOf129
  v146 := Tryz.zeroValue129
  g1 := by kernel_rfl }
open Go.RowKit Go.Lib in
theorem Tryz.stringslite_Index_one (s : ByteArray) (c : UInt8) (w : World) :
    Calls Tryz.prog 85 #[.string s, .string ⟨#[c]⟩] w fun e w' => e = .returned (.int .i64 (Lib.indexByte s.data.toList c)) ∧ w' = w := Any.stringslite_Index_one Tryz.lays219 s c w
def Tryz.lays143_ren : Go.Shelf.Ren := ⟨fun | 143 => 91 | 219 => 85 | 217 => 99 | 225 => 100 | 224 => 101 | 267 => 102 | 266 => 112 | 314 => 113 | n => n, fun | 9 => 9 | 3 => 3 | 4 => 4 | 5 => 5 | 46 => 108 | 146 => 129 | 51 => 128 | n => n, fun | 1 => 0 | n => n⟩
theorem Tryz.lays143 : Go.Proofs.Lays.n143 Tryz.prog Tryz.lays143_ren := {
  mixed := by kernel_rfl
  f143 := Tryz.func91.trans (congrArg some (by kernel_rfl))
  f217 := Tryz.func99.trans (congrArg some (by kernel_rfl))
  f219 := Tryz.func85.trans (congrArg some (by kernel_rfl))
  f224 := Tryz.func101.trans (congrArg some (by kernel_rfl))
  f225 := Tryz.func100.trans (congrArg some (by kernel_rfl))
  f266 := Tryz.func112.trans (congrArg some (by kernel_rfl))
  f267 := Tryz.func102.trans (congrArg some (by kernel_rfl))
  f314 := Tryz.func113.trans (congrArg some (by kernel_rfl))
  t3 := Tryz.underlying3
  a3 := Tryz.isAgg3
  z3 := Tryz.sizeOf3
  v3 := Tryz.zeroValue3
  t4 := Tryz.underlying4
  a4 := Tryz.isAgg4
  z4 := Tryz.sizeOf4
  v4 := Tryz.zeroValue4
  t5 := Tryz.underlying5
  a5 := Tryz.isAgg5
  z5 := Tryz.sizeOf5
  v5 := Tryz.zeroValue5
  t9 := Tryz.underlying9
  a9 := Tryz.isAgg9
  z9 := Tryz.sizeOf9
  v9 := Tryz.zeroValue9
  t46 := Tryz.underlying108
  a46 := Tryz.isAgg108
  z46 := Tryz.sizeOf108
  v46 := Tryz.zeroValue108
  t51 := Tryz.underlying128
  a51 := Tryz.isAgg128
  z51 := Tryz.sizeOf128
  v51 := Tryz.zeroValue128
  t146 := Tryz.underlying129
  a146 := Tryz.isAgg129
  z146 := Tryz.sizeOf129
  v146 := Tryz.zeroValue129
  g1 := by kernel_rfl }
open Go.RowKit Go.Lib in
theorem Tryz.strings_Index_one (s : ByteArray) (c : UInt8) (w : World) :
    Calls Tryz.prog 91 #[.string s, .string ⟨#[c]⟩] w fun e w' => e = .returned (.int .i64 (Lib.indexByte s.data.toList c)) ∧ w' = w := Any.strings_Index_one Tryz.lays143 s c w
def Tryz.lays138_ren : Go.Shelf.Ren := ⟨fun | 138 => 90 | 195 => 103 | 218 => 104 | 143 => 91 | 219 => 85 | 217 => 99 | 225 => 100 | 224 => 101 | 267 => 102 | 266 => 112 | 314 => 113 | n => n, fun | 9 => 9 | 3 => 3 | 4 => 4 | 5 => 5 | 0 => 0 | 46 => 108 | 146 => 129 | 51 => 128 | n => n, fun | 1 => 0 | n => n⟩
theorem Tryz.lays138 : Go.Proofs.Lays.n138 Tryz.prog Tryz.lays138_ren := {
  mixed := by kernel_rfl
  f138 := Tryz.func90.trans (congrArg some (by kernel_rfl))
  f143 := Tryz.func91.trans (congrArg some (by kernel_rfl))
  f195 := Tryz.func103.trans (congrArg some (by kernel_rfl))
  f217 := Tryz.func99.trans (congrArg some (by kernel_rfl))
  f218 := Tryz.func104.trans (congrArg some (by kernel_rfl))
  f219 := Tryz.func85.trans (congrArg some (by kernel_rfl))
  f224 := Tryz.func101.trans (congrArg some (by kernel_rfl))
  f225 := Tryz.func100.trans (congrArg some (by kernel_rfl))
  f266 := Tryz.func112.trans (congrArg some (by kernel_rfl))
  f267 := Tryz.func102.trans (congrArg some (by kernel_rfl))
  f314 := Tryz.func113.trans (congrArg some (by kernel_rfl))
  t0 := Tryz.underlying0
  a0 := Tryz.isAgg0
  z0 := Tryz.sizeOf0
  v0 := Tryz.zeroValue0
  t3 := Tryz.underlying3
  a3 := Tryz.isAgg3
  z3 := Tryz.sizeOf3
  v3 := Tryz.zeroValue3
  t4 := Tryz.underlying4
  a4 := Tryz.isAgg4
  z4 := Tryz.sizeOf4
  v4 := Tryz.zeroValue4
  t5 := Tryz.underlying5
  a5 := Tryz.isAgg5
  z5 := Tryz.sizeOf5
  v5 := Tryz.zeroValue5
  t9 := Tryz.underlying9
  a9 := Tryz.isAgg9
  z9 := Tryz.sizeOf9
  v9 := Tryz.zeroValue9
  t46 := Tryz.underlying108
  a46 := Tryz.isAgg108
  z46 := Tryz.sizeOf108
  v46 := Tryz.zeroValue108
  t51 := Tryz.underlying128
  a51 := Tryz.isAgg128
  z51 := Tryz.sizeOf128
  v51 := Tryz.zeroValue128
  t146 := Tryz.underlying129
  a146 := Tryz.isAgg129
  z146 := Tryz.sizeOf129
  v146 := Tryz.zeroValue129
  g1 := by kernel_rfl }
open Go.RowKit Go.Lib in
theorem Tryz.strings_Count_one (s : ByteArray) (c : UInt8) (w : World) :
    Calls Tryz.prog 90 #[.string s, .string ⟨#[c]⟩] w fun e w' => e = .returned (.int .i64 (Lib.countByte s.data.toList c)) ∧ w' = w := Any.strings_Count_one Tryz.lays138 s c w
def Tryz.lays221_ren : Go.Shelf.Ren := ⟨fun | 221 => 72 | 268 => 89 | 138 => 90 | 143 => 91 | 195 => 103 | 197 => 94 | 218 => 104 | 219 => 85 | 260 => 105 | 217 => 99 | 225 => 100 | 224 => 101 | 267 => 102 | 266 => 112 | 314 => 113 | n => n, fun | 9 => 9 | 3 => 3 | 31 => 64 | 4 => 4 | 0 => 0 | 105 => 113 | 21 => 21 | 5 => 5 | 46 => 108 | 119 => 131 | 139 => 134 | 138 => 133 | 146 => 129 | 51 => 128 | n => n, fun | 1 => 0 | 3 => 1 | 4 => 2 | n => n⟩
theorem Tryz.lays221 : Go.Proofs.Lays.n221 Tryz.prog Tryz.lays221_ren := {
  mixed := by kernel_rfl
  f138 := Tryz.func90.trans (congrArg some (by kernel_rfl))
  f143 := Tryz.func91.trans (congrArg some (by kernel_rfl))
  f195 := Tryz.func103.trans (congrArg some (by kernel_rfl))
  f197 := Tryz.func94.trans (congrArg some (by kernel_rfl))
  f217 := Tryz.func99.trans (congrArg some (by kernel_rfl))
  f218 := Tryz.func104.trans (congrArg some (by kernel_rfl))
  f219 := Tryz.func85.trans (congrArg some (by kernel_rfl))
  f221 := Tryz.func72.trans (congrArg some (by kernel_rfl))
  f224 := Tryz.func101.trans (congrArg some (by kernel_rfl))
  f225 := Tryz.func100.trans (congrArg some (by kernel_rfl))
  f260 := Tryz.func105.trans (congrArg some (by kernel_rfl))
  f266 := Tryz.func112.trans (congrArg some (by kernel_rfl))
  f267 := Tryz.func102.trans (congrArg some (by kernel_rfl))
  f268 := Tryz.func89.trans (congrArg some (by kernel_rfl))
  f314 := Tryz.func113.trans (congrArg some (by kernel_rfl))
  t0 := Tryz.underlying0
  a0 := Tryz.isAgg0
  z0 := Tryz.sizeOf0
  v0 := Tryz.zeroValue0
  t3 := Tryz.underlying3
  a3 := Tryz.isAgg3
  z3 := Tryz.sizeOf3
  v3 := Tryz.zeroValue3
  t4 := Tryz.underlying4
  a4 := Tryz.isAgg4
  z4 := Tryz.sizeOf4
  v4 := Tryz.zeroValue4
  t5 := Tryz.underlying5
  a5 := Tryz.isAgg5
  z5 := Tryz.sizeOf5
  v5 := Tryz.zeroValue5
  t9 := Tryz.underlying9
  a9 := Tryz.isAgg9
  z9 := Tryz.sizeOf9
  v9 := Tryz.zeroValue9
  t21 := Tryz.underlying21
  a21 := Tryz.isAgg21
  z21 := Tryz.sizeOf21
  v21 := Tryz.zeroValue21
  t31 := Tryz.underlying64
  a31 := Tryz.isAgg64
  z31 := Tryz.sizeOf64
  v31 := Tryz.zeroValue64
  t46 := Tryz.underlying108
  a46 := Tryz.isAgg108
  z46 := Tryz.sizeOf108
  v46 := Tryz.zeroValue108
  t51 := Tryz.underlying128
  a51 := Tryz.isAgg128
  z51 := Tryz.sizeOf128
  v51 := Tryz.zeroValue128
  t105 := Tryz.underlying113
  a105 := Tryz.isAgg113
  z105 := Tryz.sizeOf113
  v105 := Tryz.zeroValue113
  t119 := Tryz.underlying131
  a119 := Tryz.isAgg131
  z119 := Tryz.sizeOf131
  t138 := Tryz.underlying133
  a138 := Tryz.isAgg133
  z138 := Tryz.sizeOf133
  v138 := Tryz.zeroValue133
  t139 := Tryz.underlying134
  a139 := Tryz.isAgg134
  z139 := Tryz.sizeOf134
  v139 := Tryz.zeroValue134
  t146 := Tryz.underlying129
  a146 := Tryz.isAgg129
  z146 := Tryz.sizeOf129
  v146 := Tryz.zeroValue129
  g1 := by kernel_rfl
  g3 := by kernel_rfl
  g4 := by kernel_rfl }
open Go.RowKit Go.Lib in
theorem Tryz.strings_genSplit (s sep : ByteArray) (sv : Nat) (n : Int) (N : Nat) (m : Int) (w : World) (hs : s.size < 4294967281) (hm : w.cell? ⟨0, 0, none⟩ = some (.int .i64 m)) (h1 : 1 ≤ sep.size) (hsv : sv ≤ sep.size) (hn0 : n ≠ 0) (hn63 : n ≤ 9223372036854775807) (hN : (N : Int) = min (if n < 0 then (Lib.countB s sep : Int) + 1 else n) ((s.size : Int) + 1)) :
    Calls Tryz.prog 72 #[.string s, .string sep, .int .i64 sv, .int .i64 n] w fun e w' =>
      e = .returned (.slice (some ⟨w.heap.size, 0, none⟩) (Lib.splitB sep sv (N - 1) s).length N) ∧ w' = w.alloc (.cells (Lib.cellsOf (Lib.splitB sep sv (N - 1) s) N) 9) := Any.strings_genSplit Tryz.lays221 (by kernel_rfl) s sep sv n N m w hs hm h1 hsv hn0 hn63 hN
def Tryz.lays146_ren : Go.Shelf.Ren := ⟨fun | 146 => 47 | 221 => 72 | 268 => 89 | 138 => 90 | 143 => 91 | 195 => 103 | 197 => 94 | 218 => 104 | 219 => 85 | 260 => 105 | 217 => 99 | 225 => 100 | 224 => 101 | 267 => 102 | 266 => 112 | 314 => 113 | n => n, fun | 9 => 9 | 31 => 64 | 3 => 3 | 4 => 4 | 0 => 0 | 105 => 113 | 21 => 21 | 5 => 5 | 46 => 108 | 119 => 131 | 139 => 134 | 138 => 133 | 146 => 129 | 51 => 128 | n => n, fun | 1 => 0 | 3 => 1 | 4 => 2 | n => n⟩
theorem Tryz.lays146 : Go.Proofs.Lays.n146 Tryz.prog Tryz.lays146_ren := {
  mixed := by kernel_rfl
  f138 := Tryz.func90.trans (congrArg some (by kernel_rfl))
  f143 := Tryz.func91.trans (congrArg some (by kernel_rfl))
  f146 := Tryz.func47.trans (congrArg some (by kernel_rfl))
  f195 := Tryz.func103.trans (congrArg some (by kernel_rfl))
  f197 := Tryz.func94.trans (congrArg some (by kernel_rfl))
  f217 := Tryz.func99.trans (congrArg some (by kernel_rfl))
  f218 := Tryz.func104.trans (congrArg some (by kernel_rfl))
  f219 := Tryz.func85.trans (congrArg some (by kernel_rfl))
  f221 := Tryz.func72.trans (congrArg some (by kernel_rfl))
  f224 := Tryz.func101.trans (congrArg some (by kernel_rfl))
  f225 := Tryz.func100.trans (congrArg some (by kernel_rfl))
  f260 := Tryz.func105.trans (congrArg some (by kernel_rfl))
  f266 := Tryz.func112.trans (congrArg some (by kernel_rfl))
  f267 := Tryz.func102.trans (congrArg some (by kernel_rfl))
  f268 := Tryz.func89.trans (congrArg some (by kernel_rfl))
  f314 := Tryz.func113.trans (congrArg some (by kernel_rfl))
  t0 := Tryz.underlying0
  a0 := Tryz.isAgg0
  z0 := Tryz.sizeOf0
  v0 := Tryz.zeroValue0
  t3 := Tryz.underlying3
  a3 := Tryz.isAgg3
  z3 := Tryz.sizeOf3
  v3 := Tryz.zeroValue3
  t4 := Tryz.underlying4
  a4 := Tryz.isAgg4
  z4 := Tryz.sizeOf4
  v4 := Tryz.zeroValue4
  t5 := Tryz.underlying5
  a5 := Tryz.isAgg5
  z5 := Tryz.sizeOf5
  v5 := Tryz.zeroValue5
  t9 := Tryz.underlying9
  a9 := Tryz.isAgg9
  z9 := Tryz.sizeOf9
  v9 := Tryz.zeroValue9
  t21 := Tryz.underlying21
  a21 := Tryz.isAgg21
  z21 := Tryz.sizeOf21
  v21 := Tryz.zeroValue21
  t31 := Tryz.underlying64
  a31 := Tryz.isAgg64
  z31 := Tryz.sizeOf64
  v31 := Tryz.zeroValue64
  t46 := Tryz.underlying108
  a46 := Tryz.isAgg108
  z46 := Tryz.sizeOf108
  v46 := Tryz.zeroValue108
  t51 := Tryz.underlying128
  a51 := Tryz.isAgg128
  z51 := Tryz.sizeOf128
  v51 := Tryz.zeroValue128
  t105 := Tryz.underlying113
  a105 := Tryz.isAgg113
  z105 := Tryz.sizeOf113
  v105 := Tryz.zeroValue113
  t119 := Tryz.underlying131
  a119 := Tryz.isAgg131
  z119 := Tryz.sizeOf131
  t138 := Tryz.underlying133
  a138 := Tryz.isAgg133
  z138 := Tryz.sizeOf133
  v138 := Tryz.zeroValue133
  t139 := Tryz.underlying134
  a139 := Tryz.isAgg134
  z139 := Tryz.sizeOf134
  v139 := Tryz.zeroValue134
  t146 := Tryz.underlying129
  a146 := Tryz.isAgg129
  z146 := Tryz.sizeOf129
  v146 := Tryz.zeroValue129
  g1 := by kernel_rfl
  g3 := by kernel_rfl
  g4 := by kernel_rfl }
open Go.RowKit Go.Lib in
theorem Tryz.strings_Split (s sep : ByteArray) (m : Int) (w : World) (hs : s.size < 4294967281) (hm : w.cell? ⟨0, 0, none⟩ = some (.int .i64 m)) (h1 : 1 ≤ sep.size) :
    Calls Tryz.prog 47 #[.string s, .string sep] w fun e w' =>
      e = .returned (.slice (some ⟨w.heap.size, 0, none⟩) (Lib.countB s sep + 1) (Lib.countB s sep + 1)) ∧ w' = w.alloc (.cells ((Lib.splitB sep 0 (Lib.countB s sep) s).map Value.string).toArray 9) := Any.strings_Split Tryz.lays146 (by kernel_rfl) s sep m w hs hm h1
end Go.Proofs
namespace AS.W
open Go Go.Proofs Go.RowKit
/-- What a call leaves that returns a string and turns nothing below the heap's end. -/
theorem ret_below {w w' : World} {Z : Nat → Prop} {F : FP} {vs : List Value} {d : D} {v : Value} (hr : RepV w' Z d v (fun _ => 0)) (hb : Below w.heap.size w w') : Returns w Z F vs [] [d] v w' Z (fun _ => 0) (fun _ => 0) :=
  ⟨hr, fun _ => rfl, fun _ => Nat.zero_le _, fun b hb => absurd hb (Nat.lt_irrefl 0), fun _ h => h, fun _ h => .inl h, fun _ _ => rfl, ⟨hb.os, hb.tape, hb.output, hb.size, fun k hk _ => hb.block k hk⟩⟩
theorem rep_strs {w : World} {Z : Nat → Prop} : ∀ {l : List (List UInt8)} {xs : List Value} {f : FP}, RepXs w Z (l.map cS.enc) xs f → xs = l.map fun s => Value.string ⟨s.toArray⟩
  | [], xs, f, h => by simp only [List.map_nil, RepXs] at h; exact h.1
  | s :: l, xs, f, h => by
    simp only [List.map_cons, RepXs] at h
    obtain ⟨c1, c2, f1, f2, rfl, _, h3, h4⟩ := h
    have h5 : RepX w Z (.str s) c1 f1 := h3
    simp only [RepX] at h5
    rw [h5.1, rep_strs h4]; rfl
end AS.W
namespace AS.W
open Go Go.Proofs Go.RowKit
theorem pcs_miss {c : UInt8} : ∀ {r cur : List UInt8}, Go.Lib.indexByte r c = -1 → pcsA c cur r = [cur ++ r]
  | [], cur, _ => by simp [pcsA]
  | b :: r, cur, h => by
    simp only [Go.Lib.indexByte] at h
    by_cases hb : b = c
    · simp [hb] at h
    · have hb' : (b == c) = false := by simpa using hb
      simp only [hb', Bool.false_eq_true, if_false] at h
      have hr : Go.Lib.indexByte r c = -1 := by
        by_cases hr : Go.Lib.indexByte r c = -1
        · exact hr
        · have := Go.Lib.indexByte_ge r c
          have h2 : ¬ (Go.Lib.indexByte r c == -1) = true := by simpa using hr
          rw [if_neg h2] at h; omega
      simp only [pcsA, hb, if_false]
      rw [pcs_miss hr]; simp
theorem pcs_hit {c : UInt8} : ∀ {r cur : List UInt8} {k : Nat}, Go.Lib.indexByte r c = (k : Int) → k < r.length ∧ pcsA c cur r = (cur ++ r.take k) :: pcsA c [] (r.drop (k + 1))
  | [], cur, k, h => by simp only [Go.Lib.indexByte] at h; omega
  | b :: r, cur, k, h => by
    simp only [Go.Lib.indexByte] at h
    by_cases hb : b = c
    · have : (b == c) = true := by simpa using hb
      rw [if_pos this] at h
      obtain rfl : k = 0 := by omega
      simp [pcsA, hb]
    · have hb' : (b == c) = false := by simpa using hb
      simp only [hb', Bool.false_eq_true, if_false] at h
      have hge := Go.Lib.indexByte_ge r c
      by_cases hr : Go.Lib.indexByte r c = -1
      · rw [if_pos (by simpa using hr)] at h; omega
      · rw [if_neg (by simpa using hr)] at h
        obtain ⟨j, rfl⟩ : ∃ j, k = j + 1 := ⟨k - 1, by omega⟩
        obtain ⟨h1, h2⟩ := pcs_hit (c := c) (r := r) (cur := cur ++ [b]) (k := j) (by omega)
        refine ⟨by simp; omega, ?_⟩
        simp only [pcsA, hb, if_false]
        rw [h2]; simp
theorem extract_take (r : List UInt8) (k : Nat) : (⟨r.toArray⟩ : ByteArray).extract 0 k = ⟨(r.take k).toArray⟩ := by
  have h := Go.Lib.extract_from_zero (⟨r.toArray⟩ : ByteArray) k
  cases he : (⟨r.toArray⟩ : ByteArray).extract 0 k with
  | mk d =>
    rw [he] at h
    simp only [] at h
    congr 1
    exact Array.ext' (by simpa using h)
theorem extract_drop (r : List UInt8) (k : Nat) : (⟨r.toArray⟩ : ByteArray).extract k r.length = ⟨(r.drop k).toArray⟩ := by
  have h := Go.Lib.extract_to_end (⟨r.toArray⟩ : ByteArray) k
  have hs : (⟨r.toArray⟩ : ByteArray).size = r.length := by simp [ByteArray.size]
  rw [hs] at h
  cases he : (⟨r.toArray⟩ : ByteArray).extract k r.length with
  | mk d =>
    rw [he] at h
    simp only [] at h
    congr 1
    exact Array.ext' (by simpa using h)
end AS.W
namespace AS.W
open Go Go.Proofs Go.RowKit Go.Shelf
def restLen (gs : Nat) (w : World) : Nat := match w.cell? ⟨gs, 0, none⟩ with
  | some (.string b) => b.size
  | _ => 0
set_option maxHeartbeats 4000000 in
theorem split_walk {c : UInt8} {s : List UInt8} (hlen : s.length ≤ 9223372036854775807) {g1 o1 gs g3 o3 : Nat} {e0 : TypeId} {Z : Nat → Prop} {f : FP} (hf : ∀ b, f b = if b = gs then 1 else 0) (hZ1 : Z g1) (hZ3 : Z g3) (hn1 : g1 ≠ gs) (hn3 : g3 ≠ gs)
    (l : Nat) (J Jx : List (List UInt8) → World → Prop) (hJ : ∀ pre A B, J pre A → Fr f A B → J pre B) (hJx : ∀ pre A B, Jx pre A → Fr f A B → Jx pre B)
    (hY : ∀ pre x suf W, pcs c s = pre ++ x :: suf → x.length ≤ maxLen → J pre W → ∀ m, YieldAt Fence.wide m Tryz.prog l #[.string ⟨x.toArray⟩] W fun e W' =>
        (e = .returned (.bool true) ∧ J (pre ++ [x]) W' ∧ KpZ Z f W W') ∨ (e = .returned (.bool false) ∧ Jx (pre ++ [x]) W'))
    (W : World) (h1 : W.cell? ⟨g1, o1, none⟩ = some (.string ⟨#[c]⟩)) (h3 : W.cell? ⟨g3, o3, none⟩ = some (.int .i64 0)) (h2 : W.heap[gs]? = some (.cells #[.string ⟨s.toArray⟩] e0 (0, 0))) (h0 : J [] W) :
    CallsIn Fence.wide 3 Tryz.prog 93 #[.func (.yield l) #[] #[], .pointer (some ⟨g1, o1, none⟩), .pointer (some ⟨gs, 0, none⟩), .pointer (some ⟨g3, o3, none⟩)] W fun e W' => (∃ v, e = .returned v) ∧ (J (pcs c s) W' ∨ ∃ pre, Jx pre W') := by
  refine callsIn_of_wp Tryz.func93 rfl trivial ?_ rfl
  simp only [Tryz.ntmps93, List.size_toArray, List.length_cons, List.length_nil, Nat.reduceAdd, Nat.reduceSub, Array.replicate_succ, Array.replicate_zero, List.push_toArray, List.append_toArray, List.nil_append, List.cons_append]
  have hc2 : W.cell? ⟨gs, 0, none⟩ = some (.string ⟨s.toArray⟩) := by simp [World.cell?, h2]
  gi_wp2
  gi_loopw [] (fun wr => ∃ (pre : List (List UInt8)) (r : List UInt8), pcs c s = pre ++ pcs c r ∧ r.length ≤ s.length ∧ wr.heap[gs]? = some (.cells #[.string ⟨r.toArray⟩] e0 (0, 0)) ∧
      wr.cell? ⟨g1, o1, none⟩ = some (.string ⟨#[c]⟩) ∧ wr.cell? ⟨g3, o3, none⟩ = some (.int .i64 0) ∧ J pre wr) (fun wr => restLen gs wr)
  case atStart => exact ⟨[], s, rfl, Nat.le_refl _, h2, h1, h3, h0⟩
  case round =>
    obtain ⟨pre, r, hx, hrl, hh, hc1, hc3, hJ0⟩ := hrel
    have hcr : wr.cell? ⟨gs, 0, none⟩ = some (.string ⟨r.toArray⟩) := by simp [World.cell?, hh]
    by_cases hi : Go.Lib.indexByte r c = -1
    · have hp : pcs c r = [r] := by unfold pcs; rw [pcs_miss hi]; rfl
      obtain ⟨fn, tmps, assign, body, hy, hR⟩ := hY pre r [] wr (by rw [hx, hp]) (by have : maxLen = 9223372036854775807 := rfl; omega) hJ0 2
      gi_wp2_with (refine ⟨trivial, ?_⟩; gi_at_call 91; refine (callsIn_wide.2 (Tryz.strings_Index_one ⟨r.toArray⟩ c _)).mono ?_; rintro e w' ⟨rfl, rfl⟩; rw [hi])
      refine hR.mono ?_
      rintro e W3 (⟨rfl, hJ3, hk3⟩ | ⟨rfl, hJx3⟩)
      · gi_wp2
        go_end0
        exact ⟨⟨_, rfl⟩, .inl (by rw [hx, hp]; exact hJ3)⟩
      · gi_wp2
        go_end0
        exact ⟨⟨_, rfl⟩, .inr ⟨_, hJx3⟩⟩
    · obtain ⟨k, hk⟩ : ∃ k : Nat, Go.Lib.indexByte r c = (k : Int) := ⟨(Go.Lib.indexByte r c).toNat, by have := Go.Lib.indexByte_ge r c; omega⟩
      obtain ⟨hkl, hp⟩ := pcs_hit (cur := []) hk
      have hp : pcs c r = r.take k :: pcs c (r.drop (k + 1)) := by simpa [pcs] using hp
      obtain ⟨fn, tmps, assign, body, hy, hR⟩ := hY pre (r.take k) (pcs c (r.drop (k + 1))) wr (by rw [hx, hp]) (by have : maxLen = 9223372036854775807 := rfl; simp; omega) hJ0 2
      rw [← extract_take] at hy
      gi_wp2_with (refine ⟨trivial, ?_⟩; gi_at_call 91; refine (callsIn_wide.2 (Tryz.strings_Index_one ⟨r.toArray⟩ c _)).mono ?_; rintro e w' ⟨rfl, rfl⟩; rw [hk])
      refine hR.mono ?_
      rintro e W3 (⟨rfl, hJ3, hk3⟩ | ⟨rfl, hJx3⟩)
      · have a2 : W3.heap[gs]? = some (.cells #[.string ⟨r.toArray⟩] e0 (0, 0)) := (hk3.2 gs (.inr (by rw [hf]; simp))).trans hh
        have a1 : W3.cell? ⟨g1, o1, none⟩ = some (.string ⟨#[c]⟩) := (World.cell?_of_block (hk3.2 g1 (.inl hZ1))).trans hc1
        have a3 : W3.cell? ⟨g3, o3, none⟩ = some (.int .i64 0) := (World.cell?_of_block (hk3.2 g3 (.inl hZ3))).trans hc3
        have acr : W3.cell? ⟨gs, 0, none⟩ = some (.string ⟨r.toArray⟩) := by simp [World.cell?, a2]
        have afr : W3.frozen? ⟨gs, 0, none⟩ = false := by simp [World.frozen?, a2]
        gi_wp2
        rw [extract_drop]
        have b2 : (W3.setCell ⟨gs, 0, none⟩ (.string ⟨(r.drop (k + 1)).toArray⟩)).heap[gs]? = some (.cells #[.string ⟨(r.drop (k + 1)).toArray⟩] e0 (0, 0)) := by simp [World.setCell, Array.getElem?_modify, a2]
        have b0 : ∀ b, b ≠ gs → (W3.setCell ⟨gs, 0, none⟩ (.string ⟨(r.drop (k + 1)).toArray⟩)).heap[b]? = W3.heap[b]? := fun b hb => Below.heap_setCell W3 _ _ b hb
        have bfr : Fr f W3 (W3.setCell ⟨gs, 0, none⟩ (.string ⟨(r.drop (k + 1)).toArray⟩)) :=
          ⟨rfl, rfl, rfl, (KeepsWalks.setCell W3 _ _).size, fun b _ h => b0 b (fun e => by rw [hf, if_pos e] at h; omega)⟩
        generalize W3.setCell ⟨gs, 0, none⟩ (.string ⟨(r.drop (k + 1)).toArray⟩) = W4 at *
        refine ⟨⟨pre ++ [r.take k], r.drop (k + 1), by rw [hx, hp]; simp, by simp; omega, b2, (World.cell?_of_block (b0 g1 hn1)).trans a1, (World.cell?_of_block (b0 g3 hn3)).trans a3, hJ _ _ _ hJ3 bfr⟩, ?_⟩
        simp only [restLen, World.cell?, b2, hh]
        simp [ByteArray.size]
        omega
      · gi_wp2
        refine bodyPost_ret (results_none rfl _ _ _) rfl ?_
        exact ⟨⟨_, rfl⟩, .inr ⟨_, hJx3⟩⟩
theorem it_split {u s : List UInt8} {n : Int} (h : u.length = 1 ∧ n = 0) : IterD Tryz.prog 93 [.ptr false (cS.enc u), .ptr true (cS.enc s), .ptr false (cI.enc n)] (pcs (u.headD 0) s) := by
  obtain ⟨hu, rfl⟩ := h
  obtain ⟨c, rfl⟩ : ∃ c, u = [c] := by
    cases u with
    | nil => simp at hu
    | cons c u => cases u with
      | nil => exact ⟨c, rfl⟩
      | cons _ _ => simp at hu
  refine ⟨fun args w => enters_of Tryz.func93 (by kernel_rfl) rfl args w, ?_⟩
  intro w Z cp f hrep hf1 hfs hZ l J Jx hJ hJx hY h0
  have hrep : RepXs w Z [.ptr false (.str [c]), .ptr true (.str s), .ptr false (.int .i64 0)] cp f := hrep
  simp only [RepXs, RepX] at hrep
  obtain ⟨c1, c2, f1, f2, rfl, e1, ⟨g1, o1, cs1, q1, rfl, ⟨rfl, hl1, _⟩, k1⟩, c3, c4, f3, f4, rfl, e2, ⟨g2, o2, cs2, q2, rfl, ⟨rfl, hl2, hq2⟩, k2⟩, c5, c6, f5, f6, rfl, e3, ⟨g3, o3, cs3, q3, rfl, ⟨rfl, _⟩, k3⟩, rfl, e4⟩ := hrep
  have k1 := k1.resolve_right (by simp)
  have k2 := k2.resolve_left (by simp)
  have k3 := k3.resolve_right (by simp)
  obtain ⟨_, hz1, hf1', _, hc1⟩ := k1
  obtain ⟨_, rfl, hf3, cur, e0, hh, hcur⟩ := k2
  obtain ⟨_, hz3, hf5, _, hc3⟩ := k3
  have hff : ∀ b, f b = if b = g2 then 1 else 0 := fun b => by
    have := e1 b; have := e2 b; have := e3 b; have := e4 b; have := hf1' b; have := hf5 b; have := hf3 b; have := hq2 b; omega
  obtain rfl : cur = #[.string ⟨s.toArray⟩] := Array.ext' hcur
  have h1 := hc1 0 (.string ⟨[c].toArray⟩) rfl
  have h3 := hc3 0 (.int .i64 0) rfl
  rw [Nat.add_zero] at h1 h3
  have hn : ∀ g, Z g → g ≠ g2 := fun g hg e => by have := (hZ g hg).2; rw [hff, if_pos e] at this; omega
  exact callsIn_wide.1 (split_walk hl2 hff hz1 hz3 (hn _ hz1) (hn _ hz3) l J Jx hJ hJx hY w h1 h3 hh h0)
end AS.W
