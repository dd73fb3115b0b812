/- Plain functions. No condition. -/
import Derived.Test.YtnjjldjgknkijaaKc
import Derived.Test.YtnjjldjgknkijaaSaa
import Derived.Test.YtnjjldjgknkijaaSab
import Derived.Test.YtnjjldjgknkijaaSad
import Derived.Test.YtnjjldjgknkijaaSae
set_option linter.unusedVariables false
set_option linter.unusedSimpArgs false
namespace AS
def sh_spec_l1Rising (v0 : (List Int)) (v1 : Int) (v2 : Int) : Option Bool :=
 rangeF (fun (k82 : Nat) (x83 : Int) (s81 : Unit) (nx120 : Unit → Option Bool) =>
 (sh_spec_l1In x83 v1 v2).bind fun x148 =>
 (if (!x148) = true then
 some false
 else
 (if (decide ((0 : Int) < (k82 : Int))) = true then
 ckI ((k82 : Int) - (1 : Int)) <|
 getO v0 ((k82 : Int) - (1 : Int)) fun x153 =>
 (if (decide (x83 ≤ x153)) = true then
 some false
 else
 nx120 ())
 else
 nx120 ())))
 (fun (s81 : Unit) =>
 some true) v0 0 ()

def sh_spec_sPick (v0 : (List Int)) (v1 : (List Int)) : Option (List Int) :=
 rangeF (fun (k38 : Nat) (x39 : Int) (s37 : (List Int)) (nx58 : (List Int) → Option (List Int)) =>
 getO v0 x39 fun x65 =>
 lnO (s37.length + [x65].length) <|
 nx58 (s37 ++ [x65]))
 (fun (s37 : (List Int)) =>
 some s37) v1 0 ([] : List Int)

def sh_spec_cbFrom (v0 : XCube) (v1 : (List Int)) (v2 : (List Int)) : Option XCube :=
 (sh_spec_sPick v0.Sizes v1).bind fun x3 =>
 loopF (fun (nx1173 : (XCube × Int) → Option XCube) (s706 : (XCube × Int)) =>
 (sh_spec_cbCount s706.1.Sizes).bind fun x1183 =>
 (if (decide (s706.2 < x1183)) = true then
 (sh_spec_l1Own v2).bind fun x1298 =>
 (sh_spec_cbIndices s706.1.Sizes s706.2).bind fun x1353 =>
 rangeF (fun (k1357 : Nat) (x1358 : Int) (s1356 : (List Int)) (nx1385 : (List Int) → Option XCube) =>
 getO v1 (k1357 : Int) fun x1401 =>
 getO s1356 x1401 fun x1404 =>
 nx1385 (s1356.set (x1401).toNat x1358))
 (fun (s1356 : (List Int)) =>
 (sh_spec_cbAt v0.Sizes s1356).bind fun x1388 =>
 getO v0.Cells x1388 fun x1390 =>
 lnO (s706.1.Cells.length + [x1390].length) <|
 ckI (s706.2 + (1 : Int)) <|
 nx1173 ((⟨s706.1.Sizes, (s706.1.Cells ++ [x1390])⟩ : XCube), (s706.2 + (1 : Int)))) x1353 0 x1298
 else
 some s706.1)) FUEL ((⟨x3, ([] : List Int)⟩ : XCube), (0 : Int))

def sh_spec_MarginOf (v0 : XCube) (v1 : (List Int)) : Option (XCube × Bool) :=
 (sh_spec_cbGood v0).bind fun x23 =>
 (if (!x23) = true then
 some ((⟨([] : List Int), ([] : List Int)⟩ : XCube), false)
 else
 ckI ((v0.Sizes.length : Int) - (1 : Int)) <|
 (sh_spec_l1Rising v1 (0 : Int) ((v0.Sizes.length : Int) - (1 : Int))).bind fun x28 =>
 (if (!x28) = true then
 some ((⟨([] : List Int), ([] : List Int)⟩ : XCube), false)
 else
 (sh_spec_cbFrom v0 v1 v0.Sizes).bind fun x33 =>
 some (x33, true)))

def sh_impl_taken (v0 : XCube) (v1 : (List Int)) (v2 : (List Int)) : Option XCube :=
 rangeF (fun (k38 : Nat) (x39 : Int) (s37 : XCube) (nx58 : XCube → Option XCube) =>
 getO v0.Sizes x39 fun x1425 =>
 lnO (s37.Sizes.length + [x1425].length) <|
 nx58 (⟨(s37.Sizes ++ [x1425]), s37.Cells⟩ : XCube))
 (fun (s37 : XCube) =>
 (sh_impl_cubeCells s37.Sizes).bind fun x65 =>
 mkO x65 <|
 rangeF (fun (k748 : Nat) (x749 : Int) (s747 : XCube) (nx1194 : XCube → Option XCube) =>
 (sh_slices_Clone_int v2).bind fun x1311 =>
 (sh_impl_indexOf s747.Sizes (k748 : Int)).bind fun x1366 =>
 rangeF (fun (k1370 : Nat) (x1371 : Int) (s1369 : (List Int)) (nx1398 : (List Int) → Option XCube) =>
 getO v1 (k1370 : Int) fun x1415 =>
 getO s1369 x1415 fun x1418 =>
 nx1398 (s1369.set (x1415).toNat x1371))
 (fun (s1369 : (List Int)) =>
 (sh_impl_cellOf v0.Sizes s1369).bind fun x1401 =>
 getO v0.Cells x1401 fun x1403 =>
 getO s747.Cells (k748 : Int) fun x1406 =>
 nx1194 (⟨s747.Sizes, (s747.Cells.set ((k748 : Int)).toNat x1403)⟩ : XCube)) x1366 0 x1311)
 (fun (s747 : XCube) =>
 some s747) (List.replicate (x65).toNat (0 : Int)) 0 (⟨s37.Sizes, (List.replicate (x65).toNat (0 : Int))⟩ : XCube)) v1 0 (⟨([] : List Int), ([] : List Int)⟩ : XCube)

def sh_impl_MarginOf (v0 : XCube) (v1 : (List Int)) : Option (XCube × Bool) :=
 rangeF (fun (k74 : Nat) (x75 : Int) (s73 : Int) (nx118 : Int → Option (XCube × Bool)) =>
 (if (decide (x75 ≤ s73)) = true then
 some ((⟨([] : List Int), ([] : List Int)⟩ : XCube), false)
 else
 (if (decide ((v0.Sizes.length : Int) ≤ x75)) = true then
 some ((⟨([] : List Int), ([] : List Int)⟩ : XCube), false)
 else
 nx118 x75)))
 (fun (s73 : Int) =>
 (sh_impl_IsCube v0).bind fun x128 =>
 (if (!x128) = true then
 some ((⟨([] : List Int), ([] : List Int)⟩ : XCube), false)
 else
 (sh_impl_taken v0 v1 v0.Sizes).bind fun x133 =>
 some (x133, true))) v1 0 (-1 : Int)

def sh_laws_FnExactMarginOf (v0 : XCube) (v1 : (List Int)) : Option Bool :=
 (if (decide ((1048576 : Int) < (v1.length : Int))) = true then
 some true
 else
 (sh_laws_szCube v0 (1048576 : Int)).bind fun x9 =>
 (if (decide (x9 < (0 : Int))) = true then
 some true
 else
 (sh_laws_toCube v0).bind fun x19 =>
 (sh_laws_toIntS v1).bind fun x21 =>
 (sh_spec_MarginOf x19 x21).bind fun x23 =>
 (sh_laws_toCube v0).bind fun x27 =>
 (sh_laws_toIntS v1).bind fun x31 =>
 (sh_impl_MarginOf x27 x31).bind fun x35 =>
 (sh_laws_eqCube x35.1 x23.1).bind fun x47 =>
 (if (!x47) = true then
 some false
 else
 (if (x35.2 != x23.2) = true then
 some false
 else
 (sh_laws_toCube v0).bind fun x64 =>
 (sh_laws_eqCube x27 x64).bind fun x66 =>
 (if (!x66) = true then
 some false
 else
 (sh_laws_toIntS v1).bind fun x82 =>
 (sh_laws_eqIntS x31 x82).bind fun x84 =>
 (if (!x84) = true then
 some false
 else
 (sh_laws_markCube x27 (1 : Int)).bind fun x89 =>
 (sh_laws_markIntS x31 x89.2).bind fun x93 =>
 (if (decide (x93.2 < (0 : Int))) = true then
 some false
 else
 (sh_laws_eqCube x35.1 x23.1).bind fun x108 =>
 (if (!x108) = true then
 some false
 else
 (sh_laws_markCube x35.1 (1 : Int)).bind fun x113 =>
 (sh_laws_heldCube x113.1 (1 : Int)).bind fun x117 =>
 (if (decide (x117 < (0 : Int))) = true then
 some false
 else
 (if (decide (x117 ≠ x113.2)) = true then
 some false
 else
 (sh_laws_toCube v0).bind fun x129 =>
 (sh_laws_toIntS v1).bind fun x131 =>
 (sh_impl_MarginOf x129 x131).bind fun x133 =>
 (sh_laws_eqCube x133.1 x23.1).bind fun x145 =>
 (if (!x145) = true then
 some false
 else
 (if (x133.2 != x23.2) = true then
 some false
 else
 (sh_laws_heldCube x113.1 (1 : Int)).bind fun x151 =>
 (if (decide (x151 < (0 : Int))) = true then
 some false
 else
 (if (decide (x151 ≠ x113.2)) = true then
 some false
 else
 some true))))))))))))))
end AS
