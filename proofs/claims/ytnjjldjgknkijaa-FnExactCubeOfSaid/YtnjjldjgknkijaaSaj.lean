/- Plain functions. No condition. -/
import Derived.Test.YtnjjldjgknkijaaKc
import Derived.Test.YtnjjldjgknkijaaSaa
import Derived.Test.YtnjjldjgknkijaaSab
import Derived.Test.YtnjjldjgknkijaaSad
import Derived.Test.YtnjjldjgknkijaaSai
set_option linter.unusedVariables false
set_option linter.unusedSimpArgs false
namespace AS
def sh_spec_cbOf (v0 : (List Int)) (v1 : (List Int)) : Option XCube :=
 (sh_spec_l1Own v0).bind fun x7 =>
 (sh_spec_cbCount v0).bind fun x9 =>
 mkO x9 <|
 (sh_spec_cbBase v0).bind fun x11136 =>
 rangeF (fun (k11140 : Nat) (x11141 : Int) (s11139 : XCube) (nx18548 : XCube → Option XCube) =>
 (sh_spec_cbIndices v0 x11141).bind fun x20404 =>
 loopF (fun (nx21637 : (XCube × Int) → Option XCube) (s20406 : (XCube × Int)) =>
 ckK .u64 (v0.length : Int) <|
 ck (0 ≤ (v0.length : Int) ∧ (v0.length : Int) < 64) <|
 ckI ((1 : Int) * 2 ^ ((v0.length : Int)).toNat) <|
 (if (decide (s20406.2 < ((1 : Int) * 2 ^ ((v0.length : Int)).toNat))) = true then
 (sh_spec_l1Own x20404).bind fun x21957 =>
 rangeF (fun (k22104 : Nat) (x22105 : Int) (s22103 : (List Int)) (nx22194 : (List Int) → Option XCube) =>
 ckK .u64 (k22104 : Int) <|
 ck (0 ≤ (k22104 : Int) ∧ (k22104 : Int) < 64) <|
 ck (0 ≤ (s20406.2 / 2 ^ ((k22104 : Int)).toNat)) <|
 ckK .i64 (s20406.2 / 2 ^ ((k22104 : Int)).toNat) <|
 ck (0 ≤ (1 : Int)) <|
 ckK .i64 (1 : Int) <|
 (if (decide ((((s20406.2 / 2 ^ ((k22104 : Int)).toNat).toNat &&& (1 : Int).toNat : Nat) : Int) = (1 : Int))) = true then
 getO v0 (k22104 : Int) fun x22247 =>
 getO s22103 (k22104 : Int) fun x22250 =>
 nx22194 (s22103.set ((k22104 : Int)).toNat x22247)
 else
 nx22194 s22103))
 (fun (s22103 : (List Int)) =>
 (sh_spec_cbAt v0 s22103).bind fun x22197 =>
 getO s20406.1.Cells x22197 fun x22199 =>
 getO v1 (k11140 : Int) fun x22202 =>
 ckI (x22199 + x22202) <|
 ckI (s20406.2 + (1 : Int)) <|
 nx21637 ((⟨s20406.1.Sizes, (s20406.1.Cells.set (x22197).toNat (x22199 + x22202))⟩ : XCube), (s20406.2 + (1 : Int)))) x21957 0 x21957
 else
 nx18548 s20406.1)) FUEL (s11139, (0 : Int)))
 (fun (s11139 : XCube) =>
 some s11139) x11136 0 (⟨x7, (List.replicate (x9).toNat (0 : Int))⟩ : XCube)

def sh_spec_cbIf (v0 : XCube) : Option (XCube × Bool) :=
 (sh_spec_cbGood v0).bind fun x8 =>
 (if (!x8) = true then
 some ((⟨([] : List Int), ([] : List Int)⟩ : XCube), false)
 else
 some (v0, true))

def sh_spec_CubeOf (v0 : (List Int)) (v1 : (List Int)) : Option (XCube × Bool) :=
 (sh_spec_cbCount v0).bind fun x32 =>
 (if (decide (x32 = (0 : Int))) = true then
 some ((⟨([] : List Int), ([] : List Int)⟩ : XCube), false)
 else
 (sh_spec_cbBase v0).bind fun x36 =>
 (if (decide ((v1.length : Int) ≠ (x36.length : Int))) = true then
 some ((⟨([] : List Int), ([] : List Int)⟩ : XCube), false)
 else
 (sh_spec_l1All v1 (-1000000 : Int) (1000000 : Int)).bind fun x40 =>
 (if (!x40) = true then
 some ((⟨([] : List Int), ([] : List Int)⟩ : XCube), false)
 else
 (sh_spec_cbOf v0 v1).bind fun x47 =>
 (sh_spec_cbIf x47).bind fun x49 =>
 some (x49.1, x49.2))))

def sh_impl_cubeOf (v0 : (List Int)) (v1 : (List Int)) : Option (XCube × Bool) :=
 (sh_slices_Clone_int v0).bind fun x7 =>
 (sh_impl_cubeCells v0).bind fun x9 =>
 mkO x9 <|
 rangeF (fun (k86 : Nat) (x87 : Int) (s85 : Int) (nx130 : Int → Option (XCube × Bool)) =>
 (sh_impl_indexOf v0 (k86 : Int)).bind fun x9727 =>
 (sh_impl_isBase v0 x9727).bind fun x9729 =>
 (if x9729 = true then
 ckI (s85 + (1 : Int)) <|
 nx130 (s85 + (1 : Int))
 else
 nx130 s85))
 (fun (s85 : Int) =>
 (if (decide (s85 ≠ (v1.length : Int))) = true then
 some ((⟨([] : List Int), ([] : List Int)⟩ : XCube), false)
 else
 (sh_impl_areCubeValues v1).bind fun x148 =>
 (if (!x148) = true then
 some ((⟨([] : List Int), ([] : List Int)⟩ : XCube), false)
 else
 rangeF (fun (k284 : Nat) (x285 : Int) (s283 : (XCube × Int)) (nx364 : (XCube × Int) → Option (XCube × Bool)) =>
 (sh_impl_indexOf v0 (k284 : Int)).bind fun x9695 =>
 (sh_impl_isBase v0 x9695).bind fun x9697 =>
 (if x9697 = true then
 getO v1 s283.2 fun x9706 =>
 getO s283.1.Cells (k284 : Int) fun x9709 =>
 ckI (s283.2 + (1 : Int)) <|
 nx364 ((⟨s283.1.Sizes, (s283.1.Cells.set ((k284 : Int)).toNat x9706)⟩ : XCube), (s283.2 + (1 : Int)))
 else
 nx364 (s283.1, s283.2)))
 (fun (s283 : (XCube × Int)) =>
 (sh_impl_strides v0).bind fun x5016 =>
 rangeF (fun (k5020 : Nat) (x5021 : Int) (s5019 : XCube) (nx8112 : XCube → Option (XCube × Bool)) =>
 rangeF (fun (k8900 : Nat) (x8901 : Int) (s8899 : XCube) (nx9408 : XCube → Option (XCube × Bool)) =>
 (sh_impl_indexOf v0 (k8900 : Int)).bind fun x9542 =>
 getO x9542 (k5020 : Int) fun x9584 =>
 getO v0 (k5020 : Int) fun x9587 =>
 (if (decide (x9584 ≠ x9587)) = true then
 nx9408 s8899
 else
 ckI ((k5020 : Int) + (1 : Int)) <|
 ck (0 ≤ ((k5020 : Int) + (1 : Int)) ∧ (((k5020 : Int) + (1 : Int))).toNat ≤ v0.length ∧ v0.length ≤ v0.length) <|
 ckI ((k5020 : Int) + (1 : Int)) <|
 ck (0 ≤ ((k5020 : Int) + (1 : Int)) ∧ (((k5020 : Int) + (1 : Int))).toNat ≤ x9542.length ∧ x9542.length ≤ x9542.length) <|
 (sh_impl_isBase ((v0.take v0.length).drop (((k5020 : Int) + (1 : Int))).toNat) ((x9542.take x9542.length).drop (((k5020 : Int) + (1 : Int))).toNat)).bind fun x9595 =>
 (if (!x9595) = true then
 nx9408 s8899
 else
 loopF (fun (nx9645 : (XCube × Int) → Option (XCube × Bool)) (s9598 : (XCube × Int)) =>
 (if (decide (s9598.2 ≤ x9587)) = true then
 getO s9598.1.Cells (k8900 : Int) fun x9659 =>
 ckI (s9598.2 * x5021) <|
 ckI ((k8900 : Int) - (s9598.2 * x5021)) <|
 getO s9598.1.Cells ((k8900 : Int) - (s9598.2 * x5021)) fun x9664 =>
 ckI (x9659 + x9664) <|
 ckI (s9598.2 + (1 : Int)) <|
 nx9645 ((⟨s9598.1.Sizes, (s9598.1.Cells.set ((k8900 : Int)).toNat (x9659 + x9664))⟩ : XCube), (s9598.2 + (1 : Int)))
 else
 nx9408 s9598.1)) FUEL (s8899, (1 : Int)))))
 (fun (s8899 : XCube) =>
 nx8112 s8899) s5019.Cells 0 s5019)
 (fun (s5019 : XCube) =>
 (sh_impl_areCubeValues s5019.Cells).bind fun x8122 =>
 (if (!x8122) = true then
 some ((⟨([] : List Int), ([] : List Int)⟩ : XCube), false)
 else
 some (s5019, true))) x5016 0 s283.1) (List.replicate (x9).toNat (0 : Int)) 0 ((⟨x7, (List.replicate (x9).toNat (0 : Int))⟩ : XCube), (0 : Int))))) (List.replicate (x9).toNat (0 : Int)) 0 (0 : Int)

def sh_impl_CubeOf (v0 : (List Int)) (v1 : (List Int)) : Option (XCube × Bool) :=
 (sh_impl_cubeCells v0).bind fun x8 =>
 (if (decide (x8 = (0 : Int))) = true then
 some ((⟨([] : List Int), ([] : List Int)⟩ : XCube), false)
 else
 (sh_impl_cubeOf v0 v1).bind fun x13 =>
 some (x13.1, x13.2))

def sh_laws_FnExactCubeOf (v0 : (List Int)) (v1 : (List Int)) : Option Bool :=
 (if (decide ((1048576 : Int) < (v0.length : Int))) = true then
 some true
 else
 (if (decide ((1048576 : Int) < (v1.length : Int))) = true then
 some true
 else
 (sh_laws_toIntS v0).bind fun x19 =>
 (sh_laws_toIntS v1).bind fun x21 =>
 (sh_spec_CubeOf x19 x21).bind fun x23 =>
 (sh_laws_toIntS v0).bind fun x27 =>
 (sh_laws_toIntS v1).bind fun x31 =>
 (sh_impl_CubeOf x27 x31).bind fun x35 =>
 (sh_laws_eqCube x35.1 x23.1).bind fun x47 =>
 (if (!x47) = true then
 some false
 else
 (if (x35.2 != x23.2) = true then
 some false
 else
 (sh_laws_toIntS v0).bind fun x64 =>
 (sh_laws_eqIntS x27 x64).bind fun x66 =>
 (if (!x66) = true then
 some false
 else
 (sh_laws_toIntS v1).bind fun x82 =>
 (sh_laws_eqIntS x31 x82).bind fun x84 =>
 (if (!x84) = true then
 some false
 else
 (sh_laws_markIntS x27 (1 : Int)).bind fun x89 =>
 (sh_laws_markIntS x31 x89.2).bind fun x93 =>
 (if (decide (x93.2 < (0 : Int))) = true then
 some false
 else
 (sh_laws_eqCube x35.1 x23.1).bind fun x108 =>
 (if (!x108) = true then
 some false
 else
 (sh_laws_markCube x35.1 (1 : Int)).bind fun x113 =>
 (sh_laws_heldCube x113.1 (1 : Int)).bind fun x117 =>
 (if (decide (x117 < (0 : Int))) = true then
 some false
 else
 (if (decide (x117 ≠ x113.2)) = true then
 some false
 else
 (sh_laws_toIntS v0).bind fun x129 =>
 (sh_laws_toIntS v1).bind fun x131 =>
 (sh_impl_CubeOf x129 x131).bind fun x133 =>
 (sh_laws_eqCube x133.1 x23.1).bind fun x145 =>
 (if (!x145) = true then
 some false
 else
 (if (x133.2 != x23.2) = true then
 some false
 else
 (sh_laws_heldCube x113.1 (1 : Int)).bind fun x151 =>
 (if (decide (x151 < (0 : Int))) = true then
 some false
 else
 (if (decide (x151 ≠ x113.2)) = true then
 some false
 else
 some true))))))))))))))
end AS
