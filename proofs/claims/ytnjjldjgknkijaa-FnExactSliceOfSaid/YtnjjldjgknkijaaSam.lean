/- Plain functions. No condition. -/
import Derived.Test.YtnjjldjgknkijaaKc
import Derived.Test.YtnjjldjgknkijaaSaa
import Derived.Test.YtnjjldjgknkijaaSad
import Derived.Test.YtnjjldjgknkijaaSae
import Derived.Test.YtnjjldjgknkijaaSal
set_option linter.unusedVariables false
set_option linter.unusedSimpArgs false
namespace AS
def sh_spec_SliceOf (v0 : XCube) (v1 : Int) (v2 : Int) : Option (XCube × Bool) :=
 (sh_spec_cbGood v0).bind fun x41 =>
 (if (!x41) = true then
 some ((⟨([] : List Int), ([] : List Int)⟩ : XCube), false)
 else
 ckI ((v0.Sizes.length : Int) - (1 : Int)) <|
 (sh_spec_l1In v1 (0 : Int) ((v0.Sizes.length : Int) - (1 : Int))).bind fun x46 =>
 (if (!x46) = true then
 some ((⟨([] : List Int), ([] : List Int)⟩ : XCube), false)
 else
 getO v0.Sizes v1 fun x49 =>
 (sh_spec_l1In v2 (0 : Int) x49).bind fun x52 =>
 (if (!x52) = true then
 some ((⟨([] : List Int), ([] : List Int)⟩ : XCube), false)
 else
 rangeF (fun (k80 : Nat) (x81 : Int) (s79 : (List Int)) (nx92 : (List Int) → Option (XCube × Bool)) =>
 (if (decide ((k80 : Int) ≠ v1)) = true then
 lnO (s79.length + [(k80 : Int)].length) <|
 nx92 (s79 ++ [(k80 : Int)])
 else
 nx92 s79))
 (fun (s79 : (List Int)) =>
 (sh_spec_l1Own v0.Sizes).bind fun x97 =>
 getO x97 v1 fun x102 =>
 (sh_spec_cbFrom v0 s79 (x97.set (v1).toNat v2)).bind fun x107 =>
 some (x107, true)) v0.Sizes 0 ([] : List Int))))

def sh_impl_SliceOf (v0 : XCube) (v1 : Int) (v2 : Int) : Option (XCube × Bool) :=
 (((sh_impl_IsCube v0).bind fun x95 =>
 (if (!x95) = true then
 some true
 else
 (if (decide (v1 < (0 : Int))) = true then
 some true
 else
 (if (decide ((v0.Sizes.length : Int) ≤ v1)) = true then
 some true
 else
 (if (decide (v2 < (0 : Int))) = true then
 some true
 else
 getO v0.Sizes v1 fun x102 =>
 some (decide (x102 < v2)))))) : Option Bool).bind fun (s34 : Bool) =>
 (if s34 = true then
 some ((⟨([] : List Int), ([] : List Int)⟩ : XCube), false)
 else
 rangeF (fun (k62 : Nat) (x63 : Int) (s61 : (List Int)) (nx74 : (List Int) → Option (XCube × Bool)) =>
 (if (decide ((k62 : Int) ≠ v1)) = true then
 lnO (s61.length + [(k62 : Int)].length) <|
 nx74 (s61 ++ [(k62 : Int)])
 else
 nx74 s61))
 (fun (s61 : (List Int)) =>
 (sh_slices_Clone_int v0.Sizes).bind fun x79 =>
 getO x79 v1 fun x84 =>
 (sh_impl_taken v0 s61 (x79.set (v1).toNat v2)).bind fun x89 =>
 some (x89, true)) v0.Sizes 0 ([] : List Int)))

def sh_laws_FnExactSliceOf (v0 : XCube) (v1 : Int) (v2 : Int) : Option Bool :=
 (sh_laws_szCube v0 (1048576 : Int)).bind fun x3 =>
 (if (decide (x3 < (0 : Int))) = true then
 some true
 else
 (sh_laws_toCube v0).bind fun x11 =>
 (sh_spec_SliceOf x11 v1 v2).bind fun x13 =>
 (sh_laws_toCube v0).bind fun x17 =>
 (sh_impl_SliceOf x17 v1 v2).bind fun x21 =>
 (sh_laws_eqCube x21.1 x13.1).bind fun x33 =>
 (if (!x33) = true then
 some false
 else
 (if (x21.2 != x13.2) = true then
 some false
 else
 (sh_laws_toCube v0).bind fun x50 =>
 (sh_laws_eqCube x17 x50).bind fun x52 =>
 (if (!x52) = true then
 some false
 else
 (sh_laws_markCube x17 (1 : Int)).bind fun x57 =>
 (if (decide (x57.2 < (0 : Int))) = true then
 some false
 else
 (sh_laws_eqCube x21.1 x13.1).bind fun x72 =>
 (if (!x72) = true then
 some false
 else
 (sh_laws_markCube x21.1 (1 : Int)).bind fun x77 =>
 (sh_laws_heldCube x77.1 (1 : Int)).bind fun x81 =>
 (if (decide (x81 < (0 : Int))) = true then
 some false
 else
 (if (decide (x81 ≠ x77.2)) = true then
 some false
 else
 (sh_laws_toCube v0).bind fun x91 =>
 (sh_impl_SliceOf x91 v1 v2).bind fun x93 =>
 (sh_laws_eqCube x93.1 x13.1).bind fun x105 =>
 (if (!x105) = true then
 some false
 else
 (if (x93.2 != x13.2) = true then
 some false
 else
 (sh_laws_heldCube x77.1 (1 : Int)).bind fun x111 =>
 (if (decide (x111 < (0 : Int))) = true then
 some false
 else
 (if (decide (x111 ≠ x77.2)) = true then
 some false
 else
 some true))))))))))))
end AS
