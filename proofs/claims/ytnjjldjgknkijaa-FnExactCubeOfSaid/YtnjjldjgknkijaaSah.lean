/- Plain functions. No condition. -/
import Derived.Test.YtnjjldjgknkijaaKc
import Derived.Test.YtnjjldjgknkijaaSaa
import Derived.Test.YtnjjldjgknkijaaSab
import Derived.Test.YtnjjldjgknkijaaSad
import Derived.Test.YtnjjldjgknkijaaSae
set_option linter.unusedVariables false
set_option linter.unusedSimpArgs false
namespace AS
def sh_spec_CubeCell (v0 : XCube) (v1 : (List Int)) : Option (Int × Bool) :=
 (sh_spec_cbGood v0).bind fun x17 =>
 (if (!x17) = true then
 some ((0 : Int), false)
 else
 (if (decide ((v1.length : Int) ≠ (v0.Sizes.length : Int))) = true then
 some ((0 : Int), false)
 else
 rangeF (fun (k80 : Nat) (x81 : Int) (s79 : Unit) (nx106 : Unit → Option (Int × Bool)) =>
 getO v0.Sizes (k80 : Int) fun x135 =>
 (sh_spec_l1In x81 (0 : Int) x135).bind fun x138 =>
 (if (!x138) = true then
 some ((0 : Int), false)
 else
 nx106 ()))
 (fun (s79 : Unit) =>
 (sh_spec_cbAt v0.Sizes v1).bind fun x114 =>
 getO v0.Cells x114 fun x116 =>
 some (x116, true)) v1 0 ()))

def sh_impl_CubeCell (v0 : XCube) (v1 : (List Int)) : Option (Int × Bool) :=
 (sh_impl_IsCube v0).bind fun x17 =>
 (if (!x17) = true then
 some ((0 : Int), false)
 else
 (if (decide ((v1.length : Int) ≠ (v0.Sizes.length : Int))) = true then
 some ((0 : Int), false)
 else
 rangeF (fun (k72 : Nat) (x73 : Int) (s71 : Unit) (nx94 : Unit → Option (Int × Bool)) =>
 (if (decide (x73 < (0 : Int))) = true then
 some ((0 : Int), false)
 else
 getO v0.Sizes (k72 : Int) fun x121 =>
 (if (decide (x121 < x73)) = true then
 some ((0 : Int), false)
 else
 nx94 ())))
 (fun (s71 : Unit) =>
 (sh_impl_cellOf v0.Sizes v1).bind fun x102 =>
 getO v0.Cells x102 fun x104 =>
 some (x104, true)) v1 0 ()))

def sh_laws_FnExactCubeCell (v0 : XCube) (v1 : (List Int)) : Option Bool :=
 (if (decide ((1048576 : Int) < (v1.length : Int))) = true then
 some true
 else
 (sh_laws_szCube v0 (1048576 : Int)).bind fun x9 =>
 (if (decide (x9 < (0 : Int))) = true then
 some true
 else
 (sh_laws_toCube v0).bind fun x19 =>
 (sh_laws_toIntS v1).bind fun x21 =>
 (sh_spec_CubeCell x19 x21).bind fun x23 =>
 (sh_laws_toCube v0).bind fun x27 =>
 (sh_laws_toIntS v1).bind fun x31 =>
 (sh_impl_CubeCell x27 x31).bind fun x35 =>
 (if (decide (x35.1 ≠ x23.1)) = true then
 some false
 else
 (if (x35.2 != x23.2) = true then
 some false
 else
 (sh_laws_toCube v0).bind fun x56 =>
 (sh_laws_eqCube x27 x56).bind fun x58 =>
 (if (!x58) = true then
 some false
 else
 (sh_laws_toIntS v1).bind fun x74 =>
 (sh_laws_eqIntS x31 x74).bind fun x76 =>
 (if (!x76) = true then
 some false
 else
 some true))))))
end AS
