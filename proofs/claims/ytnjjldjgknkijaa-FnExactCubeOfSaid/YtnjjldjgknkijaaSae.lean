/- Plain functions. No condition. -/
import Derived.Test.YtnjjldjgknkijaaKc
import Derived.Test.YtnjjldjgknkijaaSad
set_option linter.unusedVariables false
set_option linter.unusedSimpArgs false
namespace AS
def sh_spec_IsCube (v0 : XCube) : Option Bool :=
 (sh_spec_cbGood v0).bind fun x3 =>
 some x3

def sh_impl_IsCube (v0 : XCube) : Option Bool :=
 (sh_impl_hasRightForm v0).bind fun x7 =>
 (if x7 = true then
 (sh_impl_firstBreak v0).bind fun x10 =>
 lmO v0.Cells.length <|
 some (decide (x10 = (v0.Cells.length : Int)))
 else
 some false)

def sh_laws_FnExactIsCube (v0 : XCube) : Option Bool :=
 (sh_laws_szCube v0 (1048576 : Int)).bind fun x3 =>
 (if (decide (x3 < (0 : Int))) = true then
 some true
 else
 (sh_laws_toCube v0).bind fun x11 =>
 (sh_spec_IsCube x11).bind fun x13 =>
 (sh_laws_toCube v0).bind fun x17 =>
 (sh_impl_IsCube x17).bind fun x21 =>
 (if (x21 != x13) = true then
 some false
 else
 (sh_laws_toCube v0).bind fun x38 =>
 (sh_laws_eqCube x17 x38).bind fun x40 =>
 (if (!x40) = true then
 some false
 else
 some true)))
end AS
