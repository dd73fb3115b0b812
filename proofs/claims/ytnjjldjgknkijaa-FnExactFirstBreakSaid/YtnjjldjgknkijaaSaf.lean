/- Plain functions. No condition. -/
import Derived.Test.YtnjjldjgknkijaaKc
import Derived.Test.YtnjjldjgknkijaaSad
set_option linter.unusedVariables false
set_option linter.unusedSimpArgs false
namespace AS
def sh_spec_FirstBreak (v0 : XCube) : Option (Int × Bool) :=
 (sh_spec_cbForm v0).bind fun x8 =>
 (if (!x8) = true then
 some ((0 : Int), false)
 else
 (sh_spec_cbFirst v0).bind fun x13 =>
 some (x13, true))

def sh_impl_FirstBreak (v0 : XCube) : Option (Int × Bool) :=
 (sh_impl_hasRightForm v0).bind fun x8 =>
 (if (!x8) = true then
 some ((0 : Int), false)
 else
 (sh_impl_firstBreak v0).bind fun x13 =>
 some (x13, true))

def sh_laws_FnExactFirstBreak (v0 : XCube) : Option Bool :=
 (sh_laws_szCube v0 (1048576 : Int)).bind fun x3 =>
 (if (decide (x3 < (0 : Int))) = true then
 some true
 else
 (sh_laws_toCube v0).bind fun x11 =>
 (sh_spec_FirstBreak x11).bind fun x13 =>
 (sh_laws_toCube v0).bind fun x17 =>
 (sh_impl_FirstBreak x17).bind fun x21 =>
 (if (decide (x21.1 ≠ x13.1)) = true then
 some false
 else
 (if (x21.2 != x13.2) = true then
 some false
 else
 (sh_laws_toCube v0).bind fun x42 =>
 (sh_laws_eqCube x17 x42).bind fun x44 =>
 (if (!x44) = true then
 some false
 else
 some true))))
end AS
