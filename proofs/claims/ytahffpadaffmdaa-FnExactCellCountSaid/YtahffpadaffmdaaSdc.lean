/- Plain functions. No condition. -/
import Derived.Test.YtahffpadaffmdaaKc
import Derived.Test.YtahffpadaffmdaaSda
import Derived.Test.YtahffpadaffmdaaSdb
set_option linter.unusedVariables false
set_option linter.unusedSimpArgs false
namespace AS
def sh_spec_CellCount (v0 : XGeo) (v1 : (List XVariable)) (v2 : XTable) : Option (Int × Bool) :=
 (sh_spec_uGood v0 v1 v2).bind fun x8 =>
 (if (!x8) = true then
 some ((0 : Int), false)
 else
 (sh_spec_uCount v0 v1 v2).bind fun x13 =>
 some (x13, true))

def sh_impl_areTabled (v0 : XGeo) (v1 : (List XVariable)) (v2 : XTable) : Option Bool :=
 (sh_impl_IsGeo v0).bind fun x9 =>
 (if x9 = true then
 (sh_impl_IsSchema v1).bind fun x12 =>
 (if x12 = true then
 (sh_impl_isTable v0 v1 v2).bind fun x15 =>
 some x15
 else
 some false)
 else
 some false)

def sh_impl_CellCount (v0 : XGeo) (v1 : (List XVariable)) (v2 : XTable) : Option (Int × Bool) :=
 (sh_impl_areTabled v0 v1 v2).bind fun x8 =>
 (if (!x8) = true then
 some ((0 : Int), false)
 else
 (sh_impl_cellCount v0 v1 v2).bind fun x13 =>
 some (x13, true))

def sh_laws_FnExactCellCount (v0 : XGeo) (v1 : (List XVariable)) (v2 : XTable) : Option Bool :=
 (sh_laws_szGeo v0 (1048576 : Int)).bind fun x3 =>
 (if (decide (x3 < (0 : Int))) = true then
 some true
 else
 (sh_laws_szVariableS v1 x3).bind fun x9 =>
 (if (decide (x9 < (0 : Int))) = true then
 some true
 else
 (sh_laws_szTable v2 x9).bind fun x15 =>
 (if (decide (x15 < (0 : Int))) = true then
 some true
 else
 (sh_laws_toGeo v0).bind fun x27 =>
 (sh_laws_toVariableS v1).bind fun x29 =>
 (sh_laws_toTable v2).bind fun x31 =>
 (sh_spec_CellCount x27 x29 x31).bind fun x33 =>
 (sh_laws_toGeo v0).bind fun x37 =>
 (sh_laws_toVariableS v1).bind fun x41 =>
 (sh_laws_toTable v2).bind fun x45 =>
 (sh_impl_CellCount x37 x41 x45).bind fun x49 =>
 (if (decide (x49.1 ≠ x33.1)) = true then
 some false
 else
 (if (x49.2 != x33.2) = true then
 some false
 else
 (sh_laws_toGeo v0).bind fun x70 =>
 (sh_laws_eqGeo x37 x70).bind fun x72 =>
 (if (!x72) = true then
 some false
 else
 (sh_laws_toVariableS v1).bind fun x88 =>
 (sh_laws_eqVariableS x41 x88).bind fun x90 =>
 (if (!x90) = true then
 some false
 else
 (sh_laws_toTable v2).bind fun x106 =>
 (sh_laws_eqTable x45 x106).bind fun x108 =>
 (if (!x108) = true then
 some false
 else
 some true))))))))
end AS
