/- Plain functions. No condition. -/
import Derived.Test.YtahffpadaffmdaaKc
import Derived.Test.YtahffpadaffmdaaSda
import Derived.Test.YtahffpadaffmdaaSdb
import Derived.Test.YtahffpadaffmdaaSdc
import Derived.Test.YtahffpadaffmdaaSde
import Derived.Test.YtahffpadaffmdaaSdf
set_option linter.unusedVariables false
set_option linter.unusedSimpArgs false
namespace AS
def sh_spec_NormalTable (v0 : XGeo) (v1 : (List XVariable)) (v2 : XTable) : Option (XTable × Bool) :=
 (sh_spec_uGood v0 v1 v2).bind fun x8 =>
 (if (!x8) = true then
 some ((⟨(0 : Int), ([] : List Int), ([] : List Int), (0 : Int)⟩ : XTable), false)
 else
 (sh_spec_nNormal v1 v2).bind fun x13 =>
 some (x13, true))

def sh_impl_NormalTable (v0 : XGeo) (v1 : (List XVariable)) (v2 : XTable) : Option (XTable × Bool) :=
 (sh_impl_areTabled v0 v1 v2).bind fun x8 =>
 (if (!x8) = true then
 some ((⟨(0 : Int), ([] : List Int), ([] : List Int), (0 : Int)⟩ : XTable), false)
 else
 (sh_impl_normalTable v1 v2).bind fun x13 =>
 some (x13, true))

def sh_laws_heldTable (v0 : XTable) (v1 : Int) : Option Int :=
 (sh_laws_heldIntS v0.Vars v1).bind fun x3 =>
 (if (decide (x3 < (0 : Int))) = true then
 some (-1 : Int)
 else
 (sh_laws_heldIntS v0.Where x3).bind fun x9 =>
 (if (decide (x9 < (0 : Int))) = true then
 some (-1 : Int)
 else
 some x9))

def sh_laws_FnExactNormalTable (v0 : XGeo) (v1 : (List XVariable)) (v2 : XTable) : Option Bool :=
 (sh_laws_szGeo v0 (1048576 : Int)).bind fun x3 =>
 (if (decide (x3 < (0 : Int))) = true then
 some true
 else
 (sh_laws_szVariableS v1 x3).bind fun x9 =>
 (if (decide (x9 < (0 : Int))) = true then
 some true
 else
 (sh_laws_szTable v2 x9).bind fun x15 =>
 (if (decide (x15 < (0 : Int))) = true then
 some true
 else
 (sh_laws_toGeo v0).bind fun x27 =>
 (sh_laws_toVariableS v1).bind fun x29 =>
 (sh_laws_toTable v2).bind fun x31 =>
 (sh_spec_NormalTable x27 x29 x31).bind fun x33 =>
 (sh_laws_toGeo v0).bind fun x37 =>
 (sh_laws_toVariableS v1).bind fun x41 =>
 (sh_laws_toTable v2).bind fun x45 =>
 (sh_impl_NormalTable x37 x41 x45).bind fun x49 =>
 (sh_laws_eqTable x49.1 x33.1).bind fun x61 =>
 (if (!x61) = true then
 some false
 else
 (if (x49.2 != x33.2) = true then
 some false
 else
 (sh_laws_toGeo v0).bind fun x78 =>
 (sh_laws_eqGeo x37 x78).bind fun x80 =>
 (if (!x80) = true then
 some false
 else
 (sh_laws_toVariableS v1).bind fun x96 =>
 (sh_laws_eqVariableS x41 x96).bind fun x98 =>
 (if (!x98) = true then
 some false
 else
 (sh_laws_toTable v2).bind fun x114 =>
 (sh_laws_eqTable x45 x114).bind fun x116 =>
 (if (!x116) = true then
 some false
 else
 (sh_laws_markGeo x37 (1 : Int)).bind fun x121 =>
 (sh_laws_markVariableS x41 x121.2).bind fun x125 =>
 (sh_laws_markTable x45 x125.2).bind fun x129 =>
 (if (decide (x129.2 < (0 : Int))) = true then
 some false
 else
 (sh_laws_eqTable x49.1 x33.1).bind fun x144 =>
 (if (!x144) = true then
 some false
 else
 (sh_laws_markTable x49.1 (1 : Int)).bind fun x149 =>
 (sh_laws_heldTable x149.1 (1 : Int)).bind fun x153 =>
 (if (decide (x153 < (0 : Int))) = true then
 some false
 else
 (if (decide (x153 ≠ x149.2)) = true then
 some false
 else
 (sh_laws_toGeo v0).bind fun x167 =>
 (sh_laws_toVariableS v1).bind fun x169 =>
 (sh_laws_toTable v2).bind fun x171 =>
 (sh_impl_NormalTable x167 x169 x171).bind fun x173 =>
 (sh_laws_eqTable x173.1 x33.1).bind fun x185 =>
 (if (!x185) = true then
 some false
 else
 (if (x173.2 != x33.2) = true then
 some false
 else
 (sh_laws_heldTable x149.1 (1 : Int)).bind fun x191 =>
 (if (decide (x191 < (0 : Int))) = true then
 some false
 else
 (if (decide (x191 ≠ x149.2)) = true then
 some false
 else
 some true))))))))))))))))
end AS
