/- Plain functions. No condition. -/
import Derived.Test.YtahffpadaffmdaaKc
import Derived.Test.YtahffpadaffmdaaSda
import Derived.Test.YtahffpadaffmdaaSdb
set_option linter.unusedVariables false
set_option linter.unusedSimpArgs false
namespace AS
def sh_laws_szRecordS (v0 : (List XRecord)) (v1 : Int) : Option Int :=
 ckI (v1 - (v0.length : Int)) <|
 (if (decide ((v1 - (v0.length : Int)) < (0 : Int))) = true then
 some (-1 : Int)
 else
 loopF (fun (nx165 : (Int × Int) → Option Int) (s102 : (Int × Int)) =>
 (if (decide (s102.2 < (v0.length : Int))) = true then
 getO v0 s102.2 fun x190 =>
 (sh_laws_szRecord x190 s102.1).bind fun x193 =>
 (if (decide (x193 < (0 : Int))) = true then
 some (-1 : Int)
 else
 ckI (s102.2 + (1 : Int)) <|
 nx165 (x193, (s102.2 + (1 : Int))))
 else
 some s102.1)) FUEL ((v1 - (v0.length : Int)), (0 : Int)))

def sh_laws_toRecordS (v0 : (List XRecord)) : Option (List XRecord) :=
 mkO (v0.length : Int) <|
 loopF (fun (nx135 : ((List XRecord) × Int) → Option (List XRecord)) (s84 : ((List XRecord) × Int)) =>
 (if (decide (s84.2 < (v0.length : Int))) = true then
 getO v0 s84.2 fun x152 =>
 (sh_laws_toRecord x152).bind fun x155 =>
 getO s84.1 s84.2 fun x157 =>
 ckI (s84.2 + (1 : Int)) <|
 nx135 ((s84.1.set (s84.2).toNat x155), (s84.2 + (1 : Int)))
 else
 some s84.1)) FUEL ((List.replicate ((v0.length : Int)).toNat (⟨(0 : Int), (0 : Int), ([] : List Int)⟩ : XRecord)), (0 : Int))

def sh_spec_dGood (v0 : (List XVariable)) (v1 : (List XRecord)) : Option Bool :=
 rangeF (fun (k34 : Nat) (x35 : XRecord) (s33 : Unit) (nx48 : Unit → Option Bool) =>
 (sh_spec_rGood v0 x35).bind fun x60 =>
 (if (!x60) = true then
 some false
 else
 nx48 ()))
 (fun (s33 : Unit) =>
 some (decide ((v1.length : Int) ≤ (40 : Int)))) v1 0 ()

def sh_spec_dInput (v0 : (List XVariable)) (v1 : (List XRecord)) : Option Bool :=
 (sh_spec_sGood v0).bind fun x6 =>
 (if x6 = true then
 (sh_spec_dGood v0 v1).bind fun x9 =>
 some x9
 else
 some false)

def sh_spec_gChildren (v0 : XGeo) (v1 : Int) : Option (List Int) :=
 rangeF (fun (k26 : Nat) (x27 : Int) (s25 : (List Int)) (nx38 : (List Int) → Option (List Int)) =>
 (if (decide (x27 = v1)) = true then
 lnO (s25.length + [(k26 : Int)].length) <|
 nx38 (s25 ++ [(k26 : Int)])
 else
 nx38 s25))
 (fun (s25 : (List Int)) =>
 some s25) v0.Parents 0 ([] : List Int)

def sh_spec_gLeaves (v0 : XGeo) : Option (List Int) :=
 rangeF (fun (k62 : Nat) (x63 : Int) (s61 : (List Int)) (nx98 : (List Int) → Option (List Int)) =>
 (sh_spec_gChildren v0 (k62 : Int)).bind fun x112 =>
 (if (decide ((x112.length : Int) = (0 : Int))) = true then
 lnO (s61.length + [(k62 : Int)].length) <|
 nx98 (s61 ++ [(k62 : Int)])
 else
 nx98 s61))
 (fun (s61 : (List Int)) =>
 some s61) v0.Parents 0 ([] : List Int)

def sh_spec_l1Has (v0 : (List Int)) (v1 : Int) : Option Bool :=
 rangeF (fun (k18 : Nat) (x19 : Int) (s17 : Unit) (nx24 : Unit → Option Bool) =>
 (if (decide (x19 = v1)) = true then
 some true
 else
 nx24 ()))
 (fun (s17 : Unit) =>
 some false) v0 0 ()

def sh_spec_uSurvey (v0 : XGeo) (v1 : (List XVariable)) (v2 : (List XRecord)) : Option Bool :=
 (sh_spec_gGood v0).bind fun x17 =>
 (if (!x17) = true then
 some false
 else
 (sh_spec_dInput v1 v2).bind fun x20 =>
 (if (!x20) = true then
 some false
 else
 (sh_spec_gLeaves v0).bind fun x25 =>
 rangeF (fun (k60 : Nat) (x61 : XRecord) (s59 : Unit) (nx74 : Unit → Option Bool) =>
 (sh_spec_l1Has x25 x61.Area).bind fun x84 =>
 (if (!x84) = true then
 some false
 else
 nx74 ()))
 (fun (s59 : Unit) =>
 some true) v2 0 ()))

def sh_spec_IsSurvey (v0 : XGeo) (v1 : (List XVariable)) (v2 : (List XRecord)) : Option (Bool × Bool) :=
 (sh_spec_gGood v0).bind fun x17 =>
 (if (!x17) = true then
 some (false, false)
 else
 (sh_spec_sGood v1).bind fun x20 =>
 (if (!x20) = true then
 some (false, false)
 else
 (sh_spec_uSurvey v0 v1 v2).bind fun x25 =>
 some (x25, true)))

def sh_impl_isData (v0 : (List XVariable)) (v1 : (List XRecord)) : Option Bool :=
 (if (decide ((40 : Int) < (v1.length : Int))) = true then
 some false
 else
 rangeF (fun (k40 : Nat) (x41 : XRecord) (s39 : Unit) (nx54 : Unit → Option Bool) =>
 (sh_impl_isRecord v0 x41).bind fun x64 =>
 (if (!x64) = true then
 some false
 else
 nx54 ()))
 (fun (s39 : Unit) =>
 some true) v1 0 ())

def sh_impl_isArea (v0 : XGeo) (v1 : Int) : Option Bool :=
 (if (decide ((0 : Int) ≤ v1)) = true then
 some (decide (v1 < (v0.Parents.length : Int)))
 else
 some false)

def sh_slices_Index_int (v0 : (List Int)) (v1 : Int) : Option Int :=
 rangeF (fun (k18 : Nat) (x19 : Int) (s17 : Unit) (nx24 : Unit → Option Int) =>
 (if (decide (v1 = x19)) = true then
 some (k18 : Int)
 else
 nx24 ()))
 (fun (s17 : Unit) =>
 some (-1 : Int)) v0 0 ()

def sh_slices_Contains_int (v0 : (List Int)) (v1 : Int) : Option Bool :=
 (sh_slices_Index_int v0 v1).bind fun x3 =>
 some (decide ((0 : Int) ≤ x3))

def sh_impl_isLeaf (v0 : XGeo) (v1 : Int) : Option Bool :=
 (sh_slices_Contains_int v0.Parents v1).bind fun x3 =>
 some (!x3)

def sh_impl_isSurvey (v0 : XGeo) (v1 : (List XVariable)) (v2 : (List XRecord)) : Option Bool :=
 (sh_impl_isData v1 v2).bind fun x8 =>
 (if (!x8) = true then
 some false
 else
 rangeF (fun (k68 : Nat) (x69 : XRecord) (s67 : Unit) (nx94 : Unit → Option Bool) =>
 (sh_impl_isArea v0 x69.Area).bind fun x113 =>
 (if (!x113) = true then
 some false
 else
 (sh_impl_isLeaf v0 x69.Area).bind fun x116 =>
 (if (!x116) = true then
 some false
 else
 nx94 ())))
 (fun (s67 : Unit) =>
 some true) v2 0 ())

def sh_impl_IsSurvey (v0 : XGeo) (v1 : (List XVariable)) (v2 : (List XRecord)) : Option (Bool × Bool) :=
 (sh_impl_IsGeo v0).bind fun x17 =>
 (if (!x17) = true then
 some (false, false)
 else
 (sh_impl_IsSchema v1).bind fun x20 =>
 (if (!x20) = true then
 some (false, false)
 else
 (sh_impl_isSurvey v0 v1 v2).bind fun x25 =>
 some (x25, true)))

def sh_laws_eqRecordS (v0 : (List XRecord)) (v1 : (List XRecord)) : Option Bool :=
 (if (decide ((v0.length : Int) ≠ (v1.length : Int))) = true then
 some false
 else
 loopF (fun (nx229 : Int → Option Bool) (s142 : Int) =>
 (if (decide (s142 < (v0.length : Int))) = true then
 getO v0 s142 fun x263 =>
 getO v1 s142 fun x266 =>
 (sh_laws_eqRecord x263 x266).bind fun x269 =>
 (if (!x269) = true then
 some false
 else
 ckI (s142 + (1 : Int)) <|
 nx229 (s142 + (1 : Int)))
 else
 some true)) FUEL (0 : Int))

def sh_laws_FnExactIsSurvey (v0 : XGeo) (v1 : (List XVariable)) (v2 : (List XRecord)) : Option Bool :=
 (sh_laws_szGeo v0 (1048576 : Int)).bind fun x3 =>
 (if (decide (x3 < (0 : Int))) = true then
 some true
 else
 (sh_laws_szVariableS v1 x3).bind fun x9 =>
 (if (decide (x9 < (0 : Int))) = true then
 some true
 else
 (sh_laws_szRecordS v2 x9).bind fun x15 =>
 (if (decide (x15 < (0 : Int))) = true then
 some true
 else
 (sh_laws_toGeo v0).bind fun x27 =>
 (sh_laws_toVariableS v1).bind fun x29 =>
 (sh_laws_toRecordS v2).bind fun x31 =>
 (sh_spec_IsSurvey x27 x29 x31).bind fun x33 =>
 (sh_laws_toGeo v0).bind fun x37 =>
 (sh_laws_toVariableS v1).bind fun x41 =>
 (sh_laws_toRecordS v2).bind fun x45 =>
 (sh_impl_IsSurvey x37 x41 x45).bind fun x49 =>
 (if (x49.1 != x33.1) = true then
 some false
 else
 (if (x49.2 != x33.2) = true then
 some false
 else
 (sh_laws_toGeo v0).bind fun x70 =>
 (sh_laws_eqGeo x37 x70).bind fun x72 =>
 (if (!x72) = true then
 some false
 else
 (sh_laws_toVariableS v1).bind fun x88 =>
 (sh_laws_eqVariableS x41 x88).bind fun x90 =>
 (if (!x90) = true then
 some false
 else
 (sh_laws_toRecordS v2).bind fun x106 =>
 (sh_laws_eqRecordS x45 x106).bind fun x108 =>
 (if (!x108) = true then
 some false
 else
 some true))))))))
end AS
