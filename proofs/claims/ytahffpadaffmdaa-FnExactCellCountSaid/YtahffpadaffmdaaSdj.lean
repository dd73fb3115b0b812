/- Plain functions. No condition. -/
import Derived.Test.YtahffpadaffmdaaKc
import Derived.Test.YtahffpadaffmdaaSda
import Derived.Test.YtahffpadaffmdaaSdb
import Derived.Test.YtahffpadaffmdaaSdf
set_option linter.unusedVariables false
set_option linter.unusedSimpArgs false
namespace AS
def sh_laws_szTableS (v0 : (List XTable)) (v1 : Int) : Option Int :=
 ckI (v1 - (v0.length : Int)) <|
 (if (decide ((v1 - (v0.length : Int)) < (0 : Int))) = true then
 some (-1 : Int)
 else
 loopF (fun (nx165 : (Int × Int) → Option Int) (s102 : (Int × Int)) =>
 (if (decide (s102.2 < (v0.length : Int))) = true then
 getO v0 s102.2 fun x190 =>
 (sh_laws_szTable x190 s102.1).bind fun x193 =>
 (if (decide (x193 < (0 : Int))) = true then
 some (-1 : Int)
 else
 ckI (s102.2 + (1 : Int)) <|
 nx165 (x193, (s102.2 + (1 : Int))))
 else
 some s102.1)) FUEL ((v1 - (v0.length : Int)), (0 : Int)))

def sh_laws_toTableS (v0 : (List XTable)) : Option (List XTable) :=
 mkO (v0.length : Int) <|
 loopF (fun (nx135 : ((List XTable) × Int) → Option (List XTable)) (s84 : ((List XTable) × Int)) =>
 (if (decide (s84.2 < (v0.length : Int))) = true then
 getO v0 s84.2 fun x152 =>
 (sh_laws_toTable x152).bind fun x155 =>
 getO s84.1 s84.2 fun x157 =>
 ckI (s84.2 + (1 : Int)) <|
 nx135 ((s84.1.set (s84.2).toNat x155), (s84.2 + (1 : Int)))
 else
 some s84.1)) FUEL ((List.replicate ((v0.length : Int)).toNat (⟨(0 : Int), ([] : List Int), ([] : List Int), (0 : Int)⟩ : XTable)), (0 : Int))

def sh_spec_nInput (v0 : XGeo) (v1 : (List XVariable)) : Option Bool :=
 (sh_spec_gGood v0).bind fun x6 =>
 (if x6 = true then
 (sh_spec_sGood v1).bind fun x9 =>
 some x9
 else
 some false)

def sh_spec_nPlan (v0 : XGeo) (v1 : (List XVariable)) (v2 : (List XTable)) : Option Bool :=
 (sh_spec_nInput v0 v1).bind fun x14 =>
 (if (!x14) = true then
 some false
 else
 (if (decide ((20 : Int) < (v2.length : Int))) = true then
 some false
 else
 rangeF (fun (k52 : Nat) (x53 : XTable) (s51 : Unit) (nx66 : Unit → Option Bool) =>
 (sh_spec_uGood v0 v1 x53).bind fun x76 =>
 (if (!x76) = true then
 some false
 else
 nx66 ()))
 (fun (s51 : Unit) =>
 some true) v2 0 ()))

def sh_spec_PlanSizes (v0 : XGeo) (v1 : (List XVariable)) (v2 : (List XTable)) : Option ((List Int) × Bool) :=
 (sh_spec_nPlan v0 v1 v2).bind fun x8 =>
 (if (!x8) = true then
 some (([] : List Int), false)
 else
 rangeF (fun (k42 : Nat) (x43 : XTable) (s41 : (List Int)) (nx58 : (List Int) → Option ((List Int) × Bool)) =>
 (sh_spec_uCount v0 v1 x43).bind fun x64 =>
 lnO (s41.length + [x64].length) <|
 nx58 (s41 ++ [x64]))
 (fun (s41 : (List Int)) =>
 some (s41, true)) v2 0 ([] : List Int))

def sh_impl_isPlan (v0 : XGeo) (v1 : (List XVariable)) (v2 : (List XTable)) : Option Bool :=
 (sh_impl_IsGeo v0).bind fun x23 =>
 (if (!x23) = true then
 some false
 else
 (sh_impl_IsSchema v1).bind fun x26 =>
 (if (!x26) = true then
 some false
 else
 (if (decide ((20 : Int) < (v2.length : Int))) = true then
 some false
 else
 rangeF (fun (k64 : Nat) (x65 : XTable) (s63 : Unit) (nx78 : Unit → Option Bool) =>
 (sh_impl_isTable v0 v1 x65).bind fun x88 =>
 (if (!x88) = true then
 some false
 else
 nx78 ()))
 (fun (s63 : Unit) =>
 some true) v2 0 ())))

def sh_impl_PlanSizes (v0 : XGeo) (v1 : (List XVariable)) (v2 : (List XTable)) : Option ((List Int) × Bool) :=
 (sh_impl_isPlan v0 v1 v2).bind fun x8 =>
 (if (!x8) = true then
 some (([] : List Int), false)
 else
 mkO (v2.length : Int) <|
 rangeF (fun (k60 : Nat) (x61 : XTable) (s59 : (List Int)) (nx84 : (List Int) → Option ((List Int) × Bool)) =>
 (sh_impl_cellCount v0 v1 x61).bind fun x92 =>
 getO s59 (k60 : Int) fun x94 =>
 nx84 (s59.set ((k60 : Int)).toNat x92))
 (fun (s59 : (List Int)) =>
 some (s59, true)) v2 0 (List.replicate ((v2.length : Int)).toNat (0 : Int)))

def sh_laws_eqTableS (v0 : (List XTable)) (v1 : (List XTable)) : Option Bool :=
 (if (decide ((v0.length : Int) ≠ (v1.length : Int))) = true then
 some false
 else
 loopF (fun (nx229 : Int → Option Bool) (s142 : Int) =>
 (if (decide (s142 < (v0.length : Int))) = true then
 getO v0 s142 fun x263 =>
 getO v1 s142 fun x266 =>
 (sh_laws_eqTable x263 x266).bind fun x269 =>
 (if (!x269) = true then
 some false
 else
 ckI (s142 + (1 : Int)) <|
 nx229 (s142 + (1 : Int)))
 else
 some true)) FUEL (0 : Int))

def sh_laws_markTableS (v0 : (List XTable)) (v1 : Int) : Option ((List XTable) × Int) :=
 loopF (fun (nx399 : ((List XTable) × Int × Int) → Option ((List XTable) × Int)) (s240 : ((List XTable) × Int × Int)) =>
 (if (decide (s240.2.2 < (s240.1.length : Int))) = true then
 getO s240.1 s240.2.2 fun x446 =>
 ckI (s240.2.1 + (1 : Int)) <|
 getO (s240.1.set (s240.2.2).toNat (⟨s240.2.1, x446.Vars, x446.Where, x446.Sum⟩ : XTable)) s240.2.2 fun x456 =>
 (sh_laws_markIntS x456.Vars (s240.2.1 + (1 : Int))).bind fun x459 =>
 getO ((s240.1.set (s240.2.2).toNat (⟨s240.2.1, x446.Vars, x446.Where, x446.Sum⟩ : XTable)).set (s240.2.2).toNat (⟨x456.Level, x459.1, x456.Where, x456.Sum⟩ : XTable)) s240.2.2 fun x466 =>
 (sh_laws_markIntS x466.Where x459.2).bind fun x469 =>
 getO (((s240.1.set (s240.2.2).toNat (⟨s240.2.1, x446.Vars, x446.Where, x446.Sum⟩ : XTable)).set (s240.2.2).toNat (⟨x456.Level, x459.1, x456.Where, x456.Sum⟩ : XTable)).set (s240.2.2).toNat (⟨x466.Level, x466.Vars, x469.1, x466.Sum⟩ : XTable)) s240.2.2 fun x474 =>
 ckI (x469.2 + (1 : Int)) <|
 ckI (s240.2.2 + (1 : Int)) <|
 nx399 (((((s240.1.set (s240.2.2).toNat (⟨s240.2.1, x446.Vars, x446.Where, x446.Sum⟩ : XTable)).set (s240.2.2).toNat (⟨x456.Level, x459.1, x456.Where, x456.Sum⟩ : XTable)).set (s240.2.2).toNat (⟨x466.Level, x466.Vars, x469.1, x466.Sum⟩ : XTable)).set (s240.2.2).toNat (⟨x474.Level, x474.Vars, x474.Where, x469.2⟩ : XTable)), (x469.2 + (1 : Int)), (s240.2.2 + (1 : Int)))
 else
 some (s240.1, s240.2.1))) FUEL (v0, v1, (0 : Int))

def sh_laws_FnExactPlanSizes (v0 : XGeo) (v1 : (List XVariable)) (v2 : (List XTable)) : Option Bool :=
 (sh_laws_szGeo v0 (1048576 : Int)).bind fun x3 =>
 (if (decide (x3 < (0 : Int))) = true then
 some true
 else
 (sh_laws_szVariableS v1 x3).bind fun x9 =>
 (if (decide (x9 < (0 : Int))) = true then
 some true
 else
 (sh_laws_szTableS v2 x9).bind fun x15 =>
 (if (decide (x15 < (0 : Int))) = true then
 some true
 else
 (sh_laws_toGeo v0).bind fun x27 =>
 (sh_laws_toVariableS v1).bind fun x29 =>
 (sh_laws_toTableS v2).bind fun x31 =>
 (sh_spec_PlanSizes x27 x29 x31).bind fun x33 =>
 (sh_laws_toGeo v0).bind fun x37 =>
 (sh_laws_toVariableS v1).bind fun x41 =>
 (sh_laws_toTableS v2).bind fun x45 =>
 (sh_impl_PlanSizes x37 x41 x45).bind fun x49 =>
 (sh_laws_eqIntS x49.1 x33.1).bind fun x61 =>
 (if (!x61) = true then
 some false
 else
 (if (x49.2 != x33.2) = true then
 some false
 else
 (sh_laws_toGeo v0).bind fun x78 =>
 (sh_laws_eqGeo x37 x78).bind fun x80 =>
 (if (!x80) = true then
 some false
 else
 (sh_laws_toVariableS v1).bind fun x96 =>
 (sh_laws_eqVariableS x41 x96).bind fun x98 =>
 (if (!x98) = true then
 some false
 else
 (sh_laws_toTableS v2).bind fun x114 =>
 (sh_laws_eqTableS x45 x114).bind fun x116 =>
 (if (!x116) = true then
 some false
 else
 (sh_laws_markGeo x37 (1 : Int)).bind fun x121 =>
 (sh_laws_markVariableS x41 x121.2).bind fun x125 =>
 (sh_laws_markTableS x45 x125.2).bind fun x129 =>
 (if (decide (x129.2 < (0 : Int))) = true then
 some false
 else
 (sh_laws_eqIntS x49.1 x33.1).bind fun x144 =>
 (if (!x144) = true then
 some false
 else
 (sh_laws_markIntS x49.1 (1 : Int)).bind fun x149 =>
 (sh_laws_heldIntS x149.1 (1 : Int)).bind fun x153 =>
 (if (decide (x153 < (0 : Int))) = true then
 some false
 else
 (if (decide (x153 ≠ x149.2)) = true then
 some false
 else
 (sh_laws_toGeo v0).bind fun x167 =>
 (sh_laws_toVariableS v1).bind fun x169 =>
 (sh_laws_toTableS v2).bind fun x171 =>
 (sh_impl_PlanSizes x167 x169 x171).bind fun x173 =>
 (sh_laws_eqIntS x173.1 x33.1).bind fun x185 =>
 (if (!x185) = true then
 some false
 else
 (if (x173.2 != x33.2) = true then
 some false
 else
 (sh_laws_heldIntS x149.1 (1 : Int)).bind fun x191 =>
 (if (decide (x191 < (0 : Int))) = true then
 some false
 else
 (if (decide (x191 ≠ x149.2)) = true then
 some false
 else
 some true))))))))))))))))
end AS
