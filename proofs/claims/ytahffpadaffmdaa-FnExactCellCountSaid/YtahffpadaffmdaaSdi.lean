/- Plain functions. No condition. -/
import Derived.Test.YtahffpadaffmdaaKc
import Derived.Test.YtahffpadaffmdaaSda
import Derived.Test.YtahffpadaffmdaaSdb
import Derived.Test.YtahffpadaffmdaaSdc
import Derived.Test.YtahffpadaffmdaaSdd
set_option linter.unusedVariables false
set_option linter.unusedSimpArgs false
namespace AS
def sh_spec_gUp (v0 : XGeo) (v1 : Int) (v2 : Int) : Option Int :=
 (sh_spec_gDepth v0 v1).bind fun x3 =>
 (if (decide (v2 < (0 : Int))) = true then
 some (-1 : Int)
 else
 loopF (fun (nx65 : (Int × Int) → Option Int) (s42 : (Int × Int)) =>
 (if (decide (v2 < s42.2)) = true then
 getO v0.Parents s42.1 fun x73 =>
 ckI (s42.2 - (1 : Int)) <|
 nx65 (x73, (s42.2 - (1 : Int)))
 else
 (if (decide (s42.2 < v2)) = true then
 some (-1 : Int)
 else
 some s42.1))) FUEL (v1, x3))

def sh_spec_uTop (v0 : XGeo) (v1 : (List XVariable)) (v2 : XTable) : Option Int :=
 (sh_spec_gLeaves v0).bind fun x34 =>
 rangeF (fun (k38 : Nat) (x39 : Int) (s37 : Bool) (nx52 : Bool → Option Int) =>
 (if s37 = true then
 nx52 true
 else
 (sh_spec_gUp v0 x39 v2.Level).bind fun x551 =>
 nx52 (decide ((0 : Int) ≤ x551))))
 (fun (s37 : Bool) =>
 (if (!s37) = true then
 some (0 : Int)
 else
 (if (decide (v2.Sum < (0 : Int))) = true then
 some (1 : Int)
 else
 loopF (fun (nx485 : (Int × Int) → Option Int) (s303 : (Int × Int)) =>
 getO v1 v2.Sum fun x498 =>
 (if (decide (s303.2 < x498.Levels)) = true then
 getO v2.Where v2.Sum fun x533 =>
 (if (decide (x533 = (0 : Int))) = true then
 ckI (s303.2 + (1 : Int)) <|
 nx485 (s303.2, (s303.2 + (1 : Int)))
 else
 ckK .u64 s303.2 <|
 ck (0 ≤ s303.2 ∧ s303.2 < 64) <|
 ck (0 ≤ (x533 / 2 ^ (s303.2).toNat)) <|
 ckK .i64 (x533 / 2 ^ (s303.2).toNat) <|
 ck (0 ≤ (1 : Int)) <|
 ckK .i64 (1 : Int) <|
 (if (decide ((((x533 / 2 ^ (s303.2).toNat).toNat &&& (1 : Int).toNat : Nat) : Int) = (1 : Int))) = true then
 ckI (s303.2 + (1 : Int)) <|
 nx485 (s303.2, (s303.2 + (1 : Int)))
 else
 ckI (s303.2 + (1 : Int)) <|
 nx485 (s303.1, (s303.2 + (1 : Int)))))
 else
 some s303.1)) FUEL ((0 : Int), (0 : Int))))) x34 0 false

def sh_spec_SensitivityOf (v0 : XGeo) (v1 : (List XVariable)) (v2 : XTable) : Option (Int × Bool) :=
 (sh_spec_uGood v0 v1 v2).bind fun x8 =>
 (if (!x8) = true then
 some ((0 : Int), false)
 else
 (sh_spec_uTop v0 v1 v2).bind fun x13 =>
 some (x13, true))

def sh_impl_conditionOf (v0 : (List XVariable)) (v1 : XTable) (v2 : Int) : Option Int :=
 getO v1.Where v2 fun x21 =>
 (if (decide (x21 = (0 : Int))) = true then
 getO v0 v2 fun x30 =>
 (sh_impl_fullSet x30).bind fun x33 =>
 some x33
 else
 some x21)

def sh_bits_Len64 (v0 : Int) : Option Int :=
 (((if (decide ((4294967296 : Int) ≤ v0)) = true then
 ck (0 ≤ (32 : Int) ∧ (32 : Int) < 64) <|
 some ((v0 / 2 ^ ((32 : Int)).toNat), (32 : Int))
 else
 some (v0, (0 : Int))) : Option (Int × Int)).bind fun (s4 : (Int × Int)) =>
 (((if (decide ((65536 : Int) ≤ s4.1)) = true then
 ck (0 ≤ (16 : Int) ∧ (16 : Int) < 64) <|
 ckI (s4.2 + (16 : Int)) <|
 some ((s4.1 / 2 ^ ((16 : Int)).toNat), (s4.2 + (16 : Int)))
 else
 some (s4.1, s4.2)) : Option (Int × Int)).bind fun (s10 : (Int × Int)) =>
 (((if (decide ((256 : Int) ≤ s10.1)) = true then
 ck (0 ≤ (8 : Int) ∧ (8 : Int) < 64) <|
 ckI (s10.2 + (8 : Int)) <|
 some ((s10.1 / 2 ^ ((8 : Int)).toNat), (s10.2 + (8 : Int)))
 else
 some (s10.1, s10.2)) : Option (Int × Int)).bind fun (s16 : (Int × Int)) =>
 ckU s16.1 <|
 getO ([0, 1, 2, 2, 3, 3, 3, 3, 4, 4, 4, 4, 4, 4, 4, 4, 5, 5, 5, 5, 5, 5, 5, 5, 5, 5, 5, 5, 5, 5, 5, 5, 6, 6, 6, 6, 6, 6, 6, 6, 6, 6, 6, 6, 6, 6, 6, 6, 6, 6, 6, 6, 6, 6, 6, 6, 6, 6, 6, 6, 6, 6, 6, 6, 7, 7, 7, 7, 7, 7, 7, 7, 7, 7, 7, 7, 7, 7, 7, 7, 7, 7, 7, 7, 7, 7, 7, 7, 7, 7, 7, 7, 7, 7, 7, 7, 7, 7, 7, 7, 7, 7, 7, 7, 7, 7, 7, 7, 7, 7, 7, 7, 7, 7, 7, 7, 7, 7, 7, 7, 7, 7, 7, 7, 7, 7, 7, 7, 8, 8, 8, 8, 8, 8, 8, 8, 8, 8, 8, 8, 8, 8, 8, 8, 8, 8, 8, 8, 8, 8, 8, 8, 8, 8, 8, 8, 8, 8, 8, 8, 8, 8, 8, 8, 8, 8, 8, 8, 8, 8, 8, 8, 8, 8, 8, 8, 8, 8, 8, 8, 8, 8, 8, 8, 8, 8, 8, 8, 8, 8, 8, 8, 8, 8, 8, 8, 8, 8, 8, 8, 8, 8, 8, 8, 8, 8, 8, 8, 8, 8, 8, 8, 8, 8, 8, 8, 8, 8, 8, 8, 8, 8, 8, 8, 8, 8, 8, 8, 8, 8, 8, 8, 8, 8, 8, 8, 8, 8, 8, 8, 8, 8, 8, 8, 8, 8, 8, 8, 8, 8, 8, 8, 8, 8, 8, 8] : List UInt8) s16.1 fun x25 =>
 ckI (x25.toNat : Int) <|
 ckI (s16.2 + (x25.toNat : Int)) <|
 some (s16.2 + (x25.toNat : Int)))))

def sh_bits_Len (v0 : Int) : Option Int :=
 (sh_bits_Len64 v0).bind fun x3 =>
 some x3

def sh_impl_sensitivityOf (v0 : (List XVariable)) (v1 : XTable) : Option Int :=
 (if (decide (v1.Sum < (0 : Int))) = true then
 some (1 : Int)
 else
 (sh_impl_conditionOf v0 v1 v1.Sum).bind fun x9 =>
 ckK .u64 x9 <|
 (sh_bits_Len x9).bind fun x12 =>
 ckI (x12 - (1 : Int)) <|
 some (x12 - (1 : Int)))

def sh_impl_SensitivityOf (v0 : XGeo) (v1 : (List XVariable)) (v2 : XTable) : Option (Int × Bool) :=
 (sh_impl_areTabled v0 v1 v2).bind fun x8 =>
 (if (!x8) = true then
 some ((0 : Int), false)
 else
 (sh_impl_sensitivityOf v1 v2).bind fun x13 =>
 some (x13, true))

def sh_laws_FnExactSensitivityOf (v0 : XGeo) (v1 : (List XVariable)) (v2 : XTable) : Option Bool :=
 (sh_laws_szGeo v0 (1048576 : Int)).bind fun x3 =>
 (if (decide (x3 < (0 : Int))) = true then
 some true
 else
 (sh_laws_szVariableS v1 x3).bind fun x9 =>
 (if (decide (x9 < (0 : Int))) = true then
 some true
 else
 (sh_laws_szTable v2 x9).bind fun x15 =>
 (if (decide (x15 < (0 : Int))) = true then
 some true
 else
 (sh_laws_toGeo v0).bind fun x27 =>
 (sh_laws_toVariableS v1).bind fun x29 =>
 (sh_laws_toTable v2).bind fun x31 =>
 (sh_spec_SensitivityOf x27 x29 x31).bind fun x33 =>
 (sh_laws_toGeo v0).bind fun x37 =>
 (sh_laws_toVariableS v1).bind fun x41 =>
 (sh_laws_toTable v2).bind fun x45 =>
 (sh_impl_SensitivityOf x37 x41 x45).bind fun x49 =>
 (if (decide (x49.1 ≠ x33.1)) = true then
 some false
 else
 (if (x49.2 != x33.2) = true then
 some false
 else
 (sh_laws_toGeo v0).bind fun x70 =>
 (sh_laws_eqGeo x37 x70).bind fun x72 =>
 (if (!x72) = true then
 some false
 else
 (sh_laws_toVariableS v1).bind fun x88 =>
 (sh_laws_eqVariableS x41 x88).bind fun x90 =>
 (if (!x90) = true then
 some false
 else
 (sh_laws_toTable v2).bind fun x106 =>
 (sh_laws_eqTable x45 x106).bind fun x108 =>
 (if (!x108) = true then
 some false
 else
 some true))))))))
end AS
