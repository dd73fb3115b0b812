/- Plain functions. No condition. -/
import Derived.Test.YtahffpadaffmdaaKc
import Derived.Test.YtahffpadaffmdaaSda
import Derived.Test.YtahffpadaffmdaaSdb
import Derived.Test.YtahffpadaffmdaaSdc
set_option linter.unusedVariables false
set_option linter.unusedSimpArgs false
namespace AS
def sh_spec_l1Own (v0 : (List Int)) : Option (List Int) :=
 lnO (([] : List Int).length + v0.length) <|
 some (([] : List Int) ++ v0)

def sh_spec_nOwn (v0 : XTable) : Option XTable :=
 (sh_spec_l1Own v0.Vars).bind fun x5 =>
 (sh_spec_l1Own v0.Where).bind fun x7 =>
 some (⟨v0.Level, x5, x7, v0.Sum⟩ : XTable)

def sh_spec_eFull (v0 : (List XVariable)) (v1 : Int) : Option Int :=
 getO v0 v1 fun x8 =>
 ckK .u64 x8.Levels <|
 ck (0 ≤ x8.Levels ∧ x8.Levels < 64) <|
 ckI ((1 : Int) * 2 ^ (x8.Levels).toNat) <|
 ckI (((1 : Int) * 2 ^ (x8.Levels).toNat) - (1 : Int)) <|
 some (((1 : Int) * 2 ^ (x8.Levels).toNat) - (1 : Int))

def sh_spec_nNormal (v0 : (List XVariable)) (v1 : XTable) : Option XTable :=
 (sh_spec_nOwn v1).bind fun x3 =>
 rangeF (fun (k84 : Nat) (x85 : XVariable) (s83 : XTable) (nx132 : XTable → Option XTable) =>
 getO s83.Where (k84 : Int) fun x151 =>
 (sh_spec_eFull v0 (k84 : Int)).bind fun x154 =>
 (if (decide (x151 = x154)) = true then
 nx132 (⟨s83.Level, s83.Vars, (s83.Where.set ((k84 : Int)).toNat (0 : Int)), s83.Sum⟩ : XTable)
 else
 nx132 s83))
 (fun (s83 : XTable) =>
 some s83) v0 0 x3

def sh_spec_l1Same (v0 : (List Int)) (v1 : (List Int)) : Option Bool :=
 (if (decide ((v0.length : Int) ≠ (v1.length : Int))) = true then
 some false
 else
 rangeF (fun (k52 : Nat) (x53 : Int) (s51 : Unit) (nx70 : Unit → Option Bool) =>
 getO v1 (k52 : Int) fun x83 =>
 (if (decide (x53 ≠ x83)) = true then
 some false
 else
 nx70 ()))
 (fun (s51 : Unit) =>
 some true) v0 0 ())

def sh_spec_nSame (v0 : (List XVariable)) (v1 : XTable) (v2 : XTable) : Option Bool :=
 (sh_spec_nNormal v0 v1).bind fun x5 =>
 (sh_spec_nNormal v0 v2).bind fun x7 =>
 (((if (decide (x5.Level = x7.Level)) = true then
 (sh_spec_l1Same x5.Vars x7.Vars).bind fun x19 =>
 (if x19 = true then
 (sh_spec_l1Same x5.Where x7.Where).bind fun x22 =>
 (if x22 = true then
 some (decide (x5.Sum = x7.Sum))
 else
 some false)
 else
 some false)
 else
 some false) : Option Bool).bind fun (s16 : Bool) =>
 some s16)

def sh_spec_SameMeaning (v0 : XGeo) (v1 : (List XVariable)) (v2 : XTable) (v3 : XTable) : Option (Bool × Bool) :=
 (sh_spec_uGood v0 v1 v2).bind fun x17 =>
 (if (!x17) = true then
 some (false, false)
 else
 (sh_spec_uGood v0 v1 v3).bind fun x20 =>
 (if (!x20) = true then
 some (false, false)
 else
 (sh_spec_nSame v1 v2 v3).bind fun x25 =>
 some (x25, true)))

def sh_slices_Clone_int (v0 : (List Int)) : Option (List Int) :=
 nilO v0 false fun b11 =>
 (if b11 = true then
 some ([] : List Int)
 else
 lnO (([] : List Int).length + v0.length) <|
 some (([] : List Int) ++ v0))

def sh_impl_copyTable (v0 : XTable) : Option XTable :=
 (sh_slices_Clone_int v0.Vars).bind fun x5 =>
 (sh_slices_Clone_int v0.Where).bind fun x7 =>
 some (⟨v0.Level, x5, x7, v0.Sum⟩ : XTable)

def sh_impl_normalTable (v0 : (List XVariable)) (v1 : XTable) : Option XTable :=
 (sh_impl_copyTable v1).bind fun x3 =>
 rangeF (fun (k108 : Nat) (x109 : Int) (s107 : XTable) (nx168 : XTable → Option XTable) =>
 getO s107.Where (k108 : Int) fun x191 =>
 getO v0 (k108 : Int) fun x199 =>
 (sh_impl_fullSet x199).bind fun x202 =>
 (if (decide (x191 = x202)) = true then
 nx168 (⟨s107.Level, s107.Vars, (s107.Where.set ((k108 : Int)).toNat (0 : Int)), s107.Sum⟩ : XTable)
 else
 nx168 s107))
 (fun (s107 : XTable) =>
 some s107) x3.Where 0 x3

def sh_slices_Equal_int (v0 : (List Int)) (v1 : (List Int)) : Option Bool :=
 (if (decide ((v0.length : Int) ≠ (v1.length : Int))) = true then
 some false
 else
 rangeF (fun (k52 : Nat) (x53 : Int) (s51 : Unit) (nx70 : Unit → Option Bool) =>
 getO v1 (k52 : Int) fun x83 =>
 (if (decide (x53 ≠ x83)) = true then
 some false
 else
 nx70 ()))
 (fun (s51 : Unit) =>
 some true) v0 0 ())

def sh_impl_sameMeaning (v0 : (List XVariable)) (v1 : XTable) (v2 : XTable) : Option Bool :=
 (sh_impl_normalTable v0 v1).bind fun x5 =>
 (sh_impl_normalTable v0 v2).bind fun x7 =>
 (((if (decide (x5.Level = x7.Level)) = true then
 (if (decide (x5.Sum = x7.Sum)) = true then
 (sh_slices_Equal_int x5.Vars x7.Vars).bind fun x20 =>
 (if x20 = true then
 (sh_slices_Equal_int x5.Where x7.Where).bind fun x23 =>
 some x23
 else
 some false)
 else
 some false)
 else
 some false) : Option Bool).bind fun (s16 : Bool) =>
 some s16)

def sh_impl_SameMeaning (v0 : XGeo) (v1 : (List XVariable)) (v2 : XTable) (v3 : XTable) : Option (Bool × Bool) :=
 (sh_impl_areTabled v0 v1 v2).bind fun x17 =>
 (if (!x17) = true then
 some (false, false)
 else
 (sh_impl_isTable v0 v1 v3).bind fun x20 =>
 (if (!x20) = true then
 some (false, false)
 else
 (sh_impl_sameMeaning v1 v2 v3).bind fun x25 =>
 some (x25, true)))

def sh_laws_FnExactSameMeaning (v0 : XGeo) (v1 : (List XVariable)) (v2 : XTable) (v3 : XTable) : Option Bool :=
 (sh_laws_szGeo v0 (1048576 : Int)).bind fun x3 =>
 (if (decide (x3 < (0 : Int))) = true then
 some true
 else
 (sh_laws_szVariableS v1 x3).bind fun x9 =>
 (if (decide (x9 < (0 : Int))) = true then
 some true
 else
 (sh_laws_szTable v2 x9).bind fun x15 =>
 (if (decide (x15 < (0 : Int))) = true then
 some true
 else
 (sh_laws_szTable v3 x15).bind fun x21 =>
 (if (decide (x21 < (0 : Int))) = true then
 some true
 else
 (sh_laws_toGeo v0).bind fun x35 =>
 (sh_laws_toVariableS v1).bind fun x37 =>
 (sh_laws_toTable v2).bind fun x39 =>
 (sh_laws_toTable v3).bind fun x41 =>
 (sh_spec_SameMeaning x35 x37 x39 x41).bind fun x43 =>
 (sh_laws_toGeo v0).bind fun x47 =>
 (sh_laws_toVariableS v1).bind fun x51 =>
 (sh_laws_toTable v2).bind fun x55 =>
 (sh_laws_toTable v3).bind fun x59 =>
 (sh_impl_SameMeaning x47 x51 x55 x59).bind fun x63 =>
 (if (x63.1 != x43.1) = true then
 some false
 else
 (if (x63.2 != x43.2) = true then
 some false
 else
 (sh_laws_toGeo v0).bind fun x84 =>
 (sh_laws_eqGeo x47 x84).bind fun x86 =>
 (if (!x86) = true then
 some false
 else
 (sh_laws_toVariableS v1).bind fun x102 =>
 (sh_laws_eqVariableS x51 x102).bind fun x104 =>
 (if (!x104) = true then
 some false
 else
 (sh_laws_toTable v2).bind fun x120 =>
 (sh_laws_eqTable x55 x120).bind fun x122 =>
 (if (!x122) = true then
 some false
 else
 (sh_laws_toTable v3).bind fun x138 =>
 (sh_laws_eqTable x59 x138).bind fun x140 =>
 (if (!x140) = true then
 some false
 else
 some true))))))))))
end AS
