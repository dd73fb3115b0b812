/- Plain functions. No condition. -/
import Derived.Test.YtahffpadaffmdaaKc
import Derived.Test.YtahffpadaffmdaaSda
import Derived.Test.YtahffpadaffmdaaSdb
import Derived.Test.YtahffpadaffmdaaSdc
import Derived.Test.YtahffpadaffmdaaSdd
import Derived.Test.YtahffpadaffmdaaSde
import Derived.Test.YtahffpadaffmdaaSdi
set_option linter.unusedVariables false
set_option linter.unusedSimpArgs false
namespace AS
def sh_spec_lLevels (v0 : XGeo) (v1 : XTable) (v2 : XTable) : Option Bool :=
 (if (decide (v2.Level ≤ v1.Level)) = true then
 some (decide (v1.Level = v2.Level))
 else
 (sh_spec_gLeaves v0).bind fun x64 =>
 rangeF (fun (k68 : Nat) (x69 : Int) (s67 : Unit) (nx94 : Unit → Option Bool) =>
 (sh_spec_gUp v0 x69 v1.Level).bind fun x113 =>
 (if (decide ((0 : Int) ≤ x113)) = true then
 (sh_spec_gUp v0 x69 v2.Level).bind fun x116 =>
 (if (decide (x116 < (0 : Int))) = true then
 some false
 else
 nx94 ())
 else
 nx94 ()))
 (fun (s67 : Unit) =>
 some true) x64 0 ())

def sh_spec_lSet (v0 : (List XVariable)) (v1 : XTable) (v2 : Int) : Option Int :=
 getO v1.Where v2 fun x15 =>
 (if (decide (x15 = (0 : Int))) = true then
 (sh_spec_eFull v0 v2).bind fun x21 =>
 some x21
 else
 some x15)

def sh_spec_lFollows (v0 : XGeo) (v1 : (List XVariable)) (v2 : XTable) (v3 : XTable) : Option Bool :=
 (((sh_spec_lLevels v0 v2 v3).bind fun x308 =>
 (if (!x308) = true then
 some true
 else
 (if (decide (v2.Sum ≠ v3.Sum)) = true then
 (if (decide (v3.Sum ≠ (-1 : Int))) = true then
 some true
 else
 (sh_spec_l1Has v3.Vars v2.Sum).bind fun x313 =>
 some (!x313))
 else
 some false)) : Option Bool).bind fun (s25 : Bool) =>
 (if s25 = true then
 some false
 else
 rangeF (fun (k61 : Nat) (x62 : Int) (s60 : Unit) (nx75 : Unit → Option Bool) =>
 (sh_spec_l1Has v3.Vars x62).bind fun x305 =>
 (if (!x305) = true then
 some false
 else
 nx75 ()))
 (fun (s60 : Unit) =>
 rangeF (fun (k191 : Nat) (x192 : XVariable) (s190 : Unit) (nx245 : Unit → Option Bool) =>
 (sh_spec_lSet v1 v2 (k191 : Int)).bind fun x277 =>
 (sh_spec_lSet v1 v3 (k191 : Int)).bind fun x279 =>
 (if (decide (x277 ≠ x279)) = true then
 (sh_spec_l1Has v3.Vars (k191 : Int)).bind fun x290 =>
 (if (!x290) = true then
 some false
 else
 ck (0 ≤ x277) <|
 ckK .i64 x277 <|
 ck (0 ≤ x279) <|
 ckK .i64 x279 <|
 (if (decide (((x277.toNat &&& x279.toNat : Nat) : Int) ≠ x277)) = true then
 some false
 else
 nx245 ()))
 else
 nx245 ()))
 (fun (s190 : Unit) =>
 some true) v1 0 ()) v2.Vars 0 ()))

def sh_spec_FollowsFrom (v0 : XGeo) (v1 : (List XVariable)) (v2 : XTable) (v3 : XTable) : Option (Bool × Bool) :=
 (sh_spec_uGood v0 v1 v2).bind fun x17 =>
 (if (!x17) = true then
 some (false, false)
 else
 (sh_spec_uGood v0 v1 v3).bind fun x20 =>
 (if (!x20) = true then
 some (false, false)
 else
 (sh_spec_lFollows v0 v1 v2 v3).bind fun x25 =>
 some (x25, true)))

def sh_impl_leavesOf (v0 : XGeo) : Option (List Int) :=
 rangeF (fun (k50 : Nat) (x51 : Int) (s49 : (List Int)) (nx78 : (List Int) → Option (List Int)) =>
 (sh_impl_isLeaf v0 (k50 : Int)).bind fun x89 =>
 (if x89 = true then
 lnO (s49.length + [(k50 : Int)].length) <|
 nx78 (s49 ++ [(k50 : Int)])
 else
 nx78 s49))
 (fun (s49 : (List Int)) =>
 some s49) v0.Parents 0 ([] : List Int)

def sh_impl_followsFrom (v0 : XGeo) (v1 : (List XVariable)) (v2 : XTable) (v3 : XTable) : Option Bool :=
 jn (fun (s46 : Unit) =>
 rangeF (fun (k82 : Nat) (x83 : Int) (s81 : Unit) (nx96 : Unit → Option Bool) =>
 (sh_slices_Contains_int v3.Vars x83).bind fun x446 =>
 (if (!x446) = true then
 some false
 else
 nx96 ()))
 (fun (s81 : Unit) =>
 rangeF (fun (k268 : Nat) (x269 : XVariable) (s267 : Unit) (nx350 : Unit → Option Bool) =>
 (sh_impl_conditionOf v1 v2 (k268 : Int)).bind fun x404 =>
 (sh_impl_conditionOf v1 v3 (k268 : Int)).bind fun x406 =>
 (((sh_slices_Contains_int v3.Vars (k268 : Int)).bind fun x425 =>
 (if x425 = true then
 ck (0 ≤ x404) <|
 ckK .i64 x404 <|
 ck (0 ≤ x406) <|
 ckK .i64 x406 <|
 (if (decide ((((x404.toNat &&& x406.toNat) ^^^ x404.toNat : Nat) : Int) ≠ (0 : Int))) = true then
 some true
 else
 (sh_slices_Contains_int v3.Vars (k268 : Int)).bind fun x433 =>
 (if (!x433) = true then
 some (decide (x404 ≠ x406))
 else
 some false))
 else
 (sh_slices_Contains_int v3.Vars (k268 : Int)).bind fun x436 =>
 (if (!x436) = true then
 some (decide (x404 ≠ x406))
 else
 some false)) : Option Bool).bind fun (s422 : Bool) =>
 (if s422 = true then
 some false
 else
 nx350 ())))
 (fun (s267 : Unit) =>
 (if (decide (v2.Sum = v3.Sum)) = true then
 some true
 else
 (if (decide (v3.Sum = (-1 : Int))) = true then
 (sh_slices_Contains_int v3.Vars v2.Sum).bind fun x359 =>
 some x359
 else
 some false))) v1 0 ()) v2.Vars 0 ()) fun af47 =>
 (if (decide (v2.Level ≠ v3.Level)) = true then
 (if (decide (v3.Level < v2.Level)) = true then
 some false
 else
 (sh_impl_leavesOf v0).bind fun x455 =>
 rangeF (fun (k459 : Nat) (x460 : Int) (s458 : Unit) (nx477 : Unit → Option Bool) =>
 (sh_impl_depthOf v0 x460).bind fun x489 =>
 (if (decide (v2.Level ≤ x489)) = true then
 (if (decide (x489 < v3.Level)) = true then
 some false
 else
 nx477 ())
 else
 nx477 ()))
 (fun (s458 : Unit) =>
 af47 ()) x455 0 ())
 else
 af47 ())

def sh_impl_FollowsFrom (v0 : XGeo) (v1 : (List XVariable)) (v2 : XTable) (v3 : XTable) : Option (Bool × Bool) :=
 (sh_impl_areTabled v0 v1 v2).bind fun x17 =>
 (if (!x17) = true then
 some (false, false)
 else
 (sh_impl_isTable v0 v1 v3).bind fun x20 =>
 (if (!x20) = true then
 some (false, false)
 else
 (sh_impl_followsFrom v0 v1 v2 v3).bind fun x25 =>
 some (x25, true)))

def sh_laws_FnExactFollowsFrom (v0 : XGeo) (v1 : (List XVariable)) (v2 : XTable) (v3 : XTable) : Option Bool :=
 (sh_laws_szGeo v0 (1048576 : Int)).bind fun x3 =>
 (if (decide (x3 < (0 : Int))) = true then
 some true
 else
 (sh_laws_szVariableS v1 x3).bind fun x9 =>
 (if (decide (x9 < (0 : Int))) = true then
 some true
 else
 (sh_laws_szTable v2 x9).bind fun x15 =>
 (if (decide (x15 < (0 : Int))) = true then
 some true
 else
 (sh_laws_szTable v3 x15).bind fun x21 =>
 (if (decide (x21 < (0 : Int))) = true then
 some true
 else
 (sh_laws_toGeo v0).bind fun x35 =>
 (sh_laws_toVariableS v1).bind fun x37 =>
 (sh_laws_toTable v2).bind fun x39 =>
 (sh_laws_toTable v3).bind fun x41 =>
 (sh_spec_FollowsFrom x35 x37 x39 x41).bind fun x43 =>
 (sh_laws_toGeo v0).bind fun x47 =>
 (sh_laws_toVariableS v1).bind fun x51 =>
 (sh_laws_toTable v2).bind fun x55 =>
 (sh_laws_toTable v3).bind fun x59 =>
 (sh_impl_FollowsFrom x47 x51 x55 x59).bind fun x63 =>
 (if (x63.1 != x43.1) = true then
 some false
 else
 (if (x63.2 != x43.2) = true then
 some false
 else
 (sh_laws_toGeo v0).bind fun x84 =>
 (sh_laws_eqGeo x47 x84).bind fun x86 =>
 (if (!x86) = true then
 some false
 else
 (sh_laws_toVariableS v1).bind fun x102 =>
 (sh_laws_eqVariableS x51 x102).bind fun x104 =>
 (if (!x104) = true then
 some false
 else
 (sh_laws_toTable v2).bind fun x120 =>
 (sh_laws_eqTable x55 x120).bind fun x122 =>
 (if (!x122) = true then
 some false
 else
 (sh_laws_toTable v3).bind fun x138 =>
 (sh_laws_eqTable x59 x138).bind fun x140 =>
 (if (!x140) = true then
 some false
 else
 some true))))))))))
end AS
