/- Plain functions. No condition. -/
import Derived.Test.YtahffpadaffmdaaKc
import Derived.Test.YtahffpadaffmdaaSda
set_option linter.unusedVariables false
set_option linter.unusedSimpArgs false
namespace AS
structure XGeo where
  Parents : (List Int)
  deriving DecidableEq, Inhabited
def cXGeo (c0 : Cd (List Int)) : Cd XGeo := ⟨fun v => .agg [c0.enc v.Parents], c0.sz + (0), true, (c0.im && true), fun v => by simp only [D.size, D.sizes, Cd.h_sz], fun _ => rfl, fun v => by simp only [D.imm, D.imms, Cd.h_im]⟩
theorem tXGeo {c0 c0' : Cd (List Int)} (tc0 : ToI c0 c0') : ToI (cXGeo c0) (cXGeo c0') := ⟨fun v => by simp only [cXGeo, D.toImm, D.toImms, tc0.h], by simp only [cXGeo, tc0.im, Bool.and_true]⟩
theorem sXGeo {c0 : Cd (List Int)} (tc0 : Sol c0) : Sol (cXGeo c0) := ⟨fun v => by simp only [cXGeo, D.solid, D.solids, tc0.h, Bool.and_true]⟩
instance : Bd XGeo := ⟨fun v => Bd.bd v.Parents⟩
def sh_laws_szGeo (v0 : XGeo) (v1 : Int) : Option Int :=
 (sh_laws_szIntS v0.Parents v1).bind fun x3 =>
 (if (decide (x3 < (0 : Int))) = true then
 some (-1 : Int)
 else
 some x3)

def sh_laws_toGeo (v0 : XGeo) : Option XGeo :=
 (sh_laws_toIntS v0.Parents).bind fun x3 =>
 some (⟨x3⟩ : XGeo)

def sh_spec_gGood (v0 : XGeo) : Option Bool :=
 (sh_spec_l1In (v0.Parents.length : Int) (1 : Int) (30 : Int)).bind fun x24 =>
 (if (!x24) = true then
 some false
 else
 getO v0.Parents (0 : Int) fun x27 =>
 (if (decide (x27 ≠ (-1 : Int))) = true then
 some false
 else
 rangeF (fun (k80 : Nat) (x81 : Int) (s79 : Unit) (nx102 : Unit → Option Bool) =>
 (if (decide ((0 : Int) < (k80 : Int))) = true then
 ckI ((k80 : Int) - (1 : Int)) <|
 (sh_spec_l1In x81 (0 : Int) ((k80 : Int) - (1 : Int))).bind fun x120 =>
 (if (!x120) = true then
 some false
 else
 nx102 ())
 else
 nx102 ()))
 (fun (s79 : Unit) =>
 some true) v0.Parents 0 ()))

def sh_spec_gDepth (v0 : XGeo) (v1 : Int) : Option Int :=
 loopF (fun (nx89 : (Int × Int) → Option Int) (s54 : (Int × Int)) =>
 getO v0.Parents s54.1 fun x102 =>
 (if (decide ((0 : Int) ≤ x102)) = true then
 ckI (s54.2 + (1 : Int)) <|
 nx89 (x102, (s54.2 + (1 : Int)))
 else
 some s54.2)) FUEL (v1, (0 : Int))

def sh_spec_gLevel (v0 : XGeo) (v1 : Int) : Option (List Int) :=
 rangeF (fun (k50 : Nat) (x51 : Int) (s49 : (List Int)) (nx78 : (List Int) → Option (List Int)) =>
 (sh_spec_gDepth v0 (k50 : Int)).bind fun x89 =>
 (if (decide (x89 = v1)) = true then
 lnO (s49.length + [(k50 : Int)].length) <|
 nx78 (s49 ++ [(k50 : Int)])
 else
 nx78 s49))
 (fun (s49 : (List Int)) =>
 some s49) v0.Parents 0 ([] : List Int)

def sh_spec_l1Rising (v0 : (List Int)) (v1 : Int) (v2 : Int) : Option Bool :=
 rangeF (fun (k82 : Nat) (x83 : Int) (s81 : Unit) (nx120 : Unit → Option Bool) =>
 (sh_spec_l1In x83 v1 v2).bind fun x148 =>
 (if (!x148) = true then
 some false
 else
 (if (decide ((0 : Int) < (k82 : Int))) = true then
 ckI ((k82 : Int) - (1 : Int)) <|
 getO v0 ((k82 : Int) - (1 : Int)) fun x153 =>
 (if (decide (x83 ≤ x153)) = true then
 some false
 else
 nx120 ())
 else
 nx120 ())))
 (fun (s81 : Unit) =>
 some true) v0 0 ()

def sh_spec_sPart (v0 : (List XVariable)) (v1 : (List Int)) : Option (List XVariable) :=
 rangeF (fun (k38 : Nat) (x39 : Int) (s37 : (List XVariable)) (nx58 : (List XVariable) → Option (List XVariable)) =>
 getO v0 x39 fun x65 =>
 lnO (s37.length + [x65].length) <|
 nx58 (s37 ++ [x65]))
 (fun (s37 : (List XVariable)) =>
 some s37) v1 0 ([] : List XVariable)

def sh_spec_sCount (v0 : (List XVariable)) : Option Int :=
 rangeF (fun (k20 : Nat) (x21 : XVariable) (s19 : Int) (nx28 : Int → Option Int) =>
 ckI (s19 * x21.Levels) <|
 nx28 (s19 * x21.Levels))
 (fun (s19 : Int) =>
 some s19) v0 0 (1 : Int)

def sh_spec_uCount (v0 : XGeo) (v1 : (List XVariable)) (v2 : XTable) : Option Int :=
 (sh_spec_gLevel v0 v2.Level).bind fun x9 =>
 lmO x9.length <|
 (sh_spec_sPart v1 v2.Vars).bind fun x12 =>
 (sh_spec_sCount x12).bind fun x14 =>
 ckI ((x9.length : Int) * x14) <|
 some ((x9.length : Int) * x14)

def sh_spec_uGood (v0 : XGeo) (v1 : (List XVariable)) (v2 : XTable) : Option Bool :=
 (((sh_spec_gGood v0).bind fun x77 =>
 (if (!x77) = true then
 some true
 else
 (sh_spec_sGood v1).bind fun x80 =>
 (if (!x80) = true then
 some true
 else
 (sh_spec_gLevel v0 v2.Level).bind fun x83 =>
 (if (decide ((x83.length : Int) = (0 : Int))) = true then
 some true
 else
 ckI ((v1.length : Int) - (1 : Int)) <|
 (sh_spec_l1Rising v2.Vars (0 : Int) ((v1.length : Int) - (1 : Int))).bind fun x89 =>
 (if (!x89) = true then
 some true
 else
 (sh_spec_uWhere v1 v2.Where).bind fun x92 =>
 (if (!x92) = true then
 some true
 else
 ckI ((v1.length : Int) - (1 : Int)) <|
 (sh_spec_l1In v2.Sum (-1 : Int) ((v1.length : Int) - (1 : Int))).bind fun x97 =>
 some (!x97)))))) : Option Bool).bind fun (s70 : Bool) =>
 (if s70 = true then
 some false
 else
 (sh_spec_uCount v0 v1 v2).bind fun x75 =>
 some (decide (x75 ≤ (600 : Int)))))

def sh_spec_IsTable (v0 : XGeo) (v1 : (List XVariable)) (v2 : XTable) : Option (Bool × Bool) :=
 (sh_spec_gGood v0).bind fun x17 =>
 (if (!x17) = true then
 some (false, false)
 else
 (sh_spec_sGood v1).bind fun x20 =>
 (if (!x20) = true then
 some (false, false)
 else
 (sh_spec_uGood v0 v1 v2).bind fun x25 =>
 some (x25, true)))

def sh_impl_IsGeo (v0 : XGeo) : Option Bool :=
 (if (decide ((v0.Parents.length : Int) < (1 : Int))) = true then
 some false
 else
 (if (decide ((30 : Int) < (v0.Parents.length : Int))) = true then
 some false
 else
 getO v0.Parents (0 : Int) fun x27 =>
 (if (decide (x27 ≠ (-1 : Int))) = true then
 some false
 else
 loopF (fun (nx169 : Int → Option Bool) (s114 : Int) =>
 (if (decide (s114 < (v0.Parents.length : Int))) = true then
 getO v0.Parents s114 fun x191 =>
 (if (decide (x191 < (0 : Int))) = true then
 some false
 else
 (if (decide (s114 ≤ x191)) = true then
 some false
 else
 ckI (s114 + (1 : Int)) <|
 nx169 (s114 + (1 : Int))))
 else
 some true)) FUEL (1 : Int))))

def sh_impl_areVars (v0 : (List XVariable)) (v1 : (List Int)) : Option Bool :=
 rangeF (fun (k74 : Nat) (x75 : Int) (s73 : Int) (nx118 : Int → Option Bool) =>
 (if (decide (x75 ≤ s73)) = true then
 some false
 else
 (if (decide ((v0.length : Int) ≤ x75)) = true then
 some false
 else
 nx118 x75)))
 (fun (s73 : Int) =>
 some true) v1 0 (-1 : Int)

def sh_impl_depthOf (v0 : XGeo) (v1 : Int) : Option Int :=
 loopF (fun (nx59 : (Int × Int) → Option Int) (s36 : (Int × Int)) =>
 (if (decide ((0 : Int) < s36.1)) = true then
 getO v0.Parents s36.1 fun x67 =>
 ckI (s36.2 + (1 : Int)) <|
 nx59 (x67, (s36.2 + (1 : Int)))
 else
 some s36.2)) FUEL (v1, (0 : Int))

def sh_impl_areasAt (v0 : XGeo) (v1 : Int) : Option (List Int) :=
 rangeF (fun (k50 : Nat) (x51 : Int) (s49 : (List Int)) (nx78 : (List Int) → Option (List Int)) =>
 (sh_impl_depthOf v0 (k50 : Int)).bind fun x89 =>
 (if (decide (x89 = v1)) = true then
 lnO (s49.length + [(k50 : Int)].length) <|
 nx78 (s49 ++ [(k50 : Int)])
 else
 nx78 s49))
 (fun (s49 : (List Int)) =>
 some s49) v0.Parents 0 ([] : List Int)

def sh_impl_crossed (v0 : (List XVariable)) (v1 : XTable) : Option (List XVariable) :=
 mkO (v1.Vars.length : Int) <|
 rangeF (fun (k56 : Nat) (x57 : Int) (s55 : (List XVariable)) (nx84 : (List XVariable) → Option (List XVariable)) =>
 getO v0 x57 fun x93 =>
 getO s55 (k56 : Int) fun x96 =>
 nx84 (s55.set ((k56 : Int)).toNat x93))
 (fun (s55 : (List XVariable)) =>
 some s55) v1.Vars 0 (List.replicate ((v1.Vars.length : Int)).toNat (⟨([] : List UInt8), (0 : Int)⟩ : XVariable))

def sh_impl_combinations (v0 : (List XVariable)) : Option Int :=
 rangeF (fun (k20 : Nat) (x21 : XVariable) (s19 : Int) (nx28 : Int → Option Int) =>
 ckI (s19 * x21.Levels) <|
 nx28 (s19 * x21.Levels))
 (fun (s19 : Int) =>
 some s19) v0 0 (1 : Int)

def sh_impl_cellCount (v0 : XGeo) (v1 : (List XVariable)) (v2 : XTable) : Option Int :=
 (sh_impl_areasAt v0 v2.Level).bind fun x9 =>
 lmO x9.length <|
 (sh_impl_crossed v1 v2).bind fun x12 =>
 (sh_impl_combinations x12).bind fun x14 =>
 ckI ((x9.length : Int) * x14) <|
 some ((x9.length : Int) * x14)

def sh_impl_isTable (v0 : XGeo) (v1 : (List XVariable)) (v2 : XTable) : Option Bool :=
 (((sh_impl_areVars v1 v2.Vars).bind fun x37 =>
 (if (!x37) = true then
 some true
 else
 (sh_impl_isWhere v1 v2.Where).bind fun x40 =>
 (if (!x40) = true then
 some true
 else
 (if (decide (v2.Sum < (-1 : Int))) = true then
 some true
 else
 some (decide ((v1.length : Int) ≤ v2.Sum))))) : Option Bool).bind fun (s28 : Bool) =>
 (if s28 = true then
 some false
 else
 (sh_impl_cellCount v0 v1 v2).bind fun x33 =>
 (if (decide ((0 : Int) < x33)) = true then
 some (decide (x33 ≤ (600 : Int)))
 else
 some false)))

def sh_impl_IsTable (v0 : XGeo) (v1 : (List XVariable)) (v2 : XTable) : Option (Bool × Bool) :=
 (sh_impl_IsGeo v0).bind fun x17 =>
 (if (!x17) = true then
 some (false, false)
 else
 (sh_impl_IsSchema v1).bind fun x20 =>
 (if (!x20) = true then
 some (false, false)
 else
 (sh_impl_isTable v0 v1 v2).bind fun x25 =>
 some (x25, true)))

def sh_laws_eqGeo (v0 : XGeo) (v1 : XGeo) : Option Bool :=
 (sh_laws_eqIntS v0.Parents v1.Parents).bind fun x8 =>
 (if (!x8) = true then
 some false
 else
 some true)

def sh_laws_FnExactIsTable (v0 : XGeo) (v1 : (List XVariable)) (v2 : XTable) : Option Bool :=
 (sh_laws_szGeo v0 (1048576 : Int)).bind fun x3 =>
 (if (decide (x3 < (0 : Int))) = true then
 some true
 else
 (sh_laws_szVariableS v1 x3).bind fun x9 =>
 (if (decide (x9 < (0 : Int))) = true then
 some true
 else
 (sh_laws_szTable v2 x9).bind fun x15 =>
 (if (decide (x15 < (0 : Int))) = true then
 some true
 else
 (sh_laws_toGeo v0).bind fun x27 =>
 (sh_laws_toVariableS v1).bind fun x29 =>
 (sh_laws_toTable v2).bind fun x31 =>
 (sh_spec_IsTable x27 x29 x31).bind fun x33 =>
 (sh_laws_toGeo v0).bind fun x37 =>
 (sh_laws_toVariableS v1).bind fun x41 =>
 (sh_laws_toTable v2).bind fun x45 =>
 (sh_impl_IsTable x37 x41 x45).bind fun x49 =>
 (if (x49.1 != x33.1) = true then
 some false
 else
 (if (x49.2 != x33.2) = true then
 some false
 else
 (sh_laws_toGeo v0).bind fun x70 =>
 (sh_laws_eqGeo x37 x70).bind fun x72 =>
 (if (!x72) = true then
 some false
 else
 (sh_laws_toVariableS v1).bind fun x88 =>
 (sh_laws_eqVariableS x41 x88).bind fun x90 =>
 (if (!x90) = true then
 some false
 else
 (sh_laws_toTable v2).bind fun x106 =>
 (sh_laws_eqTable x45 x106).bind fun x108 =>
 (if (!x108) = true then
 some false
 else
 some true))))))))
end AS
