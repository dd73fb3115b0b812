/- Plain functions. No condition. -/
import Derived.Test.YtppdeamjoemhgaaKc
set_option linter.unusedVariables false
set_option linter.unusedSimpArgs false
namespace AS
structure XGeo where
  Parents : (List Int)
  deriving DecidableEq, Inhabited
def cXGeo (c0 : Cd (List Int)) : Cd XGeo := ⟨fun v => .agg [c0.enc v.Parents], c0.sz + (0), true, (c0.im && true), fun v => by simp only [D.size, D.sizes, Cd.h_sz], fun _ => rfl, fun v => by simp only [D.imm, D.imms, Cd.h_im]⟩
theorem tXGeo {c0 c0' : Cd (List Int)} (tc0 : ToI c0 c0') : ToI (cXGeo c0) (cXGeo c0') := ⟨fun v => by simp only [cXGeo, D.toImm, D.toImms, tc0.h], by simp only [cXGeo, tc0.im, Bool.and_true]⟩
theorem sXGeo {c0 : Cd (List Int)} (tc0 : Sol c0) : Sol (cXGeo c0) := ⟨fun v => by simp only [cXGeo, D.solid, D.solids, tc0.h, Bool.and_true]⟩
instance : Bd XGeo := ⟨fun v => Bd.bd v.Parents⟩
structure XVariable where
  Name : (List UInt8)
  Levels : Int
  deriving DecidableEq, Inhabited
def cXVariable (c0 : Cd (List UInt8)) (c1 : Cd Int) : Cd XVariable := ⟨fun v => .agg [c0.enc v.Name, c1.enc v.Levels], c0.sz + (c1.sz + (0)), true, (c0.im && (c1.im && true)), fun v => by simp only [D.size, D.sizes, Cd.h_sz], fun _ => rfl, fun v => by simp only [D.imm, D.imms, Cd.h_im]⟩
theorem tXVariable {c0 c0' : Cd (List UInt8)} {c1 c1' : Cd Int} (tc0 : ToI c0 c0') (tc1 : ToI c1 c1') : ToI (cXVariable c0 c1) (cXVariable c0' c1') := ⟨fun v => by simp only [cXVariable, D.toImm, D.toImms, tc0.h, tc1.h], by simp only [cXVariable, tc0.im, tc1.im, Bool.and_true]⟩
theorem sXVariable {c0 : Cd (List UInt8)} {c1 : Cd Int} (tc0 : Sol c0) (tc1 : Sol c1) : Sol (cXVariable c0 c1) := ⟨fun v => by simp only [cXVariable, D.solid, D.solids, tc0.h, tc1.h, Bool.and_true]⟩
instance : Bd XVariable := ⟨fun v => Bd.bd v.Name ∧ Bd.bd v.Levels⟩
structure XTable where
  Level : Int
  Vars : (List Int)
  Where : (List Int)
  Sum : Int
  deriving DecidableEq, Inhabited
def cXTable (c0 : Cd Int) (c1 : Cd (List Int)) (c2 : Cd (List Int)) (c3 : Cd Int) : Cd XTable := ⟨fun v => .agg [c0.enc v.Level, c1.enc v.Vars, c2.enc v.Where, c3.enc v.Sum], c0.sz + (c1.sz + (c2.sz + (c3.sz + (0)))), true, (c0.im && (c1.im && (c2.im && (c3.im && true)))), fun v => by simp only [D.size, D.sizes, Cd.h_sz], fun _ => rfl, fun v => by simp only [D.imm, D.imms, Cd.h_im]⟩
theorem tXTable {c0 c0' : Cd Int} {c1 c1' : Cd (List Int)} {c2 c2' : Cd (List Int)} {c3 c3' : Cd Int} (tc0 : ToI c0 c0') (tc1 : ToI c1 c1') (tc2 : ToI c2 c2') (tc3 : ToI c3 c3') : ToI (cXTable c0 c1 c2 c3) (cXTable c0' c1' c2' c3') := ⟨fun v => by simp only [cXTable, D.toImm, D.toImms, tc0.h, tc1.h, tc2.h, tc3.h], by simp only [cXTable, tc0.im, tc1.im, tc2.im, tc3.im, Bool.and_true]⟩
theorem sXTable {c0 : Cd Int} {c1 : Cd (List Int)} {c2 : Cd (List Int)} {c3 : Cd Int} (tc0 : Sol c0) (tc1 : Sol c1) (tc2 : Sol c2) (tc3 : Sol c3) : Sol (cXTable c0 c1 c2 c3) := ⟨fun v => by simp only [cXTable, D.solid, D.solids, tc0.h, tc1.h, tc2.h, tc3.h, Bool.and_true]⟩
instance : Bd XTable := ⟨fun v => Bd.bd v.Level ∧ Bd.bd v.Vars ∧ Bd.bd v.Where ∧ Bd.bd v.Sum⟩
def sh_laws_szIntS (v0 : (List Int)) (v1 : Int) : Option Int :=
 ckI (v1 - (v0.length : Int)) <|
 (if (decide ((v1 - (v0.length : Int)) < (0 : Int))) = true then
 some (-1 : Int)
 else
 some (v1 - (v0.length : Int)))

def sh_laws_szGeo (v0 : XGeo) (v1 : Int) : Option Int :=
 (sh_laws_szIntS v0.Parents v1).bind fun x3 =>
 (if (decide (x3 < (0 : Int))) = true then
 some (-1 : Int)
 else
 some x3)

def sh_laws_szVariable (v0 : XVariable) (v1 : Int) : Option Int :=
 ckI (v1 - (v0.Name.length : Int)) <|
 (if (decide ((v1 - (v0.Name.length : Int)) < (0 : Int))) = true then
 some (-1 : Int)
 else
 some (v1 - (v0.Name.length : Int)))

def sh_laws_szVariableS (v0 : (List XVariable)) (v1 : Int) : Option Int :=
 ckI (v1 - (v0.length : Int)) <|
 (if (decide ((v1 - (v0.length : Int)) < (0 : Int))) = true then
 some (-1 : Int)
 else
 loopF (fun (nx165 : (Int × Int) → Option Int) (s102 : (Int × Int)) =>
 (if (decide (s102.2 < (v0.length : Int))) = true then
 getO v0 s102.2 fun x190 =>
 (sh_laws_szVariable x190 s102.1).bind fun x193 =>
 (if (decide (x193 < (0 : Int))) = true then
 some (-1 : Int)
 else
 ckI (s102.2 + (1 : Int)) <|
 nx165 (x193, (s102.2 + (1 : Int))))
 else
 some s102.1)) FUEL ((v1 - (v0.length : Int)), (0 : Int)))

def sh_laws_szTable (v0 : XTable) (v1 : Int) : Option Int :=
 (sh_laws_szIntS v0.Vars v1).bind fun x3 =>
 (if (decide (x3 < (0 : Int))) = true then
 some (-1 : Int)
 else
 (sh_laws_szIntS v0.Where x3).bind fun x9 =>
 (if (decide (x9 < (0 : Int))) = true then
 some (-1 : Int)
 else
 some x9))

def sh_laws_szTableS (v0 : (List XTable)) (v1 : Int) : Option Int :=
 ckI (v1 - (v0.length : Int)) <|
 (if (decide ((v1 - (v0.length : Int)) < (0 : Int))) = true then
 some (-1 : Int)
 else
 loopF (fun (nx165 : (Int × Int) → Option Int) (s102 : (Int × Int)) =>
 (if (decide (s102.2 < (v0.length : Int))) = true then
 getO v0 s102.2 fun x190 =>
 (sh_laws_szTable x190 s102.1).bind fun x193 =>
 (if (decide (x193 < (0 : Int))) = true then
 some (-1 : Int)
 else
 ckI (s102.2 + (1 : Int)) <|
 nx165 (x193, (s102.2 + (1 : Int))))
 else
 some s102.1)) FUEL ((v1 - (v0.length : Int)), (0 : Int)))

def sh_laws_toIntS (v0 : (List Int)) : Option (List Int) :=
 mkO (v0.length : Int) <|
 loopF (fun (nx115 : ((List Int) × Int) → Option (List Int)) (s72 : ((List Int) × Int)) =>
 (if (decide (s72.2 < (v0.length : Int))) = true then
 getO v0 s72.2 fun x130 =>
 getO s72.1 s72.2 fun x133 =>
 ckI (s72.2 + (1 : Int)) <|
 nx115 ((s72.1.set (s72.2).toNat x130), (s72.2 + (1 : Int)))
 else
 some s72.1)) FUEL ((List.replicate ((v0.length : Int)).toNat (0 : Int)), (0 : Int))

def sh_laws_toGeo (v0 : XGeo) : Option XGeo :=
 (sh_laws_toIntS v0.Parents).bind fun x3 =>
 some (⟨x3⟩ : XGeo)

def sh_laws_toVariable (v0 : XVariable) : Option XVariable :=
 some (⟨v0.Name, v0.Levels⟩ : XVariable)

def sh_laws_toVariableS (v0 : (List XVariable)) : Option (List XVariable) :=
 mkO (v0.length : Int) <|
 loopF (fun (nx135 : ((List XVariable) × Int) → Option (List XVariable)) (s84 : ((List XVariable) × Int)) =>
 (if (decide (s84.2 < (v0.length : Int))) = true then
 getO v0 s84.2 fun x152 =>
 (sh_laws_toVariable x152).bind fun x155 =>
 getO s84.1 s84.2 fun x157 =>
 ckI (s84.2 + (1 : Int)) <|
 nx135 ((s84.1.set (s84.2).toNat x155), (s84.2 + (1 : Int)))
 else
 some s84.1)) FUEL ((List.replicate ((v0.length : Int)).toNat (⟨([] : List UInt8), (0 : Int)⟩ : XVariable)), (0 : Int))

def sh_laws_toTable (v0 : XTable) : Option XTable :=
 (sh_laws_toIntS v0.Vars).bind fun x3 =>
 (sh_laws_toIntS v0.Where).bind fun x7 =>
 some (⟨v0.Level, x3, x7, v0.Sum⟩ : XTable)

def sh_laws_toTableS (v0 : (List XTable)) : Option (List XTable) :=
 mkO (v0.length : Int) <|
 loopF (fun (nx135 : ((List XTable) × Int) → Option (List XTable)) (s84 : ((List XTable) × Int)) =>
 (if (decide (s84.2 < (v0.length : Int))) = true then
 getO v0 s84.2 fun x152 =>
 (sh_laws_toTable x152).bind fun x155 =>
 getO s84.1 s84.2 fun x157 =>
 ckI (s84.2 + (1 : Int)) <|
 nx135 ((s84.1.set (s84.2).toNat x155), (s84.2 + (1 : Int)))
 else
 some s84.1)) FUEL ((List.replicate ((v0.length : Int)).toNat (⟨(0 : Int), ([] : List Int), ([] : List Int), (0 : Int)⟩ : XTable)), (0 : Int))

def sh_spec_l1In (v0 : Int) (v1 : Int) (v2 : Int) : Option Bool :=
 (if (decide (v1 ≤ v0)) = true then
 some (decide (v0 ≤ v2))
 else
 some false)

def sh_spec_gGood (v0 : XGeo) : Option Bool :=
 (sh_spec_l1In (v0.Parents.length : Int) (1 : Int) (30 : Int)).bind fun x24 =>
 (if (!x24) = true then
 some false
 else
 getO v0.Parents (0 : Int) fun x27 =>
 (if (decide (x27 ≠ (-1 : Int))) = true then
 some false
 else
 rangeF (fun (k80 : Nat) (x81 : Int) (s79 : Unit) (nx102 : Unit → Option Bool) =>
 (if (decide ((0 : Int) < (k80 : Int))) = true then
 ckI ((k80 : Int) - (1 : Int)) <|
 (sh_spec_l1In x81 (0 : Int) ((k80 : Int) - (1 : Int))).bind fun x120 =>
 (if (!x120) = true then
 some false
 else
 nx102 ())
 else
 nx102 ()))
 (fun (s79 : Unit) =>
 some true) v0.Parents 0 ()))

def sh_spec_sName (v0 : (List UInt8)) : Option Bool :=
 loopF (fun (nx139 : Int → Option Bool) (s84 : Int) =>
 (if (decide (s84 < (v0.length : Int))) = true then
 getO v0 s84 fun x161 =>
 (if (decide ((x161.toNat : Int) < (97 : Int))) = true then
 some false
 else
 (if (decide ((122 : Int) < (x161.toNat : Int))) = true then
 some false
 else
 ckI (s84 + (1 : Int)) <|
 nx139 (s84 + (1 : Int))))
 else
 (sh_spec_l1In (v0.length : Int) (1 : Int) (8 : Int)).bind fun x171 =>
 some x171)) FUEL (0 : Int)

def sh_spec_sFind (v0 : (List XVariable)) (v1 : (List UInt8)) : Option Int :=
 rangeF (fun (k18 : Nat) (x19 : XVariable) (s17 : Unit) (nx24 : Unit → Option Int) =>
 (if (decide (x19.Name = v1)) = true then
 some (k18 : Int)
 else
 nx24 ()))
 (fun (s17 : Unit) =>
 some (-1 : Int)) v0 0 ()

def sh_spec_sGood (v0 : (List XVariable)) : Option Bool :=
 (sh_spec_l1In (v0.length : Int) (1 : Int) (6 : Int)).bind fun x12 =>
 (if (!x12) = true then
 some false
 else
 rangeF (fun (k104 : Nat) (x105 : XVariable) (s103 : Unit) (nx146 : Unit → Option Bool) =>
 (sh_spec_sName x105.Name).bind fun x177 =>
 (if (!x177) = true then
 some false
 else
 (sh_spec_l1In x105.Levels (2 : Int) (8 : Int)).bind fun x180 =>
 (if (!x180) = true then
 some false
 else
 ck (0 ≤ (k104 : Int) ∧ 0 ≤ ((k104 : Int)).toNat ∧ ((k104 : Int)).toNat ≤ v0.length) <|
 (sh_spec_sFind ((v0.take ((k104 : Int)).toNat).drop 0) x105.Name).bind fun x184 =>
 (if (decide ((0 : Int) ≤ x184)) = true then
 some false
 else
 nx146 ()))))
 (fun (s103 : Unit) =>
 some true) v0 0 ())

def sh_spec_nInput (v0 : XGeo) (v1 : (List XVariable)) : Option Bool :=
 (sh_spec_gGood v0).bind fun x6 =>
 (if x6 = true then
 (sh_spec_sGood v1).bind fun x9 =>
 some x9
 else
 some false)

def sh_spec_gDepth (v0 : XGeo) (v1 : Int) : Option Int :=
 loopF (fun (nx89 : (Int × Int) → Option Int) (s54 : (Int × Int)) =>
 getO v0.Parents s54.1 fun x102 =>
 (if (decide ((0 : Int) ≤ x102)) = true then
 ckI (s54.2 + (1 : Int)) <|
 nx89 (x102, (s54.2 + (1 : Int)))
 else
 some s54.2)) FUEL (v1, (0 : Int))

def sh_spec_gLevel (v0 : XGeo) (v1 : Int) : Option (List Int) :=
 rangeF (fun (k50 : Nat) (x51 : Int) (s49 : (List Int)) (nx78 : (List Int) → Option (List Int)) =>
 (sh_spec_gDepth v0 (k50 : Int)).bind fun x89 =>
 (if (decide (x89 = v1)) = true then
 lnO (s49.length + [(k50 : Int)].length) <|
 nx78 (s49 ++ [(k50 : Int)])
 else
 nx78 s49))
 (fun (s49 : (List Int)) =>
 some s49) v0.Parents 0 ([] : List Int)

def sh_spec_l1Rising (v0 : (List Int)) (v1 : Int) (v2 : Int) : Option Bool :=
 rangeF (fun (k82 : Nat) (x83 : Int) (s81 : Unit) (nx120 : Unit → Option Bool) =>
 (sh_spec_l1In x83 v1 v2).bind fun x148 =>
 (if (!x148) = true then
 some false
 else
 (if (decide ((0 : Int) < (k82 : Int))) = true then
 ckI ((k82 : Int) - (1 : Int)) <|
 getO v0 ((k82 : Int) - (1 : Int)) fun x153 =>
 (if (decide (x83 ≤ x153)) = true then
 some false
 else
 nx120 ())
 else
 nx120 ())))
 (fun (s81 : Unit) =>
 some true) v0 0 ()

def sh_spec_uWhere (v0 : (List XVariable)) (v1 : (List Int)) : Option Bool :=
 (if (decide ((v1.length : Int) ≠ (v0.length : Int))) = true then
 some false
 else
 rangeF (fun (k100 : Nat) (x101 : XVariable) (s99 : Unit) (nx142 : Unit → Option Bool) =>
 getO v1 (k100 : Int) fun x173 =>
 ckK .u64 x101.Levels <|
 ck (0 ≤ x101.Levels ∧ x101.Levels < 64) <|
 ckI ((1 : Int) * 2 ^ (x101.Levels).toNat) <|
 ckI (((1 : Int) * 2 ^ (x101.Levels).toNat) - (1 : Int)) <|
 (sh_spec_l1In x173 (0 : Int) (((1 : Int) * 2 ^ (x101.Levels).toNat) - (1 : Int))).bind fun x180 =>
 (if (!x180) = true then
 some false
 else
 nx142 ()))
 (fun (s99 : Unit) =>
 some true) v0 0 ())

def sh_spec_sPart (v0 : (List XVariable)) (v1 : (List Int)) : Option (List XVariable) :=
 rangeF (fun (k38 : Nat) (x39 : Int) (s37 : (List XVariable)) (nx58 : (List XVariable) → Option (List XVariable)) =>
 getO v0 x39 fun x65 =>
 lnO (s37.length + [x65].length) <|
 nx58 (s37 ++ [x65]))
 (fun (s37 : (List XVariable)) =>
 some s37) v1 0 ([] : List XVariable)

def sh_spec_sCount (v0 : (List XVariable)) : Option Int :=
 rangeF (fun (k20 : Nat) (x21 : XVariable) (s19 : Int) (nx28 : Int → Option Int) =>
 ckI (s19 * x21.Levels) <|
 nx28 (s19 * x21.Levels))
 (fun (s19 : Int) =>
 some s19) v0 0 (1 : Int)

def sh_spec_uCount (v0 : XGeo) (v1 : (List XVariable)) (v2 : XTable) : Option Int :=
 (sh_spec_gLevel v0 v2.Level).bind fun x9 =>
 lmO x9.length <|
 (sh_spec_sPart v1 v2.Vars).bind fun x12 =>
 (sh_spec_sCount x12).bind fun x14 =>
 ckI ((x9.length : Int) * x14) <|
 some ((x9.length : Int) * x14)

def sh_spec_uGood (v0 : XGeo) (v1 : (List XVariable)) (v2 : XTable) : Option Bool :=
 (((sh_spec_gGood v0).bind fun x77 =>
 (if (!x77) = true then
 some true
 else
 (sh_spec_sGood v1).bind fun x80 =>
 (if (!x80) = true then
 some true
 else
 (sh_spec_gLevel v0 v2.Level).bind fun x83 =>
 (if (decide ((x83.length : Int) = (0 : Int))) = true then
 some true
 else
 ckI ((v1.length : Int) - (1 : Int)) <|
 (sh_spec_l1Rising v2.Vars (0 : Int) ((v1.length : Int) - (1 : Int))).bind fun x89 =>
 (if (!x89) = true then
 some true
 else
 (sh_spec_uWhere v1 v2.Where).bind fun x92 =>
 (if (!x92) = true then
 some true
 else
 ckI ((v1.length : Int) - (1 : Int)) <|
 (sh_spec_l1In v2.Sum (-1 : Int) ((v1.length : Int) - (1 : Int))).bind fun x97 =>
 some (!x97)))))) : Option Bool).bind fun (s70 : Bool) =>
 (if s70 = true then
 some false
 else
 (sh_spec_uCount v0 v1 v2).bind fun x75 =>
 some (decide (x75 ≤ (600 : Int)))))

def sh_spec_nPlan (v0 : XGeo) (v1 : (List XVariable)) (v2 : (List XTable)) : Option Bool :=
 (sh_spec_nInput v0 v1).bind fun x14 =>
 (if (!x14) = true then
 some false
 else
 (if (decide ((20 : Int) < (v2.length : Int))) = true then
 some false
 else
 rangeF (fun (k52 : Nat) (x53 : XTable) (s51 : Unit) (nx66 : Unit → Option Bool) =>
 (sh_spec_uGood v0 v1 x53).bind fun x76 =>
 (if (!x76) = true then
 some false
 else
 nx66 ()))
 (fun (s51 : Unit) =>
 some true) v2 0 ()))
def sh_spec_l1Own (v0 : (List Int)) : Option (List Int) :=
 lnO (([] : List Int).length + v0.length) <|
 some (([] : List Int) ++ v0)

def sh_spec_nOwn (v0 : XTable) : Option XTable :=
 (sh_spec_l1Own v0.Vars).bind fun x5 =>
 (sh_spec_l1Own v0.Where).bind fun x7 =>
 some (⟨v0.Level, x5, x7, v0.Sum⟩ : XTable)

def sh_spec_eFull (v0 : (List XVariable)) (v1 : Int) : Option Int :=
 getO v0 v1 fun x8 =>
 ckK .u64 x8.Levels <|
 ck (0 ≤ x8.Levels ∧ x8.Levels < 64) <|
 ckI ((1 : Int) * 2 ^ (x8.Levels).toNat) <|
 ckI (((1 : Int) * 2 ^ (x8.Levels).toNat) - (1 : Int)) <|
 some (((1 : Int) * 2 ^ (x8.Levels).toNat) - (1 : Int))

def sh_spec_nNormal (v0 : (List XVariable)) (v1 : XTable) : Option XTable :=
 (sh_spec_nOwn v1).bind fun x3 =>
 rangeF (fun (k84 : Nat) (x85 : XVariable) (s83 : XTable) (nx132 : XTable → Option XTable) =>
 getO s83.Where (k84 : Int) fun x151 =>
 (sh_spec_eFull v0 (k84 : Int)).bind fun x154 =>
 (if (decide (x151 = x154)) = true then
 nx132 (⟨s83.Level, s83.Vars, (s83.Where.set ((k84 : Int)).toNat (0 : Int)), s83.Sum⟩ : XTable)
 else
 nx132 s83))
 (fun (s83 : XTable) =>
 some s83) v0 0 x3

def sh_spec_l1Same (v0 : (List Int)) (v1 : (List Int)) : Option Bool :=
 (if (decide ((v0.length : Int) ≠ (v1.length : Int))) = true then
 some false
 else
 rangeF (fun (k52 : Nat) (x53 : Int) (s51 : Unit) (nx70 : Unit → Option Bool) =>
 getO v1 (k52 : Int) fun x83 =>
 (if (decide (x53 ≠ x83)) = true then
 some false
 else
 nx70 ()))
 (fun (s51 : Unit) =>
 some true) v0 0 ())

def sh_spec_nSame (v0 : (List XVariable)) (v1 : XTable) (v2 : XTable) : Option Bool :=
 (sh_spec_nNormal v0 v1).bind fun x5 =>
 (sh_spec_nNormal v0 v2).bind fun x7 =>
 (((if (decide (x5.Level = x7.Level)) = true then
 (sh_spec_l1Same x5.Vars x7.Vars).bind fun x19 =>
 (if x19 = true then
 (sh_spec_l1Same x5.Where x7.Where).bind fun x22 =>
 (if x22 = true then
 some (decide (x5.Sum = x7.Sum))
 else
 some false)
 else
 some false)
 else
 some false) : Option Bool).bind fun (s16 : Bool) =>
 some s16)

def sh_spec_MergePlans (v0 : XGeo) (v1 : (List XVariable)) (v2 : (List XTable)) (v3 : (List XTable)) : Option ((List XTable) × Bool) :=
 (sh_spec_nPlan v0 v1 v2).bind fun x17 =>
 (if (!x17) = true then
 some (([] : List XTable), false)
 else
 (sh_spec_nPlan v0 v1 v3).bind fun x20 =>
 (if (!x20) = true then
 some (([] : List XTable), false)
 else
 lnO (([] : List XTable).length + v2.length) <|
 lnO ((([] : List XTable) ++ v2).length + v3.length) <|
 rangeF (fun (k380 : Nat) (x381 : XTable) (s379 : (List XTable)) (nx608 : (List XTable) → Option ((List XTable) × Bool)) =>
 rangeF (fun (k702 : Nat) (x703 : XTable) (s701 : Bool) (nx716 : Bool → Option ((List XTable) × Bool)) =>
 (if s701 = true then
 nx716 true
 else
 (sh_spec_nSame v1 x381 x703).bind fun x727 =>
 nx716 x727))
 (fun (s701 : Bool) =>
 (if (!s701) = true then
 (sh_spec_nOwn x381).bind fun x720 =>
 lnO (s379.length + [x720].length) <|
 nx608 (s379 ++ [x720])
 else
 nx608 s379)) s379 0 false)
 (fun (s379 : (List XTable)) =>
 (if (decide ((20 : Int) < (s379.length : Int))) = true then
 some (([] : List XTable), false)
 else
 some (s379, true))) ((([] : List XTable) ++ v2) ++ v3) 0 ([] : List XTable)))

def sh_impl_IsGeo (v0 : XGeo) : Option Bool :=
 (if (decide ((v0.Parents.length : Int) < (1 : Int))) = true then
 some false
 else
 (if (decide ((30 : Int) < (v0.Parents.length : Int))) = true then
 some false
 else
 getO v0.Parents (0 : Int) fun x27 =>
 (if (decide (x27 ≠ (-1 : Int))) = true then
 some false
 else
 loopF (fun (nx169 : Int → Option Bool) (s114 : Int) =>
 (if (decide (s114 < (v0.Parents.length : Int))) = true then
 getO v0.Parents s114 fun x191 =>
 (if (decide (x191 < (0 : Int))) = true then
 some false
 else
 (if (decide (s114 ≤ x191)) = true then
 some false
 else
 ckI (s114 + (1 : Int)) <|
 nx169 (s114 + (1 : Int))))
 else
 some true)) FUEL (1 : Int))))

def sh_impl_isWord (v0 : (List UInt8)) : Option Bool :=
 (if (decide ((v0.length : Int) < (1 : Int))) = true then
 some false
 else
 (if (decide ((8 : Int) < (v0.length : Int))) = true then
 some false
 else
 rangeF (fun (k40 : Nat) (x41 : UInt8) (s39 : Unit) (nx50 : Unit → Option Bool) =>
 (if (decide ((x41.toNat : Int) < (97 : Int))) = true then
 some false
 else
 (if (decide ((122 : Int) < (x41.toNat : Int))) = true then
 some false
 else
 nx50 ())))
 (fun (s39 : Unit) =>
 some true) v0 0 ()))

def sh_impl_IsSchema (v0 : (List XVariable)) : Option Bool :=
 (if (decide ((v0.length : Int) < (1 : Int))) = true then
 some false
 else
 (if (decide ((6 : Int) < (v0.length : Int))) = true then
 some false
 else
 rangeF (fun (k164 : Nat) (x165 : XVariable) (s163 : Unit) (nx236 : Unit → Option Bool) =>
 (sh_impl_isWord x165.Name).bind fun x286 =>
 (if (!x286) = true then
 some false
 else
 (if (decide (x165.Levels < (2 : Int))) = true then
 some false
 else
 (if (decide ((8 : Int) < x165.Levels)) = true then
 some false
 else
 ck (0 ≤ (k164 : Int) ∧ 0 ≤ ((k164 : Int)).toNat ∧ ((k164 : Int)).toNat ≤ v0.length) <|
 rangeF (fun (k296 : Nat) (x297 : XVariable) (s295 : Unit) (nx302 : Unit → Option Bool) =>
 (if (decide (x297.Name = x165.Name)) = true then
 some false
 else
 nx302 ()))
 (fun (s295 : Unit) =>
 nx236 ()) ((v0.take ((k164 : Int)).toNat).drop 0) 0 ()))))
 (fun (s163 : Unit) =>
 some true) v0 0 ()))

def sh_impl_areVars (v0 : (List XVariable)) (v1 : (List Int)) : Option Bool :=
 rangeF (fun (k74 : Nat) (x75 : Int) (s73 : Int) (nx118 : Int → Option Bool) =>
 (if (decide (x75 ≤ s73)) = true then
 some false
 else
 (if (decide ((v0.length : Int) ≤ x75)) = true then
 some false
 else
 nx118 x75)))
 (fun (s73 : Int) =>
 some true) v1 0 (-1 : Int)

def sh_impl_fullSet (v0 : XVariable) : Option Int :=
 ck (0 ≤ v0.Levels ∧ v0.Levels < 64) <|
 ckI ((1 : Int) * 2 ^ (v0.Levels).toNat) <|
 ckI (((1 : Int) * 2 ^ (v0.Levels).toNat) - (1 : Int)) <|
 some (((1 : Int) * 2 ^ (v0.Levels).toNat) - (1 : Int))

def sh_impl_isWhere (v0 : (List XVariable)) (v1 : (List Int)) : Option Bool :=
 (if (decide ((v1.length : Int) ≠ (v0.length : Int))) = true then
 some false
 else
 rangeF (fun (k76 : Nat) (x77 : Int) (s75 : Unit) (nx106 : Unit → Option Bool) =>
 (if (decide (x77 < (0 : Int))) = true then
 some false
 else
 getO v0 (k76 : Int) fun x129 =>
 (sh_impl_fullSet x129).bind fun x132 =>
 (if (decide (x132 < x77)) = true then
 some false
 else
 nx106 ())))
 (fun (s75 : Unit) =>
 some true) v1 0 ())

def sh_impl_depthOf (v0 : XGeo) (v1 : Int) : Option Int :=
 loopF (fun (nx59 : (Int × Int) → Option Int) (s36 : (Int × Int)) =>
 (if (decide ((0 : Int) < s36.1)) = true then
 getO v0.Parents s36.1 fun x67 =>
 ckI (s36.2 + (1 : Int)) <|
 nx59 (x67, (s36.2 + (1 : Int)))
 else
 some s36.2)) FUEL (v1, (0 : Int))

def sh_impl_areasAt (v0 : XGeo) (v1 : Int) : Option (List Int) :=
 rangeF (fun (k50 : Nat) (x51 : Int) (s49 : (List Int)) (nx78 : (List Int) → Option (List Int)) =>
 (sh_impl_depthOf v0 (k50 : Int)).bind fun x89 =>
 (if (decide (x89 = v1)) = true then
 lnO (s49.length + [(k50 : Int)].length) <|
 nx78 (s49 ++ [(k50 : Int)])
 else
 nx78 s49))
 (fun (s49 : (List Int)) =>
 some s49) v0.Parents 0 ([] : List Int)

def sh_impl_crossed (v0 : (List XVariable)) (v1 : XTable) : Option (List XVariable) :=
 mkO (v1.Vars.length : Int) <|
 rangeF (fun (k56 : Nat) (x57 : Int) (s55 : (List XVariable)) (nx84 : (List XVariable) → Option (List XVariable)) =>
 getO v0 x57 fun x93 =>
 getO s55 (k56 : Int) fun x96 =>
 nx84 (s55.set ((k56 : Int)).toNat x93))
 (fun (s55 : (List XVariable)) =>
 some s55) v1.Vars 0 (List.replicate ((v1.Vars.length : Int)).toNat (⟨([] : List UInt8), (0 : Int)⟩ : XVariable))

def sh_impl_combinations (v0 : (List XVariable)) : Option Int :=
 rangeF (fun (k20 : Nat) (x21 : XVariable) (s19 : Int) (nx28 : Int → Option Int) =>
 ckI (s19 * x21.Levels) <|
 nx28 (s19 * x21.Levels))
 (fun (s19 : Int) =>
 some s19) v0 0 (1 : Int)

def sh_impl_cellCount (v0 : XGeo) (v1 : (List XVariable)) (v2 : XTable) : Option Int :=
 (sh_impl_areasAt v0 v2.Level).bind fun x9 =>
 lmO x9.length <|
 (sh_impl_crossed v1 v2).bind fun x12 =>
 (sh_impl_combinations x12).bind fun x14 =>
 ckI ((x9.length : Int) * x14) <|
 some ((x9.length : Int) * x14)

def sh_impl_isTable (v0 : XGeo) (v1 : (List XVariable)) (v2 : XTable) : Option Bool :=
 (((sh_impl_areVars v1 v2.Vars).bind fun x37 =>
 (if (!x37) = true then
 some true
 else
 (sh_impl_isWhere v1 v2.Where).bind fun x40 =>
 (if (!x40) = true then
 some true
 else
 (if (decide (v2.Sum < (-1 : Int))) = true then
 some true
 else
 some (decide ((v1.length : Int) ≤ v2.Sum))))) : Option Bool).bind fun (s28 : Bool) =>
 (if s28 = true then
 some false
 else
 (sh_impl_cellCount v0 v1 v2).bind fun x33 =>
 (if (decide ((0 : Int) < x33)) = true then
 some (decide (x33 ≤ (600 : Int)))
 else
 some false)))
def sh_impl_isPlan (v0 : XGeo) (v1 : (List XVariable)) (v2 : (List XTable)) : Option Bool :=
 (sh_impl_IsGeo v0).bind fun x23 =>
 (if (!x23) = true then
 some false
 else
 (sh_impl_IsSchema v1).bind fun x26 =>
 (if (!x26) = true then
 some false
 else
 (if (decide ((20 : Int) < (v2.length : Int))) = true then
 some false
 else
 rangeF (fun (k64 : Nat) (x65 : XTable) (s63 : Unit) (nx78 : Unit → Option Bool) =>
 (sh_impl_isTable v0 v1 x65).bind fun x88 =>
 (if (!x88) = true then
 some false
 else
 nx78 ()))
 (fun (s63 : Unit) =>
 some true) v2 0 ())))

def sh_slices_Grow_impl_Table_impl_Table (v0 : (List XTable)) (v1 : Int) : Option Unit :=
 if v0 = [] ∧ 0 ≤ v1 ∧ v1 ≤ 1048576 then some () else none

def sh_slices_Concat_impl_Table_impl_Table (v0 : (List (List XTable))) : Option (List XTable) :=
 rangeF (fun (k44 : Nat) (x45 : (List XTable)) (s43 : Int) (nx68 : Int → Option (List XTable)) =>
 ckI (s43 + (x45.length : Int)) <|
 (if (decide ((s43 + (x45.length : Int)) < (0 : Int))) = true then
 none
 else
 nx68 (s43 + (x45.length : Int))))
 (fun (s43 : Int) =>
 (sh_slices_Grow_impl_Table_impl_Table ([] : List XTable) s43).bind fun x73 =>
 rangeF (fun (k94 : Nat) (x95 : (List XTable)) (s93 : (List XTable)) (nx102 : (List XTable) → Option (List XTable)) =>
 lnO (s93.length + x95.length) <|
 nx102 (s93 ++ x95))
 (fun (s93 : (List XTable)) =>
 some s93) v0 0 ([] : List XTable)) v0 0 (0 : Int)

def sh_slices_Clone_int (v0 : (List Int)) : Option (List Int) :=
 nilO v0 false fun b11 =>
 (if b11 = true then
 some ([] : List Int)
 else
 lnO (([] : List Int).length + v0.length) <|
 some (([] : List Int) ++ v0))

def sh_impl_copyTable (v0 : XTable) : Option XTable :=
 (sh_slices_Clone_int v0.Vars).bind fun x5 =>
 (sh_slices_Clone_int v0.Where).bind fun x7 =>
 some (⟨v0.Level, x5, x7, v0.Sum⟩ : XTable)

def sh_impl_normalTable (v0 : (List XVariable)) (v1 : XTable) : Option XTable :=
 (sh_impl_copyTable v1).bind fun x3 =>
 rangeF (fun (k108 : Nat) (x109 : Int) (s107 : XTable) (nx168 : XTable → Option XTable) =>
 getO s107.Where (k108 : Int) fun x191 =>
 getO v0 (k108 : Int) fun x199 =>
 (sh_impl_fullSet x199).bind fun x202 =>
 (if (decide (x191 = x202)) = true then
 nx168 (⟨s107.Level, s107.Vars, (s107.Where.set ((k108 : Int)).toNat (0 : Int)), s107.Sum⟩ : XTable)
 else
 nx168 s107))
 (fun (s107 : XTable) =>
 some s107) x3.Where 0 x3

def sh_slices_Equal_int (v0 : (List Int)) (v1 : (List Int)) : Option Bool :=
 (if (decide ((v0.length : Int) ≠ (v1.length : Int))) = true then
 some false
 else
 rangeF (fun (k52 : Nat) (x53 : Int) (s51 : Unit) (nx70 : Unit → Option Bool) =>
 getO v1 (k52 : Int) fun x83 =>
 (if (decide (x53 ≠ x83)) = true then
 some false
 else
 nx70 ()))
 (fun (s51 : Unit) =>
 some true) v0 0 ())

def sh_impl_sameMeaning (v0 : (List XVariable)) (v1 : XTable) (v2 : XTable) : Option Bool :=
 (sh_impl_normalTable v0 v1).bind fun x5 =>
 (sh_impl_normalTable v0 v2).bind fun x7 =>
 (((if (decide (x5.Level = x7.Level)) = true then
 (if (decide (x5.Sum = x7.Sum)) = true then
 (sh_slices_Equal_int x5.Vars x7.Vars).bind fun x20 =>
 (if x20 = true then
 (sh_slices_Equal_int x5.Where x7.Where).bind fun x23 =>
 some x23
 else
 some false)
 else
 some false)
 else
 some false) : Option Bool).bind fun (s16 : Bool) =>
 some s16)

def sh_impl_MergePlans_1 (v0 : XTable) (v1 : (List XVariable)) (v2 : XTable) : Option Bool :=
 (sh_impl_sameMeaning v1 v2 v0).bind fun x3 =>
 some x3

def sh_slices_IndexFunc_impl_Table_impl_Table_impl_MergePlans_1 (v0 : (List XTable)) (v1 : ((List XVariable) × XTable)) : Option Int :=
 rangeF (fun (k34 : Nat) (x35 : XTable) (s33 : Unit) (nx48 : Unit → Option Int) =>
 (sh_impl_MergePlans_1 x35 v1.1 v1.2).bind fun x58 =>
 (if x58 = true then
 some (k34 : Int)
 else
 nx48 ()))
 (fun (s33 : Unit) =>
 some (-1 : Int)) v0 0 ()

def sh_slices_ContainsFunc_impl_Table_impl_Table_impl_MergePlans_1 (v0 : (List XTable)) (v1 : ((List XVariable) × XTable)) : Option Bool :=
 (sh_slices_IndexFunc_impl_Table_impl_Table_impl_MergePlans_1 v0 (v1.1, v1.2)).bind fun x3 =>
 some (decide ((0 : Int) ≤ x3))

def sh_impl_MergePlans (v0 : XGeo) (v1 : (List XVariable)) (v2 : (List XTable)) (v3 : (List XTable)) : Option ((List XTable) × Bool) :=
 (sh_impl_isPlan v0 v1 v2).bind fun x17 =>
 (if (!x17) = true then
 some (([] : List XTable), false)
 else
 (sh_impl_isPlan v0 v1 v3).bind fun x20 =>
 (if (!x20) = true then
 some (([] : List XTable), false)
 else
 (sh_slices_Concat_impl_Table_impl_Table [v2, v3]).bind fun x88 =>
 rangeF (fun (k92 : Nat) (x93 : XTable) (s91 : (List XTable)) (nx128 : (List XTable) → Option ((List XTable) × Bool)) =>
 (sh_slices_ContainsFunc_impl_Table_impl_Table_impl_MergePlans_1 s91 (v1, x93)).bind fun x147 =>
 (if (!x147) = true then
 (sh_impl_copyTable x93).bind fun x150 =>
 lnO (s91.length + [x150].length) <|
 nx128 (s91 ++ [x150])
 else
 nx128 s91))
 (fun (s91 : (List XTable)) =>
 (if (decide ((20 : Int) < (s91.length : Int))) = true then
 some (([] : List XTable), false)
 else
 some (s91, true))) x88 0 ([] : List XTable)))

def sh_laws_eqIntS (v0 : (List Int)) (v1 : (List Int)) : Option Bool :=
 (if (decide ((v0.length : Int) ≠ (v1.length : Int))) = true then
 some false
 else
 loopF (fun (nx189 : Int → Option Bool) (s118 : Int) =>
 (if (decide (s118 < (v0.length : Int))) = true then
 getO v0 s118 fun x217 =>
 getO v1 s118 fun x220 =>
 (if (decide (x217 ≠ x220)) = true then
 some false
 else
 ckI (s118 + (1 : Int)) <|
 nx189 (s118 + (1 : Int)))
 else
 some true)) FUEL (0 : Int))

def sh_laws_eqTable (v0 : XTable) (v1 : XTable) : Option Bool :=
 (if (decide (v0.Level ≠ v1.Level)) = true then
 some false
 else
 (sh_laws_eqIntS v0.Vars v1.Vars).bind fun x10 =>
 (if (!x10) = true then
 some false
 else
 (sh_laws_eqIntS v0.Where v1.Where).bind fun x20 =>
 (if (!x20) = true then
 some false
 else
 (if (decide (v0.Sum ≠ v1.Sum)) = true then
 some false
 else
 some true))))

def sh_laws_eqTableS (v0 : (List XTable)) (v1 : (List XTable)) : Option Bool :=
 (if (decide ((v0.length : Int) ≠ (v1.length : Int))) = true then
 some false
 else
 loopF (fun (nx229 : Int → Option Bool) (s142 : Int) =>
 (if (decide (s142 < (v0.length : Int))) = true then
 getO v0 s142 fun x263 =>
 getO v1 s142 fun x266 =>
 (sh_laws_eqTable x263 x266).bind fun x269 =>
 (if (!x269) = true then
 some false
 else
 ckI (s142 + (1 : Int)) <|
 nx229 (s142 + (1 : Int)))
 else
 some true)) FUEL (0 : Int))

def sh_laws_eqGeo (v0 : XGeo) (v1 : XGeo) : Option Bool :=
 (sh_laws_eqIntS v0.Parents v1.Parents).bind fun x8 =>
 (if (!x8) = true then
 some false
 else
 some true)

def sh_laws_eqVariable (v0 : XVariable) (v1 : XVariable) : Option Bool :=
 (if (decide (v0.Name ≠ v1.Name)) = true then
 some false
 else
 (if (decide (v0.Levels ≠ v1.Levels)) = true then
 some false
 else
 some true))

def sh_laws_eqVariableS (v0 : (List XVariable)) (v1 : (List XVariable)) : Option Bool :=
 (if (decide ((v0.length : Int) ≠ (v1.length : Int))) = true then
 some false
 else
 loopF (fun (nx229 : Int → Option Bool) (s142 : Int) =>
 (if (decide (s142 < (v0.length : Int))) = true then
 getO v0 s142 fun x263 =>
 getO v1 s142 fun x266 =>
 (sh_laws_eqVariable x263 x266).bind fun x269 =>
 (if (!x269) = true then
 some false
 else
 ckI (s142 + (1 : Int)) <|
 nx229 (s142 + (1 : Int)))
 else
 some true)) FUEL (0 : Int))

def sh_laws_markIntS (v0 : (List Int)) (v1 : Int) : Option ((List Int) × Int) :=
 loopF (fun (nx119 : ((List Int) × Int × Int) → Option ((List Int) × Int)) (s72 : ((List Int) × Int × Int)) =>
 (if (decide (s72.2.2 < (s72.1.length : Int))) = true then
 getO s72.1 s72.2.2 fun x138 =>
 ckI (s72.2.1 + (1 : Int)) <|
 ckI (s72.2.2 + (1 : Int)) <|
 nx119 ((s72.1.set (s72.2.2).toNat s72.2.1), (s72.2.1 + (1 : Int)), (s72.2.2 + (1 : Int)))
 else
 some (s72.1, s72.2.1))) FUEL (v0, v1, (0 : Int))

def sh_laws_markGeo (v0 : XGeo) (v1 : Int) : Option (XGeo × Int) :=
 (sh_laws_markIntS v0.Parents v1).bind fun x3 =>
 some ((⟨x3.1⟩ : XGeo), x3.2)

def sh_laws_markText (v0 : Int) : Option (List UInt8) :=
 (if (decide (v0 ≤ (0 : Int))) = true then
 some ([109, 48] : List UInt8)
 else
 loopF (fun (nx96 : (Int × (List UInt8)) → Option (List UInt8)) (s59 : (Int × (List UInt8))) =>
 (if (decide ((0 : Int) < s59.1)) = true then
 ck ((10 : Int) ≠ 0) <|
 ckI ((48 : Int) + (s59.1.tmod (10 : Int))) <|
 ckU ((48 : Int) + (s59.1.tmod (10 : Int))) <|
 ck ([((48 : Int) + (s59.1.tmod (10 : Int)))] = (bytesOf [((48 : Int) + (s59.1.tmod (10 : Int)))]).map fun b => ((b.toNat : Nat) : Int)) <|
 lnO ((bytesOf [((48 : Int) + (s59.1.tmod (10 : Int)))]).length + s59.2.length) <|
 ck ((10 : Int) ≠ 0) <|
 ckI (s59.1.tdiv (10 : Int)) <|
 nx96 ((s59.1.tdiv (10 : Int)), ((bytesOf [((48 : Int) + (s59.1.tmod (10 : Int)))]) ++ s59.2))
 else
 lnO (([109] : List UInt8).length + s59.2.length) <|
 some (([109] : List UInt8) ++ s59.2))) FUEL (v0, ([] : List UInt8)))

def sh_laws_markVariableS (v0 : (List XVariable)) (v1 : Int) : Option ((List XVariable) × Int) :=
 loopF (fun (nx239 : ((List XVariable) × Int × Int) → Option ((List XVariable) × Int)) (s144 : ((List XVariable) × Int × Int)) =>
 (if (decide (s144.2.2 < (s144.1.length : Int))) = true then
 (sh_laws_markText s144.2.1).bind fun x272 =>
 getO s144.1 s144.2.2 fun x274 =>
 ckI (s144.2.1 + (1 : Int)) <|
 getO (s144.1.set (s144.2.2).toNat (⟨x272, x274.Levels⟩ : XVariable)) s144.2.2 fun x282 =>
 ckI ((s144.2.1 + (1 : Int)) + (1 : Int)) <|
 ckI (s144.2.2 + (1 : Int)) <|
 nx239 (((s144.1.set (s144.2.2).toNat (⟨x272, x274.Levels⟩ : XVariable)).set (s144.2.2).toNat (⟨x282.Name, (s144.2.1 + (1 : Int))⟩ : XVariable)), ((s144.2.1 + (1 : Int)) + (1 : Int)), (s144.2.2 + (1 : Int)))
 else
 some (s144.1, s144.2.1))) FUEL (v0, v1, (0 : Int))

def sh_laws_markTableS (v0 : (List XTable)) (v1 : Int) : Option ((List XTable) × Int) :=
 loopF (fun (nx399 : ((List XTable) × Int × Int) → Option ((List XTable) × Int)) (s240 : ((List XTable) × Int × Int)) =>
 (if (decide (s240.2.2 < (s240.1.length : Int))) = true then
 getO s240.1 s240.2.2 fun x446 =>
 ckI (s240.2.1 + (1 : Int)) <|
 getO (s240.1.set (s240.2.2).toNat (⟨s240.2.1, x446.Vars, x446.Where, x446.Sum⟩ : XTable)) s240.2.2 fun x456 =>
 (sh_laws_markIntS x456.Vars (s240.2.1 + (1 : Int))).bind fun x459 =>
 getO ((s240.1.set (s240.2.2).toNat (⟨s240.2.1, x446.Vars, x446.Where, x446.Sum⟩ : XTable)).set (s240.2.2).toNat (⟨x456.Level, x459.1, x456.Where, x456.Sum⟩ : XTable)) s240.2.2 fun x466 =>
 (sh_laws_markIntS x466.Where x459.2).bind fun x469 =>
 getO (((s240.1.set (s240.2.2).toNat (⟨s240.2.1, x446.Vars, x446.Where, x446.Sum⟩ : XTable)).set (s240.2.2).toNat (⟨x456.Level, x459.1, x456.Where, x456.Sum⟩ : XTable)).set (s240.2.2).toNat (⟨x466.Level, x466.Vars, x469.1, x466.Sum⟩ : XTable)) s240.2.2 fun x474 =>
 ckI (x469.2 + (1 : Int)) <|
 ckI (s240.2.2 + (1 : Int)) <|
 nx399 (((((s240.1.set (s240.2.2).toNat (⟨s240.2.1, x446.Vars, x446.Where, x446.Sum⟩ : XTable)).set (s240.2.2).toNat (⟨x456.Level, x459.1, x456.Where, x456.Sum⟩ : XTable)).set (s240.2.2).toNat (⟨x466.Level, x466.Vars, x469.1, x466.Sum⟩ : XTable)).set (s240.2.2).toNat (⟨x474.Level, x474.Vars, x474.Where, x469.2⟩ : XTable)), (x469.2 + (1 : Int)), (s240.2.2 + (1 : Int)))
 else
 some (s240.1, s240.2.1))) FUEL (v0, v1, (0 : Int))

def sh_laws_heldIntS (v0 : (List Int)) (v1 : Int) : Option Int :=
 loopF (fun (nx199 : (Int × Int) → Option Int) (s120 : (Int × Int)) =>
 (if (decide (s120.2 < (v0.length : Int))) = true then
 getO v0 s120.2 fun x233 =>
 (if (decide (x233 ≠ s120.1)) = true then
 some (-1 : Int)
 else
 ckI (s120.1 + (1 : Int)) <|
 ckI (s120.2 + (1 : Int)) <|
 nx199 ((s120.1 + (1 : Int)), (s120.2 + (1 : Int))))
 else
 some s120.1)) FUEL (v1, (0 : Int))
def sh_laws_heldTableS (v0 : (List XTable)) (v1 : Int) : Option Int :=
 loopF (fun (nx359 : (Int × Int) → Option Int) (s216 : (Int × Int)) =>
 (if (decide (s216.2 < (v0.length : Int))) = true then
 getO v0 s216.2 fun x409 =>
 (if (decide (x409.Level ≠ s216.1)) = true then
 some (-1 : Int)
 else
 ckI (s216.1 + (1 : Int)) <|
 (sh_laws_heldIntS x409.Vars (s216.1 + (1 : Int))).bind fun x417 =>
 (if (decide (x417 < (0 : Int))) = true then
 some (-1 : Int)
 else
 (sh_laws_heldIntS x409.Where x417).bind fun x423 =>
 (if (decide (x423 < (0 : Int))) = true then
 some (-1 : Int)
 else
 (if (decide (x409.Sum ≠ x423)) = true then
 some (-1 : Int)
 else
 ckI (x423 + (1 : Int)) <|
 ckI (s216.2 + (1 : Int)) <|
 nx359 ((x423 + (1 : Int)), (s216.2 + (1 : Int)))))))
 else
 some s216.1)) FUEL (v1, (0 : Int))

def sh_laws_FnExactMergePlans (v0 : XGeo) (v1 : (List XVariable)) (v2 : (List XTable)) (v3 : (List XTable)) : Option Bool :=
 (sh_laws_szGeo v0 (1048576 : Int)).bind fun x3 =>
 (if (decide (x3 < (0 : Int))) = true then
 some true
 else
 (sh_laws_szVariableS v1 x3).bind fun x9 =>
 (if (decide (x9 < (0 : Int))) = true then
 some true
 else
 (sh_laws_szTableS v2 x9).bind fun x15 =>
 (if (decide (x15 < (0 : Int))) = true then
 some true
 else
 (sh_laws_szTableS v3 x15).bind fun x21 =>
 (if (decide (x21 < (0 : Int))) = true then
 some true
 else
 (sh_laws_toGeo v0).bind fun x35 =>
 (sh_laws_toVariableS v1).bind fun x37 =>
 (sh_laws_toTableS v2).bind fun x39 =>
 (sh_laws_toTableS v3).bind fun x41 =>
 (sh_spec_MergePlans x35 x37 x39 x41).bind fun x43 =>
 (sh_laws_toGeo v0).bind fun x47 =>
 (sh_laws_toVariableS v1).bind fun x51 =>
 (sh_laws_toTableS v2).bind fun x55 =>
 (sh_laws_toTableS v3).bind fun x59 =>
 (sh_impl_MergePlans x47 x51 x55 x59).bind fun x63 =>
 (sh_laws_eqTableS x63.1 x43.1).bind fun x75 =>
 (if (!x75) = true then
 some false
 else
 (if (x63.2 != x43.2) = true then
 some false
 else
 (sh_laws_toGeo v0).bind fun x92 =>
 (sh_laws_eqGeo x47 x92).bind fun x94 =>
 (if (!x94) = true then
 some false
 else
 (sh_laws_toVariableS v1).bind fun x110 =>
 (sh_laws_eqVariableS x51 x110).bind fun x112 =>
 (if (!x112) = true then
 some false
 else
 (sh_laws_toTableS v2).bind fun x128 =>
 (sh_laws_eqTableS x55 x128).bind fun x130 =>
 (if (!x130) = true then
 some false
 else
 (sh_laws_toTableS v3).bind fun x146 =>
 (sh_laws_eqTableS x59 x146).bind fun x148 =>
 (if (!x148) = true then
 some false
 else
 (sh_laws_markGeo x47 (1 : Int)).bind fun x153 =>
 (sh_laws_markVariableS x51 x153.2).bind fun x157 =>
 (sh_laws_markTableS x55 x157.2).bind fun x161 =>
 (sh_laws_markTableS x59 x161.2).bind fun x165 =>
 (if (decide (x165.2 < (0 : Int))) = true then
 some false
 else
 (sh_laws_eqTableS x63.1 x43.1).bind fun x180 =>
 (if (!x180) = true then
 some false
 else
 (sh_laws_markTableS x63.1 (1 : Int)).bind fun x185 =>
 (sh_laws_heldTableS x185.1 (1 : Int)).bind fun x189 =>
 (if (decide (x189 < (0 : Int))) = true then
 some false
 else
 (if (decide (x189 ≠ x185.2)) = true then
 some false
 else
 (sh_laws_toGeo v0).bind fun x205 =>
 (sh_laws_toVariableS v1).bind fun x207 =>
 (sh_laws_toTableS v2).bind fun x209 =>
 (sh_laws_toTableS v3).bind fun x211 =>
 (sh_impl_MergePlans x205 x207 x209 x211).bind fun x213 =>
 (sh_laws_eqTableS x213.1 x43.1).bind fun x225 =>
 (if (!x225) = true then
 some false
 else
 (if (x213.2 != x43.2) = true then
 some false
 else
 (sh_laws_heldTableS x185.1 (1 : Int)).bind fun x231 =>
 (if (decide (x231 < (0 : Int))) = true then
 some false
 else
 (if (decide (x231 ≠ x185.2)) = true then
 some false
 else
 some true))))))))))))))))))
end AS
