/- Plain functions. No condition. -/
import Derived.Test.YtpllepipjbiefaaGreatDoorKc
set_option linter.unusedVariables false
set_option linter.unusedSimpArgs false
namespace AS
structure XGeo where
  Parents : (List Int)
  deriving DecidableEq, Inhabited
def cXGeo (c0 : Cd (List Int)) : Cd XGeo := ⟨fun v => .agg [c0.enc v.Parents], c0.sz + (0), true, (c0.im && true), fun v => by simp only [D.size, D.sizes, Cd.h_sz], fun _ => rfl, fun v => by simp only [D.imm, D.imms, Cd.h_im]⟩
theorem tXGeo {c0 c0' : Cd (List Int)} (tc0 : ToI c0 c0') : ToI (cXGeo c0) (cXGeo c0') := ⟨fun v => by simp only [cXGeo, D.toImm, D.toImms, tc0.h], by simp only [cXGeo, tc0.im, Bool.and_true]⟩
theorem sXGeo {c0 : Cd (List Int)} (tc0 : Sol c0) : Sol (cXGeo c0) := ⟨fun v => by simp only [cXGeo, D.solid, D.solids, tc0.h, Bool.and_true]⟩
instance : Bd XGeo := ⟨fun v => Bd.bd v.Parents⟩
structure XVariable where
  Name : (List UInt8)
  Levels : Int
  deriving DecidableEq, Inhabited
def cXVariable (c0 : Cd (List UInt8)) (c1 : Cd Int) : Cd XVariable := ⟨fun v => .agg [c0.enc v.Name, c1.enc v.Levels], c0.sz + (c1.sz + (0)), true, (c0.im && (c1.im && true)), fun v => by simp only [D.size, D.sizes, Cd.h_sz], fun _ => rfl, fun v => by simp only [D.imm, D.imms, Cd.h_im]⟩
theorem tXVariable {c0 c0' : Cd (List UInt8)} {c1 c1' : Cd Int} (tc0 : ToI c0 c0') (tc1 : ToI c1 c1') : ToI (cXVariable c0 c1) (cXVariable c0' c1') := ⟨fun v => by simp only [cXVariable, D.toImm, D.toImms, tc0.h, tc1.h], by simp only [cXVariable, tc0.im, tc1.im, Bool.and_true]⟩
theorem sXVariable {c0 : Cd (List UInt8)} {c1 : Cd Int} (tc0 : Sol c0) (tc1 : Sol c1) : Sol (cXVariable c0 c1) := ⟨fun v => by simp only [cXVariable, D.solid, D.solids, tc0.h, tc1.h, Bool.and_true]⟩
instance : Bd XVariable := ⟨fun v => Bd.bd v.Name ∧ Bd.bd v.Levels⟩
structure XTable where
  Level : Int
  Vars : (List Int)
  Where : (List Int)
  Sum : Int
  deriving DecidableEq, Inhabited
def cXTable (c0 : Cd Int) (c1 : Cd (List Int)) (c2 : Cd (List Int)) (c3 : Cd Int) : Cd XTable := ⟨fun v => .agg [c0.enc v.Level, c1.enc v.Vars, c2.enc v.Where, c3.enc v.Sum], c0.sz + (c1.sz + (c2.sz + (c3.sz + (0)))), true, (c0.im && (c1.im && (c2.im && (c3.im && true)))), fun v => by simp only [D.size, D.sizes, Cd.h_sz], fun _ => rfl, fun v => by simp only [D.imm, D.imms, Cd.h_im]⟩
theorem tXTable {c0 c0' : Cd Int} {c1 c1' : Cd (List Int)} {c2 c2' : Cd (List Int)} {c3 c3' : Cd Int} (tc0 : ToI c0 c0') (tc1 : ToI c1 c1') (tc2 : ToI c2 c2') (tc3 : ToI c3 c3') : ToI (cXTable c0 c1 c2 c3) (cXTable c0' c1' c2' c3') := ⟨fun v => by simp only [cXTable, D.toImm, D.toImms, tc0.h, tc1.h, tc2.h, tc3.h], by simp only [cXTable, tc0.im, tc1.im, tc2.im, tc3.im, Bool.and_true]⟩
theorem sXTable {c0 : Cd Int} {c1 : Cd (List Int)} {c2 : Cd (List Int)} {c3 : Cd Int} (tc0 : Sol c0) (tc1 : Sol c1) (tc2 : Sol c2) (tc3 : Sol c3) : Sol (cXTable c0 c1 c2 c3) := ⟨fun v => by simp only [cXTable, D.solid, D.solids, tc0.h, tc1.h, tc2.h, tc3.h, Bool.and_true]⟩
instance : Bd XTable := ⟨fun v => Bd.bd v.Level ∧ Bd.bd v.Vars ∧ Bd.bd v.Where ∧ Bd.bd v.Sum⟩
def sh_laws_szIntS (v0 : (List Int)) (v1 : Int) : Option Int :=
 ckI (v1 - (v0.length : Int)) <|
 (if (decide ((v1 - (v0.length : Int)) < (0 : Int))) = true then
 some (-1 : Int)
 else
 some (v1 - (v0.length : Int)))

def sh_laws_szGeo (v0 : XGeo) (v1 : Int) : Option Int :=
 (sh_laws_szIntS v0.Parents v1).bind fun x3 =>
 (if (decide (x3 < (0 : Int))) = true then
 some (-1 : Int)
 else
 some x3)

def sh_laws_szVariable (v0 : XVariable) (v1 : Int) : Option Int :=
 ckI (v1 - (v0.Name.length : Int)) <|
 (if (decide ((v1 - (v0.Name.length : Int)) < (0 : Int))) = true then
 some (-1 : Int)
 else
 some (v1 - (v0.Name.length : Int)))

def sh_laws_szVariableS (v0 : (List XVariable)) (v1 : Int) : Option Int :=
 ckI (v1 - (v0.length : Int)) <|
 (if (decide ((v1 - (v0.length : Int)) < (0 : Int))) = true then
 some (-1 : Int)
 else
 loopF (fun (nx165 : (Int × Int) → Option Int) (s102 : (Int × Int)) =>
 (if (decide (s102.2 < (v0.length : Int))) = true then
 getO v0 s102.2 fun x190 =>
 (sh_laws_szVariable x190 s102.1).bind fun x193 =>
 (if (decide (x193 < (0 : Int))) = true then
 some (-1 : Int)
 else
 ckI (s102.2 + (1 : Int)) <|
 nx165 (x193, (s102.2 + (1 : Int))))
 else
 some s102.1)) FUEL ((v1 - (v0.length : Int)), (0 : Int)))

def sh_laws_toIntS (v0 : (List Int)) : Option (List Int) :=
 mkO (v0.length : Int) <|
 loopF (fun (nx115 : ((List Int) × Int) → Option (List Int)) (s72 : ((List Int) × Int)) =>
 (if (decide (s72.2 < (v0.length : Int))) = true then
 getO v0 s72.2 fun x130 =>
 getO s72.1 s72.2 fun x133 =>
 ckI (s72.2 + (1 : Int)) <|
 nx115 ((s72.1.set (s72.2).toNat x130), (s72.2 + (1 : Int)))
 else
 some s72.1)) FUEL ((List.replicate ((v0.length : Int)).toNat (0 : Int)), (0 : Int))

def sh_laws_toGeo (v0 : XGeo) : Option XGeo :=
 (sh_laws_toIntS v0.Parents).bind fun x3 =>
 some (⟨x3⟩ : XGeo)

def sh_laws_toVariable (v0 : XVariable) : Option XVariable :=
 some (⟨v0.Name, v0.Levels⟩ : XVariable)

def sh_laws_toVariableS (v0 : (List XVariable)) : Option (List XVariable) :=
 mkO (v0.length : Int) <|
 loopF (fun (nx135 : ((List XVariable) × Int) → Option (List XVariable)) (s84 : ((List XVariable) × Int)) =>
 (if (decide (s84.2 < (v0.length : Int))) = true then
 getO v0 s84.2 fun x152 =>
 (sh_laws_toVariable x152).bind fun x155 =>
 getO s84.1 s84.2 fun x157 =>
 ckI (s84.2 + (1 : Int)) <|
 nx135 ((s84.1.set (s84.2).toNat x155), (s84.2 + (1 : Int)))
 else
 some s84.1)) FUEL ((List.replicate ((v0.length : Int)).toNat (⟨([] : List UInt8), (0 : Int)⟩ : XVariable)), (0 : Int))

def sh_spec_l1In (v0 : Int) (v1 : Int) (v2 : Int) : Option Bool :=
 (if (decide (v1 ≤ v0)) = true then
 some (decide (v0 ≤ v2))
 else
 some false)

def sh_spec_gGood (v0 : XGeo) : Option Bool :=
 (sh_spec_l1In (v0.Parents.length : Int) (1 : Int) (30 : Int)).bind fun x24 =>
 (if (!x24) = true then
 some false
 else
 getO v0.Parents (0 : Int) fun x27 =>
 (if (decide (x27 ≠ (-1 : Int))) = true then
 some false
 else
 rangeF (fun (k80 : Nat) (x81 : Int) (s79 : Unit) (nx102 : Unit → Option Bool) =>
 (if (decide ((0 : Int) < (k80 : Int))) = true then
 ckI ((k80 : Int) - (1 : Int)) <|
 (sh_spec_l1In x81 (0 : Int) ((k80 : Int) - (1 : Int))).bind fun x120 =>
 (if (!x120) = true then
 some false
 else
 nx102 ())
 else
 nx102 ()))
 (fun (s79 : Unit) =>
 some true) v0.Parents 0 ()))

def sh_spec_sName (v0 : (List UInt8)) : Option Bool :=
 loopF (fun (nx139 : Int → Option Bool) (s84 : Int) =>
 (if (decide (s84 < (v0.length : Int))) = true then
 getO v0 s84 fun x161 =>
 (if (decide ((x161.toNat : Int) < (97 : Int))) = true then
 some false
 else
 (if (decide ((122 : Int) < (x161.toNat : Int))) = true then
 some false
 else
 ckI (s84 + (1 : Int)) <|
 nx139 (s84 + (1 : Int))))
 else
 (sh_spec_l1In (v0.length : Int) (1 : Int) (8 : Int)).bind fun x171 =>
 some x171)) FUEL (0 : Int)

def sh_spec_sFind (v0 : (List XVariable)) (v1 : (List UInt8)) : Option Int :=
 rangeF (fun (k18 : Nat) (x19 : XVariable) (s17 : Unit) (nx24 : Unit → Option Int) =>
 (if (decide (x19.Name = v1)) = true then
 some (k18 : Int)
 else
 nx24 ()))
 (fun (s17 : Unit) =>
 some (-1 : Int)) v0 0 ()

def sh_spec_sGood (v0 : (List XVariable)) : Option Bool :=
 (sh_spec_l1In (v0.length : Int) (1 : Int) (6 : Int)).bind fun x12 =>
 (if (!x12) = true then
 some false
 else
 rangeF (fun (k104 : Nat) (x105 : XVariable) (s103 : Unit) (nx146 : Unit → Option Bool) =>
 (sh_spec_sName x105.Name).bind fun x177 =>
 (if (!x177) = true then
 some false
 else
 (sh_spec_l1In x105.Levels (2 : Int) (8 : Int)).bind fun x180 =>
 (if (!x180) = true then
 some false
 else
 ck (0 ≤ (k104 : Int) ∧ 0 ≤ ((k104 : Int)).toNat ∧ ((k104 : Int)).toNat ≤ v0.length) <|
 (sh_spec_sFind ((v0.take ((k104 : Int)).toNat).drop 0) x105.Name).bind fun x184 =>
 (if (decide ((0 : Int) ≤ x184)) = true then
 some false
 else
 nx146 ()))))
 (fun (s103 : Unit) =>
 some true) v0 0 ())

def sh_spec_nInput (v0 : XGeo) (v1 : (List XVariable)) : Option Bool :=
 (sh_spec_gGood v0).bind fun x6 =>
 (if x6 = true then
 (sh_spec_sGood v1).bind fun x9 =>
 some x9
 else
 some false)

def sh_spec_l1Split (v0 : (List UInt8)) (v1 : Int) : Option (List (List UInt8)) :=
 loopF (fun (nx174 : ((List (List UInt8)) × Int × Int) → Option (List (List UInt8))) (s105 : ((List (List UInt8)) × Int × Int)) =>
 (if (decide (s105.2.2 < (v0.length : Int))) = true then
 getO v0 s105.2.2 fun x198 =>
 (if (decide ((x198.toNat : Int) = v1)) = true then
 ck (0 ≤ s105.2.1 ∧ 0 ≤ s105.2.2 ∧ (s105.2.1).toNat ≤ (s105.2.2).toNat ∧ (s105.2.2).toNat ≤ v0.length) <|
 lnO (s105.1.length + [((v0.take (s105.2.2).toNat).drop (s105.2.1).toNat)].length) <|
 ckI (s105.2.2 + (1 : Int)) <|
 ckI (s105.2.2 + (1 : Int)) <|
 nx174 ((s105.1 ++ [((v0.take (s105.2.2).toNat).drop (s105.2.1).toNat)]), (s105.2.2 + (1 : Int)), (s105.2.2 + (1 : Int)))
 else
 ckI (s105.2.2 + (1 : Int)) <|
 nx174 (s105.1, s105.2.1, (s105.2.2 + (1 : Int))))
 else
 ck (0 ≤ s105.2.1 ∧ (s105.2.1).toNat ≤ v0.length ∧ v0.length ≤ v0.length) <|
 lnO (s105.1.length + [((v0.take v0.length).drop (s105.2.1).toNat)].length) <|
 some (s105.1 ++ [((v0.take v0.length).drop (s105.2.1).toNat)]))) FUEL (([] : List (List UInt8)), (0 : Int), (0 : Int))

def sh_spec_l1Read (v0 : (List UInt8)) : Option Int :=
 jn (fun (s20 : Unit) =>
 loopF (fun (nx291 : (Int × Int) → Option Int) (s184 : (Int × Int)) =>
 (if (decide (s184.2 < (v0.length : Int))) = true then
 getO v0 s184.2 fun x335 =>
 (if (decide ((x335.toNat : Int) < (48 : Int))) = true then
 some (-1 : Int)
 else
 (if (decide ((57 : Int) < (x335.toNat : Int))) = true then
 some (-1 : Int)
 else
 ckI ((10 : Int) * s184.1) <|
 ckU ((x335.toNat : Int) - (48 : Int)) <|
 ckI ((x335.toNat : Int) - (48 : Int)) <|
 ckI (((10 : Int) * s184.1) + ((x335.toNat : Int) - (48 : Int))) <|
 ckI (s184.2 + (1 : Int)) <|
 nx291 ((((10 : Int) * s184.1) + ((x335.toNat : Int) - (48 : Int))), (s184.2 + (1 : Int)))))
 else
 some s184.1)) FUEL ((0 : Int), (0 : Int))) fun af21 =>
 (sh_spec_l1In (v0.length : Int) (1 : Int) (6 : Int)).bind fun x355 =>
 (if (!x355) = true then
 some (-1 : Int)
 else
 getO v0 (0 : Int) fun x358 =>
 (if (decide ((x358.toNat : Int) = (48 : Int))) = true then
 (if (decide ((1 : Int) < (v0.length : Int))) = true then
 some (-1 : Int)
 else
 af21 ())
 else
 af21 ()))

def sh_spec_nSet (v0 : (List XVariable)) (v1 : XTable) (v2 : (List UInt8)) : Option (XTable × Unit) :=
 (sh_spec_l1Split v2 (61 : Int)).bind fun x3 =>
 getO x3 (0 : Int) fun x10 =>
 (sh_spec_sFind v0 x10).bind fun x13 =>
 (if (decide ((x3.length : Int) ≠ (2 : Int))) = true then
 some (v1, ())
 else
 (if (decide (x13 < (0 : Int))) = true then
 some (v1, ())
 else
 getO x3 (1 : Int) fun x31 =>
 (sh_spec_l1Split x31 (44 : Int)).bind fun x34 =>
 rangeF (fun (k38 : Nat) (x39 : (List UInt8)) (s37 : XTable) (nx150 : XTable → Option (XTable × Unit)) =>
 (sh_spec_l1Read x39).bind fun x182 =>
 getO v0 x13 fun x190 =>
 ckI (x190.Levels - (1 : Int)) <|
 (sh_spec_l1In x182 (0 : Int) (x190.Levels - (1 : Int))).bind fun x194 =>
 (if x194 = true then
 getO s37.Where x13 fun x197 =>
 ckK .u64 x182 <|
 ck (0 ≤ x182 ∧ x182 < 64) <|
 ckI ((1 : Int) * 2 ^ (x182).toNat) <|
 ck (0 ≤ x197) <|
 ckK .i64 x197 <|
 ck (0 ≤ ((1 : Int) * 2 ^ (x182).toNat)) <|
 ckK .i64 ((1 : Int) * 2 ^ (x182).toNat) <|
 nx150 (⟨s37.Level, s37.Vars, (s37.Where.set (x13).toNat ((x197.toNat ||| ((1 : Int) * 2 ^ (x182).toNat).toNat : Nat) : Int)), s37.Sum⟩ : XTable)
 else
 nx150 s37))
 (fun (s37 : XTable) =>
 some (s37, ())) x34 0 v1))

def sh_spec_nGuess (v0 : (List XVariable)) (v1 : (List UInt8)) : Option XTable :=
 mkO (v0.length : Int) <|
 (sh_spec_l1Split v1 (32 : Int)).bind fun x9 =>
 loopF (fun (nx905 : (XTable × Bool × Int) → Option XTable) (s550 : (XTable × Bool × Int)) =>
 (if (decide (s550.2.2 < (x9.length : Int))) = true then
 ((ckI ((x9.length : Int) - (1 : Int)) <|
 (if s550.2.1 = true then
 getO x9 s550.2.2 fun x1008 =>
 (sh_spec_nSet v0 s550.1 x1008).bind fun x1011 =>
 some (x1011.1, s550.2.1, s550.2.2)
 else
 getO x9 s550.2.2 fun x1016 =>
 (if (decide (x1016 = ([119, 104, 101, 114, 101] : List UInt8))) = true then
 some (s550.1, true, s550.2.2)
 else
 (((if (decide (x1016 = ([115, 117, 109] : List UInt8))) = true then
 some (!(decide (s550.2.2 = ((x9.length : Int) - (1 : Int)))))
 else
 some false) : Option Bool).bind fun (s1021 : Bool) =>
 (if s1021 = true then
 ckI (s550.2.2 + (1 : Int)) <|
 getO x9 (s550.2.2 + (1 : Int)) fun x1026 =>
 (sh_spec_sFind v0 x1026).bind fun x1029 =>
 some ((⟨s550.1.Level, s550.1.Vars, s550.1.Where, x1029⟩ : XTable), s550.2.1, (s550.2.2 + (1 : Int)))
 else
 (((if (decide (x1016 = ([108, 101, 118, 101, 108] : List UInt8))) = true then
 some (!(decide (s550.2.2 = ((x9.length : Int) - (1 : Int)))))
 else
 some false) : Option Bool).bind fun (s1032 : Bool) =>
 (if s1032 = true then
 ckI (s550.2.2 + (1 : Int)) <|
 getO x9 (s550.2.2 + (1 : Int)) fun x1037 =>
 (sh_spec_l1Read x1037).bind fun x1040 =>
 some ((⟨x1040, s550.1.Vars, s550.1.Where, s550.1.Sum⟩ : XTable), s550.2.1, (s550.2.2 + (1 : Int)))
 else
 (((if (decide (x1016 = ([98, 121] : List UInt8))) = true then
 some (!(decide (s550.2.2 = ((x9.length : Int) - (1 : Int)))))
 else
 some false) : Option Bool).bind fun (s1043 : Bool) =>
 (if s1043 = true then
 ckI (s550.2.2 + (1 : Int)) <|
 getO x9 (s550.2.2 + (1 : Int)) fun x1054 =>
 (sh_spec_l1Split x1054 (44 : Int)).bind fun x1057 =>
 rangeF (fun (k1061 : Nat) (x1062 : (List UInt8)) (s1060 : XTable) (nx1077 : XTable → Option (XTable × Bool × Int)) =>
 (sh_spec_sFind v0 x1062).bind fun x1083 =>
 lnO (s1060.Vars.length + [x1083].length) <|
 nx1077 (⟨s1060.Level, (s1060.Vars ++ [x1083]), s1060.Where, s1060.Sum⟩ : XTable))
 (fun (s1060 : XTable) =>
 some (s1060, s550.2.1, (s550.2.2 + (1 : Int)))) x1057 0 s550.1
 else
 some (s550.1, s550.2.1, s550.2.2))))))))) : Option (XTable × Bool × Int)).bind fun (s1000 : (XTable × Bool × Int)) =>
 ckI (s1000.2.2 + (1 : Int)) <|
 nx905 (s1000.1, s1000.2.1, (s1000.2.2 + (1 : Int))))
 else
 some s550.1)) FUEL ((⟨(0 : Int), ([] : List Int), (List.replicate ((v0.length : Int)).toNat (0 : Int)), (-1 : Int)⟩ : XTable), false, (0 : Int))

def sh_spec_gDepth (v0 : XGeo) (v1 : Int) : Option Int :=
 loopF (fun (nx89 : (Int × Int) → Option Int) (s54 : (Int × Int)) =>
 getO v0.Parents s54.1 fun x102 =>
 (if (decide ((0 : Int) ≤ x102)) = true then
 ckI (s54.2 + (1 : Int)) <|
 nx89 (x102, (s54.2 + (1 : Int)))
 else
 some s54.2)) FUEL (v1, (0 : Int))

def sh_spec_gLevel (v0 : XGeo) (v1 : Int) : Option (List Int) :=
 rangeF (fun (k50 : Nat) (x51 : Int) (s49 : (List Int)) (nx78 : (List Int) → Option (List Int)) =>
 (sh_spec_gDepth v0 (k50 : Int)).bind fun x89 =>
 (if (decide (x89 = v1)) = true then
 lnO (s49.length + [(k50 : Int)].length) <|
 nx78 (s49 ++ [(k50 : Int)])
 else
 nx78 s49))
 (fun (s49 : (List Int)) =>
 some s49) v0.Parents 0 ([] : List Int)
def sh_spec_l1Rising (v0 : (List Int)) (v1 : Int) (v2 : Int) : Option Bool :=
 rangeF (fun (k82 : Nat) (x83 : Int) (s81 : Unit) (nx120 : Unit → Option Bool) =>
 (sh_spec_l1In x83 v1 v2).bind fun x148 =>
 (if (!x148) = true then
 some false
 else
 (if (decide ((0 : Int) < (k82 : Int))) = true then
 ckI ((k82 : Int) - (1 : Int)) <|
 getO v0 ((k82 : Int) - (1 : Int)) fun x153 =>
 (if (decide (x83 ≤ x153)) = true then
 some false
 else
 nx120 ())
 else
 nx120 ())))
 (fun (s81 : Unit) =>
 some true) v0 0 ()

def sh_spec_uWhere (v0 : (List XVariable)) (v1 : (List Int)) : Option Bool :=
 (if (decide ((v1.length : Int) ≠ (v0.length : Int))) = true then
 some false
 else
 rangeF (fun (k100 : Nat) (x101 : XVariable) (s99 : Unit) (nx142 : Unit → Option Bool) =>
 getO v1 (k100 : Int) fun x173 =>
 ckK .u64 x101.Levels <|
 ck (0 ≤ x101.Levels ∧ x101.Levels < 64) <|
 ckI ((1 : Int) * 2 ^ (x101.Levels).toNat) <|
 ckI (((1 : Int) * 2 ^ (x101.Levels).toNat) - (1 : Int)) <|
 (sh_spec_l1In x173 (0 : Int) (((1 : Int) * 2 ^ (x101.Levels).toNat) - (1 : Int))).bind fun x180 =>
 (if (!x180) = true then
 some false
 else
 nx142 ()))
 (fun (s99 : Unit) =>
 some true) v0 0 ())

def sh_spec_sPart (v0 : (List XVariable)) (v1 : (List Int)) : Option (List XVariable) :=
 rangeF (fun (k38 : Nat) (x39 : Int) (s37 : (List XVariable)) (nx58 : (List XVariable) → Option (List XVariable)) =>
 getO v0 x39 fun x65 =>
 lnO (s37.length + [x65].length) <|
 nx58 (s37 ++ [x65]))
 (fun (s37 : (List XVariable)) =>
 some s37) v1 0 ([] : List XVariable)

def sh_spec_sCount (v0 : (List XVariable)) : Option Int :=
 rangeF (fun (k20 : Nat) (x21 : XVariable) (s19 : Int) (nx28 : Int → Option Int) =>
 ckI (s19 * x21.Levels) <|
 nx28 (s19 * x21.Levels))
 (fun (s19 : Int) =>
 some s19) v0 0 (1 : Int)

def sh_spec_uCount (v0 : XGeo) (v1 : (List XVariable)) (v2 : XTable) : Option Int :=
 (sh_spec_gLevel v0 v2.Level).bind fun x9 =>
 lmO x9.length <|
 (sh_spec_sPart v1 v2.Vars).bind fun x12 =>
 (sh_spec_sCount x12).bind fun x14 =>
 ckI ((x9.length : Int) * x14) <|
 some ((x9.length : Int) * x14)

def sh_spec_uGood (v0 : XGeo) (v1 : (List XVariable)) (v2 : XTable) : Option Bool :=
 (((sh_spec_gGood v0).bind fun x77 =>
 (if (!x77) = true then
 some true
 else
 (sh_spec_sGood v1).bind fun x80 =>
 (if (!x80) = true then
 some true
 else
 (sh_spec_gLevel v0 v2.Level).bind fun x83 =>
 (if (decide ((x83.length : Int) = (0 : Int))) = true then
 some true
 else
 ckI ((v1.length : Int) - (1 : Int)) <|
 (sh_spec_l1Rising v2.Vars (0 : Int) ((v1.length : Int) - (1 : Int))).bind fun x89 =>
 (if (!x89) = true then
 some true
 else
 (sh_spec_uWhere v1 v2.Where).bind fun x92 =>
 (if (!x92) = true then
 some true
 else
 ckI ((v1.length : Int) - (1 : Int)) <|
 (sh_spec_l1In v2.Sum (-1 : Int) ((v1.length : Int) - (1 : Int))).bind fun x97 =>
 some (!x97)))))) : Option Bool).bind fun (s70 : Bool) =>
 (if s70 = true then
 some false
 else
 (sh_spec_uCount v0 v1 v2).bind fun x75 =>
 some (decide (x75 ≤ (600 : Int)))))

def sh_spec_l1Num_B (self : Int → Option (List UInt8)) (v0 : Int) : Option (List UInt8) :=
 (if (decide (v0 < (10 : Int))) = true then
 ckI ((48 : Int) + v0) <|
 ckU ((48 : Int) + v0) <|
 ck ([((48 : Int) + v0)] = (bytesOf [((48 : Int) + v0)]).map fun b => ((b.toNat : Nat) : Int)) <|
 some (bytesOf [((48 : Int) + v0)])
 else
 ck ((10 : Int) ≠ 0) <|
 ckI (v0.tdiv (10 : Int)) <|
 (self (v0.tdiv (10 : Int))).bind fun x31 =>
 ck ((10 : Int) ≠ 0) <|
 ckI ((48 : Int) + (v0.tmod (10 : Int))) <|
 ckU ((48 : Int) + (v0.tmod (10 : Int))) <|
 ck ([((48 : Int) + (v0.tmod (10 : Int)))] = (bytesOf [((48 : Int) + (v0.tmod (10 : Int)))]).map fun b => ((b.toNat : Nat) : Int)) <|
 lnO (x31.length + (bytesOf [((48 : Int) + (v0.tmod (10 : Int)))]).length) <|
 some (x31 ++ (bytesOf [((48 : Int) + (v0.tmod (10 : Int)))])))
def sh_spec_l1Num (v0 : Int) : Option (List UInt8) := loopF sh_spec_l1Num_B FUEL v0

def sh_spec_nNames (v0 : (List XVariable)) (v1 : (List Int)) : Option (List UInt8) :=
 rangeF (fun (k74 : Nat) (x75 : Int) (s73 : (List UInt8)) (nx118 : (List UInt8) → Option (List UInt8)) =>
 (((if (decide ((0 : Int) < (k74 : Int))) = true then
 lnO (s73.length + ([44] : List UInt8).length) <|
 some (s73 ++ ([44] : List UInt8))
 else
 some s73) : Option (List UInt8)).bind fun (s133 : (List UInt8)) =>
 getO v0 x75 fun x135 =>
 lnO (s133.length + x135.Name.length) <|
 nx118 (s133 ++ x135.Name)))
 (fun (s73 : (List UInt8)) =>
 some s73) v1 0 ([] : List UInt8)

def sh_spec_eLevels (v0 : Int) : Option (List Int) :=
 loopF (fun (nx214 : ((List Int) × Int) → Option (List Int)) (s129 : ((List Int) × Int)) =>
 ckK .u64 s129.2 <|
 ck (0 ≤ s129.2 ∧ s129.2 < 64) <|
 (if (decide ((0 : Int) < (v0 / 2 ^ (s129.2).toNat))) = true then
 ckK .u64 s129.2 <|
 ck (0 ≤ s129.2 ∧ s129.2 < 64) <|
 ck (0 ≤ (v0 / 2 ^ (s129.2).toNat)) <|
 ckK .i64 (v0 / 2 ^ (s129.2).toNat) <|
 ck (0 ≤ (1 : Int)) <|
 ckK .i64 (1 : Int) <|
 (if (decide ((((v0 / 2 ^ (s129.2).toNat).toNat &&& (1 : Int).toNat : Nat) : Int) = (1 : Int))) = true then
 lnO (s129.1.length + [s129.2].length) <|
 ckI (s129.2 + (1 : Int)) <|
 nx214 ((s129.1 ++ [s129.2]), (s129.2 + (1 : Int)))
 else
 ckI (s129.2 + (1 : Int)) <|
 nx214 (s129.1, (s129.2 + (1 : Int))))
 else
 some s129.1)) FUEL (([] : List Int), (0 : Int))

def sh_spec_nTable (v0 : (List XVariable)) (v1 : XTable) : Option (List UInt8) :=
 (((if (decide ((0 : Int) ≤ v1.Sum)) = true then
 getO v0 v1.Sum fun x1117 =>
 lnO (([115, 117, 109, 32] : List UInt8).length + x1117.Name.length) <|
 some (([115, 117, 109, 32] : List UInt8) ++ x1117.Name)
 else
 some ([99, 111, 117, 110, 116] : List UInt8)) : Option (List UInt8)).bind fun (s6 : (List UInt8)) =>
 (sh_spec_l1Num v1.Level).bind fun x12 =>
 lnO (([32, 108, 101, 118, 101, 108, 32] : List UInt8).length + x12.length) <|
 lnO (s6.length + (([32, 108, 101, 118, 101, 108, 32] : List UInt8) ++ x12).length) <|
 (((if (decide ((0 : Int) < (v1.Vars.length : Int))) = true then
 (sh_spec_nNames v0 v1.Vars).bind fun x1112 =>
 lnO (([32, 98, 121, 32] : List UInt8).length + x1112.length) <|
 lnO ((s6 ++ (([32, 108, 101, 118, 101, 108, 32] : List UInt8) ++ x12)).length + (([32, 98, 121, 32] : List UInt8) ++ x1112).length) <|
 some ((s6 ++ (([32, 108, 101, 118, 101, 108, 32] : List UInt8) ++ x12)) ++ (([32, 98, 121, 32] : List UInt8) ++ x1112))
 else
 some (s6 ++ (([32, 108, 101, 118, 101, 108, 32] : List UInt8) ++ x12))) : Option (List UInt8)).bind fun (s23 : (List UInt8)) =>
 rangeF (fun (k570 : Nat) (x571 : Int) (s569 : ((List UInt8) × Bool)) (nx926 : ((List UInt8) × Bool) → Option (List UInt8)) =>
 (if (decide (x571 = (0 : Int))) = true then
 nx926 (s569.1, s569.2)
 else
 (((if s569.2 = true then
 lnO (s569.1.length + ([32, 119, 104, 101, 114, 101] : List UInt8).length) <|
 some ((s569.1 ++ ([32, 119, 104, 101, 114, 101] : List UInt8)), false)
 else
 some (s569.1, s569.2)) : Option ((List UInt8) × Bool)).bind fun (s1024 : ((List UInt8) × Bool)) =>
 getO v0 (k570 : Int) fun x1032 =>
 lnO (([32] : List UInt8).length + x1032.Name.length) <|
 lnO ((([32] : List UInt8) ++ x1032.Name).length + ([61] : List UInt8).length) <|
 lnO (s1024.1.length + ((([32] : List UInt8) ++ x1032.Name) ++ ([61] : List UInt8)).length) <|
 (sh_spec_eLevels x571).bind fun x1041 =>
 rangeF (fun (k1045 : Nat) (x1046 : Int) (s1044 : (List UInt8)) (nx1085 : (List UInt8) → Option (List UInt8)) =>
 (((if (decide ((0 : Int) < (k1045 : Int))) = true then
 lnO (s1044.length + ([44] : List UInt8).length) <|
 some (s1044 ++ ([44] : List UInt8))
 else
 some s1044) : Option (List UInt8)).bind fun (s1099 : (List UInt8)) =>
 (sh_spec_l1Num x1046).bind fun x1101 =>
 lnO (s1099.length + x1101.length) <|
 nx1085 (s1099 ++ x1101)))
 (fun (s1044 : (List UInt8)) =>
 nx926 (s1044, s1024.2)) x1041 0 (s1024.1 ++ ((([32] : List UInt8) ++ x1032.Name) ++ ([61] : List UInt8))))))
 (fun (s569 : ((List UInt8) × Bool)) =>
 some s569.1) v1.Where 0 (s23, true)))

def sh_spec_nParse (v0 : XGeo) (v1 : (List XVariable)) (v2 : (List UInt8)) : Option (XTable × Bool) :=
 (sh_spec_nGuess v1 v2).bind fun x3 =>
 (sh_spec_uGood v0 v1 x3).bind fun x21 =>
 (if (!x21) = true then
 some ((⟨(0 : Int), ([] : List Int), ([] : List Int), (0 : Int)⟩ : XTable), false)
 else
 (sh_spec_nTable v1 x3).bind fun x24 =>
 (if (decide (x24 ≠ v2)) = true then
 some ((⟨(0 : Int), ([] : List Int), ([] : List Int), (0 : Int)⟩ : XTable), false)
 else
 some (x3, true)))

def sh_impl_IsGeo (v0 : XGeo) : Option Bool :=
 (if (decide ((v0.Parents.length : Int) < (1 : Int))) = true then
 some false
 else
 (if (decide ((30 : Int) < (v0.Parents.length : Int))) = true then
 some false
 else
 getO v0.Parents (0 : Int) fun x27 =>
 (if (decide (x27 ≠ (-1 : Int))) = true then
 some false
 else
 loopF (fun (nx169 : Int → Option Bool) (s114 : Int) =>
 (if (decide (s114 < (v0.Parents.length : Int))) = true then
 getO v0.Parents s114 fun x191 =>
 (if (decide (x191 < (0 : Int))) = true then
 some false
 else
 (if (decide (s114 ≤ x191)) = true then
 some false
 else
 ckI (s114 + (1 : Int)) <|
 nx169 (s114 + (1 : Int))))
 else
 some true)) FUEL (1 : Int))))

def sh_impl_isWord (v0 : (List UInt8)) : Option Bool :=
 (if (decide ((v0.length : Int) < (1 : Int))) = true then
 some false
 else
 (if (decide ((8 : Int) < (v0.length : Int))) = true then
 some false
 else
 rangeF (fun (k40 : Nat) (x41 : UInt8) (s39 : Unit) (nx50 : Unit → Option Bool) =>
 (if (decide ((x41.toNat : Int) < (97 : Int))) = true then
 some false
 else
 (if (decide ((122 : Int) < (x41.toNat : Int))) = true then
 some false
 else
 nx50 ())))
 (fun (s39 : Unit) =>
 some true) v0 0 ()))

def sh_impl_IsSchema (v0 : (List XVariable)) : Option Bool :=
 (if (decide ((v0.length : Int) < (1 : Int))) = true then
 some false
 else
 (if (decide ((6 : Int) < (v0.length : Int))) = true then
 some false
 else
 rangeF (fun (k164 : Nat) (x165 : XVariable) (s163 : Unit) (nx236 : Unit → Option Bool) =>
 (sh_impl_isWord x165.Name).bind fun x286 =>
 (if (!x286) = true then
 some false
 else
 (if (decide (x165.Levels < (2 : Int))) = true then
 some false
 else
 (if (decide ((8 : Int) < x165.Levels)) = true then
 some false
 else
 ck (0 ≤ (k164 : Int) ∧ 0 ≤ ((k164 : Int)).toNat ∧ ((k164 : Int)).toNat ≤ v0.length) <|
 rangeF (fun (k296 : Nat) (x297 : XVariable) (s295 : Unit) (nx302 : Unit → Option Bool) =>
 (if (decide (x297.Name = x165.Name)) = true then
 some false
 else
 nx302 ()))
 (fun (s295 : Unit) =>
 nx236 ()) ((v0.take ((k164 : Int)).toNat).drop 0) 0 ()))))
 (fun (s163 : Unit) =>
 some true) v0 0 ()))

def sh_strings_genSplit (v0 : (List UInt8)) (v1 : (List UInt8)) (v2 : Int) (v3 : Int) : Option (List (List UInt8)) :=
 match v1 with
 | [c] => if v0.length ≤ 1048576 ∧ v2 = 0 ∧ v3 = -1 then some (pcs c v0) else none
 | _ => none

def sh_strings_Split (v0 : (List UInt8)) (v1 : (List UInt8)) : Option (List (List UInt8)) :=
 (sh_strings_genSplit v0 v1 (0 : Int) (-1 : Int)).bind fun x3 =>
 some x3

def sh_impl_nameIndex_1 (v0 : XVariable) (v1 : (List UInt8)) : Option Bool :=
 some (decide (v0.Name = v1))
def sh_slices_IndexFunc_impl_Variable_impl_Variable_impl_nameIndex_1 (v0 : (List XVariable)) (v1 : (List UInt8)) : Option Int :=
 rangeF (fun (k34 : Nat) (x35 : XVariable) (s33 : Unit) (nx48 : Unit → Option Int) =>
 (sh_impl_nameIndex_1 x35 v1).bind fun x58 =>
 (if x58 = true then
 some (k34 : Int)
 else
 nx48 ()))
 (fun (s33 : Unit) =>
 some (-1 : Int)) v0 0 ()

def sh_impl_nameIndex (v0 : (List XVariable)) (v1 : (List UInt8)) : Option Int :=
 (sh_slices_IndexFunc_impl_Variable_impl_Variable_impl_nameIndex_1 v0 v1).bind fun x3 =>
 some x3

def sh_impl_readNatural (v0 : (List UInt8)) (v1 : Int) : Option (Int × (List UInt8) × Bool) :=
 jn (fun (s147 : (Int × Int)) =>
 (if (decide (s147.2 = (0 : Int))) = true then
 some ((0 : Int), ([] : List UInt8), false)
 else
 ck (0 ≤ s147.2 ∧ (s147.2).toNat ≤ v0.length ∧ v0.length ≤ v0.length) <|
 some (s147.1, ((v0.take v0.length).drop (s147.2).toNat), true))) fun af148 =>
 loopF (fun (nx251 : (Int × Int) → Option (Int × (List UInt8) × Bool)) (s154 : (Int × Int)) =>
 (if (decide (s154.2 < (v0.length : Int))) = true then
 getO v0 s154.2 fun x275 =>
 (if (decide ((48 : Int) ≤ (x275.toNat : Int))) = true then
 (if (decide ((x275.toNat : Int) ≤ (57 : Int))) = true then
 jn (fun (s283 : Unit) =>
 ckI (s154.1 * (10 : Int)) <|
 ckU ((x275.toNat : Int) - (48 : Int)) <|
 ckI ((x275.toNat : Int) - (48 : Int)) <|
 ckI ((s154.1 * (10 : Int)) + ((x275.toNat : Int) - (48 : Int))) <|
 (if (decide (v1 < ((s154.1 * (10 : Int)) + ((x275.toNat : Int) - (48 : Int))))) = true then
 some ((0 : Int), ([] : List UInt8), false)
 else
 ckI (s154.2 + (1 : Int)) <|
 nx251 (((s154.1 * (10 : Int)) + ((x275.toNat : Int) - (48 : Int))), (s154.2 + (1 : Int))))) fun af284 =>
 (if (decide ((0 : Int) < s154.2)) = true then
 (if (decide (s154.1 = (0 : Int))) = true then
 some ((0 : Int), ([] : List UInt8), false)
 else
 af284 ())
 else
 af284 ())
 else
 af148 (s154.1, s154.2))
 else
 af148 (s154.1, s154.2))
 else
 af148 (s154.1, s154.2))) FUEL ((0 : Int), (0 : Int))

def sh_impl_wholeNatural (v0 : (List UInt8)) (v1 : Int) : Option (Int × Bool) :=
 (sh_impl_readNatural v0 v1).bind fun x3 =>
 (if (!x3.2.2) = true then
 some ((0 : Int), false)
 else
 (if (decide (x3.2.1 ≠ ([] : List UInt8))) = true then
 some ((0 : Int), false)
 else
 some (x3.1, true)))

def sh_impl_wholeNaturalIf (v0 : Bool) (v1 : (List UInt8)) (v2 : Int) : Option (Int × Bool) :=
 (sh_impl_wholeNatural v1 v2).bind fun x3 =>
 (if v0 = true then
 some (x3.1, x3.2)
 else
 some (x3.1, false))

def sh_ixB (c : UInt8) : List UInt8 → Int
  | [] => -1
  | b :: l => if b = c then 0 else if sh_ixB c l = -1 then -1 else sh_ixB c l + 1
def sh_stringslite_Index (v0 : (List UInt8)) (v1 : (List UInt8)) : Option Int :=
 match v1 with
 | [c] => some (sh_ixB c v0)
 | _ => none

def sh_strings_splitSeq (v0 : (List UInt8)) (v1 : (List UInt8)) (v2 : Int) : Option ((List UInt8) × (List UInt8) × Int) :=
 some (v1, v0, v2)

def sh_strings_SplitSeq (v0 : (List UInt8)) (v1 : (List UInt8)) : Option ((List UInt8) × (List UInt8) × Int) :=
 (sh_strings_splitSeq v0 v1 (0 : Int)).bind fun x3 =>
 some x3

def sh_stringslite_Cut (v0 : (List UInt8)) (v1 : (List UInt8)) : Option ((List UInt8) × (List UInt8) × Bool) :=
 (sh_stringslite_Index v0 v1).bind fun x16 =>
 (if (decide ((0 : Int) ≤ x16)) = true then
 ck (0 ≤ x16 ∧ 0 ≤ (x16).toNat ∧ (x16).toNat ≤ v0.length) <|
 lmO v1.length <|
 ckI (x16 + (v1.length : Int)) <|
 ck (0 ≤ (x16 + (v1.length : Int)) ∧ ((x16 + (v1.length : Int))).toNat ≤ v0.length ∧ v0.length ≤ v0.length) <|
 some (((v0.take (x16).toNat).drop 0), ((v0.take v0.length).drop ((x16 + (v1.length : Int))).toNat), true)
 else
 some (v0, ([] : List UInt8), false))

def sh_strings_Cut (v0 : (List UInt8)) (v1 : (List UInt8)) : Option ((List UInt8) × (List UInt8) × Bool) :=
 (sh_stringslite_Cut v0 v1).bind fun x3 =>
 some (x3.1, x3.2.1, x3.2.2)

def sh_impl_parseSet (v0 : (List UInt8)) (v1 : Int) : Option Int :=
 (sh_strings_SplitSeq v0 ([44] : List UInt8)).bind fun x116 =>
 ck (x116.1.length = 1 ∧ x116.2.2 = 0) <|
 rangeF (fun (k119 : Nat) (x120 : List UInt8) (s118 : (Int × Int)) (nx190 : (Int × Int) → Option Int) =>
 (if (decide ((x120.length : Int) ≠ (1 : Int))) = true then
 some (0 : Int)
 else
 getO x120 (0 : Int) fun x204 =>
 ckI (x204.toNat : Int) <|
 ckI ((x204.toNat : Int) - (48 : Int)) <|
 (if (decide (((x204.toNat : Int) - (48 : Int)) ≤ s118.2)) = true then
 some (0 : Int)
 else
 (if (decide (v1 ≤ ((x204.toNat : Int) - (48 : Int)))) = true then
 some (0 : Int)
 else
 ck (0 ≤ ((x204.toNat : Int) - (48 : Int)) ∧ ((x204.toNat : Int) - (48 : Int)) < 64) <|
 ckI ((1 : Int) * 2 ^ (((x204.toNat : Int) - (48 : Int))).toNat) <|
 ck (0 ≤ s118.1) <|
 ckK .i64 s118.1 <|
 ck (0 ≤ ((1 : Int) * 2 ^ (((x204.toNat : Int) - (48 : Int))).toNat)) <|
 ckK .i64 ((1 : Int) * 2 ^ (((x204.toNat : Int) - (48 : Int))).toNat) <|
 nx190 (((s118.1.toNat ||| ((1 : Int) * 2 ^ (((x204.toNat : Int) - (48 : Int))).toNat).toNat : Nat) : Int), ((x204.toNat : Int) - (48 : Int)))))))
 (fun (s118 : (Int × Int)) =>
 some s118.1) (pcs (x116.1.headD 0) x116.2.1) 0 ((0 : Int), (-1 : Int))

def sh_impl_parseTable_1 (v0 : (List (List UInt8))) : Option ((List (List UInt8)) × (List UInt8)) :=
 (if (decide ((v0.length : Int) = (0 : Int))) = true then
 some (v0, ([] : List UInt8))
 else
 getO v0 (0 : Int) fun x10 =>
 ck (0 ≤ (1 : Int) ∧ ((1 : Int)).toNat ≤ v0.length ∧ v0.length ≤ v0.length) <|
 some (((v0.take v0.length).drop ((1 : Int)).toNat), x10))

def sh_impl_parseTable (v0 : (List XVariable)) (v1 : (List UInt8)) : Option (XTable × Bool) :=
 mkO (v0.length : Int) <|
 (sh_strings_Split v1 ([32] : List UInt8)).bind fun x9 =>
 jn (fun (s26 : (XTable × (List (List UInt8)))) =>
 (sh_impl_parseTable_1 s26.2).bind fun x31 =>
 (sh_impl_parseTable_1 x31.1).bind fun x37 =>
 (sh_impl_wholeNaturalIf (decide (x31.2 = ([108, 101, 118, 101, 108] : List UInt8))) x37.2 (30 : Int)).bind fun x39 =>
 (if (!x39.2) = true then
 some ((⟨(0 : Int), ([] : List Int), ([] : List Int), (0 : Int)⟩ : XTable), false)
 else
 jn (fun (s96 : (XTable × (List (List UInt8)))) =>
 jn (fun (s108 : (List (List UInt8))) =>
 loopF (fun (nx264 : (XTable × (List (List UInt8))) → Option (XTable × Bool)) (s203 : (XTable × (List (List UInt8)))) =>
 (if (decide ((0 : Int) < (s203.2.length : Int))) = true then
 (sh_impl_parseTable_1 s203.2).bind fun x277 =>
 (sh_strings_Cut x277.2 ([61] : List UInt8)).bind fun x279 =>
 (sh_impl_nameIndex v0 x279.1).bind fun x283 =>
 (if (decide (x283 < (0 : Int))) = true then
 some ((⟨(0 : Int), ([] : List Int), ([] : List Int), (0 : Int)⟩ : XTable), false)
 else
 getO v0 x283 fun x287 =>
 (sh_impl_parseSet x279.2.1 x287.Levels).bind fun x290 =>
 getO s203.1.Where x283 fun x292 =>
 nx264 ((⟨s203.1.Level, s203.1.Vars, (s203.1.Where.set (x283).toNat x290), s203.1.Sum⟩ : XTable), x277.1))
 else
 some (s203.1, true))) FUEL (s96.1, s108)) fun af109 =>
 (if (decide ((0 : Int) < (s96.2.length : Int))) = true then
 (sh_impl_parseTable_1 s96.2).bind fun x301 =>
 (if (decide (x301.2 ≠ ([119, 104, 101, 114, 101] : List UInt8))) = true then
 some ((⟨(0 : Int), ([] : List Int), ([] : List Int), (0 : Int)⟩ : XTable), false)
 else
 af109 x301.1)
 else
 af109 s96.2)) fun af97 =>
 (((if (decide ((0 : Int) < (x37.1.length : Int))) = true then
 getO x37.1 (0 : Int) fun x354 =>
 some (decide (x354 = ([98, 121] : List UInt8)))
 else
 some false) : Option Bool).bind fun (s309 : Bool) =>
 (if s309 = true then
 (sh_impl_parseTable_1 x37.1).bind fun x314 =>
 (sh_impl_parseTable_1 x314.1).bind fun x320 =>
 (sh_strings_SplitSeq x320.2 ([44] : List UInt8)).bind fun x322 =>
 ck (x322.1.length = 1 ∧ x322.2.2 = 0) <|
 rangeF (fun (k325 : Nat) (x326 : List UInt8) (s324 : XTable) (nx342 : XTable → Option (XTable × Bool)) =>
 (sh_impl_nameIndex v0 x326).bind fun x347 =>
 (if (decide (x347 < (0 : Int))) = true then
 some ((⟨(0 : Int), ([] : List Int), ([] : List Int), (0 : Int)⟩ : XTable), false)
 else
 lnO (s324.Vars.length + [x347].length) <|
 nx342 (⟨s324.Level, (s324.Vars ++ [x347]), s324.Where, s324.Sum⟩ : XTable)))
 (fun (s324 : XTable) =>
 af97 (s324, x320.1)) (pcs (x322.1.headD 0) x322.2.1) 0 (⟨x39.1, s26.1.Vars, s26.1.Where, s26.1.Sum⟩ : XTable)
 else
 af97 ((⟨x39.1, s26.1.Vars, s26.1.Where, s26.1.Sum⟩ : XTable), x37.1))))) fun af27 =>
 (sh_impl_parseTable_1 x9).bind fun x359 =>
 (if (decide (x359.2 = ([99, 111, 117, 110, 116] : List UInt8))) = true then
 af27 ((⟨(0 : Int), ([] : List Int), (List.replicate ((v0.length : Int)).toNat (0 : Int)), (-1 : Int)⟩ : XTable), x359.1)
 else
 (if (decide (x359.2 = ([115, 117, 109] : List UInt8))) = true then
 (sh_impl_parseTable_1 x359.1).bind fun x367 =>
 (sh_impl_nameIndex v0 x367.2).bind fun x369 =>
 (if (decide (x369 < (0 : Int))) = true then
 some ((⟨(0 : Int), ([] : List Int), ([] : List Int), (0 : Int)⟩ : XTable), false)
 else
 af27 ((⟨(0 : Int), ([] : List Int), (List.replicate ((v0.length : Int)).toNat (0 : Int)), x369⟩ : XTable), x367.1))
 else
 some ((⟨(0 : Int), ([] : List Int), ([] : List Int), (0 : Int)⟩ : XTable), false)))

def sh_impl_areVars (v0 : (List XVariable)) (v1 : (List Int)) : Option Bool :=
 rangeF (fun (k74 : Nat) (x75 : Int) (s73 : Int) (nx118 : Int → Option Bool) =>
 (if (decide (x75 ≤ s73)) = true then
 some false
 else
 (if (decide ((v0.length : Int) ≤ x75)) = true then
 some false
 else
 nx118 x75)))
 (fun (s73 : Int) =>
 some true) v1 0 (-1 : Int)

def sh_impl_fullSet (v0 : XVariable) : Option Int :=
 ck (0 ≤ v0.Levels ∧ v0.Levels < 64) <|
 ckI ((1 : Int) * 2 ^ (v0.Levels).toNat) <|
 ckI (((1 : Int) * 2 ^ (v0.Levels).toNat) - (1 : Int)) <|
 some (((1 : Int) * 2 ^ (v0.Levels).toNat) - (1 : Int))

def sh_impl_isWhere (v0 : (List XVariable)) (v1 : (List Int)) : Option Bool :=
 (if (decide ((v1.length : Int) ≠ (v0.length : Int))) = true then
 some false
 else
 rangeF (fun (k76 : Nat) (x77 : Int) (s75 : Unit) (nx106 : Unit → Option Bool) =>
 (if (decide (x77 < (0 : Int))) = true then
 some false
 else
 getO v0 (k76 : Int) fun x129 =>
 (sh_impl_fullSet x129).bind fun x132 =>
 (if (decide (x132 < x77)) = true then
 some false
 else
 nx106 ())))
 (fun (s75 : Unit) =>
 some true) v1 0 ())

def sh_impl_depthOf (v0 : XGeo) (v1 : Int) : Option Int :=
 loopF (fun (nx59 : (Int × Int) → Option Int) (s36 : (Int × Int)) =>
 (if (decide ((0 : Int) < s36.1)) = true then
 getO v0.Parents s36.1 fun x67 =>
 ckI (s36.2 + (1 : Int)) <|
 nx59 (x67, (s36.2 + (1 : Int)))
 else
 some s36.2)) FUEL (v1, (0 : Int))

def sh_impl_areasAt (v0 : XGeo) (v1 : Int) : Option (List Int) :=
 rangeF (fun (k50 : Nat) (x51 : Int) (s49 : (List Int)) (nx78 : (List Int) → Option (List Int)) =>
 (sh_impl_depthOf v0 (k50 : Int)).bind fun x89 =>
 (if (decide (x89 = v1)) = true then
 lnO (s49.length + [(k50 : Int)].length) <|
 nx78 (s49 ++ [(k50 : Int)])
 else
 nx78 s49))
 (fun (s49 : (List Int)) =>
 some s49) v0.Parents 0 ([] : List Int)

def sh_impl_crossed (v0 : (List XVariable)) (v1 : XTable) : Option (List XVariable) :=
 mkO (v1.Vars.length : Int) <|
 rangeF (fun (k56 : Nat) (x57 : Int) (s55 : (List XVariable)) (nx84 : (List XVariable) → Option (List XVariable)) =>
 getO v0 x57 fun x93 =>
 getO s55 (k56 : Int) fun x96 =>
 nx84 (s55.set ((k56 : Int)).toNat x93))
 (fun (s55 : (List XVariable)) =>
 some s55) v1.Vars 0 (List.replicate ((v1.Vars.length : Int)).toNat (⟨([] : List UInt8), (0 : Int)⟩ : XVariable))

def sh_impl_combinations (v0 : (List XVariable)) : Option Int :=
 rangeF (fun (k20 : Nat) (x21 : XVariable) (s19 : Int) (nx28 : Int → Option Int) =>
 ckI (s19 * x21.Levels) <|
 nx28 (s19 * x21.Levels))
 (fun (s19 : Int) =>
 some s19) v0 0 (1 : Int)

def sh_impl_cellCount (v0 : XGeo) (v1 : (List XVariable)) (v2 : XTable) : Option Int :=
 (sh_impl_areasAt v0 v2.Level).bind fun x9 =>
 lmO x9.length <|
 (sh_impl_crossed v1 v2).bind fun x12 =>
 (sh_impl_combinations x12).bind fun x14 =>
 ckI ((x9.length : Int) * x14) <|
 some ((x9.length : Int) * x14)
def sh_impl_isTable (v0 : XGeo) (v1 : (List XVariable)) (v2 : XTable) : Option Bool :=
 (((sh_impl_areVars v1 v2.Vars).bind fun x37 =>
 (if (!x37) = true then
 some true
 else
 (sh_impl_isWhere v1 v2.Where).bind fun x40 =>
 (if (!x40) = true then
 some true
 else
 (if (decide (v2.Sum < (-1 : Int))) = true then
 some true
 else
 some (decide ((v1.length : Int) ≤ v2.Sum))))) : Option Bool).bind fun (s28 : Bool) =>
 (if s28 = true then
 some false
 else
 (sh_impl_cellCount v0 v1 v2).bind fun x33 =>
 (if (decide ((0 : Int) < x33)) = true then
 some (decide (x33 ≤ (600 : Int)))
 else
 some false)))

def sh_strconv_Itoa (v0 : Int) : Option (List UInt8) :=
 if 0 ≤ v0 ∧ v0 < 100 then some (if v0 < 10 then [UInt8.ofNat (48 + v0.toNat)] else [UInt8.ofNat (48 + v0.toNat / 10), UInt8.ofNat (48 + v0.toNat % 10)]) else none

def sh_strings_Join (v0 : (List (List UInt8))) (v1 : (List UInt8)) : Option (List UInt8) :=
 if v0.length ≤ 1048576 ∧ (v1.intercalate v0).length ≤ 140737488355328 then some (v1.intercalate v0) else none

def sh_impl_setText (v0 : Int) : Option (List UInt8) :=
 loopF (fun (nx184 : ((List (List UInt8)) × Int) → Option (List UInt8)) (s111 : ((List (List UInt8)) × Int)) =>
 (if (decide (s111.2 < (8 : Int))) = true then
 ck (0 ≤ s111.2 ∧ s111.2 < 64) <|
 ck (0 ≤ (v0 / 2 ^ (s111.2).toNat)) <|
 ckK .i64 (v0 / 2 ^ (s111.2).toNat) <|
 ck (0 ≤ (1 : Int)) <|
 ckK .i64 (1 : Int) <|
 (if (decide ((((v0 / 2 ^ (s111.2).toNat).toNat &&& (1 : Int).toNat : Nat) : Int) = (1 : Int))) = true then
 ckI ((48 : Int) + s111.2) <|
 ckK .i32 ((48 : Int) + s111.2) <|
 ck (0 ≤ ((48 : Int) + s111.2) ∧ ((48 : Int) + s111.2) < 128) <|
 lnO (s111.1.length + [[UInt8.ofNat (((48 : Int) + s111.2)).toNat]].length) <|
 ckI (s111.2 + (1 : Int)) <|
 nx184 ((s111.1 ++ [[UInt8.ofNat (((48 : Int) + s111.2)).toNat]]), (s111.2 + (1 : Int)))
 else
 ckI (s111.2 + (1 : Int)) <|
 nx184 (s111.1, (s111.2 + (1 : Int))))
 else
 (sh_strings_Join s111.1 ([44] : List UInt8)).bind fun x223 =>
 some x223)) FUEL (([] : List (List UInt8)), (0 : Int))

def sh_impl_tableText (v0 : (List XVariable)) (v1 : XTable) : Option (List UInt8) :=
 (((if (decide ((0 : Int) ≤ v1.Sum)) = true then
 getO v0 v1.Sum fun x417 =>
 lnO (([115, 117, 109, 32] : List UInt8).length + x417.Name.length) <|
 some (([115, 117, 109, 32] : List UInt8) ++ x417.Name)
 else
 some ([99, 111, 117, 110, 116] : List UInt8)) : Option (List UInt8)).bind fun (s6 : (List UInt8)) =>
 (sh_strconv_Itoa v1.Level).bind fun x12 =>
 lnO (([32, 108, 101, 118, 101, 108, 32] : List UInt8).length + x12.length) <|
 lnO (s6.length + (([32, 108, 101, 118, 101, 108, 32] : List UInt8) ++ x12).length) <|
 (((if (decide ((0 : Int) < (v1.Vars.length : Int))) = true then
 rangeF (fun (k381 : Nat) (x382 : Int) (s380 : (List (List UInt8))) (nx401 : (List (List UInt8)) → Option (List UInt8)) =>
 getO v0 x382 fun x412 =>
 lnO (s380.length + [x412.Name].length) <|
 nx401 (s380 ++ [x412.Name]))
 (fun (s380 : (List (List UInt8))) =>
 (sh_strings_Join s380 ([44] : List UInt8)).bind fun x404 =>
 lnO (([32, 98, 121, 32] : List UInt8).length + x404.length) <|
 lnO ((s6 ++ (([32, 108, 101, 118, 101, 108, 32] : List UInt8) ++ x12)).length + (([32, 98, 121, 32] : List UInt8) ++ x404).length) <|
 some ((s6 ++ (([32, 108, 101, 118, 101, 108, 32] : List UInt8) ++ x12)) ++ (([32, 98, 121, 32] : List UInt8) ++ x404))) v1.Vars 0 ([] : List (List UInt8))
 else
 some (s6 ++ (([32, 108, 101, 118, 101, 108, 32] : List UInt8) ++ x12))) : Option (List UInt8)).bind fun (s91 : (List UInt8)) =>
 rangeF (fun (k220 : Nat) (x221 : Int) (s219 : ((List UInt8) × (List UInt8))) (nx300 : ((List UInt8) × (List UInt8)) → Option (List UInt8)) =>
 (if (decide (x221 ≠ (0 : Int))) = true then
 getO v0 (k220 : Int) fun x332 =>
 lnO (s219.2.length + x332.Name.length) <|
 lnO ((s219.2 ++ x332.Name).length + ([61] : List UInt8).length) <|
 (sh_impl_setText x221).bind fun x337 =>
 lnO (((s219.2 ++ x332.Name) ++ ([61] : List UInt8)).length + x337.length) <|
 lnO (s219.1.length + (((s219.2 ++ x332.Name) ++ ([61] : List UInt8)) ++ x337).length) <|
 nx300 ((s219.1 ++ (((s219.2 ++ x332.Name) ++ ([61] : List UInt8)) ++ x337)), ([32] : List UInt8))
 else
 nx300 (s219.1, s219.2)))
 (fun (s219 : ((List UInt8) × (List UInt8))) =>
 some s219.1) v1.Where 0 (s91, ([32, 119, 104, 101, 114, 101, 32] : List UInt8))))

def sh_impl_ParseTable (v0 : XGeo) (v1 : (List XVariable)) (v2 : (List UInt8)) : Option (XTable × Bool) :=
 (sh_impl_IsGeo v0).bind fun x17 =>
 (if (!x17) = true then
 some ((⟨(0 : Int), ([] : List Int), ([] : List Int), (0 : Int)⟩ : XTable), false)
 else
 (sh_impl_IsSchema v1).bind fun x20 =>
 (if (!x20) = true then
 some ((⟨(0 : Int), ([] : List Int), ([] : List Int), (0 : Int)⟩ : XTable), false)
 else
 (sh_impl_parseTable v1 v2).bind fun x25 =>
 (if (!x25.2) = true then
 some ((⟨(0 : Int), ([] : List Int), ([] : List Int), (0 : Int)⟩ : XTable), false)
 else
 (sh_impl_isTable v0 v1 x25.1).bind fun x47 =>
 (if (!x47) = true then
 some ((⟨(0 : Int), ([] : List Int), ([] : List Int), (0 : Int)⟩ : XTable), false)
 else
 (sh_impl_tableText v1 x25.1).bind fun x50 =>
 (if (decide (x50 ≠ v2)) = true then
 some ((⟨(0 : Int), ([] : List Int), ([] : List Int), (0 : Int)⟩ : XTable), false)
 else
 some (x25.1, true))))))

def sh_laws_eqIntS (v0 : (List Int)) (v1 : (List Int)) : Option Bool :=
 (if (decide ((v0.length : Int) ≠ (v1.length : Int))) = true then
 some false
 else
 loopF (fun (nx189 : Int → Option Bool) (s118 : Int) =>
 (if (decide (s118 < (v0.length : Int))) = true then
 getO v0 s118 fun x217 =>
 getO v1 s118 fun x220 =>
 (if (decide (x217 ≠ x220)) = true then
 some false
 else
 ckI (s118 + (1 : Int)) <|
 nx189 (s118 + (1 : Int)))
 else
 some true)) FUEL (0 : Int))

def sh_laws_eqTable (v0 : XTable) (v1 : XTable) : Option Bool :=
 (if (decide (v0.Level ≠ v1.Level)) = true then
 some false
 else
 (sh_laws_eqIntS v0.Vars v1.Vars).bind fun x10 =>
 (if (!x10) = true then
 some false
 else
 (sh_laws_eqIntS v0.Where v1.Where).bind fun x20 =>
 (if (!x20) = true then
 some false
 else
 (if (decide (v0.Sum ≠ v1.Sum)) = true then
 some false
 else
 some true))))

def sh_laws_eqGeo (v0 : XGeo) (v1 : XGeo) : Option Bool :=
 (sh_laws_eqIntS v0.Parents v1.Parents).bind fun x8 =>
 (if (!x8) = true then
 some false
 else
 some true)

def sh_laws_eqVariable (v0 : XVariable) (v1 : XVariable) : Option Bool :=
 (if (decide (v0.Name ≠ v1.Name)) = true then
 some false
 else
 (if (decide (v0.Levels ≠ v1.Levels)) = true then
 some false
 else
 some true))

def sh_laws_eqVariableS (v0 : (List XVariable)) (v1 : (List XVariable)) : Option Bool :=
 (if (decide ((v0.length : Int) ≠ (v1.length : Int))) = true then
 some false
 else
 loopF (fun (nx229 : Int → Option Bool) (s142 : Int) =>
 (if (decide (s142 < (v0.length : Int))) = true then
 getO v0 s142 fun x263 =>
 getO v1 s142 fun x266 =>
 (sh_laws_eqVariable x263 x266).bind fun x269 =>
 (if (!x269) = true then
 some false
 else
 ckI (s142 + (1 : Int)) <|
 nx229 (s142 + (1 : Int)))
 else
 some true)) FUEL (0 : Int))

def sh_laws_markIntS (v0 : (List Int)) (v1 : Int) : Option ((List Int) × Int) :=
 loopF (fun (nx119 : ((List Int) × Int × Int) → Option ((List Int) × Int)) (s72 : ((List Int) × Int × Int)) =>
 (if (decide (s72.2.2 < (s72.1.length : Int))) = true then
 getO s72.1 s72.2.2 fun x138 =>
 ckI (s72.2.1 + (1 : Int)) <|
 ckI (s72.2.2 + (1 : Int)) <|
 nx119 ((s72.1.set (s72.2.2).toNat s72.2.1), (s72.2.1 + (1 : Int)), (s72.2.2 + (1 : Int)))
 else
 some (s72.1, s72.2.1))) FUEL (v0, v1, (0 : Int))

def sh_laws_markGeo (v0 : XGeo) (v1 : Int) : Option (XGeo × Int) :=
 (sh_laws_markIntS v0.Parents v1).bind fun x3 =>
 some ((⟨x3.1⟩ : XGeo), x3.2)

def sh_laws_markText (v0 : Int) : Option (List UInt8) :=
 (if (decide (v0 ≤ (0 : Int))) = true then
 some ([109, 48] : List UInt8)
 else
 loopF (fun (nx96 : (Int × (List UInt8)) → Option (List UInt8)) (s59 : (Int × (List UInt8))) =>
 (if (decide ((0 : Int) < s59.1)) = true then
 ck ((10 : Int) ≠ 0) <|
 ckI ((48 : Int) + (s59.1.tmod (10 : Int))) <|
 ckU ((48 : Int) + (s59.1.tmod (10 : Int))) <|
 ck ([((48 : Int) + (s59.1.tmod (10 : Int)))] = (bytesOf [((48 : Int) + (s59.1.tmod (10 : Int)))]).map fun b => ((b.toNat : Nat) : Int)) <|
 lnO ((bytesOf [((48 : Int) + (s59.1.tmod (10 : Int)))]).length + s59.2.length) <|
 ck ((10 : Int) ≠ 0) <|
 ckI (s59.1.tdiv (10 : Int)) <|
 nx96 ((s59.1.tdiv (10 : Int)), ((bytesOf [((48 : Int) + (s59.1.tmod (10 : Int)))]) ++ s59.2))
 else
 lnO (([109] : List UInt8).length + s59.2.length) <|
 some (([109] : List UInt8) ++ s59.2))) FUEL (v0, ([] : List UInt8)))

def sh_laws_markVariableS (v0 : (List XVariable)) (v1 : Int) : Option ((List XVariable) × Int) :=
 loopF (fun (nx239 : ((List XVariable) × Int × Int) → Option ((List XVariable) × Int)) (s144 : ((List XVariable) × Int × Int)) =>
 (if (decide (s144.2.2 < (s144.1.length : Int))) = true then
 (sh_laws_markText s144.2.1).bind fun x272 =>
 getO s144.1 s144.2.2 fun x274 =>
 ckI (s144.2.1 + (1 : Int)) <|
 getO (s144.1.set (s144.2.2).toNat (⟨x272, x274.Levels⟩ : XVariable)) s144.2.2 fun x282 =>
 ckI ((s144.2.1 + (1 : Int)) + (1 : Int)) <|
 ckI (s144.2.2 + (1 : Int)) <|
 nx239 (((s144.1.set (s144.2.2).toNat (⟨x272, x274.Levels⟩ : XVariable)).set (s144.2.2).toNat (⟨x282.Name, (s144.2.1 + (1 : Int))⟩ : XVariable)), ((s144.2.1 + (1 : Int)) + (1 : Int)), (s144.2.2 + (1 : Int)))
 else
 some (s144.1, s144.2.1))) FUEL (v0, v1, (0 : Int))

def sh_laws_heldIntS (v0 : (List Int)) (v1 : Int) : Option Int :=
 loopF (fun (nx199 : (Int × Int) → Option Int) (s120 : (Int × Int)) =>
 (if (decide (s120.2 < (v0.length : Int))) = true then
 getO v0 s120.2 fun x233 =>
 (if (decide (x233 ≠ s120.1)) = true then
 some (-1 : Int)
 else
 ckI (s120.1 + (1 : Int)) <|
 ckI (s120.2 + (1 : Int)) <|
 nx199 ((s120.1 + (1 : Int)), (s120.2 + (1 : Int))))
 else
 some s120.1)) FUEL (v1, (0 : Int))

def sh_spec_ParsePlan (v0 : XGeo) (v1 : (List XVariable)) (v2 : (List UInt8)) : Option ((List XTable) × Int × Bool) :=
 (sh_spec_nInput v0 v1).bind fun x8 =>
 (if (!x8) = true then
 some (([] : List XTable), (0 : Int), false)
 else
 (sh_spec_l1Split v2 (10 : Int)).bind fun x13 =>
 rangeF (fun (k274 : Nat) (x275 : (List UInt8)) (s273 : (List XTable)) (nx442 : (List XTable) → Option ((List XTable) × Int × Bool)) =>
 ckI ((x13.length : Int) - (1 : Int)) <|
 (if (decide ((k274 : Int) = ((x13.length : Int) - (1 : Int)))) = true then
 (if (decide (x275 ≠ ([] : List UInt8))) = true then
 ckI ((k274 : Int) + (1 : Int)) <|
 some (([] : List XTable), ((k274 : Int) + (1 : Int)), false)
 else
 some (s273, (0 : Int), true))
 else
 (sh_spec_nParse v0 v1 x275).bind fun x510 =>
 (((if (!x510.2) = true then
 some true
 else
 some (decide ((k274 : Int) = (20 : Int)))) : Option Bool).bind fun (s520 : Bool) =>
 (if s520 = true then
 ckI ((k274 : Int) + (1 : Int)) <|
 some (([] : List XTable), ((k274 : Int) + (1 : Int)), false)
 else
 lnO (s273.length + [x510.1].length) <|
 nx442 (s273 ++ [x510.1])))))
 (fun (s273 : (List XTable)) =>
 some (s273, (0 : Int), true)) x13 0 ([] : List XTable))

def sh_impl_ParsePlan (v0 : XGeo) (v1 : (List XVariable)) (v2 : (List UInt8)) : Option ((List XTable) × Int × Bool) :=
 (sh_impl_IsGeo v0).bind fun x17 =>
 (if (!x17) = true then
 some (([] : List XTable), (0 : Int), false)
 else
 (sh_impl_IsSchema v1).bind fun x20 =>
 (if (!x20) = true then
 some (([] : List XTable), (0 : Int), false)
 else
 loopF (fun (nx226 : ((List UInt8) × (List XTable)) → Option ((List XTable) × Int × Bool)) (s145 : ((List UInt8) × (List XTable))) =>
 (if (decide (s145.1 ≠ ([] : List UInt8))) = true then
 (sh_strings_Cut s145.1 ([10] : List UInt8)).bind fun x233 =>
 (sh_impl_ParseTable v0 v1 x233.1).bind fun x237 =>
 (((if (!x233.2.2) = true then
 some true
 else
 (if (!x237.2) = true then
 some true
 else
 some (decide ((s145.2.length : Int) = (20 : Int))))) : Option Bool).bind fun (s255 : Bool) =>
 (if s255 = true then
 ckI ((s145.2.length : Int) + (1 : Int)) <|
 some (([] : List XTable), ((s145.2.length : Int) + (1 : Int)), false)
 else
 lnO (s145.2.length + [x237.1].length) <|
 nx226 (x233.2.1, (s145.2 ++ [x237.1]))))
 else
 some (s145.2, (0 : Int), true))) FUEL (v2, ([] : List XTable))))

def sh_laws_eqTableS (v0 : (List XTable)) (v1 : (List XTable)) : Option Bool :=
 (if (decide ((v0.length : Int) ≠ (v1.length : Int))) = true then
 some false
 else
 loopF (fun (nx229 : Int → Option Bool) (s142 : Int) =>
 (if (decide (s142 < (v0.length : Int))) = true then
 getO v0 s142 fun x263 =>
 getO v1 s142 fun x266 =>
 (sh_laws_eqTable x263 x266).bind fun x269 =>
 (if (!x269) = true then
 some false
 else
 ckI (s142 + (1 : Int)) <|
 nx229 (s142 + (1 : Int)))
 else
 some true)) FUEL (0 : Int))

def sh_laws_markTableS (v0 : (List XTable)) (v1 : Int) : Option ((List XTable) × Int) :=
 loopF (fun (nx399 : ((List XTable) × Int × Int) → Option ((List XTable) × Int)) (s240 : ((List XTable) × Int × Int)) =>
 (if (decide (s240.2.2 < (s240.1.length : Int))) = true then
 getO s240.1 s240.2.2 fun x446 =>
 ckI (s240.2.1 + (1 : Int)) <|
 getO (s240.1.set (s240.2.2).toNat (⟨s240.2.1, x446.Vars, x446.Where, x446.Sum⟩ : XTable)) s240.2.2 fun x456 =>
 (sh_laws_markIntS x456.Vars (s240.2.1 + (1 : Int))).bind fun x459 =>
 getO ((s240.1.set (s240.2.2).toNat (⟨s240.2.1, x446.Vars, x446.Where, x446.Sum⟩ : XTable)).set (s240.2.2).toNat (⟨x456.Level, x459.1, x456.Where, x456.Sum⟩ : XTable)) s240.2.2 fun x466 =>
 (sh_laws_markIntS x466.Where x459.2).bind fun x469 =>
 getO (((s240.1.set (s240.2.2).toNat (⟨s240.2.1, x446.Vars, x446.Where, x446.Sum⟩ : XTable)).set (s240.2.2).toNat (⟨x456.Level, x459.1, x456.Where, x456.Sum⟩ : XTable)).set (s240.2.2).toNat (⟨x466.Level, x466.Vars, x469.1, x466.Sum⟩ : XTable)) s240.2.2 fun x474 =>
 ckI (x469.2 + (1 : Int)) <|
 ckI (s240.2.2 + (1 : Int)) <|
 nx399 (((((s240.1.set (s240.2.2).toNat (⟨s240.2.1, x446.Vars, x446.Where, x446.Sum⟩ : XTable)).set (s240.2.2).toNat (⟨x456.Level, x459.1, x456.Where, x456.Sum⟩ : XTable)).set (s240.2.2).toNat (⟨x466.Level, x466.Vars, x469.1, x466.Sum⟩ : XTable)).set (s240.2.2).toNat (⟨x474.Level, x474.Vars, x474.Where, x469.2⟩ : XTable)), (x469.2 + (1 : Int)), (s240.2.2 + (1 : Int)))
 else
 some (s240.1, s240.2.1))) FUEL (v0, v1, (0 : Int))

def sh_laws_heldTableS (v0 : (List XTable)) (v1 : Int) : Option Int :=
 loopF (fun (nx359 : (Int × Int) → Option Int) (s216 : (Int × Int)) =>
 (if (decide (s216.2 < (v0.length : Int))) = true then
 getO v0 s216.2 fun x409 =>
 (if (decide (x409.Level ≠ s216.1)) = true then
 some (-1 : Int)
 else
 ckI (s216.1 + (1 : Int)) <|
 (sh_laws_heldIntS x409.Vars (s216.1 + (1 : Int))).bind fun x417 =>
 (if (decide (x417 < (0 : Int))) = true then
 some (-1 : Int)
 else
 (sh_laws_heldIntS x409.Where x417).bind fun x423 =>
 (if (decide (x423 < (0 : Int))) = true then
 some (-1 : Int)
 else
 (if (decide (x409.Sum ≠ x423)) = true then
 some (-1 : Int)
 else
 ckI (x423 + (1 : Int)) <|
 ckI (s216.2 + (1 : Int)) <|
 nx359 ((x423 + (1 : Int)), (s216.2 + (1 : Int)))))))
 else
 some s216.1)) FUEL (v1, (0 : Int))

def sh_laws_FnExactParsePlan (v0 : XGeo) (v1 : (List XVariable)) (v2 : (List UInt8)) : Option Bool :=
 (if (decide ((1048576 : Int) < (v2.length : Int))) = true then
 some true
 else
 (sh_laws_szGeo v0 (1048576 : Int)).bind fun x9 =>
 (if (decide (x9 < (0 : Int))) = true then
 some true
 else
 (sh_laws_szVariableS v1 x9).bind fun x15 =>
 (if (decide (x15 < (0 : Int))) = true then
 some true
 else
 (sh_laws_toGeo v0).bind fun x25 =>
 (sh_laws_toVariableS v1).bind fun x27 =>
 (sh_spec_ParsePlan x25 x27 v2).bind fun x29 =>
 (sh_laws_toGeo v0).bind fun x33 =>
 (sh_laws_toVariableS v1).bind fun x37 =>
 (sh_impl_ParsePlan x33 x37 v2).bind fun x41 =>
 (sh_laws_eqTableS x41.1 x29.1).bind fun x56 =>
 (if (!x56) = true then
 some false
 else
 (if (decide (x41.2.1 ≠ x29.2.1)) = true then
 some false
 else
 (if (x41.2.2 != x29.2.2) = true then
 some false
 else
 (sh_laws_toGeo v0).bind fun x74 =>
 (sh_laws_eqGeo x33 x74).bind fun x76 =>
 (if (!x76) = true then
 some false
 else
 (sh_laws_toVariableS v1).bind fun x92 =>
 (sh_laws_eqVariableS x37 x92).bind fun x94 =>
 (if (!x94) = true then
 some false
 else
 (sh_laws_markGeo x33 (1 : Int)).bind fun x99 =>
 (sh_laws_markVariableS x37 x99.2).bind fun x103 =>
 (if (decide (x103.2 < (0 : Int))) = true then
 some false
 else
 (sh_laws_eqTableS x41.1 x29.1).bind fun x118 =>
 (if (!x118) = true then
 some false
 else
 (sh_laws_markTableS x41.1 (1 : Int)).bind fun x123 =>
 (sh_laws_heldTableS x123.1 (1 : Int)).bind fun x127 =>
 (if (decide (x127 < (0 : Int))) = true then
 some false
 else
 (if (decide (x127 ≠ x123.2)) = true then
 some false
 else
 (sh_laws_toGeo v0).bind fun x139 =>
 (sh_laws_toVariableS v1).bind fun x141 =>
 (sh_impl_ParsePlan x139 x141 v2).bind fun x143 =>
 (sh_laws_eqTableS x143.1 x29.1).bind fun x158 =>
 (if (!x158) = true then
 some false
 else
 (if (decide (x143.2.1 ≠ x29.2.1)) = true then
 some false
 else
 (if (x143.2.2 != x29.2.2) = true then
 some false
 else
 (sh_laws_heldTableS x123.1 (1 : Int)).bind fun x165 =>
 (if (decide (x165 < (0 : Int))) = true then
 some false
 else
 (if (decide (x165 ≠ x123.2)) = true then
 some false
 else
 some true)))))))))))))))))
end AS
