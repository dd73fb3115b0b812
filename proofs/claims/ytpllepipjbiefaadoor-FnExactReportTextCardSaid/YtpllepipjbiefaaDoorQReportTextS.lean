/- Plain functions. No condition. -/
import Derived.Test.YtpllepipjbiefaaDoorKc
set_option linter.unusedVariables false
set_option linter.unusedSimpArgs false
namespace AS
structure XGeo where
  Parents : (List Int)
  deriving DecidableEq, Inhabited
def cXGeo (c0 : Cd (List Int)) : Cd XGeo := ⟨fun v => .agg [c0.enc v.Parents], c0.sz + (0), true, (c0.im && true), fun v => by simp only [D.size, D.sizes, Cd.h_sz], fun _ => rfl, fun v => by simp only [D.imm, D.imms, Cd.h_im]⟩
theorem tXGeo {c0 c0' : Cd (List Int)} (tc0 : ToI c0 c0') : ToI (cXGeo c0) (cXGeo c0') := ⟨fun v => by simp only [cXGeo, D.toImm, D.toImms, tc0.h], by simp only [cXGeo, tc0.im, Bool.and_true]⟩
theorem sXGeo {c0 : Cd (List Int)} (tc0 : Sol c0) : Sol (cXGeo c0) := ⟨fun v => by simp only [cXGeo, D.solid, D.solids, tc0.h, Bool.and_true]⟩
instance : Bd XGeo := ⟨fun v => Bd.bd v.Parents⟩
structure XVariable where
  Name : (List UInt8)
  Levels : Int
  deriving DecidableEq, Inhabited
def cXVariable (c0 : Cd (List UInt8)) (c1 : Cd Int) : Cd XVariable := ⟨fun v => .agg [c0.enc v.Name, c1.enc v.Levels], c0.sz + (c1.sz + (0)), true, (c0.im && (c1.im && true)), fun v => by simp only [D.size, D.sizes, Cd.h_sz], fun _ => rfl, fun v => by simp only [D.imm, D.imms, Cd.h_im]⟩
theorem tXVariable {c0 c0' : Cd (List UInt8)} {c1 c1' : Cd Int} (tc0 : ToI c0 c0') (tc1 : ToI c1 c1') : ToI (cXVariable c0 c1) (cXVariable c0' c1') := ⟨fun v => by simp only [cXVariable, D.toImm, D.toImms, tc0.h, tc1.h], by simp only [cXVariable, tc0.im, tc1.im, Bool.and_true]⟩
theorem sXVariable {c0 : Cd (List UInt8)} {c1 : Cd Int} (tc0 : Sol c0) (tc1 : Sol c1) : Sol (cXVariable c0 c1) := ⟨fun v => by simp only [cXVariable, D.solid, D.solids, tc0.h, tc1.h, Bool.and_true]⟩
instance : Bd XVariable := ⟨fun v => Bd.bd v.Name ∧ Bd.bd v.Levels⟩
structure XTable where
  Level : Int
  Vars : (List Int)
  Where : (List Int)
  Sum : Int
  deriving DecidableEq, Inhabited
def cXTable (c0 : Cd Int) (c1 : Cd (List Int)) (c2 : Cd (List Int)) (c3 : Cd Int) : Cd XTable := ⟨fun v => .agg [c0.enc v.Level, c1.enc v.Vars, c2.enc v.Where, c3.enc v.Sum], c0.sz + (c1.sz + (c2.sz + (c3.sz + (0)))), true, (c0.im && (c1.im && (c2.im && (c3.im && true)))), fun v => by simp only [D.size, D.sizes, Cd.h_sz], fun _ => rfl, fun v => by simp only [D.imm, D.imms, Cd.h_im]⟩
theorem tXTable {c0 c0' : Cd Int} {c1 c1' : Cd (List Int)} {c2 c2' : Cd (List Int)} {c3 c3' : Cd Int} (tc0 : ToI c0 c0') (tc1 : ToI c1 c1') (tc2 : ToI c2 c2') (tc3 : ToI c3 c3') : ToI (cXTable c0 c1 c2 c3) (cXTable c0' c1' c2' c3') := ⟨fun v => by simp only [cXTable, D.toImm, D.toImms, tc0.h, tc1.h, tc2.h, tc3.h], by simp only [cXTable, tc0.im, tc1.im, tc2.im, tc3.im, Bool.and_true]⟩
theorem sXTable {c0 : Cd Int} {c1 : Cd (List Int)} {c2 : Cd (List Int)} {c3 : Cd Int} (tc0 : Sol c0) (tc1 : Sol c1) (tc2 : Sol c2) (tc3 : Sol c3) : Sol (cXTable c0 c1 c2 c3) := ⟨fun v => by simp only [cXTable, D.solid, D.solids, tc0.h, tc1.h, tc2.h, tc3.h, Bool.and_true]⟩
instance : Bd XTable := ⟨fun v => Bd.bd v.Level ∧ Bd.bd v.Vars ∧ Bd.bd v.Where ∧ Bd.bd v.Sum⟩
def sh_laws_szIntS (v0 : (List Int)) (v1 : Int) : Option Int :=
 ckI (v1 - (v0.length : Int)) <|
 (if (decide ((v1 - (v0.length : Int)) < (0 : Int))) = true then
 some (-1 : Int)
 else
 some (v1 - (v0.length : Int)))

def sh_laws_szGeo (v0 : XGeo) (v1 : Int) : Option Int :=
 (sh_laws_szIntS v0.Parents v1).bind fun x3 =>
 (if (decide (x3 < (0 : Int))) = true then
 some (-1 : Int)
 else
 some x3)

def sh_laws_szVariable (v0 : XVariable) (v1 : Int) : Option Int :=
 ckI (v1 - (v0.Name.length : Int)) <|
 (if (decide ((v1 - (v0.Name.length : Int)) < (0 : Int))) = true then
 some (-1 : Int)
 else
 some (v1 - (v0.Name.length : Int)))

def sh_laws_szVariableS (v0 : (List XVariable)) (v1 : Int) : Option Int :=
 ckI (v1 - (v0.length : Int)) <|
 (if (decide ((v1 - (v0.length : Int)) < (0 : Int))) = true then
 some (-1 : Int)
 else
 loopF (fun (nx165 : (Int × Int) → Option Int) (s102 : (Int × Int)) =>
 (if (decide (s102.2 < (v0.length : Int))) = true then
 getO v0 s102.2 fun x190 =>
 (sh_laws_szVariable x190 s102.1).bind fun x193 =>
 (if (decide (x193 < (0 : Int))) = true then
 some (-1 : Int)
 else
 ckI (s102.2 + (1 : Int)) <|
 nx165 (x193, (s102.2 + (1 : Int))))
 else
 some s102.1)) FUEL ((v1 - (v0.length : Int)), (0 : Int)))

def sh_laws_szTable (v0 : XTable) (v1 : Int) : Option Int :=
 (sh_laws_szIntS v0.Vars v1).bind fun x3 =>
 (if (decide (x3 < (0 : Int))) = true then
 some (-1 : Int)
 else
 (sh_laws_szIntS v0.Where x3).bind fun x9 =>
 (if (decide (x9 < (0 : Int))) = true then
 some (-1 : Int)
 else
 some x9))

def sh_laws_toIntS (v0 : (List Int)) : Option (List Int) :=
 mkO (v0.length : Int) <|
 loopF (fun (nx115 : ((List Int) × Int) → Option (List Int)) (s72 : ((List Int) × Int)) =>
 (if (decide (s72.2 < (v0.length : Int))) = true then
 getO v0 s72.2 fun x130 =>
 getO s72.1 s72.2 fun x133 =>
 ckI (s72.2 + (1 : Int)) <|
 nx115 ((s72.1.set (s72.2).toNat x130), (s72.2 + (1 : Int)))
 else
 some s72.1)) FUEL ((List.replicate ((v0.length : Int)).toNat (0 : Int)), (0 : Int))

def sh_laws_toGeo (v0 : XGeo) : Option XGeo :=
 (sh_laws_toIntS v0.Parents).bind fun x3 =>
 some (⟨x3⟩ : XGeo)

def sh_laws_toVariable (v0 : XVariable) : Option XVariable :=
 some (⟨v0.Name, v0.Levels⟩ : XVariable)

def sh_laws_toVariableS (v0 : (List XVariable)) : Option (List XVariable) :=
 mkO (v0.length : Int) <|
 loopF (fun (nx135 : ((List XVariable) × Int) → Option (List XVariable)) (s84 : ((List XVariable) × Int)) =>
 (if (decide (s84.2 < (v0.length : Int))) = true then
 getO v0 s84.2 fun x152 =>
 (sh_laws_toVariable x152).bind fun x155 =>
 getO s84.1 s84.2 fun x157 =>
 ckI (s84.2 + (1 : Int)) <|
 nx135 ((s84.1.set (s84.2).toNat x155), (s84.2 + (1 : Int)))
 else
 some s84.1)) FUEL ((List.replicate ((v0.length : Int)).toNat (⟨([] : List UInt8), (0 : Int)⟩ : XVariable)), (0 : Int))

def sh_laws_toTable (v0 : XTable) : Option XTable :=
 (sh_laws_toIntS v0.Vars).bind fun x3 =>
 (sh_laws_toIntS v0.Where).bind fun x7 =>
 some (⟨v0.Level, x3, x7, v0.Sum⟩ : XTable)

def sh_spec_l1In (v0 : Int) (v1 : Int) (v2 : Int) : Option Bool :=
 (if (decide (v1 ≤ v0)) = true then
 some (decide (v0 ≤ v2))
 else
 some false)

def sh_spec_gGood (v0 : XGeo) : Option Bool :=
 (sh_spec_l1In (v0.Parents.length : Int) (1 : Int) (30 : Int)).bind fun x24 =>
 (if (!x24) = true then
 some false
 else
 getO v0.Parents (0 : Int) fun x27 =>
 (if (decide (x27 ≠ (-1 : Int))) = true then
 some false
 else
 rangeF (fun (k80 : Nat) (x81 : Int) (s79 : Unit) (nx102 : Unit → Option Bool) =>
 (if (decide ((0 : Int) < (k80 : Int))) = true then
 ckI ((k80 : Int) - (1 : Int)) <|
 (sh_spec_l1In x81 (0 : Int) ((k80 : Int) - (1 : Int))).bind fun x120 =>
 (if (!x120) = true then
 some false
 else
 nx102 ())
 else
 nx102 ()))
 (fun (s79 : Unit) =>
 some true) v0.Parents 0 ()))

def sh_spec_sName (v0 : (List UInt8)) : Option Bool :=
 loopF (fun (nx139 : Int → Option Bool) (s84 : Int) =>
 (if (decide (s84 < (v0.length : Int))) = true then
 getO v0 s84 fun x161 =>
 (if (decide ((x161.toNat : Int) < (97 : Int))) = true then
 some false
 else
 (if (decide ((122 : Int) < (x161.toNat : Int))) = true then
 some false
 else
 ckI (s84 + (1 : Int)) <|
 nx139 (s84 + (1 : Int))))
 else
 (sh_spec_l1In (v0.length : Int) (1 : Int) (8 : Int)).bind fun x171 =>
 some x171)) FUEL (0 : Int)

def sh_spec_sFind (v0 : (List XVariable)) (v1 : (List UInt8)) : Option Int :=
 rangeF (fun (k18 : Nat) (x19 : XVariable) (s17 : Unit) (nx24 : Unit → Option Int) =>
 (if (decide (x19.Name = v1)) = true then
 some (k18 : Int)
 else
 nx24 ()))
 (fun (s17 : Unit) =>
 some (-1 : Int)) v0 0 ()

def sh_spec_sGood (v0 : (List XVariable)) : Option Bool :=
 (sh_spec_l1In (v0.length : Int) (1 : Int) (6 : Int)).bind fun x12 =>
 (if (!x12) = true then
 some false
 else
 rangeF (fun (k104 : Nat) (x105 : XVariable) (s103 : Unit) (nx146 : Unit → Option Bool) =>
 (sh_spec_sName x105.Name).bind fun x177 =>
 (if (!x177) = true then
 some false
 else
 (sh_spec_l1In x105.Levels (2 : Int) (8 : Int)).bind fun x180 =>
 (if (!x180) = true then
 some false
 else
 ck (0 ≤ (k104 : Int) ∧ 0 ≤ ((k104 : Int)).toNat ∧ ((k104 : Int)).toNat ≤ v0.length) <|
 (sh_spec_sFind ((v0.take ((k104 : Int)).toNat).drop 0) x105.Name).bind fun x184 =>
 (if (decide ((0 : Int) ≤ x184)) = true then
 some false
 else
 nx146 ()))))
 (fun (s103 : Unit) =>
 some true) v0 0 ())

def sh_spec_gDepth (v0 : XGeo) (v1 : Int) : Option Int :=
 loopF (fun (nx89 : (Int × Int) → Option Int) (s54 : (Int × Int)) =>
 getO v0.Parents s54.1 fun x102 =>
 (if (decide ((0 : Int) ≤ x102)) = true then
 ckI (s54.2 + (1 : Int)) <|
 nx89 (x102, (s54.2 + (1 : Int)))
 else
 some s54.2)) FUEL (v1, (0 : Int))

def sh_spec_gLevel (v0 : XGeo) (v1 : Int) : Option (List Int) :=
 rangeF (fun (k50 : Nat) (x51 : Int) (s49 : (List Int)) (nx78 : (List Int) → Option (List Int)) =>
 (sh_spec_gDepth v0 (k50 : Int)).bind fun x89 =>
 (if (decide (x89 = v1)) = true then
 lnO (s49.length + [(k50 : Int)].length) <|
 nx78 (s49 ++ [(k50 : Int)])
 else
 nx78 s49))
 (fun (s49 : (List Int)) =>
 some s49) v0.Parents 0 ([] : List Int)

def sh_spec_l1Rising (v0 : (List Int)) (v1 : Int) (v2 : Int) : Option Bool :=
 rangeF (fun (k82 : Nat) (x83 : Int) (s81 : Unit) (nx120 : Unit → Option Bool) =>
 (sh_spec_l1In x83 v1 v2).bind fun x148 =>
 (if (!x148) = true then
 some false
 else
 (if (decide ((0 : Int) < (k82 : Int))) = true then
 ckI ((k82 : Int) - (1 : Int)) <|
 getO v0 ((k82 : Int) - (1 : Int)) fun x153 =>
 (if (decide (x83 ≤ x153)) = true then
 some false
 else
 nx120 ())
 else
 nx120 ())))
 (fun (s81 : Unit) =>
 some true) v0 0 ()

def sh_spec_uWhere (v0 : (List XVariable)) (v1 : (List Int)) : Option Bool :=
 (if (decide ((v1.length : Int) ≠ (v0.length : Int))) = true then
 some false
 else
 rangeF (fun (k100 : Nat) (x101 : XVariable) (s99 : Unit) (nx142 : Unit → Option Bool) =>
 getO v1 (k100 : Int) fun x173 =>
 ckK .u64 x101.Levels <|
 ck (0 ≤ x101.Levels ∧ x101.Levels < 64) <|
 ckI ((1 : Int) * 2 ^ (x101.Levels).toNat) <|
 ckI (((1 : Int) * 2 ^ (x101.Levels).toNat) - (1 : Int)) <|
 (sh_spec_l1In x173 (0 : Int) (((1 : Int) * 2 ^ (x101.Levels).toNat) - (1 : Int))).bind fun x180 =>
 (if (!x180) = true then
 some false
 else
 nx142 ()))
 (fun (s99 : Unit) =>
 some true) v0 0 ())

def sh_spec_sPart (v0 : (List XVariable)) (v1 : (List Int)) : Option (List XVariable) :=
 rangeF (fun (k38 : Nat) (x39 : Int) (s37 : (List XVariable)) (nx58 : (List XVariable) → Option (List XVariable)) =>
 getO v0 x39 fun x65 =>
 lnO (s37.length + [x65].length) <|
 nx58 (s37 ++ [x65]))
 (fun (s37 : (List XVariable)) =>
 some s37) v1 0 ([] : List XVariable)

def sh_spec_sCount (v0 : (List XVariable)) : Option Int :=
 rangeF (fun (k20 : Nat) (x21 : XVariable) (s19 : Int) (nx28 : Int → Option Int) =>
 ckI (s19 * x21.Levels) <|
 nx28 (s19 * x21.Levels))
 (fun (s19 : Int) =>
 some s19) v0 0 (1 : Int)

def sh_spec_uCount (v0 : XGeo) (v1 : (List XVariable)) (v2 : XTable) : Option Int :=
 (sh_spec_gLevel v0 v2.Level).bind fun x9 =>
 lmO x9.length <|
 (sh_spec_sPart v1 v2.Vars).bind fun x12 =>
 (sh_spec_sCount x12).bind fun x14 =>
 ckI ((x9.length : Int) * x14) <|
 some ((x9.length : Int) * x14)

def sh_spec_uGood (v0 : XGeo) (v1 : (List XVariable)) (v2 : XTable) : Option Bool :=
 (((sh_spec_gGood v0).bind fun x77 =>
 (if (!x77) = true then
 some true
 else
 (sh_spec_sGood v1).bind fun x80 =>
 (if (!x80) = true then
 some true
 else
 (sh_spec_gLevel v0 v2.Level).bind fun x83 =>
 (if (decide ((x83.length : Int) = (0 : Int))) = true then
 some true
 else
 ckI ((v1.length : Int) - (1 : Int)) <|
 (sh_spec_l1Rising v2.Vars (0 : Int) ((v1.length : Int) - (1 : Int))).bind fun x89 =>
 (if (!x89) = true then
 some true
 else
 (sh_spec_uWhere v1 v2.Where).bind fun x92 =>
 (if (!x92) = true then
 some true
 else
 ckI ((v1.length : Int) - (1 : Int)) <|
 (sh_spec_l1In v2.Sum (-1 : Int) ((v1.length : Int) - (1 : Int))).bind fun x97 =>
 some (!x97)))))) : Option Bool).bind fun (s70 : Bool) =>
 (if s70 = true then
 some false
 else
 (sh_spec_uCount v0 v1 v2).bind fun x75 =>
 some (decide (x75 ≤ (600 : Int)))))

def sh_spec_l1All (v0 : (List Int)) (v1 : Int) (v2 : Int) : Option Bool :=
 rangeF (fun (k34 : Nat) (x35 : Int) (s33 : Unit) (nx48 : Unit → Option Bool) =>
 (sh_spec_l1In x35 v1 v2).bind fun x58 =>
 (if (!x58) = true then
 some false
 else
 nx48 ()))
 (fun (s33 : Unit) =>
 some true) v0 0 ()

def sh_spec_nCells (v0 : XGeo) (v1 : (List XVariable)) (v2 : XTable) (v3 : (List Int)) : Option Bool :=
 (sh_spec_uGood v0 v1 v2).bind fun x10 =>
 (if x10 = true then
 (sh_spec_uCount v0 v1 v2).bind fun x14 =>
 (if (decide ((v3.length : Int) = x14)) = true then
 (sh_spec_l1All v3 (-1000000 : Int) (1000000 : Int)).bind fun x17 =>
 some x17
 else
 some false)
 else
 some false)

def sh_spec_sAt (v0 : (List XVariable)) (v1 : Int) : Option (List Int) :=
 mkO (v0.length : Int) <|
 ckI ((v0.length : Int) - (1 : Int)) <|
 loopF (fun (nx203 : (Int × (List Int) × Int) → Option (List Int)) (s128 : (Int × (List Int) × Int)) =>
 (if (decide ((0 : Int) ≤ s128.2.2)) = true then
 getO v0 s128.2.2 fun x231 =>
 ck (x231.Levels ≠ 0) <|
 getO s128.2.1 s128.2.2 fun x235 =>
 ck (x231.Levels ≠ 0) <|
 ckI (s128.1.tdiv x231.Levels) <|
 ckI (s128.2.2 - (1 : Int)) <|
 nx203 ((s128.1.tdiv x231.Levels), (s128.2.1.set (s128.2.2).toNat (s128.1.tmod x231.Levels)), (s128.2.2 - (1 : Int)))
 else
 some s128.2.1)) FUEL (v1, (List.replicate ((v0.length : Int)).toNat (0 : Int)), ((v0.length : Int) - (1 : Int)))
def sh_spec_CellAt (v0 : XGeo) (v1 : (List XVariable)) (v2 : XTable) (v3 : Int) : Option (Int × (List Int) × Bool) :=
 (sh_spec_uGood v0 v1 v2).bind fun x26 =>
 (if (!x26) = true then
 some ((0 : Int), ([] : List Int), false)
 else
 (sh_spec_uCount v0 v1 v2).bind fun x29 =>
 ckI (x29 - (1 : Int)) <|
 (sh_spec_l1In v3 (0 : Int) (x29 - (1 : Int))).bind fun x32 =>
 (if (!x32) = true then
 some ((0 : Int), ([] : List Int), false)
 else
 (sh_spec_sPart v1 v2.Vars).bind fun x37 =>
 (sh_spec_sCount x37).bind fun x41 =>
 (sh_spec_gLevel v0 v2.Level).bind fun x53 =>
 ck (x41 ≠ 0) <|
 ckI (v3.tdiv x41) <|
 getO x53 (v3.tdiv x41) fun x57 =>
 ck (x41 ≠ 0) <|
 (sh_spec_sAt x37 (v3.tmod x41)).bind fun x61 =>
 some (x57, x61, true)))

def sh_spec_l1Num_B (self : Int → Option (List UInt8)) (v0 : Int) : Option (List UInt8) :=
 (if (decide (v0 < (10 : Int))) = true then
 ckI ((48 : Int) + v0) <|
 ckU ((48 : Int) + v0) <|
 ck ([((48 : Int) + v0)] = (bytesOf [((48 : Int) + v0)]).map fun b => ((b.toNat : Nat) : Int)) <|
 some (bytesOf [((48 : Int) + v0)])
 else
 ck ((10 : Int) ≠ 0) <|
 ckI (v0.tdiv (10 : Int)) <|
 (self (v0.tdiv (10 : Int))).bind fun x31 =>
 ck ((10 : Int) ≠ 0) <|
 ckI ((48 : Int) + (v0.tmod (10 : Int))) <|
 ckU ((48 : Int) + (v0.tmod (10 : Int))) <|
 ck ([((48 : Int) + (v0.tmod (10 : Int)))] = (bytesOf [((48 : Int) + (v0.tmod (10 : Int)))]).map fun b => ((b.toNat : Nat) : Int)) <|
 lnO (x31.length + (bytesOf [((48 : Int) + (v0.tmod (10 : Int)))]).length) <|
 some (x31 ++ (bytesOf [((48 : Int) + (v0.tmod (10 : Int)))])))
def sh_spec_l1Num (v0 : Int) : Option (List UInt8) := loopF sh_spec_l1Num_B FUEL v0

def sh_spec_nCell (v0 : XGeo) (v1 : (List XVariable)) (v2 : XTable) (v3 : Int) : Option (List UInt8) :=
 (sh_spec_CellAt v0 v1 v2 v3).bind fun x3 =>
 (sh_spec_l1Num x3.1).bind fun x8 =>
 lnO (([97, 114, 101, 97, 32] : List UInt8).length + x8.length) <|
 rangeF (fun (k96 : Nat) (x97 : Int) (s95 : (List UInt8)) (nx148 : (List UInt8) → Option (List UInt8)) =>
 getO v1 x97 fun x163 =>
 lnO (([32] : List UInt8).length + x163.Name.length) <|
 lnO ((([32] : List UInt8) ++ x163.Name).length + ([61] : List UInt8).length) <|
 getO x3.2.1 (k96 : Int) fun x168 =>
 (sh_spec_l1Num x168).bind fun x171 =>
 lnO (((([32] : List UInt8) ++ x163.Name) ++ ([61] : List UInt8)).length + x171.length) <|
 lnO (s95.length + (((([32] : List UInt8) ++ x163.Name) ++ ([61] : List UInt8)) ++ x171).length) <|
 nx148 (s95 ++ (((([32] : List UInt8) ++ x163.Name) ++ ([61] : List UInt8)) ++ x171)))
 (fun (s95 : (List UInt8)) =>
 some s95) v2.Vars 0 (([97, 114, 101, 97, 32] : List UInt8) ++ x8)

def sh_spec_nSigned (v0 : Int) : Option (List UInt8) :=
 (if (decide (v0 < (0 : Int))) = true then
 ckI (-v0) <|
 (sh_spec_l1Num (-v0)).bind fun x16 =>
 lnO (([45] : List UInt8).length + x16.length) <|
 some (([45] : List UInt8) ++ x16)
 else
 (sh_spec_l1Num v0).bind fun x21 =>
 some x21)

def sh_spec_nReport (v0 : XGeo) (v1 : (List XVariable)) (v2 : XTable) (v3 : (List Int)) : Option (List UInt8) :=
 rangeF (fun (k62 : Nat) (x63 : Int) (s61 : (List UInt8)) (nx98 : (List UInt8) → Option (List UInt8)) =>
 (sh_spec_nCell v0 v1 v2 (k62 : Int)).bind fun x109 =>
 lnO (x109.length + ([58, 32] : List UInt8).length) <|
 (sh_spec_nSigned x63).bind fun x112 =>
 lnO ((x109 ++ ([58, 32] : List UInt8)).length + x112.length) <|
 lnO (((x109 ++ ([58, 32] : List UInt8)) ++ x112).length + ([10] : List UInt8).length) <|
 lnO (s61.length + (((x109 ++ ([58, 32] : List UInt8)) ++ x112) ++ ([10] : List UInt8)).length) <|
 nx98 (s61 ++ (((x109 ++ ([58, 32] : List UInt8)) ++ x112) ++ ([10] : List UInt8))))
 (fun (s61 : (List UInt8)) =>
 some s61) v3 0 ([] : List UInt8)

def sh_spec_ReportText (v0 : XGeo) (v1 : (List XVariable)) (v2 : XTable) (v3 : (List Int)) : Option ((List UInt8) × Bool) :=
 (sh_spec_nCells v0 v1 v2 v3).bind fun x8 =>
 (if (!x8) = true then
 some (([] : List UInt8), false)
 else
 (sh_spec_nReport v0 v1 v2 v3).bind fun x13 =>
 some (x13, true))

def sh_impl_IsGeo (v0 : XGeo) : Option Bool :=
 (if (decide ((v0.Parents.length : Int) < (1 : Int))) = true then
 some false
 else
 (if (decide ((30 : Int) < (v0.Parents.length : Int))) = true then
 some false
 else
 getO v0.Parents (0 : Int) fun x27 =>
 (if (decide (x27 ≠ (-1 : Int))) = true then
 some false
 else
 loopF (fun (nx169 : Int → Option Bool) (s114 : Int) =>
 (if (decide (s114 < (v0.Parents.length : Int))) = true then
 getO v0.Parents s114 fun x191 =>
 (if (decide (x191 < (0 : Int))) = true then
 some false
 else
 (if (decide (s114 ≤ x191)) = true then
 some false
 else
 ckI (s114 + (1 : Int)) <|
 nx169 (s114 + (1 : Int))))
 else
 some true)) FUEL (1 : Int))))

def sh_impl_isWord (v0 : (List UInt8)) : Option Bool :=
 (if (decide ((v0.length : Int) < (1 : Int))) = true then
 some false
 else
 (if (decide ((8 : Int) < (v0.length : Int))) = true then
 some false
 else
 rangeF (fun (k40 : Nat) (x41 : UInt8) (s39 : Unit) (nx50 : Unit → Option Bool) =>
 (if (decide ((x41.toNat : Int) < (97 : Int))) = true then
 some false
 else
 (if (decide ((122 : Int) < (x41.toNat : Int))) = true then
 some false
 else
 nx50 ())))
 (fun (s39 : Unit) =>
 some true) v0 0 ()))

def sh_impl_IsSchema (v0 : (List XVariable)) : Option Bool :=
 (if (decide ((v0.length : Int) < (1 : Int))) = true then
 some false
 else
 (if (decide ((6 : Int) < (v0.length : Int))) = true then
 some false
 else
 rangeF (fun (k164 : Nat) (x165 : XVariable) (s163 : Unit) (nx236 : Unit → Option Bool) =>
 (sh_impl_isWord x165.Name).bind fun x286 =>
 (if (!x286) = true then
 some false
 else
 (if (decide (x165.Levels < (2 : Int))) = true then
 some false
 else
 (if (decide ((8 : Int) < x165.Levels)) = true then
 some false
 else
 ck (0 ≤ (k164 : Int) ∧ 0 ≤ ((k164 : Int)).toNat ∧ ((k164 : Int)).toNat ≤ v0.length) <|
 rangeF (fun (k296 : Nat) (x297 : XVariable) (s295 : Unit) (nx302 : Unit → Option Bool) =>
 (if (decide (x297.Name = x165.Name)) = true then
 some false
 else
 nx302 ()))
 (fun (s295 : Unit) =>
 nx236 ()) ((v0.take ((k164 : Int)).toNat).drop 0) 0 ()))))
 (fun (s163 : Unit) =>
 some true) v0 0 ()))

def sh_impl_areVars (v0 : (List XVariable)) (v1 : (List Int)) : Option Bool :=
 rangeF (fun (k74 : Nat) (x75 : Int) (s73 : Int) (nx118 : Int → Option Bool) =>
 (if (decide (x75 ≤ s73)) = true then
 some false
 else
 (if (decide ((v0.length : Int) ≤ x75)) = true then
 some false
 else
 nx118 x75)))
 (fun (s73 : Int) =>
 some true) v1 0 (-1 : Int)

def sh_impl_fullSet (v0 : XVariable) : Option Int :=
 ck (0 ≤ v0.Levels ∧ v0.Levels < 64) <|
 ckI ((1 : Int) * 2 ^ (v0.Levels).toNat) <|
 ckI (((1 : Int) * 2 ^ (v0.Levels).toNat) - (1 : Int)) <|
 some (((1 : Int) * 2 ^ (v0.Levels).toNat) - (1 : Int))

def sh_impl_isWhere (v0 : (List XVariable)) (v1 : (List Int)) : Option Bool :=
 (if (decide ((v1.length : Int) ≠ (v0.length : Int))) = true then
 some false
 else
 rangeF (fun (k76 : Nat) (x77 : Int) (s75 : Unit) (nx106 : Unit → Option Bool) =>
 (if (decide (x77 < (0 : Int))) = true then
 some false
 else
 getO v0 (k76 : Int) fun x129 =>
 (sh_impl_fullSet x129).bind fun x132 =>
 (if (decide (x132 < x77)) = true then
 some false
 else
 nx106 ())))
 (fun (s75 : Unit) =>
 some true) v1 0 ())

def sh_impl_depthOf (v0 : XGeo) (v1 : Int) : Option Int :=
 loopF (fun (nx59 : (Int × Int) → Option Int) (s36 : (Int × Int)) =>
 (if (decide ((0 : Int) < s36.1)) = true then
 getO v0.Parents s36.1 fun x67 =>
 ckI (s36.2 + (1 : Int)) <|
 nx59 (x67, (s36.2 + (1 : Int)))
 else
 some s36.2)) FUEL (v1, (0 : Int))

def sh_impl_areasAt (v0 : XGeo) (v1 : Int) : Option (List Int) :=
 rangeF (fun (k50 : Nat) (x51 : Int) (s49 : (List Int)) (nx78 : (List Int) → Option (List Int)) =>
 (sh_impl_depthOf v0 (k50 : Int)).bind fun x89 =>
 (if (decide (x89 = v1)) = true then
 lnO (s49.length + [(k50 : Int)].length) <|
 nx78 (s49 ++ [(k50 : Int)])
 else
 nx78 s49))
 (fun (s49 : (List Int)) =>
 some s49) v0.Parents 0 ([] : List Int)

def sh_impl_crossed (v0 : (List XVariable)) (v1 : XTable) : Option (List XVariable) :=
 mkO (v1.Vars.length : Int) <|
 rangeF (fun (k56 : Nat) (x57 : Int) (s55 : (List XVariable)) (nx84 : (List XVariable) → Option (List XVariable)) =>
 getO v0 x57 fun x93 =>
 getO s55 (k56 : Int) fun x96 =>
 nx84 (s55.set ((k56 : Int)).toNat x93))
 (fun (s55 : (List XVariable)) =>
 some s55) v1.Vars 0 (List.replicate ((v1.Vars.length : Int)).toNat (⟨([] : List UInt8), (0 : Int)⟩ : XVariable))

def sh_impl_combinations (v0 : (List XVariable)) : Option Int :=
 rangeF (fun (k20 : Nat) (x21 : XVariable) (s19 : Int) (nx28 : Int → Option Int) =>
 ckI (s19 * x21.Levels) <|
 nx28 (s19 * x21.Levels))
 (fun (s19 : Int) =>
 some s19) v0 0 (1 : Int)

def sh_impl_cellCount (v0 : XGeo) (v1 : (List XVariable)) (v2 : XTable) : Option Int :=
 (sh_impl_areasAt v0 v2.Level).bind fun x9 =>
 lmO x9.length <|
 (sh_impl_crossed v1 v2).bind fun x12 =>
 (sh_impl_combinations x12).bind fun x14 =>
 ckI ((x9.length : Int) * x14) <|
 some ((x9.length : Int) * x14)

def sh_impl_isTable (v0 : XGeo) (v1 : (List XVariable)) (v2 : XTable) : Option Bool :=
 (((sh_impl_areVars v1 v2.Vars).bind fun x37 =>
 (if (!x37) = true then
 some true
 else
 (sh_impl_isWhere v1 v2.Where).bind fun x40 =>
 (if (!x40) = true then
 some true
 else
 (if (decide (v2.Sum < (-1 : Int))) = true then
 some true
 else
 some (decide ((v1.length : Int) ≤ v2.Sum))))) : Option Bool).bind fun (s28 : Bool) =>
 (if s28 = true then
 some false
 else
 (sh_impl_cellCount v0 v1 v2).bind fun x33 =>
 (if (decide ((0 : Int) < x33)) = true then
 some (decide (x33 ≤ (600 : Int)))
 else
 some false)))

def sh_impl_areTabled (v0 : XGeo) (v1 : (List XVariable)) (v2 : XTable) : Option Bool :=
 (sh_impl_IsGeo v0).bind fun x9 =>
 (if x9 = true then
 (sh_impl_IsSchema v1).bind fun x12 =>
 (if x12 = true then
 (sh_impl_isTable v0 v1 v2).bind fun x15 =>
 some x15
 else
 some false)
 else
 some false)

def sh_impl_areSmallIntegers (v0 : (List Int)) (v1 : Int) : Option Bool :=
 (if (decide ((v0.length : Int) ≠ v1)) = true then
 some false
 else
 rangeF (fun (k32 : Nat) (x33 : Int) (s31 : Unit) (nx42 : Unit → Option Bool) =>
 (if (decide (x33 < (-1000000 : Int))) = true then
 some false
 else
 (if (decide ((1000000 : Int) < x33)) = true then
 some false
 else
 nx42 ())))
 (fun (s31 : Unit) =>
 some true) v0 0 ())

def sh_impl_valuesAt (v0 : (List XVariable)) (v1 : Int) : Option (List Int) :=
 mkO (v0.length : Int) <|
 ckI ((v0.length : Int) - (1 : Int)) <|
 loopF (fun (nx203 : (Int × (List Int) × Int) → Option (List Int)) (s128 : (Int × (List Int) × Int)) =>
 (if (decide ((0 : Int) ≤ s128.2.2)) = true then
 getO v0 s128.2.2 fun x231 =>
 ck (x231.Levels ≠ 0) <|
 getO s128.2.1 s128.2.2 fun x235 =>
 ck (x231.Levels ≠ 0) <|
 ckI (s128.1.tdiv x231.Levels) <|
 ckI (s128.2.2 - (1 : Int)) <|
 nx203 ((s128.1.tdiv x231.Levels), (s128.2.1.set (s128.2.2).toNat (s128.1.tmod x231.Levels)), (s128.2.2 - (1 : Int)))
 else
 some s128.2.1)) FUEL (v1, (List.replicate ((v0.length : Int)).toNat (0 : Int)), ((v0.length : Int) - (1 : Int)))

def sh_impl_cellAt (v0 : XGeo) (v1 : (List XVariable)) (v2 : XTable) (v3 : Int) : Option (Int × (List Int)) :=
 (sh_impl_crossed v1 v2).bind fun x3 =>
 (sh_impl_combinations x3).bind fun x7 =>
 (sh_impl_areasAt v0 v2.Level).bind fun x19 =>
 ck (x7 ≠ 0) <|
 ckI (v3.tdiv x7) <|
 getO x19 (v3.tdiv x7) fun x23 =>
 ck (x7 ≠ 0) <|
 (sh_impl_valuesAt x3 (v3.tmod x7)).bind fun x27 =>
 some (x23, x27)

def sh_strconv_Itoa (v0 : Int) : Option (List UInt8) :=
 if 0 ≤ v0 ∧ v0 < 100 then some (if v0 < 10 then [UInt8.ofNat (48 + v0.toNat)] else [UInt8.ofNat (48 + v0.toNat / 10), UInt8.ofNat (48 + v0.toNat % 10)]) else none
def sh_impl_cellText (v0 : XGeo) (v1 : (List XVariable)) (v2 : XTable) (v3 : Int) : Option (List UInt8) :=
 (sh_impl_cellAt v0 v1 v2 v3).bind fun x3 =>
 (sh_strconv_Itoa x3.1).bind fun x8 =>
 lnO (([97, 114, 101, 97, 32] : List UInt8).length + x8.length) <|
 rangeF (fun (k96 : Nat) (x97 : Int) (s95 : (List UInt8)) (nx148 : (List UInt8) → Option (List UInt8)) =>
 getO v1 x97 fun x163 =>
 lnO (([32] : List UInt8).length + x163.Name.length) <|
 lnO ((([32] : List UInt8) ++ x163.Name).length + ([61] : List UInt8).length) <|
 getO x3.2 (k96 : Int) fun x168 =>
 (sh_strconv_Itoa x168).bind fun x171 =>
 lnO (((([32] : List UInt8) ++ x163.Name) ++ ([61] : List UInt8)).length + x171.length) <|
 lnO (s95.length + (((([32] : List UInt8) ++ x163.Name) ++ ([61] : List UInt8)) ++ x171).length) <|
 nx148 (s95 ++ (((([32] : List UInt8) ++ x163.Name) ++ ([61] : List UInt8)) ++ x171)))
 (fun (s95 : (List UInt8)) =>
 some s95) v2.Vars 0 (([97, 114, 101, 97, 32] : List UInt8) ++ x8)

def sh_repS (f : Int → Option (List UInt8)) : List Int → Nat → List UInt8 → Option (List UInt8)
  | [], _, a => some a
  | x :: l, k, a => (f (k : Int)).bind fun c => ck (c.length ≤ 1048576 ∧ (a ++ (((c ++ [58, 32]) ++ Go.Lib.itoa x) ++ [10])).length ≤ 1099511627776 ∧ -9223372036854775808 ≤ x ∧ x ≤ 9223372036854775807) <| sh_repS f l (k + 1) (a ++ (((c ++ [58, 32]) ++ Go.Lib.itoa x) ++ [10]))
def sh_impl_ReportText (v0 : XGeo) (v1 : (List XVariable)) (v2 : XTable) (v3 : (List Int)) : Option ((List UInt8) × Bool) :=
 ck (v3.length ≤ 1099511627776) <| (sh_impl_areTabled v0 v1 v2).bind fun x1 => if x1 = true then (sh_impl_cellCount v0 v1 v2).bind fun x2 => (sh_impl_areSmallIntegers v3 x2).bind fun x3 =>
  if x3 = true then (sh_repS (sh_impl_cellText v0 v1 v2) v3 0 []).bind fun a => some (a, true) else some ([], false) else some ([], false)

def sh_laws_eqIntS (v0 : (List Int)) (v1 : (List Int)) : Option Bool :=
 (if (decide ((v0.length : Int) ≠ (v1.length : Int))) = true then
 some false
 else
 loopF (fun (nx189 : Int → Option Bool) (s118 : Int) =>
 (if (decide (s118 < (v0.length : Int))) = true then
 getO v0 s118 fun x217 =>
 getO v1 s118 fun x220 =>
 (if (decide (x217 ≠ x220)) = true then
 some false
 else
 ckI (s118 + (1 : Int)) <|
 nx189 (s118 + (1 : Int)))
 else
 some true)) FUEL (0 : Int))

def sh_laws_eqGeo (v0 : XGeo) (v1 : XGeo) : Option Bool :=
 (sh_laws_eqIntS v0.Parents v1.Parents).bind fun x8 =>
 (if (!x8) = true then
 some false
 else
 some true)

def sh_laws_eqVariable (v0 : XVariable) (v1 : XVariable) : Option Bool :=
 (if (decide (v0.Name ≠ v1.Name)) = true then
 some false
 else
 (if (decide (v0.Levels ≠ v1.Levels)) = true then
 some false
 else
 some true))

def sh_laws_eqVariableS (v0 : (List XVariable)) (v1 : (List XVariable)) : Option Bool :=
 (if (decide ((v0.length : Int) ≠ (v1.length : Int))) = true then
 some false
 else
 loopF (fun (nx229 : Int → Option Bool) (s142 : Int) =>
 (if (decide (s142 < (v0.length : Int))) = true then
 getO v0 s142 fun x263 =>
 getO v1 s142 fun x266 =>
 (sh_laws_eqVariable x263 x266).bind fun x269 =>
 (if (!x269) = true then
 some false
 else
 ckI (s142 + (1 : Int)) <|
 nx229 (s142 + (1 : Int)))
 else
 some true)) FUEL (0 : Int))

def sh_laws_eqTable (v0 : XTable) (v1 : XTable) : Option Bool :=
 (if (decide (v0.Level ≠ v1.Level)) = true then
 some false
 else
 (sh_laws_eqIntS v0.Vars v1.Vars).bind fun x10 =>
 (if (!x10) = true then
 some false
 else
 (sh_laws_eqIntS v0.Where v1.Where).bind fun x20 =>
 (if (!x20) = true then
 some false
 else
 (if (decide (v0.Sum ≠ v1.Sum)) = true then
 some false
 else
 some true))))

def sh_laws_FnExactReportText (v0 : XGeo) (v1 : (List XVariable)) (v2 : XTable) (v3 : (List Int)) : Option Bool :=
 (if (decide ((1048576 : Int) < (v3.length : Int))) = true then
 some true
 else
 (sh_laws_szGeo v0 (1048576 : Int)).bind fun x9 =>
 (if (decide (x9 < (0 : Int))) = true then
 some true
 else
 (sh_laws_szVariableS v1 x9).bind fun x15 =>
 (if (decide (x15 < (0 : Int))) = true then
 some true
 else
 (sh_laws_szTable v2 x15).bind fun x21 =>
 (if (decide (x21 < (0 : Int))) = true then
 some true
 else
 (sh_laws_toGeo v0).bind fun x35 =>
 (sh_laws_toVariableS v1).bind fun x37 =>
 (sh_laws_toTable v2).bind fun x39 =>
 (sh_laws_toIntS v3).bind fun x41 =>
 (sh_spec_ReportText x35 x37 x39 x41).bind fun x43 =>
 (sh_laws_toGeo v0).bind fun x47 =>
 (sh_laws_toVariableS v1).bind fun x51 =>
 (sh_laws_toTable v2).bind fun x55 =>
 (sh_laws_toIntS v3).bind fun x59 =>
 (sh_impl_ReportText x47 x51 x55 x59).bind fun x63 =>
 (if (decide (x63.1 ≠ x43.1)) = true then
 some false
 else
 (if (x63.2 != x43.2) = true then
 some false
 else
 (sh_laws_toGeo v0).bind fun x84 =>
 (sh_laws_eqGeo x47 x84).bind fun x86 =>
 (if (!x86) = true then
 some false
 else
 (sh_laws_toVariableS v1).bind fun x102 =>
 (sh_laws_eqVariableS x51 x102).bind fun x104 =>
 (if (!x104) = true then
 some false
 else
 (sh_laws_toTable v2).bind fun x120 =>
 (sh_laws_eqTable x55 x120).bind fun x122 =>
 (if (!x122) = true then
 some false
 else
 (sh_laws_toIntS v3).bind fun x138 =>
 (sh_laws_eqIntS x59 x138).bind fun x140 =>
 (if (!x140) = true then
 some false
 else
 some true))))))))))
end AS
