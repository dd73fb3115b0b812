/- Plain functions. No condition. -/
import Derived.Test.YtpllepipjbiefaaDoorKc
set_option linter.unusedVariables false
set_option linter.unusedSimpArgs false
namespace AS
structure XVariable where
  Name : (List UInt8)
  Levels : Int
  deriving DecidableEq, Inhabited
def cXVariable (c0 : Cd (List UInt8)) (c1 : Cd Int) : Cd XVariable := ⟨fun v => .agg [c0.enc v.Name, c1.enc v.Levels], c0.sz + (c1.sz + (0)), true, (c0.im && (c1.im && true)), fun v => by simp only [D.size, D.sizes, Cd.h_sz], fun _ => rfl, fun v => by simp only [D.imm, D.imms, Cd.h_im]⟩
theorem tXVariable {c0 c0' : Cd (List UInt8)} {c1 c1' : Cd Int} (tc0 : ToI c0 c0') (tc1 : ToI c1 c1') : ToI (cXVariable c0 c1) (cXVariable c0' c1') := ⟨fun v => by simp only [cXVariable, D.toImm, D.toImms, tc0.h, tc1.h], by simp only [cXVariable, tc0.im, tc1.im, Bool.and_true]⟩
theorem sXVariable {c0 : Cd (List UInt8)} {c1 : Cd Int} (tc0 : Sol c0) (tc1 : Sol c1) : Sol (cXVariable c0 c1) := ⟨fun v => by simp only [cXVariable, D.solid, D.solids, tc0.h, tc1.h, Bool.and_true]⟩
instance : Bd XVariable := ⟨fun v => Bd.bd v.Name ∧ Bd.bd v.Levels⟩
structure XEdit where
  Sets : (List Int)
  deriving DecidableEq, Inhabited
def cXEdit (c0 : Cd (List Int)) : Cd XEdit := ⟨fun v => .agg [c0.enc v.Sets], c0.sz + (0), true, (c0.im && true), fun v => by simp only [D.size, D.sizes, Cd.h_sz], fun _ => rfl, fun v => by simp only [D.imm, D.imms, Cd.h_im]⟩
theorem tXEdit {c0 c0' : Cd (List Int)} (tc0 : ToI c0 c0') : ToI (cXEdit c0) (cXEdit c0') := ⟨fun v => by simp only [cXEdit, D.toImm, D.toImms, tc0.h], by simp only [cXEdit, tc0.im, Bool.and_true]⟩
theorem sXEdit {c0 : Cd (List Int)} (tc0 : Sol c0) : Sol (cXEdit c0) := ⟨fun v => by simp only [cXEdit, D.solid, D.solids, tc0.h, Bool.and_true]⟩
instance : Bd XEdit := ⟨fun v => Bd.bd v.Sets⟩
structure XGeo where
  Parents : (List Int)
  deriving DecidableEq, Inhabited
def cXGeo (c0 : Cd (List Int)) : Cd XGeo := ⟨fun v => .agg [c0.enc v.Parents], c0.sz + (0), true, (c0.im && true), fun v => by simp only [D.size, D.sizes, Cd.h_sz], fun _ => rfl, fun v => by simp only [D.imm, D.imms, Cd.h_im]⟩
theorem tXGeo {c0 c0' : Cd (List Int)} (tc0 : ToI c0 c0') : ToI (cXGeo c0) (cXGeo c0') := ⟨fun v => by simp only [cXGeo, D.toImm, D.toImms, tc0.h], by simp only [cXGeo, tc0.im, Bool.and_true]⟩
theorem sXGeo {c0 : Cd (List Int)} (tc0 : Sol c0) : Sol (cXGeo c0) := ⟨fun v => by simp only [cXGeo, D.solid, D.solids, tc0.h, Bool.and_true]⟩
instance : Bd XGeo := ⟨fun v => Bd.bd v.Parents⟩
structure XTable where
  Level : Int
  Vars : (List Int)
  Where : (List Int)
  Sum : Int
  deriving DecidableEq, Inhabited
def cXTable (c0 : Cd Int) (c1 : Cd (List Int)) (c2 : Cd (List Int)) (c3 : Cd Int) : Cd XTable := ⟨fun v => .agg [c0.enc v.Level, c1.enc v.Vars, c2.enc v.Where, c3.enc v.Sum], c0.sz + (c1.sz + (c2.sz + (c3.sz + (0)))), true, (c0.im && (c1.im && (c2.im && (c3.im && true)))), fun v => by simp only [D.size, D.sizes, Cd.h_sz], fun _ => rfl, fun v => by simp only [D.imm, D.imms, Cd.h_im]⟩
theorem tXTable {c0 c0' : Cd Int} {c1 c1' : Cd (List Int)} {c2 c2' : Cd (List Int)} {c3 c3' : Cd Int} (tc0 : ToI c0 c0') (tc1 : ToI c1 c1') (tc2 : ToI c2 c2') (tc3 : ToI c3 c3') : ToI (cXTable c0 c1 c2 c3) (cXTable c0' c1' c2' c3') := ⟨fun v => by simp only [cXTable, D.toImm, D.toImms, tc0.h, tc1.h, tc2.h, tc3.h], by simp only [cXTable, tc0.im, tc1.im, tc2.im, tc3.im, Bool.and_true]⟩
theorem sXTable {c0 : Cd Int} {c1 : Cd (List Int)} {c2 : Cd (List Int)} {c3 : Cd Int} (tc0 : Sol c0) (tc1 : Sol c1) (tc2 : Sol c2) (tc3 : Sol c3) : Sol (cXTable c0 c1 c2 c3) := ⟨fun v => by simp only [cXTable, D.solid, D.solids, tc0.h, tc1.h, tc2.h, tc3.h, Bool.and_true]⟩
instance : Bd XTable := ⟨fun v => Bd.bd v.Level ∧ Bd.bd v.Vars ∧ Bd.bd v.Where ∧ Bd.bd v.Sum⟩
def sh_laws_szVariable (v0 : XVariable) (v1 : Int) : Option Int :=
 ckI (v1 - (v0.Name.length : Int)) <|
 (if (decide ((v1 - (v0.Name.length : Int)) < (0 : Int))) = true then
 some (-1 : Int)
 else
 some (v1 - (v0.Name.length : Int)))

def sh_laws_szVariableS (v0 : (List XVariable)) (v1 : Int) : Option Int :=
 ckI (v1 - (v0.length : Int)) <|
 (if (decide ((v1 - (v0.length : Int)) < (0 : Int))) = true then
 some (-1 : Int)
 else
 loopF (fun (nx165 : (Int × Int) → Option Int) (s102 : (Int × Int)) =>
 (if (decide (s102.2 < (v0.length : Int))) = true then
 getO v0 s102.2 fun x190 =>
 (sh_laws_szVariable x190 s102.1).bind fun x193 =>
 (if (decide (x193 < (0 : Int))) = true then
 some (-1 : Int)
 else
 ckI (s102.2 + (1 : Int)) <|
 nx165 (x193, (s102.2 + (1 : Int))))
 else
 some s102.1)) FUEL ((v1 - (v0.length : Int)), (0 : Int)))

def sh_laws_toVariable (v0 : XVariable) : Option XVariable :=
 some (⟨v0.Name, v0.Levels⟩ : XVariable)

def sh_laws_toVariableS (v0 : (List XVariable)) : Option (List XVariable) :=
 mkO (v0.length : Int) <|
 loopF (fun (nx135 : ((List XVariable) × Int) → Option (List XVariable)) (s84 : ((List XVariable) × Int)) =>
 (if (decide (s84.2 < (v0.length : Int))) = true then
 getO v0 s84.2 fun x152 =>
 (sh_laws_toVariable x152).bind fun x155 =>
 getO s84.1 s84.2 fun x157 =>
 ckI (s84.2 + (1 : Int)) <|
 nx135 ((s84.1.set (s84.2).toNat x155), (s84.2 + (1 : Int)))
 else
 some s84.1)) FUEL ((List.replicate ((v0.length : Int)).toNat (⟨([] : List UInt8), (0 : Int)⟩ : XVariable)), (0 : Int))

def sh_spec_l1In (v0 : Int) (v1 : Int) (v2 : Int) : Option Bool :=
 (if (decide (v1 ≤ v0)) = true then
 some (decide (v0 ≤ v2))
 else
 some false)

def sh_spec_sName (v0 : (List UInt8)) : Option Bool :=
 loopF (fun (nx139 : Int → Option Bool) (s84 : Int) =>
 (if (decide (s84 < (v0.length : Int))) = true then
 getO v0 s84 fun x161 =>
 (if (decide ((x161.toNat : Int) < (97 : Int))) = true then
 some false
 else
 (if (decide ((122 : Int) < (x161.toNat : Int))) = true then
 some false
 else
 ckI (s84 + (1 : Int)) <|
 nx139 (s84 + (1 : Int))))
 else
 (sh_spec_l1In (v0.length : Int) (1 : Int) (8 : Int)).bind fun x171 =>
 some x171)) FUEL (0 : Int)

def sh_spec_sFind (v0 : (List XVariable)) (v1 : (List UInt8)) : Option Int :=
 rangeF (fun (k18 : Nat) (x19 : XVariable) (s17 : Unit) (nx24 : Unit → Option Int) =>
 (if (decide (x19.Name = v1)) = true then
 some (k18 : Int)
 else
 nx24 ()))
 (fun (s17 : Unit) =>
 some (-1 : Int)) v0 0 ()

def sh_spec_sGood (v0 : (List XVariable)) : Option Bool :=
 (sh_spec_l1In (v0.length : Int) (1 : Int) (6 : Int)).bind fun x12 =>
 (if (!x12) = true then
 some false
 else
 rangeF (fun (k104 : Nat) (x105 : XVariable) (s103 : Unit) (nx146 : Unit → Option Bool) =>
 (sh_spec_sName x105.Name).bind fun x177 =>
 (if (!x177) = true then
 some false
 else
 (sh_spec_l1In x105.Levels (2 : Int) (8 : Int)).bind fun x180 =>
 (if (!x180) = true then
 some false
 else
 ck (0 ≤ (k104 : Int) ∧ 0 ≤ ((k104 : Int)).toNat ∧ ((k104 : Int)).toNat ≤ v0.length) <|
 (sh_spec_sFind ((v0.take ((k104 : Int)).toNat).drop 0) x105.Name).bind fun x184 =>
 (if (decide ((0 : Int) ≤ x184)) = true then
 some false
 else
 nx146 ()))))
 (fun (s103 : Unit) =>
 some true) v0 0 ())

def sh_spec_eFull (v0 : (List XVariable)) (v1 : Int) : Option Int :=
 getO v0 v1 fun x8 =>
 ckK .u64 x8.Levels <|
 ck (0 ≤ x8.Levels ∧ x8.Levels < 64) <|
 ckI ((1 : Int) * 2 ^ (x8.Levels).toNat) <|
 ckI (((1 : Int) * 2 ^ (x8.Levels).toNat) - (1 : Int)) <|
 some (((1 : Int) * 2 ^ (x8.Levels).toNat) - (1 : Int))

def sh_spec_l1Split (v0 : (List UInt8)) (v1 : Int) : Option (List (List UInt8)) :=
 loopF (fun (nx174 : ((List (List UInt8)) × Int × Int) → Option (List (List UInt8))) (s105 : ((List (List UInt8)) × Int × Int)) =>
 (if (decide (s105.2.2 < (v0.length : Int))) = true then
 getO v0 s105.2.2 fun x198 =>
 (if (decide ((x198.toNat : Int) = v1)) = true then
 ck (0 ≤ s105.2.1 ∧ 0 ≤ s105.2.2 ∧ (s105.2.1).toNat ≤ (s105.2.2).toNat ∧ (s105.2.2).toNat ≤ v0.length) <|
 lnO (s105.1.length + [((v0.take (s105.2.2).toNat).drop (s105.2.1).toNat)].length) <|
 ckI (s105.2.2 + (1 : Int)) <|
 ckI (s105.2.2 + (1 : Int)) <|
 nx174 ((s105.1 ++ [((v0.take (s105.2.2).toNat).drop (s105.2.1).toNat)]), (s105.2.2 + (1 : Int)), (s105.2.2 + (1 : Int)))
 else
 ckI (s105.2.2 + (1 : Int)) <|
 nx174 (s105.1, s105.2.1, (s105.2.2 + (1 : Int))))
 else
 ck (0 ≤ s105.2.1 ∧ (s105.2.1).toNat ≤ v0.length ∧ v0.length ≤ v0.length) <|
 lnO (s105.1.length + [((v0.take v0.length).drop (s105.2.1).toNat)].length) <|
 some (s105.1 ++ [((v0.take v0.length).drop (s105.2.1).toNat)]))) FUEL (([] : List (List UInt8)), (0 : Int), (0 : Int))

def sh_spec_l1Read (v0 : (List UInt8)) : Option Int :=
 jn (fun (s20 : Unit) =>
 loopF (fun (nx291 : (Int × Int) → Option Int) (s184 : (Int × Int)) =>
 (if (decide (s184.2 < (v0.length : Int))) = true then
 getO v0 s184.2 fun x335 =>
 (if (decide ((x335.toNat : Int) < (48 : Int))) = true then
 some (-1 : Int)
 else
 (if (decide ((57 : Int) < (x335.toNat : Int))) = true then
 some (-1 : Int)
 else
 ckI ((10 : Int) * s184.1) <|
 ckU ((x335.toNat : Int) - (48 : Int)) <|
 ckI ((x335.toNat : Int) - (48 : Int)) <|
 ckI (((10 : Int) * s184.1) + ((x335.toNat : Int) - (48 : Int))) <|
 ckI (s184.2 + (1 : Int)) <|
 nx291 ((((10 : Int) * s184.1) + ((x335.toNat : Int) - (48 : Int))), (s184.2 + (1 : Int)))))
 else
 some s184.1)) FUEL ((0 : Int), (0 : Int))) fun af21 =>
 (sh_spec_l1In (v0.length : Int) (1 : Int) (6 : Int)).bind fun x355 =>
 (if (!x355) = true then
 some (-1 : Int)
 else
 getO v0 (0 : Int) fun x358 =>
 (if (decide ((x358.toNat : Int) = (48 : Int))) = true then
 (if (decide ((1 : Int) < (v0.length : Int))) = true then
 some (-1 : Int)
 else
 af21 ())
 else
 af21 ()))

def sh_spec_eGood (v0 : (List XVariable)) (v1 : XEdit) : Option Bool :=
 (if (decide ((v1.Sets.length : Int) ≠ (v0.length : Int))) = true then
 some false
 else
 rangeF (fun (k60 : Nat) (x61 : Int) (s59 : Unit) (nx82 : Unit → Option Bool) =>
 (sh_spec_eFull v0 (k60 : Int)).bind fun x98 =>
 (sh_spec_l1In x61 (1 : Int) x98).bind fun x100 =>
 (if (!x100) = true then
 some false
 else
 nx82 ()))
 (fun (s59 : Unit) =>
 some true) v1.Sets 0 ())

def sh_spec_eInvolved (v0 : (List XVariable)) (v1 : XEdit) : Option (List Int) :=
 rangeF (fun (k50 : Nat) (x51 : Int) (s49 : (List Int)) (nx78 : (List Int) → Option (List Int)) =>
 (sh_spec_eFull v0 (k50 : Int)).bind fun x89 =>
 (if (decide (x51 ≠ x89)) = true then
 lnO (s49.length + [(k50 : Int)].length) <|
 nx78 (s49 ++ [(k50 : Int)])
 else
 nx78 s49))
 (fun (s49 : (List Int)) =>
 some s49) v1.Sets 0 ([] : List Int)

def sh_spec_eLevels (v0 : Int) : Option (List Int) :=
 loopF (fun (nx214 : ((List Int) × Int) → Option (List Int)) (s129 : ((List Int) × Int)) =>
 ckK .u64 s129.2 <|
 ck (0 ≤ s129.2 ∧ s129.2 < 64) <|
 (if (decide ((0 : Int) < (v0 / 2 ^ (s129.2).toNat))) = true then
 ckK .u64 s129.2 <|
 ck (0 ≤ s129.2 ∧ s129.2 < 64) <|
 ck (0 ≤ (v0 / 2 ^ (s129.2).toNat)) <|
 ckK .i64 (v0 / 2 ^ (s129.2).toNat) <|
 ck (0 ≤ (1 : Int)) <|
 ckK .i64 (1 : Int) <|
 (if (decide ((((v0 / 2 ^ (s129.2).toNat).toNat &&& (1 : Int).toNat : Nat) : Int) = (1 : Int))) = true then
 lnO (s129.1.length + [s129.2].length) <|
 ckI (s129.2 + (1 : Int)) <|
 nx214 ((s129.1 ++ [s129.2]), (s129.2 + (1 : Int)))
 else
 ckI (s129.2 + (1 : Int)) <|
 nx214 (s129.1, (s129.2 + (1 : Int))))
 else
 some s129.1)) FUEL (([] : List Int), (0 : Int))

def sh_spec_l1Num_B (self : Int → Option (List UInt8)) (v0 : Int) : Option (List UInt8) :=
 (if (decide (v0 < (10 : Int))) = true then
 ckI ((48 : Int) + v0) <|
 ckU ((48 : Int) + v0) <|
 ck ([((48 : Int) + v0)] = (bytesOf [((48 : Int) + v0)]).map fun b => ((b.toNat : Nat) : Int)) <|
 some (bytesOf [((48 : Int) + v0)])
 else
 ck ((10 : Int) ≠ 0) <|
 ckI (v0.tdiv (10 : Int)) <|
 (self (v0.tdiv (10 : Int))).bind fun x31 =>
 ck ((10 : Int) ≠ 0) <|
 ckI ((48 : Int) + (v0.tmod (10 : Int))) <|
 ckU ((48 : Int) + (v0.tmod (10 : Int))) <|
 ck ([((48 : Int) + (v0.tmod (10 : Int)))] = (bytesOf [((48 : Int) + (v0.tmod (10 : Int)))]).map fun b => ((b.toNat : Nat) : Int)) <|
 lnO (x31.length + (bytesOf [((48 : Int) + (v0.tmod (10 : Int)))]).length) <|
 some (x31 ++ (bytesOf [((48 : Int) + (v0.tmod (10 : Int)))])))
def sh_spec_l1Num (v0 : Int) : Option (List UInt8) := loopF sh_spec_l1Num_B FUEL v0

def sh_spec_eText (v0 : (List XVariable)) (v1 : XEdit) : Option (List UInt8) :=
 (sh_spec_eInvolved v0 v1).bind fun x558 =>
 rangeF (fun (k562 : Nat) (x563 : Int) (s561 : (List UInt8)) (nx926 : (List UInt8) → Option (List UInt8)) =>
 (((if (decide (s561 ≠ ([] : List UInt8))) = true then
 lnO (s561.length + ([32] : List UInt8).length) <|
 some (s561 ++ ([32] : List UInt8))
 else
 some s561) : Option (List UInt8)).bind fun (s1023 : (List UInt8)) =>
 getO v0 x563 fun x1030 =>
 lnO (x1030.Name.length + ([61] : List UInt8).length) <|
 lnO (s1023.length + (x1030.Name ++ ([61] : List UInt8)).length) <|
 getO v1.Sets x563 fun x1041 =>
 (sh_spec_eLevels x1041).bind fun x1044 =>
 rangeF (fun (k1048 : Nat) (x1049 : Int) (s1047 : (List UInt8)) (nx1088 : (List UInt8) → Option (List UInt8)) =>
 (((if (decide ((0 : Int) < (k1048 : Int))) = true then
 lnO (s1047.length + ([44] : List UInt8).length) <|
 some (s1047 ++ ([44] : List UInt8))
 else
 some s1047) : Option (List UInt8)).bind fun (s1102 : (List UInt8)) =>
 (sh_spec_l1Num x1049).bind fun x1104 =>
 lnO (s1102.length + x1104.length) <|
 nx1088 (s1102 ++ x1104)))
 (fun (s1047 : (List UInt8)) =>
 nx926 s1047) x1044 0 (s1023 ++ (x1030.Name ++ ([61] : List UInt8)))))
 (fun (s561 : (List UInt8)) =>
 (if (decide (s561 = ([] : List UInt8))) = true then
 some ([97, 108, 108] : List UInt8)
 else
 some s561)) x558 0 ([] : List UInt8)

def sh_spec_eParse (v0 : (List XVariable)) (v1 : (List UInt8)) : Option (XEdit × Bool) :=
 rangeF (fun (k32 : Nat) (x33 : XVariable) (s31 : XEdit) (nx48 : XEdit → Option (XEdit × Bool)) =>
 (sh_spec_eFull v0 (k32 : Int)).bind fun x3589 =>
 lnO (s31.Sets.length + [x3589].length) <|
 nx48 (⟨(s31.Sets ++ [x3589])⟩ : XEdit))
 (fun (s31 : XEdit) =>
 jn (fun (s1806 : XEdit) =>
 (sh_spec_eGood v0 s1806).bind fun x1825 =>
 (if (!x1825) = true then
 some ((⟨([] : List Int)⟩ : XEdit), false)
 else
 (sh_spec_eText v0 s1806).bind fun x1828 =>
 (if (decide (x1828 ≠ v1)) = true then
 some ((⟨([] : List Int)⟩ : XEdit), false)
 else
 some (s1806, true)))) fun af1807 =>
 (if (decide (v1 ≠ ([97, 108, 108] : List UInt8))) = true then
 (sh_spec_l1Split v1 (32 : Int)).bind fun x1835 =>
 rangeF (fun (k1839 : Nat) (x1840 : (List UInt8)) (s1838 : XEdit) (nx3003 : XEdit → Option (XEdit × Bool)) =>
 (sh_spec_l1Split x1840 (61 : Int)).bind fun x3298 =>
 getO x3298 (0 : Int) fun x3305 =>
 (sh_spec_sFind v0 x3305).bind fun x3308 =>
 (if (decide ((x3298.length : Int) ≠ (2 : Int))) = true then
 some ((⟨([] : List Int)⟩ : XEdit), false)
 else
 (if (decide (x3308 < (0 : Int))) = true then
 some ((⟨([] : List Int)⟩ : XEdit), false)
 else
 getO s1838.Sets x3308 fun x3323 =>
 getO x3298 (1 : Int) fun x3332 =>
 (sh_spec_l1Split x3332 (44 : Int)).bind fun x3335 =>
 rangeF (fun (k3339 : Nat) (x3340 : (List UInt8)) (s3338 : XEdit) (nx3503 : XEdit → Option (XEdit × Bool)) =>
 (sh_spec_l1Read x3340).bind fun x3548 =>
 getO v0 x3308 fun x3569 =>
 ckI (x3569.Levels - (1 : Int)) <|
 (sh_spec_l1In x3548 (0 : Int) (x3569.Levels - (1 : Int))).bind fun x3573 =>
 (if (!x3573) = true then
 some ((⟨([] : List Int)⟩ : XEdit), false)
 else
 getO s3338.Sets x3308 fun x3576 =>
 ckK .u64 x3548 <|
 ck (0 ≤ x3548 ∧ x3548 < 64) <|
 ckI ((1 : Int) * 2 ^ (x3548).toNat) <|
 ck (0 ≤ x3576) <|
 ckK .i64 x3576 <|
 ck (0 ≤ ((1 : Int) * 2 ^ (x3548).toNat)) <|
 ckK .i64 ((1 : Int) * 2 ^ (x3548).toNat) <|
 nx3503 (⟨(s3338.Sets.set (x3308).toNat ((x3576.toNat ||| ((1 : Int) * 2 ^ (x3548).toNat).toNat : Nat) : Int))⟩ : XEdit)))
 (fun (s3338 : XEdit) =>
 nx3003 s3338) x3335 0 (⟨(s1838.Sets.set (x3308).toNat (0 : Int))⟩ : XEdit))))
 (fun (s1838 : XEdit) =>
 af1807 s1838) x1835 0 s31
 else
 af1807 s31)) v0 0 (⟨([] : List Int)⟩ : XEdit)

def sh_spec_ParseEdit (v0 : (List XVariable)) (v1 : (List UInt8)) : Option (XEdit × Bool) :=
 (sh_spec_sGood v0).bind fun x8 =>
 (if (!x8) = true then
 some ((⟨([] : List Int)⟩ : XEdit), false)
 else
 (sh_spec_eParse v0 v1).bind fun x13 =>
 some (x13.1, x13.2))

def sh_impl_isWord (v0 : (List UInt8)) : Option Bool :=
 (if (decide ((v0.length : Int) < (1 : Int))) = true then
 some false
 else
 (if (decide ((8 : Int) < (v0.length : Int))) = true then
 some false
 else
 rangeF (fun (k40 : Nat) (x41 : UInt8) (s39 : Unit) (nx50 : Unit → Option Bool) =>
 (if (decide ((x41.toNat : Int) < (97 : Int))) = true then
 some false
 else
 (if (decide ((122 : Int) < (x41.toNat : Int))) = true then
 some false
 else
 nx50 ())))
 (fun (s39 : Unit) =>
 some true) v0 0 ()))
def sh_impl_IsSchema (v0 : (List XVariable)) : Option Bool :=
 (if (decide ((v0.length : Int) < (1 : Int))) = true then
 some false
 else
 (if (decide ((6 : Int) < (v0.length : Int))) = true then
 some false
 else
 rangeF (fun (k164 : Nat) (x165 : XVariable) (s163 : Unit) (nx236 : Unit → Option Bool) =>
 (sh_impl_isWord x165.Name).bind fun x286 =>
 (if (!x286) = true then
 some false
 else
 (if (decide (x165.Levels < (2 : Int))) = true then
 some false
 else
 (if (decide ((8 : Int) < x165.Levels)) = true then
 some false
 else
 ck (0 ≤ (k164 : Int) ∧ 0 ≤ ((k164 : Int)).toNat ∧ ((k164 : Int)).toNat ≤ v0.length) <|
 rangeF (fun (k296 : Nat) (x297 : XVariable) (s295 : Unit) (nx302 : Unit → Option Bool) =>
 (if (decide (x297.Name = x165.Name)) = true then
 some false
 else
 nx302 ()))
 (fun (s295 : Unit) =>
 nx236 ()) ((v0.take ((k164 : Int)).toNat).drop 0) 0 ()))))
 (fun (s163 : Unit) =>
 some true) v0 0 ()))

def sh_impl_fullSet (v0 : XVariable) : Option Int :=
 ck (0 ≤ v0.Levels ∧ v0.Levels < 64) <|
 ckI ((1 : Int) * 2 ^ (v0.Levels).toNat) <|
 ckI (((1 : Int) * 2 ^ (v0.Levels).toNat) - (1 : Int)) <|
 some (((1 : Int) * 2 ^ (v0.Levels).toNat) - (1 : Int))

def sh_ixB (c : UInt8) : List UInt8 → Int
  | [] => -1
  | b :: l => if b = c then 0 else if sh_ixB c l = -1 then -1 else sh_ixB c l + 1
def sh_stringslite_Index (v0 : (List UInt8)) (v1 : (List UInt8)) : Option Int :=
 match v1 with
 | [c] => some (sh_ixB c v0)
 | _ => none

def sh_strings_splitSeq (v0 : (List UInt8)) (v1 : (List UInt8)) (v2 : Int) : Option ((List UInt8) × (List UInt8) × Int) :=
 some (v1, v0, v2)

def sh_strings_SplitSeq (v0 : (List UInt8)) (v1 : (List UInt8)) : Option ((List UInt8) × (List UInt8) × Int) :=
 (sh_strings_splitSeq v0 v1 (0 : Int)).bind fun x3 =>
 some x3

def sh_stringslite_Cut (v0 : (List UInt8)) (v1 : (List UInt8)) : Option ((List UInt8) × (List UInt8) × Bool) :=
 (sh_stringslite_Index v0 v1).bind fun x16 =>
 (if (decide ((0 : Int) ≤ x16)) = true then
 ck (0 ≤ x16 ∧ 0 ≤ (x16).toNat ∧ (x16).toNat ≤ v0.length) <|
 lmO v1.length <|
 ckI (x16 + (v1.length : Int)) <|
 ck (0 ≤ (x16 + (v1.length : Int)) ∧ ((x16 + (v1.length : Int))).toNat ≤ v0.length ∧ v0.length ≤ v0.length) <|
 some (((v0.take (x16).toNat).drop 0), ((v0.take v0.length).drop ((x16 + (v1.length : Int))).toNat), true)
 else
 some (v0, ([] : List UInt8), false))

def sh_strings_Cut (v0 : (List UInt8)) (v1 : (List UInt8)) : Option ((List UInt8) × (List UInt8) × Bool) :=
 (sh_stringslite_Cut v0 v1).bind fun x3 =>
 some (x3.1, x3.2.1, x3.2.2)

def sh_impl_nameIndex_1 (v0 : XVariable) (v1 : (List UInt8)) : Option Bool :=
 some (decide (v0.Name = v1))

def sh_slices_IndexFunc_impl_Variable_impl_Variable_impl_nameIndex_1 (v0 : (List XVariable)) (v1 : (List UInt8)) : Option Int :=
 rangeF (fun (k34 : Nat) (x35 : XVariable) (s33 : Unit) (nx48 : Unit → Option Int) =>
 (sh_impl_nameIndex_1 x35 v1).bind fun x58 =>
 (if x58 = true then
 some (k34 : Int)
 else
 nx48 ()))
 (fun (s33 : Unit) =>
 some (-1 : Int)) v0 0 ()

def sh_impl_nameIndex (v0 : (List XVariable)) (v1 : (List UInt8)) : Option Int :=
 (sh_slices_IndexFunc_impl_Variable_impl_Variable_impl_nameIndex_1 v0 v1).bind fun x3 =>
 some x3

def sh_impl_parseSet (v0 : (List UInt8)) (v1 : Int) : Option Int :=
 (sh_strings_SplitSeq v0 ([44] : List UInt8)).bind fun x116 =>
 ck (x116.1.length = 1 ∧ x116.2.2 = 0) <|
 rangeF (fun (k119 : Nat) (x120 : List UInt8) (s118 : (Int × Int)) (nx190 : (Int × Int) → Option Int) =>
 (if (decide ((x120.length : Int) ≠ (1 : Int))) = true then
 some (0 : Int)
 else
 getO x120 (0 : Int) fun x204 =>
 ckI (x204.toNat : Int) <|
 ckI ((x204.toNat : Int) - (48 : Int)) <|
 (if (decide (((x204.toNat : Int) - (48 : Int)) ≤ s118.2)) = true then
 some (0 : Int)
 else
 (if (decide (v1 ≤ ((x204.toNat : Int) - (48 : Int)))) = true then
 some (0 : Int)
 else
 ck (0 ≤ ((x204.toNat : Int) - (48 : Int)) ∧ ((x204.toNat : Int) - (48 : Int)) < 64) <|
 ckI ((1 : Int) * 2 ^ (((x204.toNat : Int) - (48 : Int))).toNat) <|
 ck (0 ≤ s118.1) <|
 ckK .i64 s118.1 <|
 ck (0 ≤ ((1 : Int) * 2 ^ (((x204.toNat : Int) - (48 : Int))).toNat)) <|
 ckK .i64 ((1 : Int) * 2 ^ (((x204.toNat : Int) - (48 : Int))).toNat) <|
 nx190 (((s118.1.toNat ||| ((1 : Int) * 2 ^ (((x204.toNat : Int) - (48 : Int))).toNat).toNat : Nat) : Int), ((x204.toNat : Int) - (48 : Int)))))))
 (fun (s118 : (Int × Int)) =>
 some s118.1) (pcs (x116.1.headD 0) x116.2.1) 0 ((0 : Int), (-1 : Int))

def sh_impl_ParseEdit (v0 : (List XVariable)) (v1 : (List UInt8)) : Option (XEdit × Bool) :=
 (sh_impl_IsSchema v0).bind fun x8 =>
 (if (!x8) = true then
 some ((⟨([] : List Int)⟩ : XEdit), false)
 else
 mkO (v0.length : Int) <|
 rangeF (fun (k60 : Nat) (x61 : XVariable) (s59 : (List Int)) (nx84 : (List Int) → Option (XEdit × Bool)) =>
 (sh_impl_fullSet x61).bind fun x362 =>
 getO s59 (k60 : Int) fun x364 =>
 nx84 (s59.set ((k60 : Int)).toNat x362))
 (fun (s59 : (List Int)) =>
 (if (decide (v1 = ([97, 108, 108] : List UInt8))) = true then
 some ((⟨s59⟩ : XEdit), true)
 else
 (sh_strings_SplitSeq v1 ([32] : List UInt8)).bind fun x225 =>
 ck (x225.1.length = 1 ∧ x225.2.2 = 0) <|
 rangeF (fun (k228 : Nat) (x229 : List UInt8) (s227 : ((List Int) × Int)) (nx313 : ((List Int) × Int) → Option (XEdit × Bool)) =>
 (sh_strings_Cut x229 ([61] : List UInt8)).bind fun x318 =>
 (sh_impl_nameIndex v0 x318.1).bind fun x322 =>
 (if (!x318.2.2) = true then
 some ((⟨([] : List Int)⟩ : XEdit), false)
 else
 (if (decide (x322 ≤ s227.2)) = true then
 some ((⟨([] : List Int)⟩ : XEdit), false)
 else
 getO v0 x322 fun x335 =>
 (sh_impl_parseSet x318.2.1 x335.Levels).bind fun x338 =>
 (if (decide (x338 = (0 : Int))) = true then
 some ((⟨([] : List Int)⟩ : XEdit), false)
 else
 (sh_impl_fullSet x335).bind fun x351 =>
 (if (decide (x338 = x351)) = true then
 some ((⟨([] : List Int)⟩ : XEdit), false)
 else
 getO s227.1 x322 fun x354 =>
 nx313 ((s227.1.set (x322).toNat x338), x322))))))
 (fun (s227 : ((List Int) × Int)) =>
 some ((⟨s227.1⟩ : XEdit), true)) (pcs (x225.1.headD 0) x225.2.1) 0 (s59, (-1 : Int)))) v0 0 (List.replicate ((v0.length : Int)).toNat (0 : Int)))

def sh_laws_eqIntS (v0 : (List Int)) (v1 : (List Int)) : Option Bool :=
 (if (decide ((v0.length : Int) ≠ (v1.length : Int))) = true then
 some false
 else
 loopF (fun (nx189 : Int → Option Bool) (s118 : Int) =>
 (if (decide (s118 < (v0.length : Int))) = true then
 getO v0 s118 fun x217 =>
 getO v1 s118 fun x220 =>
 (if (decide (x217 ≠ x220)) = true then
 some false
 else
 ckI (s118 + (1 : Int)) <|
 nx189 (s118 + (1 : Int)))
 else
 some true)) FUEL (0 : Int))

def sh_laws_eqEdit (v0 : XEdit) (v1 : XEdit) : Option Bool :=
 (sh_laws_eqIntS v0.Sets v1.Sets).bind fun x8 =>
 (if (!x8) = true then
 some false
 else
 some true)

def sh_laws_eqVariable (v0 : XVariable) (v1 : XVariable) : Option Bool :=
 (if (decide (v0.Name ≠ v1.Name)) = true then
 some false
 else
 (if (decide (v0.Levels ≠ v1.Levels)) = true then
 some false
 else
 some true))

def sh_laws_eqVariableS (v0 : (List XVariable)) (v1 : (List XVariable)) : Option Bool :=
 (if (decide ((v0.length : Int) ≠ (v1.length : Int))) = true then
 some false
 else
 loopF (fun (nx229 : Int → Option Bool) (s142 : Int) =>
 (if (decide (s142 < (v0.length : Int))) = true then
 getO v0 s142 fun x263 =>
 getO v1 s142 fun x266 =>
 (sh_laws_eqVariable x263 x266).bind fun x269 =>
 (if (!x269) = true then
 some false
 else
 ckI (s142 + (1 : Int)) <|
 nx229 (s142 + (1 : Int)))
 else
 some true)) FUEL (0 : Int))

def sh_laws_markText (v0 : Int) : Option (List UInt8) :=
 (if (decide (v0 ≤ (0 : Int))) = true then
 some ([109, 48] : List UInt8)
 else
 loopF (fun (nx96 : (Int × (List UInt8)) → Option (List UInt8)) (s59 : (Int × (List UInt8))) =>
 (if (decide ((0 : Int) < s59.1)) = true then
 ck ((10 : Int) ≠ 0) <|
 ckI ((48 : Int) + (s59.1.tmod (10 : Int))) <|
 ckU ((48 : Int) + (s59.1.tmod (10 : Int))) <|
 ck ([((48 : Int) + (s59.1.tmod (10 : Int)))] = (bytesOf [((48 : Int) + (s59.1.tmod (10 : Int)))]).map fun b => ((b.toNat : Nat) : Int)) <|
 lnO ((bytesOf [((48 : Int) + (s59.1.tmod (10 : Int)))]).length + s59.2.length) <|
 ck ((10 : Int) ≠ 0) <|
 ckI (s59.1.tdiv (10 : Int)) <|
 nx96 ((s59.1.tdiv (10 : Int)), ((bytesOf [((48 : Int) + (s59.1.tmod (10 : Int)))]) ++ s59.2))
 else
 lnO (([109] : List UInt8).length + s59.2.length) <|
 some (([109] : List UInt8) ++ s59.2))) FUEL (v0, ([] : List UInt8)))

def sh_laws_markVariableS (v0 : (List XVariable)) (v1 : Int) : Option ((List XVariable) × Int) :=
 loopF (fun (nx239 : ((List XVariable) × Int × Int) → Option ((List XVariable) × Int)) (s144 : ((List XVariable) × Int × Int)) =>
 (if (decide (s144.2.2 < (s144.1.length : Int))) = true then
 (sh_laws_markText s144.2.1).bind fun x272 =>
 getO s144.1 s144.2.2 fun x274 =>
 ckI (s144.2.1 + (1 : Int)) <|
 getO (s144.1.set (s144.2.2).toNat (⟨x272, x274.Levels⟩ : XVariable)) s144.2.2 fun x282 =>
 ckI ((s144.2.1 + (1 : Int)) + (1 : Int)) <|
 ckI (s144.2.2 + (1 : Int)) <|
 nx239 (((s144.1.set (s144.2.2).toNat (⟨x272, x274.Levels⟩ : XVariable)).set (s144.2.2).toNat (⟨x282.Name, (s144.2.1 + (1 : Int))⟩ : XVariable)), ((s144.2.1 + (1 : Int)) + (1 : Int)), (s144.2.2 + (1 : Int)))
 else
 some (s144.1, s144.2.1))) FUEL (v0, v1, (0 : Int))

def sh_laws_markIntS (v0 : (List Int)) (v1 : Int) : Option ((List Int) × Int) :=
 loopF (fun (nx119 : ((List Int) × Int × Int) → Option ((List Int) × Int)) (s72 : ((List Int) × Int × Int)) =>
 (if (decide (s72.2.2 < (s72.1.length : Int))) = true then
 getO s72.1 s72.2.2 fun x138 =>
 ckI (s72.2.1 + (1 : Int)) <|
 ckI (s72.2.2 + (1 : Int)) <|
 nx119 ((s72.1.set (s72.2.2).toNat s72.2.1), (s72.2.1 + (1 : Int)), (s72.2.2 + (1 : Int)))
 else
 some (s72.1, s72.2.1))) FUEL (v0, v1, (0 : Int))

def sh_laws_markEdit (v0 : XEdit) (v1 : Int) : Option (XEdit × Int) :=
 (sh_laws_markIntS v0.Sets v1).bind fun x3 =>
 some ((⟨x3.1⟩ : XEdit), x3.2)

def sh_laws_heldIntS (v0 : (List Int)) (v1 : Int) : Option Int :=
 loopF (fun (nx199 : (Int × Int) → Option Int) (s120 : (Int × Int)) =>
 (if (decide (s120.2 < (v0.length : Int))) = true then
 getO v0 s120.2 fun x233 =>
 (if (decide (x233 ≠ s120.1)) = true then
 some (-1 : Int)
 else
 ckI (s120.1 + (1 : Int)) <|
 ckI (s120.2 + (1 : Int)) <|
 nx199 ((s120.1 + (1 : Int)), (s120.2 + (1 : Int))))
 else
 some s120.1)) FUEL (v1, (0 : Int))

def sh_laws_heldEdit (v0 : XEdit) (v1 : Int) : Option Int :=
 (sh_laws_heldIntS v0.Sets v1).bind fun x3 =>
 (if (decide (x3 < (0 : Int))) = true then
 some (-1 : Int)
 else
 some x3)

def sh_laws_FnExactParseEdit (v0 : (List XVariable)) (v1 : (List UInt8)) : Option Bool :=
 (if (decide ((1048576 : Int) < (v1.length : Int))) = true then
 some true
 else
 (sh_laws_szVariableS v0 (1048576 : Int)).bind fun x9 =>
 (if (decide (x9 < (0 : Int))) = true then
 some true
 else
 (sh_laws_toVariableS v0).bind fun x17 =>
 (sh_spec_ParseEdit x17 v1).bind fun x19 =>
 (sh_laws_toVariableS v0).bind fun x23 =>
 (sh_impl_ParseEdit x23 v1).bind fun x27 =>
 (sh_laws_eqEdit x27.1 x19.1).bind fun x39 =>
 (if (!x39) = true then
 some false
 else
 (if (x27.2 != x19.2) = true then
 some false
 else
 (sh_laws_toVariableS v0).bind fun x56 =>
 (sh_laws_eqVariableS x23 x56).bind fun x58 =>
 (if (!x58) = true then
 some false
 else
 (sh_laws_markVariableS x23 (1 : Int)).bind fun x63 =>
 (if (decide (x63.2 < (0 : Int))) = true then
 some false
 else
 (sh_laws_eqEdit x27.1 x19.1).bind fun x78 =>
 (if (!x78) = true then
 some false
 else
 (sh_laws_markEdit x27.1 (1 : Int)).bind fun x83 =>
 (sh_laws_heldEdit x83.1 (1 : Int)).bind fun x87 =>
 (if (decide (x87 < (0 : Int))) = true then
 some false
 else
 (if (decide (x87 ≠ x83.2)) = true then
 some false
 else
 (sh_laws_toVariableS v0).bind fun x97 =>
 (sh_impl_ParseEdit x97 v1).bind fun x99 =>
 (sh_laws_eqEdit x99.1 x19.1).bind fun x111 =>
 (if (!x111) = true then
 some false
 else
 (if (x99.2 != x19.2) = true then
 some false
 else
 (sh_laws_heldEdit x83.1 (1 : Int)).bind fun x117 =>
 (if (decide (x117 < (0 : Int))) = true then
 some false
 else
 (if (decide (x117 ≠ x83.2)) = true then
 some false
 else
 some true)))))))))))))
end AS
