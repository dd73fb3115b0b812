/- Plain functions. No condition. -/
import Derived.Test.YtahffpadaffmdaaKc
set_option linter.unusedVariables false
set_option linter.unusedSimpArgs false
namespace AS
structure XVariable where
  Name : (List UInt8)
  Levels : Int
  deriving DecidableEq, Inhabited
def cXVariable (c0 : Cd (List UInt8)) (c1 : Cd Int) : Cd XVariable := ⟨fun v => .agg [c0.enc v.Name, c1.enc v.Levels], c0.sz + (c1.sz + (0)), true, (c0.im && (c1.im && true)), fun v => by simp only [D.size, D.sizes, Cd.h_sz], fun _ => rfl, fun v => by simp only [D.imm, D.imms, Cd.h_im]⟩
theorem tXVariable {c0 c0' : Cd (List UInt8)} {c1 c1' : Cd Int} (tc0 : ToI c0 c0') (tc1 : ToI c1 c1') : ToI (cXVariable c0 c1) (cXVariable c0' c1') := ⟨fun v => by simp only [cXVariable, D.toImm, D.toImms, tc0.h, tc1.h], by simp only [cXVariable, tc0.im, tc1.im, Bool.and_true]⟩
theorem sXVariable {c0 : Cd (List UInt8)} {c1 : Cd Int} (tc0 : Sol c0) (tc1 : Sol c1) : Sol (cXVariable c0 c1) := ⟨fun v => by simp only [cXVariable, D.solid, D.solids, tc0.h, tc1.h, Bool.and_true]⟩
instance : Bd XVariable := ⟨fun v => Bd.bd v.Name ∧ Bd.bd v.Levels⟩
structure XTable where
  Level : Int
  Vars : (List Int)
  Where : (List Int)
  Sum : Int
  deriving DecidableEq, Inhabited
def cXTable (c0 : Cd Int) (c1 : Cd (List Int)) (c2 : Cd (List Int)) (c3 : Cd Int) : Cd XTable := ⟨fun v => .agg [c0.enc v.Level, c1.enc v.Vars, c2.enc v.Where, c3.enc v.Sum], c0.sz + (c1.sz + (c2.sz + (c3.sz + (0)))), true, (c0.im && (c1.im && (c2.im && (c3.im && true)))), fun v => by simp only [D.size, D.sizes, Cd.h_sz], fun _ => rfl, fun v => by simp only [D.imm, D.imms, Cd.h_im]⟩
theorem tXTable {c0 c0' : Cd Int} {c1 c1' : Cd (List Int)} {c2 c2' : Cd (List Int)} {c3 c3' : Cd Int} (tc0 : ToI c0 c0') (tc1 : ToI c1 c1') (tc2 : ToI c2 c2') (tc3 : ToI c3 c3') : ToI (cXTable c0 c1 c2 c3) (cXTable c0' c1' c2' c3') := ⟨fun v => by simp only [cXTable, D.toImm, D.toImms, tc0.h, tc1.h, tc2.h, tc3.h], by simp only [cXTable, tc0.im, tc1.im, tc2.im, tc3.im, Bool.and_true]⟩
theorem sXTable {c0 : Cd Int} {c1 : Cd (List Int)} {c2 : Cd (List Int)} {c3 : Cd Int} (tc0 : Sol c0) (tc1 : Sol c1) (tc2 : Sol c2) (tc3 : Sol c3) : Sol (cXTable c0 c1 c2 c3) := ⟨fun v => by simp only [cXTable, D.solid, D.solids, tc0.h, tc1.h, tc2.h, tc3.h, Bool.and_true]⟩
instance : Bd XTable := ⟨fun v => Bd.bd v.Level ∧ Bd.bd v.Vars ∧ Bd.bd v.Where ∧ Bd.bd v.Sum⟩
structure XRecord where
  Area : Int
  House : Int
  Values : (List Int)
  deriving DecidableEq, Inhabited
def cXRecord (c0 : Cd Int) (c1 : Cd Int) (c2 : Cd (List Int)) : Cd XRecord := ⟨fun v => .agg [c0.enc v.Area, c1.enc v.House, c2.enc v.Values], c0.sz + (c1.sz + (c2.sz + (0))), true, (c0.im && (c1.im && (c2.im && true))), fun v => by simp only [D.size, D.sizes, Cd.h_sz], fun _ => rfl, fun v => by simp only [D.imm, D.imms, Cd.h_im]⟩
theorem tXRecord {c0 c0' : Cd Int} {c1 c1' : Cd Int} {c2 c2' : Cd (List Int)} (tc0 : ToI c0 c0') (tc1 : ToI c1 c1') (tc2 : ToI c2 c2') : ToI (cXRecord c0 c1 c2) (cXRecord c0' c1' c2') := ⟨fun v => by simp only [cXRecord, D.toImm, D.toImms, tc0.h, tc1.h, tc2.h], by simp only [cXRecord, tc0.im, tc1.im, tc2.im, Bool.and_true]⟩
theorem sXRecord {c0 : Cd Int} {c1 : Cd Int} {c2 : Cd (List Int)} (tc0 : Sol c0) (tc1 : Sol c1) (tc2 : Sol c2) : Sol (cXRecord c0 c1 c2) := ⟨fun v => by simp only [cXRecord, D.solid, D.solids, tc0.h, tc1.h, tc2.h, Bool.and_true]⟩
instance : Bd XRecord := ⟨fun v => Bd.bd v.Area ∧ Bd.bd v.House ∧ Bd.bd v.Values⟩
structure XGeo where
  Parents : (List Int)
  deriving DecidableEq, Inhabited
def cXGeo (c0 : Cd (List Int)) : Cd XGeo := ⟨fun v => .agg [c0.enc v.Parents], c0.sz + (0), true, (c0.im && true), fun v => by simp only [D.size, D.sizes, Cd.h_sz], fun _ => rfl, fun v => by simp only [D.imm, D.imms, Cd.h_im]⟩
theorem tXGeo {c0 c0' : Cd (List Int)} (tc0 : ToI c0 c0') : ToI (cXGeo c0) (cXGeo c0') := ⟨fun v => by simp only [cXGeo, D.toImm, D.toImms, tc0.h], by simp only [cXGeo, tc0.im, Bool.and_true]⟩
theorem sXGeo {c0 : Cd (List Int)} (tc0 : Sol c0) : Sol (cXGeo c0) := ⟨fun v => by simp only [cXGeo, D.solid, D.solids, tc0.h, Bool.and_true]⟩
instance : Bd XGeo := ⟨fun v => Bd.bd v.Parents⟩
def sh_laws_szVariable (v0 : XVariable) (v1 : Int) : Option Int :=
 ckI (v1 - (v0.Name.length : Int)) <|
 (if (decide ((v1 - (v0.Name.length : Int)) < (0 : Int))) = true then
 some (-1 : Int)
 else
 some (v1 - (v0.Name.length : Int)))

def sh_laws_szVariableS (v0 : (List XVariable)) (v1 : Int) : Option Int :=
 ckI (v1 - (v0.length : Int)) <|
 (if (decide ((v1 - (v0.length : Int)) < (0 : Int))) = true then
 some (-1 : Int)
 else
 loopF (fun (nx165 : (Int × Int) → Option Int) (s102 : (Int × Int)) =>
 (if (decide (s102.2 < (v0.length : Int))) = true then
 getO v0 s102.2 fun x190 =>
 (sh_laws_szVariable x190 s102.1).bind fun x193 =>
 (if (decide (x193 < (0 : Int))) = true then
 some (-1 : Int)
 else
 ckI (s102.2 + (1 : Int)) <|
 nx165 (x193, (s102.2 + (1 : Int))))
 else
 some s102.1)) FUEL ((v1 - (v0.length : Int)), (0 : Int)))

def sh_laws_szIntS (v0 : (List Int)) (v1 : Int) : Option Int :=
 ckI (v1 - (v0.length : Int)) <|
 (if (decide ((v1 - (v0.length : Int)) < (0 : Int))) = true then
 some (-1 : Int)
 else
 some (v1 - (v0.length : Int)))

def sh_laws_szRecord (v0 : XRecord) (v1 : Int) : Option Int :=
 (sh_laws_szIntS v0.Values v1).bind fun x3 =>
 (if (decide (x3 < (0 : Int))) = true then
 some (-1 : Int)
 else
 some x3)

def sh_laws_toVariable (v0 : XVariable) : Option XVariable :=
 some (⟨v0.Name, v0.Levels⟩ : XVariable)

def sh_laws_toVariableS (v0 : (List XVariable)) : Option (List XVariable) :=
 mkO (v0.length : Int) <|
 loopF (fun (nx135 : ((List XVariable) × Int) → Option (List XVariable)) (s84 : ((List XVariable) × Int)) =>
 (if (decide (s84.2 < (v0.length : Int))) = true then
 getO v0 s84.2 fun x152 =>
 (sh_laws_toVariable x152).bind fun x155 =>
 getO s84.1 s84.2 fun x157 =>
 ckI (s84.2 + (1 : Int)) <|
 nx135 ((s84.1.set (s84.2).toNat x155), (s84.2 + (1 : Int)))
 else
 some s84.1)) FUEL ((List.replicate ((v0.length : Int)).toNat (⟨([] : List UInt8), (0 : Int)⟩ : XVariable)), (0 : Int))

def sh_laws_toIntS (v0 : (List Int)) : Option (List Int) :=
 mkO (v0.length : Int) <|
 loopF (fun (nx115 : ((List Int) × Int) → Option (List Int)) (s72 : ((List Int) × Int)) =>
 (if (decide (s72.2 < (v0.length : Int))) = true then
 getO v0 s72.2 fun x130 =>
 getO s72.1 s72.2 fun x133 =>
 ckI (s72.2 + (1 : Int)) <|
 nx115 ((s72.1.set (s72.2).toNat x130), (s72.2 + (1 : Int)))
 else
 some s72.1)) FUEL ((List.replicate ((v0.length : Int)).toNat (0 : Int)), (0 : Int))

def sh_laws_toRecord (v0 : XRecord) : Option XRecord :=
 (sh_laws_toIntS v0.Values).bind fun x3 =>
 some (⟨v0.Area, v0.House, x3⟩ : XRecord)

def sh_spec_l1In (v0 : Int) (v1 : Int) (v2 : Int) : Option Bool :=
 (if (decide (v1 ≤ v0)) = true then
 some (decide (v0 ≤ v2))
 else
 some false)

def sh_spec_sName (v0 : (List UInt8)) : Option Bool :=
 loopF (fun (nx139 : Int → Option Bool) (s84 : Int) =>
 (if (decide (s84 < (v0.length : Int))) = true then
 getO v0 s84 fun x161 =>
 (if (decide ((x161.toNat : Int) < (97 : Int))) = true then
 some false
 else
 (if (decide ((122 : Int) < (x161.toNat : Int))) = true then
 some false
 else
 ckI (s84 + (1 : Int)) <|
 nx139 (s84 + (1 : Int))))
 else
 (sh_spec_l1In (v0.length : Int) (1 : Int) (8 : Int)).bind fun x171 =>
 some x171)) FUEL (0 : Int)

def sh_spec_sFind (v0 : (List XVariable)) (v1 : (List UInt8)) : Option Int :=
 rangeF (fun (k18 : Nat) (x19 : XVariable) (s17 : Unit) (nx24 : Unit → Option Int) =>
 (if (decide (x19.Name = v1)) = true then
 some (k18 : Int)
 else
 nx24 ()))
 (fun (s17 : Unit) =>
 some (-1 : Int)) v0 0 ()

def sh_spec_sGood (v0 : (List XVariable)) : Option Bool :=
 (sh_spec_l1In (v0.length : Int) (1 : Int) (6 : Int)).bind fun x12 =>
 (if (!x12) = true then
 some false
 else
 rangeF (fun (k104 : Nat) (x105 : XVariable) (s103 : Unit) (nx146 : Unit → Option Bool) =>
 (sh_spec_sName x105.Name).bind fun x177 =>
 (if (!x177) = true then
 some false
 else
 (sh_spec_l1In x105.Levels (2 : Int) (8 : Int)).bind fun x180 =>
 (if (!x180) = true then
 some false
 else
 ck (0 ≤ (k104 : Int) ∧ 0 ≤ ((k104 : Int)).toNat ∧ ((k104 : Int)).toNat ≤ v0.length) <|
 (sh_spec_sFind ((v0.take ((k104 : Int)).toNat).drop 0) x105.Name).bind fun x184 =>
 (if (decide ((0 : Int) ≤ x184)) = true then
 some false
 else
 nx146 ()))))
 (fun (s103 : Unit) =>
 some true) v0 0 ())

def sh_spec_sFits (v0 : (List XVariable)) (v1 : (List Int)) : Option Bool :=
 (if (decide ((v1.length : Int) ≠ (v0.length : Int))) = true then
 some false
 else
 rangeF (fun (k76 : Nat) (x77 : XVariable) (s75 : Unit) (nx106 : Unit → Option Bool) =>
 getO v1 (k76 : Int) fun x128 =>
 ckI (x77.Levels - (1 : Int)) <|
 (sh_spec_l1In x128 (0 : Int) (x77.Levels - (1 : Int))).bind fun x132 =>
 (if (!x132) = true then
 some false
 else
 nx106 ()))
 (fun (s75 : Unit) =>
 some true) v0 0 ())

def sh_spec_rGood (v0 : (List XVariable)) (v1 : XRecord) : Option Bool :=
 (sh_spec_l1In v1.Area (0 : Int) (29 : Int)).bind fun x9 =>
 (if x9 = true then
 (sh_spec_l1In v1.House (0 : Int) (999 : Int)).bind fun x12 =>
 (if x12 = true then
 (sh_spec_sFits v0 v1.Values).bind fun x15 =>
 some x15
 else
 some false)
 else
 some false)

def sh_impl_isWord (v0 : (List UInt8)) : Option Bool :=
 (if (decide ((v0.length : Int) < (1 : Int))) = true then
 some false
 else
 (if (decide ((8 : Int) < (v0.length : Int))) = true then
 some false
 else
 rangeF (fun (k40 : Nat) (x41 : UInt8) (s39 : Unit) (nx50 : Unit → Option Bool) =>
 (if (decide ((x41.toNat : Int) < (97 : Int))) = true then
 some false
 else
 (if (decide ((122 : Int) < (x41.toNat : Int))) = true then
 some false
 else
 nx50 ())))
 (fun (s39 : Unit) =>
 some true) v0 0 ()))

def sh_impl_IsSchema (v0 : (List XVariable)) : Option Bool :=
 (if (decide ((v0.length : Int) < (1 : Int))) = true then
 some false
 else
 (if (decide ((6 : Int) < (v0.length : Int))) = true then
 some false
 else
 rangeF (fun (k164 : Nat) (x165 : XVariable) (s163 : Unit) (nx236 : Unit → Option Bool) =>
 (sh_impl_isWord x165.Name).bind fun x286 =>
 (if (!x286) = true then
 some false
 else
 (if (decide (x165.Levels < (2 : Int))) = true then
 some false
 else
 (if (decide ((8 : Int) < x165.Levels)) = true then
 some false
 else
 ck (0 ≤ (k164 : Int) ∧ 0 ≤ ((k164 : Int)).toNat ∧ ((k164 : Int)).toNat ≤ v0.length) <|
 rangeF (fun (k296 : Nat) (x297 : XVariable) (s295 : Unit) (nx302 : Unit → Option Bool) =>
 (if (decide (x297.Name = x165.Name)) = true then
 some false
 else
 nx302 ()))
 (fun (s295 : Unit) =>
 nx236 ()) ((v0.take ((k164 : Int)).toNat).drop 0) 0 ()))))
 (fun (s163 : Unit) =>
 some true) v0 0 ()))

def sh_impl_areValues (v0 : (List XVariable)) (v1 : (List Int)) : Option Bool :=
 (if (decide ((v1.length : Int) ≠ (v0.length : Int))) = true then
 some false
 else
 rangeF (fun (k60 : Nat) (x61 : Int) (s59 : Unit) (nx82 : Unit → Option Bool) =>
 (if (decide (x61 < (0 : Int))) = true then
 some false
 else
 getO v0 (k60 : Int) fun x99 =>
 (if (decide (x99.Levels ≤ x61)) = true then
 some false
 else
 nx82 ())))
 (fun (s59 : Unit) =>
 some true) v1 0 ())

def sh_impl_isRecord (v0 : (List XVariable)) (v1 : XRecord) : Option Bool :=
 (((if (decide ((0 : Int) ≤ v1.Area)) = true then
 (if (decide (v1.Area ≤ (29 : Int))) = true then
 (if (decide ((0 : Int) ≤ v1.House)) = true then
 (if (decide (v1.House ≤ (999 : Int))) = true then
 (sh_impl_areValues v0 v1.Values).bind fun x13 =>
 some x13
 else
 some false)
 else
 some false)
 else
 some false)
 else
 some false) : Option Bool).bind fun (s7 : Bool) =>
 some s7)

def sh_laws_eqVariable (v0 : XVariable) (v1 : XVariable) : Option Bool :=
 (if (decide (v0.Name ≠ v1.Name)) = true then
 some false
 else
 (if (decide (v0.Levels ≠ v1.Levels)) = true then
 some false
 else
 some true))

def sh_laws_eqVariableS (v0 : (List XVariable)) (v1 : (List XVariable)) : Option Bool :=
 (if (decide ((v0.length : Int) ≠ (v1.length : Int))) = true then
 some false
 else
 loopF (fun (nx229 : Int → Option Bool) (s142 : Int) =>
 (if (decide (s142 < (v0.length : Int))) = true then
 getO v0 s142 fun x263 =>
 getO v1 s142 fun x266 =>
 (sh_laws_eqVariable x263 x266).bind fun x269 =>
 (if (!x269) = true then
 some false
 else
 ckI (s142 + (1 : Int)) <|
 nx229 (s142 + (1 : Int)))
 else
 some true)) FUEL (0 : Int))

def sh_laws_eqIntS (v0 : (List Int)) (v1 : (List Int)) : Option Bool :=
 (if (decide ((v0.length : Int) ≠ (v1.length : Int))) = true then
 some false
 else
 loopF (fun (nx189 : Int → Option Bool) (s118 : Int) =>
 (if (decide (s118 < (v0.length : Int))) = true then
 getO v0 s118 fun x217 =>
 getO v1 s118 fun x220 =>
 (if (decide (x217 ≠ x220)) = true then
 some false
 else
 ckI (s118 + (1 : Int)) <|
 nx189 (s118 + (1 : Int)))
 else
 some true)) FUEL (0 : Int))

def sh_laws_eqRecord (v0 : XRecord) (v1 : XRecord) : Option Bool :=
 (if (decide (v0.Area ≠ v1.Area)) = true then
 some false
 else
 (if (decide (v0.House ≠ v1.House)) = true then
 some false
 else
 (sh_laws_eqIntS v0.Values v1.Values).bind fun x12 =>
 (if (!x12) = true then
 some false
 else
 some true)))

def sh_laws_szGeo (v0 : XGeo) (v1 : Int) : Option Int :=
 (sh_laws_szIntS v0.Parents v1).bind fun x3 =>
 (if (decide (x3 < (0 : Int))) = true then
 some (-1 : Int)
 else
 some x3)

def sh_laws_toGeo (v0 : XGeo) : Option XGeo :=
 (sh_laws_toIntS v0.Parents).bind fun x3 =>
 some (⟨x3⟩ : XGeo)

def sh_spec_gGood (v0 : XGeo) : Option Bool :=
 (sh_spec_l1In (v0.Parents.length : Int) (1 : Int) (30 : Int)).bind fun x24 =>
 (if (!x24) = true then
 some false
 else
 getO v0.Parents (0 : Int) fun x27 =>
 (if (decide (x27 ≠ (-1 : Int))) = true then
 some false
 else
 rangeF (fun (k80 : Nat) (x81 : Int) (s79 : Unit) (nx102 : Unit → Option Bool) =>
 (if (decide ((0 : Int) < (k80 : Int))) = true then
 ckI ((k80 : Int) - (1 : Int)) <|
 (sh_spec_l1In x81 (0 : Int) ((k80 : Int) - (1 : Int))).bind fun x120 =>
 (if (!x120) = true then
 some false
 else
 nx102 ())
 else
 nx102 ()))
 (fun (s79 : Unit) =>
 some true) v0.Parents 0 ()))

def sh_impl_IsGeo (v0 : XGeo) : Option Bool :=
 (if (decide ((v0.Parents.length : Int) < (1 : Int))) = true then
 some false
 else
 (if (decide ((30 : Int) < (v0.Parents.length : Int))) = true then
 some false
 else
 getO v0.Parents (0 : Int) fun x27 =>
 (if (decide (x27 ≠ (-1 : Int))) = true then
 some false
 else
 loopF (fun (nx169 : Int → Option Bool) (s114 : Int) =>
 (if (decide (s114 < (v0.Parents.length : Int))) = true then
 getO v0.Parents s114 fun x191 =>
 (if (decide (x191 < (0 : Int))) = true then
 some false
 else
 (if (decide (s114 ≤ x191)) = true then
 some false
 else
 ckI (s114 + (1 : Int)) <|
 nx169 (s114 + (1 : Int))))
 else
 some true)) FUEL (1 : Int))))

def sh_laws_eqGeo (v0 : XGeo) (v1 : XGeo) : Option Bool :=
 (sh_laws_eqIntS v0.Parents v1.Parents).bind fun x8 =>
 (if (!x8) = true then
 some false
 else
 some true)

def sh_laws_szRecordS (v0 : (List XRecord)) (v1 : Int) : Option Int :=
 ckI (v1 - (v0.length : Int)) <|
 (if (decide ((v1 - (v0.length : Int)) < (0 : Int))) = true then
 some (-1 : Int)
 else
 loopF (fun (nx165 : (Int × Int) → Option Int) (s102 : (Int × Int)) =>
 (if (decide (s102.2 < (v0.length : Int))) = true then
 getO v0 s102.2 fun x190 =>
 (sh_laws_szRecord x190 s102.1).bind fun x193 =>
 (if (decide (x193 < (0 : Int))) = true then
 some (-1 : Int)
 else
 ckI (s102.2 + (1 : Int)) <|
 nx165 (x193, (s102.2 + (1 : Int))))
 else
 some s102.1)) FUEL ((v1 - (v0.length : Int)), (0 : Int)))

def sh_laws_toRecordS (v0 : (List XRecord)) : Option (List XRecord) :=
 mkO (v0.length : Int) <|
 loopF (fun (nx135 : ((List XRecord) × Int) → Option (List XRecord)) (s84 : ((List XRecord) × Int)) =>
 (if (decide (s84.2 < (v0.length : Int))) = true then
 getO v0 s84.2 fun x152 =>
 (sh_laws_toRecord x152).bind fun x155 =>
 getO s84.1 s84.2 fun x157 =>
 ckI (s84.2 + (1 : Int)) <|
 nx135 ((s84.1.set (s84.2).toNat x155), (s84.2 + (1 : Int)))
 else
 some s84.1)) FUEL ((List.replicate ((v0.length : Int)).toNat (⟨(0 : Int), (0 : Int), ([] : List Int)⟩ : XRecord)), (0 : Int))

def sh_spec_dGood (v0 : (List XVariable)) (v1 : (List XRecord)) : Option Bool :=
 rangeF (fun (k34 : Nat) (x35 : XRecord) (s33 : Unit) (nx48 : Unit → Option Bool) =>
 (sh_spec_rGood v0 x35).bind fun x60 =>
 (if (!x60) = true then
 some false
 else
 nx48 ()))
 (fun (s33 : Unit) =>
 some (decide ((v1.length : Int) ≤ (40 : Int)))) v1 0 ()

def sh_spec_dInput (v0 : (List XVariable)) (v1 : (List XRecord)) : Option Bool :=
 (sh_spec_sGood v0).bind fun x6 =>
 (if x6 = true then
 (sh_spec_dGood v0 v1).bind fun x9 =>
 some x9
 else
 some false)

def sh_spec_gChildren (v0 : XGeo) (v1 : Int) : Option (List Int) :=
 rangeF (fun (k26 : Nat) (x27 : Int) (s25 : (List Int)) (nx38 : (List Int) → Option (List Int)) =>
 (if (decide (x27 = v1)) = true then
 lnO (s25.length + [(k26 : Int)].length) <|
 nx38 (s25 ++ [(k26 : Int)])
 else
 nx38 s25))
 (fun (s25 : (List Int)) =>
 some s25) v0.Parents 0 ([] : List Int)

def sh_spec_gLeaves (v0 : XGeo) : Option (List Int) :=
 rangeF (fun (k62 : Nat) (x63 : Int) (s61 : (List Int)) (nx98 : (List Int) → Option (List Int)) =>
 (sh_spec_gChildren v0 (k62 : Int)).bind fun x112 =>
 (if (decide ((x112.length : Int) = (0 : Int))) = true then
 lnO (s61.length + [(k62 : Int)].length) <|
 nx98 (s61 ++ [(k62 : Int)])
 else
 nx98 s61))
 (fun (s61 : (List Int)) =>
 some s61) v0.Parents 0 ([] : List Int)

def sh_spec_l1Has (v0 : (List Int)) (v1 : Int) : Option Bool :=
 rangeF (fun (k18 : Nat) (x19 : Int) (s17 : Unit) (nx24 : Unit → Option Bool) =>
 (if (decide (x19 = v1)) = true then
 some true
 else
 nx24 ()))
 (fun (s17 : Unit) =>
 some false) v0 0 ()

def sh_spec_uSurvey (v0 : XGeo) (v1 : (List XVariable)) (v2 : (List XRecord)) : Option Bool :=
 (sh_spec_gGood v0).bind fun x17 =>
 (if (!x17) = true then
 some false
 else
 (sh_spec_dInput v1 v2).bind fun x20 =>
 (if (!x20) = true then
 some false
 else
 (sh_spec_gLeaves v0).bind fun x25 =>
 rangeF (fun (k60 : Nat) (x61 : XRecord) (s59 : Unit) (nx74 : Unit → Option Bool) =>
 (sh_spec_l1Has x25 x61.Area).bind fun x84 =>
 (if (!x84) = true then
 some false
 else
 nx74 ()))
 (fun (s59 : Unit) =>
 some true) v2 0 ()))

def sh_spec_IsSurvey (v0 : XGeo) (v1 : (List XVariable)) (v2 : (List XRecord)) : Option (Bool × Bool) :=
 (sh_spec_gGood v0).bind fun x17 =>
 (if (!x17) = true then
 some (false, false)
 else
 (sh_spec_sGood v1).bind fun x20 =>
 (if (!x20) = true then
 some (false, false)
 else
 (sh_spec_uSurvey v0 v1 v2).bind fun x25 =>
 some (x25, true)))

def sh_impl_isData (v0 : (List XVariable)) (v1 : (List XRecord)) : Option Bool :=
 (if (decide ((40 : Int) < (v1.length : Int))) = true then
 some false
 else
 rangeF (fun (k40 : Nat) (x41 : XRecord) (s39 : Unit) (nx54 : Unit → Option Bool) =>
 (sh_impl_isRecord v0 x41).bind fun x64 =>
 (if (!x64) = true then
 some false
 else
 nx54 ()))
 (fun (s39 : Unit) =>
 some true) v1 0 ())

def sh_impl_isArea (v0 : XGeo) (v1 : Int) : Option Bool :=
 (if (decide ((0 : Int) ≤ v1)) = true then
 some (decide (v1 < (v0.Parents.length : Int)))
 else
 some false)

def sh_slices_Index_int (v0 : (List Int)) (v1 : Int) : Option Int :=
 rangeF (fun (k18 : Nat) (x19 : Int) (s17 : Unit) (nx24 : Unit → Option Int) =>
 (if (decide (v1 = x19)) = true then
 some (k18 : Int)
 else
 nx24 ()))
 (fun (s17 : Unit) =>
 some (-1 : Int)) v0 0 ()

def sh_slices_Contains_int (v0 : (List Int)) (v1 : Int) : Option Bool :=
 (sh_slices_Index_int v0 v1).bind fun x3 =>
 some (decide ((0 : Int) ≤ x3))

def sh_impl_isLeaf (v0 : XGeo) (v1 : Int) : Option Bool :=
 (sh_slices_Contains_int v0.Parents v1).bind fun x3 =>
 some (!x3)

def sh_impl_isSurvey (v0 : XGeo) (v1 : (List XVariable)) (v2 : (List XRecord)) : Option Bool :=
 (sh_impl_isData v1 v2).bind fun x8 =>
 (if (!x8) = true then
 some false
 else
 rangeF (fun (k68 : Nat) (x69 : XRecord) (s67 : Unit) (nx94 : Unit → Option Bool) =>
 (sh_impl_isArea v0 x69.Area).bind fun x113 =>
 (if (!x113) = true then
 some false
 else
 (sh_impl_isLeaf v0 x69.Area).bind fun x116 =>
 (if (!x116) = true then
 some false
 else
 nx94 ())))
 (fun (s67 : Unit) =>
 some true) v2 0 ())

def sh_impl_IsSurvey (v0 : XGeo) (v1 : (List XVariable)) (v2 : (List XRecord)) : Option (Bool × Bool) :=
 (sh_impl_IsGeo v0).bind fun x17 =>
 (if (!x17) = true then
 some (false, false)
 else
 (sh_impl_IsSchema v1).bind fun x20 =>
 (if (!x20) = true then
 some (false, false)
 else
 (sh_impl_isSurvey v0 v1 v2).bind fun x25 =>
 some (x25, true)))

def sh_laws_eqRecordS (v0 : (List XRecord)) (v1 : (List XRecord)) : Option Bool :=
 (if (decide ((v0.length : Int) ≠ (v1.length : Int))) = true then
 some false
 else
 loopF (fun (nx229 : Int → Option Bool) (s142 : Int) =>
 (if (decide (s142 < (v0.length : Int))) = true then
 getO v0 s142 fun x263 =>
 getO v1 s142 fun x266 =>
 (sh_laws_eqRecord x263 x266).bind fun x269 =>
 (if (!x269) = true then
 some false
 else
 ckI (s142 + (1 : Int)) <|
 nx229 (s142 + (1 : Int)))
 else
 some true)) FUEL (0 : Int))

def sh_laws_FnExactIsSurvey (v0 : XGeo) (v1 : (List XVariable)) (v2 : (List XRecord)) : Option Bool :=
 (sh_laws_szGeo v0 (1048576 : Int)).bind fun x3 =>
 (if (decide (x3 < (0 : Int))) = true then
 some true
 else
 (sh_laws_szVariableS v1 x3).bind fun x9 =>
 (if (decide (x9 < (0 : Int))) = true then
 some true
 else
 (sh_laws_szRecordS v2 x9).bind fun x15 =>
 (if (decide (x15 < (0 : Int))) = true then
 some true
 else
 (sh_laws_toGeo v0).bind fun x27 =>
 (sh_laws_toVariableS v1).bind fun x29 =>
 (sh_laws_toRecordS v2).bind fun x31 =>
 (sh_spec_IsSurvey x27 x29 x31).bind fun x33 =>
 (sh_laws_toGeo v0).bind fun x37 =>
 (sh_laws_toVariableS v1).bind fun x41 =>
 (sh_laws_toRecordS v2).bind fun x45 =>
 (sh_impl_IsSurvey x37 x41 x45).bind fun x49 =>
 (if (x49.1 != x33.1) = true then
 some false
 else
 (if (x49.2 != x33.2) = true then
 some false
 else
 (sh_laws_toGeo v0).bind fun x70 =>
 (sh_laws_eqGeo x37 x70).bind fun x72 =>
 (if (!x72) = true then
 some false
 else
 (sh_laws_toVariableS v1).bind fun x88 =>
 (sh_laws_eqVariableS x41 x88).bind fun x90 =>
 (if (!x90) = true then
 some false
 else
 (sh_laws_toRecordS v2).bind fun x106 =>
 (sh_laws_eqRecordS x45 x106).bind fun x108 =>
 (if (!x108) = true then
 some false
 else
 some true))))))))
end AS
