/- Plain functions. No condition. -/
import Derived.Test.YtiohllblkcjafaaGreatKc
set_option linter.unusedVariables false
set_option linter.unusedSimpArgs false
namespace AS
structure XCube where
  Sizes : (List Int)
  Cells : (List Int)
  deriving DecidableEq, Inhabited
def cXCube (c0 : Cd (List Int)) (c1 : Cd (List Int)) : Cd XCube := ⟨fun v => .agg [c0.enc v.Sizes, c1.enc v.Cells], c0.sz + (c1.sz + (0)), true, (c0.im && (c1.im && true)), fun v => by simp only [D.size, D.sizes, Cd.h_sz], fun _ => rfl, fun v => by simp only [D.imm, D.imms, Cd.h_im]⟩
theorem tXCube {c0 c0' : Cd (List Int)} {c1 c1' : Cd (List Int)} (tc0 : ToI c0 c0') (tc1 : ToI c1 c1') : ToI (cXCube c0 c1) (cXCube c0' c1') := ⟨fun v => by simp only [cXCube, D.toImm, D.toImms, tc0.h, tc1.h], by simp only [cXCube, tc0.im, tc1.im, Bool.and_true]⟩
theorem sXCube {c0 : Cd (List Int)} {c1 : Cd (List Int)} (tc0 : Sol c0) (tc1 : Sol c1) : Sol (cXCube c0 c1) := ⟨fun v => by simp only [cXCube, D.solid, D.solids, tc0.h, tc1.h, Bool.and_true]⟩
instance : Bd XCube := ⟨fun v => Bd.bd v.Sizes ∧ Bd.bd v.Cells⟩
structure XGeo where
  Parents : (List Int)
  deriving DecidableEq, Inhabited
def cXGeo (c0 : Cd (List Int)) : Cd XGeo := ⟨fun v => .agg [c0.enc v.Parents], c0.sz + (0), true, (c0.im && true), fun v => by simp only [D.size, D.sizes, Cd.h_sz], fun _ => rfl, fun v => by simp only [D.imm, D.imms, Cd.h_im]⟩
theorem tXGeo {c0 c0' : Cd (List Int)} (tc0 : ToI c0 c0') : ToI (cXGeo c0) (cXGeo c0') := ⟨fun v => by simp only [cXGeo, D.toImm, D.toImms, tc0.h], by simp only [cXGeo, tc0.im, Bool.and_true]⟩
theorem sXGeo {c0 : Cd (List Int)} (tc0 : Sol c0) : Sol (cXGeo c0) := ⟨fun v => by simp only [cXGeo, D.solid, D.solids, tc0.h, Bool.and_true]⟩
instance : Bd XGeo := ⟨fun v => Bd.bd v.Parents⟩
structure XVariable where
  Name : (List UInt8)
  Levels : Int
  deriving DecidableEq, Inhabited
def cXVariable (c0 : Cd (List UInt8)) (c1 : Cd Int) : Cd XVariable := ⟨fun v => .agg [c0.enc v.Name, c1.enc v.Levels], c0.sz + (c1.sz + (0)), true, (c0.im && (c1.im && true)), fun v => by simp only [D.size, D.sizes, Cd.h_sz], fun _ => rfl, fun v => by simp only [D.imm, D.imms, Cd.h_im]⟩
theorem tXVariable {c0 c0' : Cd (List UInt8)} {c1 c1' : Cd Int} (tc0 : ToI c0 c0') (tc1 : ToI c1 c1') : ToI (cXVariable c0 c1) (cXVariable c0' c1') := ⟨fun v => by simp only [cXVariable, D.toImm, D.toImms, tc0.h, tc1.h], by simp only [cXVariable, tc0.im, tc1.im, Bool.and_true]⟩
theorem sXVariable {c0 : Cd (List UInt8)} {c1 : Cd Int} (tc0 : Sol c0) (tc1 : Sol c1) : Sol (cXVariable c0 c1) := ⟨fun v => by simp only [cXVariable, D.solid, D.solids, tc0.h, tc1.h, Bool.and_true]⟩
instance : Bd XVariable := ⟨fun v => Bd.bd v.Name ∧ Bd.bd v.Levels⟩
structure XTable where
  Level : Int
  Vars : (List Int)
  Where : (List Int)
  Sum : Int
  deriving DecidableEq, Inhabited
def cXTable (c0 : Cd Int) (c1 : Cd (List Int)) (c2 : Cd (List Int)) (c3 : Cd Int) : Cd XTable := ⟨fun v => .agg [c0.enc v.Level, c1.enc v.Vars, c2.enc v.Where, c3.enc v.Sum], c0.sz + (c1.sz + (c2.sz + (c3.sz + (0)))), true, (c0.im && (c1.im && (c2.im && (c3.im && true)))), fun v => by simp only [D.size, D.sizes, Cd.h_sz], fun _ => rfl, fun v => by simp only [D.imm, D.imms, Cd.h_im]⟩
theorem tXTable {c0 c0' : Cd Int} {c1 c1' : Cd (List Int)} {c2 c2' : Cd (List Int)} {c3 c3' : Cd Int} (tc0 : ToI c0 c0') (tc1 : ToI c1 c1') (tc2 : ToI c2 c2') (tc3 : ToI c3 c3') : ToI (cXTable c0 c1 c2 c3) (cXTable c0' c1' c2' c3') := ⟨fun v => by simp only [cXTable, D.toImm, D.toImms, tc0.h, tc1.h, tc2.h, tc3.h], by simp only [cXTable, tc0.im, tc1.im, tc2.im, tc3.im, Bool.and_true]⟩
theorem sXTable {c0 : Cd Int} {c1 : Cd (List Int)} {c2 : Cd (List Int)} {c3 : Cd Int} (tc0 : Sol c0) (tc1 : Sol c1) (tc2 : Sol c2) (tc3 : Sol c3) : Sol (cXTable c0 c1 c2 c3) := ⟨fun v => by simp only [cXTable, D.solid, D.solids, tc0.h, tc1.h, tc2.h, tc3.h, Bool.and_true]⟩
instance : Bd XTable := ⟨fun v => Bd.bd v.Level ∧ Bd.bd v.Vars ∧ Bd.bd v.Where ∧ Bd.bd v.Sum⟩
structure XRecord where
  Area : Int
  House : Int
  Values : (List Int)
  deriving DecidableEq, Inhabited
def cXRecord (c0 : Cd Int) (c1 : Cd Int) (c2 : Cd (List Int)) : Cd XRecord := ⟨fun v => .agg [c0.enc v.Area, c1.enc v.House, c2.enc v.Values], c0.sz + (c1.sz + (c2.sz + (0))), true, (c0.im && (c1.im && (c2.im && true))), fun v => by simp only [D.size, D.sizes, Cd.h_sz], fun _ => rfl, fun v => by simp only [D.imm, D.imms, Cd.h_im]⟩
theorem tXRecord {c0 c0' : Cd Int} {c1 c1' : Cd Int} {c2 c2' : Cd (List Int)} (tc0 : ToI c0 c0') (tc1 : ToI c1 c1') (tc2 : ToI c2 c2') : ToI (cXRecord c0 c1 c2) (cXRecord c0' c1' c2') := ⟨fun v => by simp only [cXRecord, D.toImm, D.toImms, tc0.h, tc1.h, tc2.h], by simp only [cXRecord, tc0.im, tc1.im, tc2.im, Bool.and_true]⟩
theorem sXRecord {c0 : Cd Int} {c1 : Cd Int} {c2 : Cd (List Int)} (tc0 : Sol c0) (tc1 : Sol c1) (tc2 : Sol c2) : Sol (cXRecord c0 c1 c2) := ⟨fun v => by simp only [cXRecord, D.solid, D.solids, tc0.h, tc1.h, tc2.h, Bool.and_true]⟩
instance : Bd XRecord := ⟨fun v => Bd.bd v.Area ∧ Bd.bd v.House ∧ Bd.bd v.Values⟩
def sh_spec_l1In (v0 : Int) (v1 : Int) (v2 : Int) : Option Bool :=
 (if (decide (v1 ≤ v0)) = true then
 some (decide (v0 ≤ v2))
 else
 some false)

def sh_spec_l1All (v0 : (List Int)) (v1 : Int) (v2 : Int) : Option Bool :=
 rangeF (fun (k34 : Nat) (x35 : Int) (s33 : Unit) (nx48 : Unit → Option Bool) =>
 (sh_spec_l1In x35 v1 v2).bind fun x58 =>
 (if (!x58) = true then
 some false
 else
 nx48 ()))
 (fun (s33 : Unit) =>
 some true) v0 0 ()

def sh_spec_cbCount (v0 : (List Int)) : Option Int :=
 (if (decide ((4 : Int) < (v0.length : Int))) = true then
 some (0 : Int)
 else
 (sh_spec_l1All v0 (1 : Int) (30 : Int)).bind fun x16 =>
 (if (!x16) = true then
 some (0 : Int)
 else
 rangeF (fun (k44 : Nat) (x45 : Int) (s43 : Int) (nx56 : Int → Option Int) =>
 ckI (x45 + (1 : Int)) <|
 ckI (s43 * (x45 + (1 : Int))) <|
 nx56 (s43 * (x45 + (1 : Int))))
 (fun (s43 : Int) =>
 (if (decide ((2000 : Int) < s43)) = true then
 some (0 : Int)
 else
 some s43)) v0 0 (1 : Int)))

def sh_spec_cbIndices (v0 : (List Int)) (v1 : Int) : Option (List Int) :=
 mkO (v0.length : Int) <|
 ckI ((v0.length : Int) - (1 : Int)) <|
 loopF (fun (nx233 : (Int × (List Int) × Int) → Option (List Int)) (s146 : (Int × (List Int) × Int)) =>
 (if (decide ((0 : Int) ≤ s146.2.2)) = true then
 getO v0 s146.2.2 fun x265 =>
 ckI (x265 + (1 : Int)) <|
 ck ((x265 + (1 : Int)) ≠ 0) <|
 getO s146.2.1 s146.2.2 fun x270 =>
 ckI (x265 + (1 : Int)) <|
 ck ((x265 + (1 : Int)) ≠ 0) <|
 ckI (s146.1.tdiv (x265 + (1 : Int))) <|
 ckI (s146.2.2 - (1 : Int)) <|
 nx233 ((s146.1.tdiv (x265 + (1 : Int))), (s146.2.1.set (s146.2.2).toNat (s146.1.tmod (x265 + (1 : Int)))), (s146.2.2 - (1 : Int)))
 else
 some s146.2.1)) FUEL (v1, (List.replicate ((v0.length : Int)).toNat (0 : Int)), ((v0.length : Int) - (1 : Int)))

def sh_spec_cbAt (v0 : (List Int)) (v1 : (List Int)) : Option Int :=
 rangeF (fun (k50 : Nat) (x51 : Int) (s49 : Int) (nx78 : Int → Option Int) =>
 ckI (x51 + (1 : Int)) <|
 ckI (s49 * (x51 + (1 : Int))) <|
 getO v1 (k50 : Int) fun x89 =>
 ckI ((s49 * (x51 + (1 : Int))) + x89) <|
 nx78 ((s49 * (x51 + (1 : Int))) + x89))
 (fun (s49 : Int) =>
 some s49) v0 0 (0 : Int)

def sh_impl_cubeCells (v0 : (List Int)) : Option Int :=
 (if (decide ((4 : Int) < (v0.length : Int))) = true then
 some (0 : Int)
 else
 rangeF (fun (k68 : Nat) (x69 : Int) (s67 : Int) (nx104 : Int → Option Int) =>
 (if (decide (x69 < (1 : Int))) = true then
 some (0 : Int)
 else
 (if (decide ((30 : Int) < x69)) = true then
 some (0 : Int)
 else
 ckI (x69 + (1 : Int)) <|
 ckI (s67 * (x69 + (1 : Int))) <|
 nx104 (s67 * (x69 + (1 : Int))))))
 (fun (s67 : Int) =>
 (if (decide ((2000 : Int) < s67)) = true then
 some (0 : Int)
 else
 some s67)) v0 0 (1 : Int))

def sh_impl_strides (v0 : (List Int)) : Option (List Int) :=
 mkO (v0.length : Int) <|
 ckI ((v0.length : Int) - (1 : Int)) <|
 loopF (fun (nx153 : ((List Int) × Int × Int) → Option (List Int)) (s98 : ((List Int) × Int × Int)) =>
 (if (decide ((0 : Int) ≤ s98.2.2)) = true then
 getO s98.1 s98.2.2 fun x172 =>
 getO v0 s98.2.2 fun x175 =>
 ckI (x175 + (1 : Int)) <|
 ckI (s98.2.1 * (x175 + (1 : Int))) <|
 ckI (s98.2.2 - (1 : Int)) <|
 nx153 ((s98.1.set (s98.2.2).toNat s98.2.1), (s98.2.1 * (x175 + (1 : Int))), (s98.2.2 - (1 : Int)))
 else
 some s98.1)) FUEL ((List.replicate ((v0.length : Int)).toNat (0 : Int)), (1 : Int), ((v0.length : Int) - (1 : Int)))

def sh_impl_indexOf (v0 : (List Int)) (v1 : Int) : Option (List Int) :=
 mkO (v0.length : Int) <|
 (sh_impl_strides v0).bind fun x90 =>
 rangeF (fun (k94 : Nat) (x95 : Int) (s93 : (Int × (List Int))) (nx142 : (Int × (List Int)) → Option (List Int)) =>
 ck (x95 ≠ 0) <|
 ckI (s93.1.tdiv x95) <|
 getO s93.2 (k94 : Int) fun x163 =>
 ck (x95 ≠ 0) <|
 nx142 ((s93.1.tmod x95), (s93.2.set ((k94 : Int)).toNat (s93.1.tdiv x95))))
 (fun (s93 : (Int × (List Int))) =>
 some s93.2) x90 0 (v1, (List.replicate ((v0.length : Int)).toNat (0 : Int)))
def sh_laws_eqIntS (v0 : (List Int)) (v1 : (List Int)) : Option Bool :=
 (if (decide ((v0.length : Int) ≠ (v1.length : Int))) = true then
 some false
 else
 loopF (fun (nx189 : Int → Option Bool) (s118 : Int) =>
 (if (decide (s118 < (v0.length : Int))) = true then
 getO v0 s118 fun x217 =>
 getO v1 s118 fun x220 =>
 (if (decide (x217 ≠ x220)) = true then
 some false
 else
 ckI (s118 + (1 : Int)) <|
 nx189 (s118 + (1 : Int)))
 else
 some true)) FUEL (0 : Int))

def sh_laws_eqCube (v0 : XCube) (v1 : XCube) : Option Bool :=
 (sh_laws_eqIntS v0.Sizes v1.Sizes).bind fun x8 =>
 (if (!x8) = true then
 some false
 else
 (sh_laws_eqIntS v0.Cells v1.Cells).bind fun x18 =>
 (if (!x18) = true then
 some false
 else
 some true))

def sh_laws_markIntS (v0 : (List Int)) (v1 : Int) : Option ((List Int) × Int) :=
 loopF (fun (nx119 : ((List Int) × Int × Int) → Option ((List Int) × Int)) (s72 : ((List Int) × Int × Int)) =>
 (if (decide (s72.2.2 < (s72.1.length : Int))) = true then
 getO s72.1 s72.2.2 fun x138 =>
 ckI (s72.2.1 + (1 : Int)) <|
 ckI (s72.2.2 + (1 : Int)) <|
 nx119 ((s72.1.set (s72.2.2).toNat s72.2.1), (s72.2.1 + (1 : Int)), (s72.2.2 + (1 : Int)))
 else
 some (s72.1, s72.2.1))) FUEL (v0, v1, (0 : Int))

def sh_laws_markCube (v0 : XCube) (v1 : Int) : Option (XCube × Int) :=
 (sh_laws_markIntS v0.Sizes v1).bind fun x3 =>
 (sh_laws_markIntS v0.Cells x3.2).bind fun x7 =>
 some ((⟨x3.1, x7.1⟩ : XCube), x7.2)

def sh_laws_heldIntS (v0 : (List Int)) (v1 : Int) : Option Int :=
 loopF (fun (nx199 : (Int × Int) → Option Int) (s120 : (Int × Int)) =>
 (if (decide (s120.2 < (v0.length : Int))) = true then
 getO v0 s120.2 fun x233 =>
 (if (decide (x233 ≠ s120.1)) = true then
 some (-1 : Int)
 else
 ckI (s120.1 + (1 : Int)) <|
 ckI (s120.2 + (1 : Int)) <|
 nx199 ((s120.1 + (1 : Int)), (s120.2 + (1 : Int))))
 else
 some s120.1)) FUEL (v1, (0 : Int))

def sh_laws_heldCube (v0 : XCube) (v1 : Int) : Option Int :=
 (sh_laws_heldIntS v0.Sizes v1).bind fun x3 =>
 (if (decide (x3 < (0 : Int))) = true then
 some (-1 : Int)
 else
 (sh_laws_heldIntS v0.Cells x3).bind fun x9 =>
 (if (decide (x9 < (0 : Int))) = true then
 some (-1 : Int)
 else
 some x9))

def sh_spec_cbForm (v0 : XCube) : Option Bool :=
 (sh_spec_cbCount v0.Sizes).bind fun x3 =>
 (if (decide ((0 : Int) < x3)) = true then
 (if (decide ((v0.Cells.length : Int) = x3)) = true then
 (sh_spec_l1All v0.Cells (-1000000 : Int) (1000000 : Int)).bind fun x13 =>
 some x13
 else
 some false)
 else
 some false)

def sh_spec_cbParts (v0 : (List Int)) (v1 : Int) (v2 : Int) : Option (List Int) :=
 (sh_spec_cbIndices v0 v1).bind fun x3 =>
 loopF (fun (nx183 : ((List Int) × (List Int) × Int) → Option (List Int)) (s112 : ((List Int) × (List Int) × Int)) =>
 getO v0 v2 fun x196 =>
 (if (decide (s112.2.2 < x196)) = true then
 getO s112.1 v2 fun x212 =>
 (sh_spec_cbAt v0 (s112.1.set (v2).toNat s112.2.2)).bind fun x215 =>
 lnO (s112.2.1.length + [x215].length) <|
 ckI (s112.2.2 + (1 : Int)) <|
 nx183 ((s112.1.set (v2).toNat s112.2.2), (s112.2.1 ++ [x215]), (s112.2.2 + (1 : Int)))
 else
 some s112.2.1)) FUEL (x3, ([] : List Int), (0 : Int))

def sh_spec_cbBroken (v0 : XCube) (v1 : Int) : Option Bool :=
 (sh_spec_cbIndices v0.Sizes v1).bind fun x406 =>
 rangeF (fun (k410 : Nat) (x411 : Int) (s409 : Unit) (nx608 : Unit → Option Bool) =>
 getO v0.Sizes (k410 : Int) fun x718 =>
 (if (decide (x411 ≠ x718)) = true then
 nx608 ()
 else
 (sh_spec_cbParts v0.Sizes v1 (k410 : Int)).bind fun x763 =>
 rangeF (fun (k767 : Nat) (x768 : Int) (s766 : Int) (nx787 : Int → Option Bool) =>
 getO v0.Cells x768 fun x801 =>
 ckI (s766 + x801) <|
 nx787 (s766 + x801))
 (fun (s766 : Int) =>
 getO v0.Cells v1 fun x793 =>
 (if (decide (s766 ≠ x793)) = true then
 some true
 else
 nx608 ())) x763 0 (0 : Int)))
 (fun (s409 : Unit) =>
 some false) x406 0 ()

def sh_spec_cbFirst (v0 : XCube) : Option Int :=
 rangeF (fun (k34 : Nat) (x35 : Int) (s33 : Unit) (nx48 : Unit → Option Int) =>
 (sh_spec_cbBroken v0 (k34 : Int)).bind fun x60 =>
 (if x60 = true then
 some (k34 : Int)
 else
 nx48 ()))
 (fun (s33 : Unit) =>
 some (v0.Cells.length : Int)) v0.Cells 0 ()

def sh_spec_cbGood (v0 : XCube) : Option Bool :=
 (sh_spec_cbForm v0).bind fun x7 =>
 (if x7 = true then
 (sh_spec_cbFirst v0).bind fun x10 =>
 lmO v0.Cells.length <|
 some (decide (x10 = (v0.Cells.length : Int)))
 else
 some false)
def sh_laws_szIntS (v0 : (List Int)) (v1 : Int) : Option Int :=
 ckI (v1 - (v0.length : Int)) <|
 (if (decide ((v1 - (v0.length : Int)) < (0 : Int))) = true then
 some (-1 : Int)
 else
 some (v1 - (v0.length : Int)))

def sh_laws_szGeo (v0 : XGeo) (v1 : Int) : Option Int :=
 (sh_laws_szIntS v0.Parents v1).bind fun x3 =>
 (if (decide (x3 < (0 : Int))) = true then
 some (-1 : Int)
 else
 some x3)

def sh_laws_szVariable (v0 : XVariable) (v1 : Int) : Option Int :=
 ckI (v1 - (v0.Name.length : Int)) <|
 (if (decide ((v1 - (v0.Name.length : Int)) < (0 : Int))) = true then
 some (-1 : Int)
 else
 some (v1 - (v0.Name.length : Int)))

def sh_laws_szVariableS (v0 : (List XVariable)) (v1 : Int) : Option Int :=
 ckI (v1 - (v0.length : Int)) <|
 (if (decide ((v1 - (v0.length : Int)) < (0 : Int))) = true then
 some (-1 : Int)
 else
 loopF (fun (nx165 : (Int × Int) → Option Int) (s102 : (Int × Int)) =>
 (if (decide (s102.2 < (v0.length : Int))) = true then
 getO v0 s102.2 fun x190 =>
 (sh_laws_szVariable x190 s102.1).bind fun x193 =>
 (if (decide (x193 < (0 : Int))) = true then
 some (-1 : Int)
 else
 ckI (s102.2 + (1 : Int)) <|
 nx165 (x193, (s102.2 + (1 : Int))))
 else
 some s102.1)) FUEL ((v1 - (v0.length : Int)), (0 : Int)))

def sh_laws_szTable (v0 : XTable) (v1 : Int) : Option Int :=
 (sh_laws_szIntS v0.Vars v1).bind fun x3 =>
 (if (decide (x3 < (0 : Int))) = true then
 some (-1 : Int)
 else
 (sh_laws_szIntS v0.Where x3).bind fun x9 =>
 (if (decide (x9 < (0 : Int))) = true then
 some (-1 : Int)
 else
 some x9))

def sh_laws_szRecord (v0 : XRecord) (v1 : Int) : Option Int :=
 (sh_laws_szIntS v0.Values v1).bind fun x3 =>
 (if (decide (x3 < (0 : Int))) = true then
 some (-1 : Int)
 else
 some x3)

def sh_laws_szRecordS (v0 : (List XRecord)) (v1 : Int) : Option Int :=
 ckI (v1 - (v0.length : Int)) <|
 (if (decide ((v1 - (v0.length : Int)) < (0 : Int))) = true then
 some (-1 : Int)
 else
 loopF (fun (nx165 : (Int × Int) → Option Int) (s102 : (Int × Int)) =>
 (if (decide (s102.2 < (v0.length : Int))) = true then
 getO v0 s102.2 fun x190 =>
 (sh_laws_szRecord x190 s102.1).bind fun x193 =>
 (if (decide (x193 < (0 : Int))) = true then
 some (-1 : Int)
 else
 ckI (s102.2 + (1 : Int)) <|
 nx165 (x193, (s102.2 + (1 : Int))))
 else
 some s102.1)) FUEL ((v1 - (v0.length : Int)), (0 : Int)))

def sh_laws_toIntS (v0 : (List Int)) : Option (List Int) :=
 mkO (v0.length : Int) <|
 loopF (fun (nx115 : ((List Int) × Int) → Option (List Int)) (s72 : ((List Int) × Int)) =>
 (if (decide (s72.2 < (v0.length : Int))) = true then
 getO v0 s72.2 fun x130 =>
 getO s72.1 s72.2 fun x133 =>
 ckI (s72.2 + (1 : Int)) <|
 nx115 ((s72.1.set (s72.2).toNat x130), (s72.2 + (1 : Int)))
 else
 some s72.1)) FUEL ((List.replicate ((v0.length : Int)).toNat (0 : Int)), (0 : Int))

def sh_laws_toGeo (v0 : XGeo) : Option XGeo :=
 (sh_laws_toIntS v0.Parents).bind fun x3 =>
 some (⟨x3⟩ : XGeo)

def sh_laws_toVariable (v0 : XVariable) : Option XVariable :=
 some (⟨v0.Name, v0.Levels⟩ : XVariable)

def sh_laws_toVariableS (v0 : (List XVariable)) : Option (List XVariable) :=
 mkO (v0.length : Int) <|
 loopF (fun (nx135 : ((List XVariable) × Int) → Option (List XVariable)) (s84 : ((List XVariable) × Int)) =>
 (if (decide (s84.2 < (v0.length : Int))) = true then
 getO v0 s84.2 fun x152 =>
 (sh_laws_toVariable x152).bind fun x155 =>
 getO s84.1 s84.2 fun x157 =>
 ckI (s84.2 + (1 : Int)) <|
 nx135 ((s84.1.set (s84.2).toNat x155), (s84.2 + (1 : Int)))
 else
 some s84.1)) FUEL ((List.replicate ((v0.length : Int)).toNat (⟨([] : List UInt8), (0 : Int)⟩ : XVariable)), (0 : Int))

def sh_laws_toTable (v0 : XTable) : Option XTable :=
 (sh_laws_toIntS v0.Vars).bind fun x3 =>
 (sh_laws_toIntS v0.Where).bind fun x7 =>
 some (⟨v0.Level, x3, x7, v0.Sum⟩ : XTable)

def sh_laws_toRecord (v0 : XRecord) : Option XRecord :=
 (sh_laws_toIntS v0.Values).bind fun x3 =>
 some (⟨v0.Area, v0.House, x3⟩ : XRecord)

def sh_laws_toRecordS (v0 : (List XRecord)) : Option (List XRecord) :=
 mkO (v0.length : Int) <|
 loopF (fun (nx135 : ((List XRecord) × Int) → Option (List XRecord)) (s84 : ((List XRecord) × Int)) =>
 (if (decide (s84.2 < (v0.length : Int))) = true then
 getO v0 s84.2 fun x152 =>
 (sh_laws_toRecord x152).bind fun x155 =>
 getO s84.1 s84.2 fun x157 =>
 ckI (s84.2 + (1 : Int)) <|
 nx135 ((s84.1.set (s84.2).toNat x155), (s84.2 + (1 : Int)))
 else
 some s84.1)) FUEL ((List.replicate ((v0.length : Int)).toNat (⟨(0 : Int), (0 : Int), ([] : List Int)⟩ : XRecord)), (0 : Int))

def sh_spec_gGood (v0 : XGeo) : Option Bool :=
 (sh_spec_l1In (v0.Parents.length : Int) (1 : Int) (30 : Int)).bind fun x24 =>
 (if (!x24) = true then
 some false
 else
 getO v0.Parents (0 : Int) fun x27 =>
 (if (decide (x27 ≠ (-1 : Int))) = true then
 some false
 else
 rangeF (fun (k80 : Nat) (x81 : Int) (s79 : Unit) (nx102 : Unit → Option Bool) =>
 (if (decide ((0 : Int) < (k80 : Int))) = true then
 ckI ((k80 : Int) - (1 : Int)) <|
 (sh_spec_l1In x81 (0 : Int) ((k80 : Int) - (1 : Int))).bind fun x120 =>
 (if (!x120) = true then
 some false
 else
 nx102 ())
 else
 nx102 ()))
 (fun (s79 : Unit) =>
 some true) v0.Parents 0 ()))

def sh_spec_sName (v0 : (List UInt8)) : Option Bool :=
 loopF (fun (nx139 : Int → Option Bool) (s84 : Int) =>
 (if (decide (s84 < (v0.length : Int))) = true then
 getO v0 s84 fun x161 =>
 (if (decide ((x161.toNat : Int) < (97 : Int))) = true then
 some false
 else
 (if (decide ((122 : Int) < (x161.toNat : Int))) = true then
 some false
 else
 ckI (s84 + (1 : Int)) <|
 nx139 (s84 + (1 : Int))))
 else
 (sh_spec_l1In (v0.length : Int) (1 : Int) (8 : Int)).bind fun x171 =>
 some x171)) FUEL (0 : Int)

def sh_spec_sFind (v0 : (List XVariable)) (v1 : (List UInt8)) : Option Int :=
 rangeF (fun (k18 : Nat) (x19 : XVariable) (s17 : Unit) (nx24 : Unit → Option Int) =>
 (if (decide (x19.Name = v1)) = true then
 some (k18 : Int)
 else
 nx24 ()))
 (fun (s17 : Unit) =>
 some (-1 : Int)) v0 0 ()

def sh_spec_sGood (v0 : (List XVariable)) : Option Bool :=
 (sh_spec_l1In (v0.length : Int) (1 : Int) (6 : Int)).bind fun x12 =>
 (if (!x12) = true then
 some false
 else
 rangeF (fun (k104 : Nat) (x105 : XVariable) (s103 : Unit) (nx146 : Unit → Option Bool) =>
 (sh_spec_sName x105.Name).bind fun x177 =>
 (if (!x177) = true then
 some false
 else
 (sh_spec_l1In x105.Levels (2 : Int) (8 : Int)).bind fun x180 =>
 (if (!x180) = true then
 some false
 else
 ck (0 ≤ (k104 : Int) ∧ 0 ≤ ((k104 : Int)).toNat ∧ ((k104 : Int)).toNat ≤ v0.length) <|
 (sh_spec_sFind ((v0.take ((k104 : Int)).toNat).drop 0) x105.Name).bind fun x184 =>
 (if (decide ((0 : Int) ≤ x184)) = true then
 some false
 else
 nx146 ()))))
 (fun (s103 : Unit) =>
 some true) v0 0 ())

def sh_spec_gDepth (v0 : XGeo) (v1 : Int) : Option Int :=
 loopF (fun (nx89 : (Int × Int) → Option Int) (s54 : (Int × Int)) =>
 getO v0.Parents s54.1 fun x102 =>
 (if (decide ((0 : Int) ≤ x102)) = true then
 ckI (s54.2 + (1 : Int)) <|
 nx89 (x102, (s54.2 + (1 : Int)))
 else
 some s54.2)) FUEL (v1, (0 : Int))

def sh_spec_gLevel (v0 : XGeo) (v1 : Int) : Option (List Int) :=
 rangeF (fun (k50 : Nat) (x51 : Int) (s49 : (List Int)) (nx78 : (List Int) → Option (List Int)) =>
 (sh_spec_gDepth v0 (k50 : Int)).bind fun x89 =>
 (if (decide (x89 = v1)) = true then
 lnO (s49.length + [(k50 : Int)].length) <|
 nx78 (s49 ++ [(k50 : Int)])
 else
 nx78 s49))
 (fun (s49 : (List Int)) =>
 some s49) v0.Parents 0 ([] : List Int)

def sh_spec_l1Rising (v0 : (List Int)) (v1 : Int) (v2 : Int) : Option Bool :=
 rangeF (fun (k82 : Nat) (x83 : Int) (s81 : Unit) (nx120 : Unit → Option Bool) =>
 (sh_spec_l1In x83 v1 v2).bind fun x148 =>
 (if (!x148) = true then
 some false
 else
 (if (decide ((0 : Int) < (k82 : Int))) = true then
 ckI ((k82 : Int) - (1 : Int)) <|
 getO v0 ((k82 : Int) - (1 : Int)) fun x153 =>
 (if (decide (x83 ≤ x153)) = true then
 some false
 else
 nx120 ())
 else
 nx120 ())))
 (fun (s81 : Unit) =>
 some true) v0 0 ()

def sh_spec_uWhere (v0 : (List XVariable)) (v1 : (List Int)) : Option Bool :=
 (if (decide ((v1.length : Int) ≠ (v0.length : Int))) = true then
 some false
 else
 rangeF (fun (k100 : Nat) (x101 : XVariable) (s99 : Unit) (nx142 : Unit → Option Bool) =>
 getO v1 (k100 : Int) fun x173 =>
 ckK .u64 x101.Levels <|
 ck (0 ≤ x101.Levels ∧ x101.Levels < 64) <|
 ckI ((1 : Int) * 2 ^ (x101.Levels).toNat) <|
 ckI (((1 : Int) * 2 ^ (x101.Levels).toNat) - (1 : Int)) <|
 (sh_spec_l1In x173 (0 : Int) (((1 : Int) * 2 ^ (x101.Levels).toNat) - (1 : Int))).bind fun x180 =>
 (if (!x180) = true then
 some false
 else
 nx142 ()))
 (fun (s99 : Unit) =>
 some true) v0 0 ())

def sh_spec_sPart (v0 : (List XVariable)) (v1 : (List Int)) : Option (List XVariable) :=
 rangeF (fun (k38 : Nat) (x39 : Int) (s37 : (List XVariable)) (nx58 : (List XVariable) → Option (List XVariable)) =>
 getO v0 x39 fun x65 =>
 lnO (s37.length + [x65].length) <|
 nx58 (s37 ++ [x65]))
 (fun (s37 : (List XVariable)) =>
 some s37) v1 0 ([] : List XVariable)

def sh_spec_sCount (v0 : (List XVariable)) : Option Int :=
 rangeF (fun (k20 : Nat) (x21 : XVariable) (s19 : Int) (nx28 : Int → Option Int) =>
 ckI (s19 * x21.Levels) <|
 nx28 (s19 * x21.Levels))
 (fun (s19 : Int) =>
 some s19) v0 0 (1 : Int)

def sh_spec_uCount (v0 : XGeo) (v1 : (List XVariable)) (v2 : XTable) : Option Int :=
 (sh_spec_gLevel v0 v2.Level).bind fun x9 =>
 lmO x9.length <|
 (sh_spec_sPart v1 v2.Vars).bind fun x12 =>
 (sh_spec_sCount x12).bind fun x14 =>
 ckI ((x9.length : Int) * x14) <|
 some ((x9.length : Int) * x14)

def sh_spec_uGood (v0 : XGeo) (v1 : (List XVariable)) (v2 : XTable) : Option Bool :=
 (((sh_spec_gGood v0).bind fun x77 =>
 (if (!x77) = true then
 some true
 else
 (sh_spec_sGood v1).bind fun x80 =>
 (if (!x80) = true then
 some true
 else
 (sh_spec_gLevel v0 v2.Level).bind fun x83 =>
 (if (decide ((x83.length : Int) = (0 : Int))) = true then
 some true
 else
 ckI ((v1.length : Int) - (1 : Int)) <|
 (sh_spec_l1Rising v2.Vars (0 : Int) ((v1.length : Int) - (1 : Int))).bind fun x89 =>
 (if (!x89) = true then
 some true
 else
 (sh_spec_uWhere v1 v2.Where).bind fun x92 =>
 (if (!x92) = true then
 some true
 else
 ckI ((v1.length : Int) - (1 : Int)) <|
 (sh_spec_l1In v2.Sum (-1 : Int) ((v1.length : Int) - (1 : Int))).bind fun x97 =>
 some (!x97)))))) : Option Bool).bind fun (s70 : Bool) =>
 (if s70 = true then
 some false
 else
 (sh_spec_uCount v0 v1 v2).bind fun x75 =>
 some (decide (x75 ≤ (600 : Int)))))

def sh_spec_sFits (v0 : (List XVariable)) (v1 : (List Int)) : Option Bool :=
 (if (decide ((v1.length : Int) ≠ (v0.length : Int))) = true then
 some false
 else
 rangeF (fun (k76 : Nat) (x77 : XVariable) (s75 : Unit) (nx106 : Unit → Option Bool) =>
 getO v1 (k76 : Int) fun x128 =>
 ckI (x77.Levels - (1 : Int)) <|
 (sh_spec_l1In x128 (0 : Int) (x77.Levels - (1 : Int))).bind fun x132 =>
 (if (!x132) = true then
 some false
 else
 nx106 ()))
 (fun (s75 : Unit) =>
 some true) v0 0 ())
def sh_spec_rGood (v0 : (List XVariable)) (v1 : XRecord) : Option Bool :=
 (sh_spec_l1In v1.Area (0 : Int) (29 : Int)).bind fun x9 =>
 (if x9 = true then
 (sh_spec_l1In v1.House (0 : Int) (999 : Int)).bind fun x12 =>
 (if x12 = true then
 (sh_spec_sFits v0 v1.Values).bind fun x15 =>
 some x15
 else
 some false)
 else
 some false)

def sh_spec_dGood (v0 : (List XVariable)) (v1 : (List XRecord)) : Option Bool :=
 rangeF (fun (k34 : Nat) (x35 : XRecord) (s33 : Unit) (nx48 : Unit → Option Bool) =>
 (sh_spec_rGood v0 x35).bind fun x60 =>
 (if (!x60) = true then
 some false
 else
 nx48 ()))
 (fun (s33 : Unit) =>
 some (decide ((v1.length : Int) ≤ (40 : Int)))) v1 0 ()

def sh_spec_dInput (v0 : (List XVariable)) (v1 : (List XRecord)) : Option Bool :=
 (sh_spec_sGood v0).bind fun x6 =>
 (if x6 = true then
 (sh_spec_dGood v0 v1).bind fun x9 =>
 some x9
 else
 some false)

def sh_spec_gChildren (v0 : XGeo) (v1 : Int) : Option (List Int) :=
 rangeF (fun (k26 : Nat) (x27 : Int) (s25 : (List Int)) (nx38 : (List Int) → Option (List Int)) =>
 (if (decide (x27 = v1)) = true then
 lnO (s25.length + [(k26 : Int)].length) <|
 nx38 (s25 ++ [(k26 : Int)])
 else
 nx38 s25))
 (fun (s25 : (List Int)) =>
 some s25) v0.Parents 0 ([] : List Int)

def sh_spec_gLeaves (v0 : XGeo) : Option (List Int) :=
 rangeF (fun (k62 : Nat) (x63 : Int) (s61 : (List Int)) (nx98 : (List Int) → Option (List Int)) =>
 (sh_spec_gChildren v0 (k62 : Int)).bind fun x112 =>
 (if (decide ((x112.length : Int) = (0 : Int))) = true then
 lnO (s61.length + [(k62 : Int)].length) <|
 nx98 (s61 ++ [(k62 : Int)])
 else
 nx98 s61))
 (fun (s61 : (List Int)) =>
 some s61) v0.Parents 0 ([] : List Int)

def sh_spec_l1Has (v0 : (List Int)) (v1 : Int) : Option Bool :=
 rangeF (fun (k18 : Nat) (x19 : Int) (s17 : Unit) (nx24 : Unit → Option Bool) =>
 (if (decide (x19 = v1)) = true then
 some true
 else
 nx24 ()))
 (fun (s17 : Unit) =>
 some false) v0 0 ()

def sh_spec_uSurvey (v0 : XGeo) (v1 : (List XVariable)) (v2 : (List XRecord)) : Option Bool :=
 (sh_spec_gGood v0).bind fun x17 =>
 (if (!x17) = true then
 some false
 else
 (sh_spec_dInput v1 v2).bind fun x20 =>
 (if (!x20) = true then
 some false
 else
 (sh_spec_gLeaves v0).bind fun x25 =>
 rangeF (fun (k60 : Nat) (x61 : XRecord) (s59 : Unit) (nx74 : Unit → Option Bool) =>
 (sh_spec_l1Has x25 x61.Area).bind fun x84 =>
 (if (!x84) = true then
 some false
 else
 nx74 ()))
 (fun (s59 : Unit) =>
 some true) v2 0 ()))

def sh_spec_sLevels (v0 : (List XVariable)) : Option (List Int) :=
 rangeF (fun (k20 : Nat) (x21 : XVariable) (s19 : (List Int)) (nx28 : (List Int) → Option (List Int)) =>
 lnO (s19.length + [x21.Levels].length) <|
 nx28 (s19 ++ [x21.Levels]))
 (fun (s19 : (List Int)) =>
 some s19) v0 0 ([] : List Int)

def sh_spec_cbSizes (v0 : XGeo) (v1 : (List XVariable)) (v2 : XTable) : Option (List Int) :=
 (sh_spec_gLevel v0 v2.Level).bind fun x9 =>
 lmO x9.length <|
 (sh_spec_sPart v1 v2.Vars).bind fun x12 =>
 (sh_spec_sLevels x12).bind fun x14 =>
 lnO ([(x9.length : Int)].length + x14.length) <|
 some ([(x9.length : Int)] ++ x14)

def sh_spec_gUp (v0 : XGeo) (v1 : Int) (v2 : Int) : Option Int :=
 (sh_spec_gDepth v0 v1).bind fun x3 =>
 (if (decide (v2 < (0 : Int))) = true then
 some (-1 : Int)
 else
 loopF (fun (nx65 : (Int × Int) → Option Int) (s42 : (Int × Int)) =>
 (if (decide (v2 < s42.2)) = true then
 getO v0.Parents s42.1 fun x73 =>
 ckI (s42.2 - (1 : Int)) <|
 nx65 (x73, (s42.2 - (1 : Int)))
 else
 (if (decide (s42.2 < v2)) = true then
 some (-1 : Int)
 else
 some s42.1))) FUEL (v1, x3))

def sh_spec_uMeets (v0 : XTable) (v1 : (List Int)) : Option Bool :=
 rangeF (fun (k98 : Nat) (x99 : Int) (s97 : Unit) (nx144 : Unit → Option Bool) =>
 (if (decide (x99 ≠ (0 : Int))) = true then
 getO v1 (k98 : Int) fun x179 =>
 ckK .u64 x179 <|
 ck (0 ≤ x179 ∧ x179 < 64) <|
 ck (0 ≤ (x99 / 2 ^ (x179).toNat)) <|
 ckK .i64 (x99 / 2 ^ (x179).toNat) <|
 ck (0 ≤ (1 : Int)) <|
 ckK .i64 (1 : Int) <|
 (if (decide ((((x99 / 2 ^ (x179).toNat).toNat &&& (1 : Int).toNat : Nat) : Int) = (0 : Int))) = true then
 some false
 else
 nx144 ())
 else
 nx144 ()))
 (fun (s97 : Unit) =>
 some true) v0.Where 0 ()

def sh_spec_l1Find (v0 : (List Int)) (v1 : Int) : Option Int :=
 rangeF (fun (k18 : Nat) (x19 : Int) (s17 : Unit) (nx24 : Unit → Option Int) =>
 (if (decide (x19 = v1)) = true then
 some (k18 : Int)
 else
 nx24 ()))
 (fun (s17 : Unit) =>
 some (-1 : Int)) v0 0 ()

def sh_spec_sPick (v0 : (List Int)) (v1 : (List Int)) : Option (List Int) :=
 rangeF (fun (k38 : Nat) (x39 : Int) (s37 : (List Int)) (nx58 : (List Int) → Option (List Int)) =>
 getO v0 x39 fun x65 =>
 lnO (s37.length + [x65].length) <|
 nx58 (s37 ++ [x65]))
 (fun (s37 : (List Int)) =>
 some s37) v1 0 ([] : List Int)

def sh_spec_sIndex (v0 : (List XVariable)) (v1 : (List Int)) : Option Int :=
 rangeF (fun (k44 : Nat) (x45 : XVariable) (s43 : Int) (nx68 : Int → Option Int) =>
 ckI (s43 * x45.Levels) <|
 getO v1 (k44 : Int) fun x77 =>
 ckI ((s43 * x45.Levels) + x77) <|
 nx68 ((s43 * x45.Levels) + x77))
 (fun (s43 : Int) =>
 some s43) v0 0 (0 : Int)

def sh_spec_uCell (v0 : XGeo) (v1 : (List XVariable)) (v2 : XTable) (v3 : XRecord) : Option (Int × Int) :=
 (sh_spec_gUp v0 v3.Area v2.Level).bind fun x3 =>
 (if (decide (x3 < (0 : Int))) = true then
 some ((-1 : Int), (0 : Int))
 else
 (sh_spec_uMeets v2 v3.Values).bind fun x16 =>
 (if (!x16) = true then
 some ((-1 : Int), (0 : Int))
 else
 (sh_spec_sPart v1 v2.Vars).bind fun x21 =>
 (sh_spec_gLevel v0 v2.Level).bind fun x35 =>
 (sh_spec_l1Find x35 x3).bind fun x37 =>
 (sh_spec_sCount x21).bind fun x39 =>
 ckI (x37 * x39) <|
 (sh_spec_sPick v3.Values v2.Vars).bind fun x42 =>
 (sh_spec_sIndex x21 x42).bind fun x44 =>
 ckI ((x37 * x39) + x44) <|
 (if (decide (v2.Sum < (0 : Int))) = true then
 some (((x37 * x39) + x44), (1 : Int))
 else
 getO v3.Values v2.Sum fun x52 =>
 some (((x37 * x39) + x44), x52))))

def sh_spec_uTable (v0 : XGeo) (v1 : (List XVariable)) (v2 : XTable) (v3 : (List XRecord)) : Option (List Int) :=
 (sh_spec_uCount v0 v1 v2).bind fun x5 =>
 mkO x5 <|
 rangeF (fun (k76 : Nat) (x77 : XRecord) (s75 : (List Int)) (nx116 : (List Int) → Option (List Int)) =>
 (sh_spec_uCell v0 v1 v2 x77).bind fun x130 =>
 (if (decide ((0 : Int) ≤ x130.1)) = true then
 getO s75 x130.1 fun x133 =>
 ckI (x133 + x130.2) <|
 nx116 (s75.set (x130.1).toNat (x133 + x130.2))
 else
 nx116 s75))
 (fun (s75 : (List Int)) =>
 some s75) v3 0 (List.replicate (x5).toNat (0 : Int))

def sh_spec_l1Own (v0 : (List Int)) : Option (List Int) :=
 lnO (([] : List Int).length + v0.length) <|
 some (([] : List Int) ++ v0)

def sh_spec_cbBase (v0 : (List Int)) : Option (List Int) :=
 loopF (fun (nx814 : ((List Int) × Int) → Option (List Int)) (s489 : ((List Int) × Int)) =>
 (sh_spec_cbCount v0).bind fun x824 =>
 (if (decide (s489.2 < x824)) = true then
 (sh_spec_cbIndices v0 s489.2).bind fun x940 =>
 rangeF (fun (k944 : Nat) (x945 : Int) (s943 : Bool) (nx962 : Bool → Option (List Int)) =>
 (if s943 = true then
 getO v0 (k944 : Int) fun x974 =>
 nx962 (decide (x945 < x974))
 else
 nx962 false))
 (fun (s943 : Bool) =>
 (if s943 = true then
 lnO (s489.1.length + [s489.2].length) <|
 ckI (s489.2 + (1 : Int)) <|
 nx814 ((s489.1 ++ [s489.2]), (s489.2 + (1 : Int)))
 else
 ckI (s489.2 + (1 : Int)) <|
 nx814 (s489.1, (s489.2 + (1 : Int))))) x940 0 true
 else
 some s489.1)) FUEL (([] : List Int), (0 : Int))

def sh_spec_cbOf (v0 : (List Int)) (v1 : (List Int)) : Option XCube :=
 (sh_spec_l1Own v0).bind fun x7 =>
 (sh_spec_cbCount v0).bind fun x9 =>
 mkO x9 <|
 (sh_spec_cbBase v0).bind fun x9408 =>
 rangeF (fun (k9412 : Nat) (x9413 : Int) (s9411 : XCube) (nx15668 : XCube → Option XCube) =>
 (sh_spec_cbIndices v0 x9413).bind fun x17236 =>
 loopF (fun (nx18277 : (XCube × Int) → Option XCube) (s17238 : (XCube × Int)) =>
 ckK .u64 (v0.length : Int) <|
 ck (0 ≤ (v0.length : Int) ∧ (v0.length : Int) < 64) <|
 ckI ((1 : Int) * 2 ^ ((v0.length : Int)).toNat) <|
 (if (decide (s17238.2 < ((1 : Int) * 2 ^ ((v0.length : Int)).toNat))) = true then
 (sh_spec_l1Own x17236).bind fun x18549 =>
 rangeF (fun (k18672 : Nat) (x18673 : Int) (s18671 : (List Int)) (nx18746 : (List Int) → Option XCube) =>
 ckK .u64 (k18672 : Int) <|
 ck (0 ≤ (k18672 : Int) ∧ (k18672 : Int) < 64) <|
 ck (0 ≤ (s17238.2 / 2 ^ ((k18672 : Int)).toNat)) <|
 ckK .i64 (s17238.2 / 2 ^ ((k18672 : Int)).toNat) <|
 ck (0 ≤ (1 : Int)) <|
 ckK .i64 (1 : Int) <|
 (if (decide ((((s17238.2 / 2 ^ ((k18672 : Int)).toNat).toNat &&& (1 : Int).toNat : Nat) : Int) = (1 : Int))) = true then
 getO v0 (k18672 : Int) fun x18791 =>
 getO s18671 (k18672 : Int) fun x18794 =>
 nx18746 (s18671.set ((k18672 : Int)).toNat x18791)
 else
 nx18746 s18671))
 (fun (s18671 : (List Int)) =>
 (sh_spec_cbAt v0 s18671).bind fun x18749 =>
 getO s17238.1.Cells x18749 fun x18751 =>
 getO v1 (k9412 : Int) fun x18754 =>
 ckI (x18751 + x18754) <|
 ckI (s17238.2 + (1 : Int)) <|
 nx18277 ((⟨s17238.1.Sizes, (s17238.1.Cells.set (x18749).toNat (x18751 + x18754))⟩ : XCube), (s17238.2 + (1 : Int)))) x18549 0 x18549
 else
 nx15668 s17238.1)) FUEL (s9411, (0 : Int)))
 (fun (s9411 : XCube) =>
 some s9411) x9408 0 (⟨x7, (List.replicate (x9).toNat (0 : Int))⟩ : XCube)

def sh_spec_cbIf (v0 : XCube) : Option (XCube × Bool) :=
 (sh_spec_cbGood v0).bind fun x8 =>
 (if (!x8) = true then
 some ((⟨([] : List Int), ([] : List Int)⟩ : XCube), false)
 else
 some (v0, true))
def sh_spec_CubeOfTable (v0 : XGeo) (v1 : (List XVariable)) (v2 : XTable) (v3 : (List XRecord)) : Option (XCube × Bool) :=
 (sh_spec_uGood v0 v1 v2).bind fun x32 =>
 (if (!x32) = true then
 some ((⟨([] : List Int), ([] : List Int)⟩ : XCube), false)
 else
 (sh_spec_uSurvey v0 v1 v3).bind fun x35 =>
 (if (!x35) = true then
 some ((⟨([] : List Int), ([] : List Int)⟩ : XCube), false)
 else
 (sh_spec_cbSizes v0 v1 v2).bind fun x38 =>
 (sh_spec_cbCount x38).bind fun x40 =>
 (if (decide (x40 = (0 : Int))) = true then
 some ((⟨([] : List Int), ([] : List Int)⟩ : XCube), false)
 else
 (sh_spec_cbSizes v0 v1 v2).bind fun x51 =>
 (sh_spec_uTable v0 v1 v2 v3).bind fun x53 =>
 (sh_spec_cbOf x51 x53).bind fun x55 =>
 (sh_spec_cbIf x55).bind fun x57 =>
 some (x57.1, x57.2))))

def sh_impl_IsGeo (v0 : XGeo) : Option Bool :=
 (if (decide ((v0.Parents.length : Int) < (1 : Int))) = true then
 some false
 else
 (if (decide ((30 : Int) < (v0.Parents.length : Int))) = true then
 some false
 else
 getO v0.Parents (0 : Int) fun x27 =>
 (if (decide (x27 ≠ (-1 : Int))) = true then
 some false
 else
 loopF (fun (nx169 : Int → Option Bool) (s114 : Int) =>
 (if (decide (s114 < (v0.Parents.length : Int))) = true then
 getO v0.Parents s114 fun x191 =>
 (if (decide (x191 < (0 : Int))) = true then
 some false
 else
 (if (decide (s114 ≤ x191)) = true then
 some false
 else
 ckI (s114 + (1 : Int)) <|
 nx169 (s114 + (1 : Int))))
 else
 some true)) FUEL (1 : Int))))

def sh_impl_isWord (v0 : (List UInt8)) : Option Bool :=
 (if (decide ((v0.length : Int) < (1 : Int))) = true then
 some false
 else
 (if (decide ((8 : Int) < (v0.length : Int))) = true then
 some false
 else
 rangeF (fun (k40 : Nat) (x41 : UInt8) (s39 : Unit) (nx50 : Unit → Option Bool) =>
 (if (decide ((x41.toNat : Int) < (97 : Int))) = true then
 some false
 else
 (if (decide ((122 : Int) < (x41.toNat : Int))) = true then
 some false
 else
 nx50 ())))
 (fun (s39 : Unit) =>
 some true) v0 0 ()))

def sh_impl_IsSchema (v0 : (List XVariable)) : Option Bool :=
 (if (decide ((v0.length : Int) < (1 : Int))) = true then
 some false
 else
 (if (decide ((6 : Int) < (v0.length : Int))) = true then
 some false
 else
 rangeF (fun (k164 : Nat) (x165 : XVariable) (s163 : Unit) (nx236 : Unit → Option Bool) =>
 (sh_impl_isWord x165.Name).bind fun x286 =>
 (if (!x286) = true then
 some false
 else
 (if (decide (x165.Levels < (2 : Int))) = true then
 some false
 else
 (if (decide ((8 : Int) < x165.Levels)) = true then
 some false
 else
 ck (0 ≤ (k164 : Int) ∧ 0 ≤ ((k164 : Int)).toNat ∧ ((k164 : Int)).toNat ≤ v0.length) <|
 rangeF (fun (k296 : Nat) (x297 : XVariable) (s295 : Unit) (nx302 : Unit → Option Bool) =>
 (if (decide (x297.Name = x165.Name)) = true then
 some false
 else
 nx302 ()))
 (fun (s295 : Unit) =>
 nx236 ()) ((v0.take ((k164 : Int)).toNat).drop 0) 0 ()))))
 (fun (s163 : Unit) =>
 some true) v0 0 ()))

def sh_impl_areVars (v0 : (List XVariable)) (v1 : (List Int)) : Option Bool :=
 rangeF (fun (k74 : Nat) (x75 : Int) (s73 : Int) (nx118 : Int → Option Bool) =>
 (if (decide (x75 ≤ s73)) = true then
 some false
 else
 (if (decide ((v0.length : Int) ≤ x75)) = true then
 some false
 else
 nx118 x75)))
 (fun (s73 : Int) =>
 some true) v1 0 (-1 : Int)

def sh_impl_fullSet (v0 : XVariable) : Option Int :=
 ck (0 ≤ v0.Levels ∧ v0.Levels < 64) <|
 ckI ((1 : Int) * 2 ^ (v0.Levels).toNat) <|
 ckI (((1 : Int) * 2 ^ (v0.Levels).toNat) - (1 : Int)) <|
 some (((1 : Int) * 2 ^ (v0.Levels).toNat) - (1 : Int))

def sh_impl_isWhere (v0 : (List XVariable)) (v1 : (List Int)) : Option Bool :=
 (if (decide ((v1.length : Int) ≠ (v0.length : Int))) = true then
 some false
 else
 rangeF (fun (k76 : Nat) (x77 : Int) (s75 : Unit) (nx106 : Unit → Option Bool) =>
 (if (decide (x77 < (0 : Int))) = true then
 some false
 else
 getO v0 (k76 : Int) fun x129 =>
 (sh_impl_fullSet x129).bind fun x132 =>
 (if (decide (x132 < x77)) = true then
 some false
 else
 nx106 ())))
 (fun (s75 : Unit) =>
 some true) v1 0 ())

def sh_impl_depthOf (v0 : XGeo) (v1 : Int) : Option Int :=
 loopF (fun (nx59 : (Int × Int) → Option Int) (s36 : (Int × Int)) =>
 (if (decide ((0 : Int) < s36.1)) = true then
 getO v0.Parents s36.1 fun x67 =>
 ckI (s36.2 + (1 : Int)) <|
 nx59 (x67, (s36.2 + (1 : Int)))
 else
 some s36.2)) FUEL (v1, (0 : Int))

def sh_impl_areasAt (v0 : XGeo) (v1 : Int) : Option (List Int) :=
 rangeF (fun (k50 : Nat) (x51 : Int) (s49 : (List Int)) (nx78 : (List Int) → Option (List Int)) =>
 (sh_impl_depthOf v0 (k50 : Int)).bind fun x89 =>
 (if (decide (x89 = v1)) = true then
 lnO (s49.length + [(k50 : Int)].length) <|
 nx78 (s49 ++ [(k50 : Int)])
 else
 nx78 s49))
 (fun (s49 : (List Int)) =>
 some s49) v0.Parents 0 ([] : List Int)

def sh_impl_crossed (v0 : (List XVariable)) (v1 : XTable) : Option (List XVariable) :=
 mkO (v1.Vars.length : Int) <|
 rangeF (fun (k56 : Nat) (x57 : Int) (s55 : (List XVariable)) (nx84 : (List XVariable) → Option (List XVariable)) =>
 getO v0 x57 fun x93 =>
 getO s55 (k56 : Int) fun x96 =>
 nx84 (s55.set ((k56 : Int)).toNat x93))
 (fun (s55 : (List XVariable)) =>
 some s55) v1.Vars 0 (List.replicate ((v1.Vars.length : Int)).toNat (⟨([] : List UInt8), (0 : Int)⟩ : XVariable))

def sh_impl_combinations (v0 : (List XVariable)) : Option Int :=
 rangeF (fun (k20 : Nat) (x21 : XVariable) (s19 : Int) (nx28 : Int → Option Int) =>
 ckI (s19 * x21.Levels) <|
 nx28 (s19 * x21.Levels))
 (fun (s19 : Int) =>
 some s19) v0 0 (1 : Int)

def sh_impl_cellCount (v0 : XGeo) (v1 : (List XVariable)) (v2 : XTable) : Option Int :=
 (sh_impl_areasAt v0 v2.Level).bind fun x9 =>
 lmO x9.length <|
 (sh_impl_crossed v1 v2).bind fun x12 =>
 (sh_impl_combinations x12).bind fun x14 =>
 ckI ((x9.length : Int) * x14) <|
 some ((x9.length : Int) * x14)

def sh_impl_isTable (v0 : XGeo) (v1 : (List XVariable)) (v2 : XTable) : Option Bool :=
 (((sh_impl_areVars v1 v2.Vars).bind fun x37 =>
 (if (!x37) = true then
 some true
 else
 (sh_impl_isWhere v1 v2.Where).bind fun x40 =>
 (if (!x40) = true then
 some true
 else
 (if (decide (v2.Sum < (-1 : Int))) = true then
 some true
 else
 some (decide ((v1.length : Int) ≤ v2.Sum))))) : Option Bool).bind fun (s28 : Bool) =>
 (if s28 = true then
 some false
 else
 (sh_impl_cellCount v0 v1 v2).bind fun x33 =>
 (if (decide ((0 : Int) < x33)) = true then
 some (decide (x33 ≤ (600 : Int)))
 else
 some false)))

def sh_impl_areTabled (v0 : XGeo) (v1 : (List XVariable)) (v2 : XTable) : Option Bool :=
 (sh_impl_IsGeo v0).bind fun x9 =>
 (if x9 = true then
 (sh_impl_IsSchema v1).bind fun x12 =>
 (if x12 = true then
 (sh_impl_isTable v0 v1 v2).bind fun x15 =>
 some x15
 else
 some false)
 else
 some false)

def sh_impl_areValues (v0 : (List XVariable)) (v1 : (List Int)) : Option Bool :=
 (if (decide ((v1.length : Int) ≠ (v0.length : Int))) = true then
 some false
 else
 rangeF (fun (k60 : Nat) (x61 : Int) (s59 : Unit) (nx82 : Unit → Option Bool) =>
 (if (decide (x61 < (0 : Int))) = true then
 some false
 else
 getO v0 (k60 : Int) fun x99 =>
 (if (decide (x99.Levels ≤ x61)) = true then
 some false
 else
 nx82 ())))
 (fun (s59 : Unit) =>
 some true) v1 0 ())

def sh_impl_isRecord (v0 : (List XVariable)) (v1 : XRecord) : Option Bool :=
 (((if (decide ((0 : Int) ≤ v1.Area)) = true then
 (if (decide (v1.Area ≤ (29 : Int))) = true then
 (if (decide ((0 : Int) ≤ v1.House)) = true then
 (if (decide (v1.House ≤ (999 : Int))) = true then
 (sh_impl_areValues v0 v1.Values).bind fun x13 =>
 some x13
 else
 some false)
 else
 some false)
 else
 some false)
 else
 some false) : Option Bool).bind fun (s7 : Bool) =>
 some s7)

def sh_impl_isData (v0 : (List XVariable)) (v1 : (List XRecord)) : Option Bool :=
 (if (decide ((40 : Int) < (v1.length : Int))) = true then
 some false
 else
 rangeF (fun (k40 : Nat) (x41 : XRecord) (s39 : Unit) (nx54 : Unit → Option Bool) =>
 (sh_impl_isRecord v0 x41).bind fun x64 =>
 (if (!x64) = true then
 some false
 else
 nx54 ()))
 (fun (s39 : Unit) =>
 some true) v1 0 ())

def sh_impl_isArea (v0 : XGeo) (v1 : Int) : Option Bool :=
 (if (decide ((0 : Int) ≤ v1)) = true then
 some (decide (v1 < (v0.Parents.length : Int)))
 else
 some false)

def sh_slices_Index_int (v0 : (List Int)) (v1 : Int) : Option Int :=
 rangeF (fun (k18 : Nat) (x19 : Int) (s17 : Unit) (nx24 : Unit → Option Int) =>
 (if (decide (v1 = x19)) = true then
 some (k18 : Int)
 else
 nx24 ()))
 (fun (s17 : Unit) =>
 some (-1 : Int)) v0 0 ()

def sh_slices_Contains_int (v0 : (List Int)) (v1 : Int) : Option Bool :=
 (sh_slices_Index_int v0 v1).bind fun x3 =>
 some (decide ((0 : Int) ≤ x3))

def sh_impl_isLeaf (v0 : XGeo) (v1 : Int) : Option Bool :=
 (sh_slices_Contains_int v0.Parents v1).bind fun x3 =>
 some (!x3)

def sh_impl_isSurvey (v0 : XGeo) (v1 : (List XVariable)) (v2 : (List XRecord)) : Option Bool :=
 (sh_impl_isData v1 v2).bind fun x8 =>
 (if (!x8) = true then
 some false
 else
 rangeF (fun (k68 : Nat) (x69 : XRecord) (s67 : Unit) (nx94 : Unit → Option Bool) =>
 (sh_impl_isArea v0 x69.Area).bind fun x113 =>
 (if (!x113) = true then
 some false
 else
 (sh_impl_isLeaf v0 x69.Area).bind fun x116 =>
 (if (!x116) = true then
 some false
 else
 nx94 ())))
 (fun (s67 : Unit) =>
 some true) v2 0 ())

def sh_impl_ancestorAt (v0 : XGeo) (v1 : Int) (v2 : Int) : Option Int :=
 (sh_impl_depthOf v0 v1).bind fun x3 =>
 (if (decide (v2 < (0 : Int))) = true then
 some (-1 : Int)
 else
 (if (decide (x3 < v2)) = true then
 some (-1 : Int)
 else
 loopF (fun (nx69 : (Int × Int) → Option Int) (s46 : (Int × Int)) =>
 (if (decide (v2 < s46.2)) = true then
 getO v0.Parents s46.1 fun x77 =>
 ckI (s46.2 - (1 : Int)) <|
 nx69 (x77, (s46.2 - (1 : Int)))
 else
 some s46.1)) FUEL (v1, x3)))
def sh_impl_meetsWhere (v0 : XTable) (v1 : XRecord) : Option Bool :=
 rangeF (fun (k90 : Nat) (x91 : Int) (s89 : Unit) (nx132 : Unit → Option Bool) =>
 (if (decide (x91 ≠ (0 : Int))) = true then
 getO v1.Values (k90 : Int) fun x164 =>
 ck (0 ≤ x164 ∧ x164 < 64) <|
 ck (0 ≤ (x91 / 2 ^ (x164).toNat)) <|
 ckK .i64 (x91 / 2 ^ (x164).toNat) <|
 ck (0 ≤ (1 : Int)) <|
 ckK .i64 (1 : Int) <|
 (if (decide ((((x91 / 2 ^ (x164).toNat).toNat &&& (1 : Int).toNat : Nat) : Int) = (0 : Int))) = true then
 some false
 else
 nx132 ())
 else
 nx132 ()))
 (fun (s89 : Unit) =>
 some true) v0.Where 0 ()

def sh_cmp_isNaN_int (v0 : Int) : Option Bool :=
 some (decide (v0 ≠ v0))

def sh_cmp_Less_int (v0 : Int) (v1 : Int) : Option Bool :=
 (sh_cmp_isNaN_int v0).bind fun x7 =>
 (if x7 = true then
 (sh_cmp_isNaN_int v1).bind fun x10 =>
 (if (!x10) = true then
 some true
 else
 some (decide (v0 < v1)))
 else
 some (decide (v0 < v1)))

def sh_slices_isNaN_int (v0 : Int) : Option Bool :=
 some (decide (v0 ≠ v0))

def sh_slices_BinarySearch_int (v0 : (List Int)) (v1 : Int) : Option (Int × Bool) :=
 loopF (fun (nx126 : (Int × Int) → Option (Int × Bool)) (s77 : (Int × Int)) =>
 (if (decide (s77.1 < s77.2)) = true then
 ckI (s77.1 + s77.2) <|
 ckK .u64 (s77.1 + s77.2) <|
 ck (0 ≤ (1 : Int) ∧ (1 : Int) < 64) <|
 ckI ((s77.1 + s77.2) / 2 ^ ((1 : Int)).toNat) <|
 getO v0 ((s77.1 + s77.2) / 2 ^ ((1 : Int)).toNat) fun x144 =>
 (sh_cmp_Less_int x144 v1).bind fun x147 =>
 (if x147 = true then
 ckI (((s77.1 + s77.2) / 2 ^ ((1 : Int)).toNat) + (1 : Int)) <|
 nx126 ((((s77.1 + s77.2) / 2 ^ ((1 : Int)).toNat) + (1 : Int)), s77.2)
 else
 nx126 (s77.1, ((s77.1 + s77.2) / 2 ^ ((1 : Int)).toNat)))
 else
 (((if (decide (s77.1 < (v0.length : Int))) = true then
 getO v0 s77.1 fun x164 =>
 (if (decide (x164 = v1)) = true then
 some true
 else
 (sh_slices_isNaN_int x164).bind fun x168 =>
 (if x168 = true then
 (sh_slices_isNaN_int v1).bind fun x171 =>
 some x171
 else
 some false))
 else
 some false) : Option Bool).bind fun (s161 : Bool) =>
 some (s77.1, s161)))) FUEL ((0 : Int), (v0.length : Int))

def sh_impl_indexOfValues (v0 : (List XVariable)) (v1 : (List Int)) : Option Int :=
 rangeF (fun (k44 : Nat) (x45 : Int) (s43 : Int) (nx68 : Int → Option Int) =>
 getO v0 (k44 : Int) fun x76 =>
 ckI (s43 * x76.Levels) <|
 ckI ((s43 * x76.Levels) + x45) <|
 nx68 ((s43 * x76.Levels) + x45))
 (fun (s43 : Int) =>
 some s43) v1 0 (0 : Int)

def sh_impl_cellIndex (v0 : XGeo) (v1 : (List XVariable)) (v2 : XTable) (v3 : Int) (v4 : (List Int)) : Option Int :=
 (sh_impl_areasAt v0 v2.Level).bind fun x5 =>
 (sh_slices_BinarySearch_int x5 v3).bind fun x7 =>
 (if (!x7.2) = true then
 some (-1 : Int)
 else
 (sh_impl_crossed v1 v2).bind fun x13 =>
 (sh_impl_combinations x13).bind fun x21 =>
 ckI (x7.1 * x21) <|
 (sh_impl_indexOfValues x13 v4).bind fun x24 =>
 ckI ((x7.1 * x21) + x24) <|
 some ((x7.1 * x21) + x24))

def sh_impl_contribution (v0 : XGeo) (v1 : (List XVariable)) (v2 : XTable) (v3 : XRecord) : Option (Int × Int) :=
 (sh_impl_ancestorAt v0 v3.Area v2.Level).bind fun x3 =>
 (if (decide (x3 < (0 : Int))) = true then
 some ((-1 : Int), (0 : Int))
 else
 (sh_impl_meetsWhere v2 v3).bind fun x16 =>
 (if (!x16) = true then
 some ((-1 : Int), (0 : Int))
 else
 mkO (v2.Vars.length : Int) <|
 rangeF (fun (k74 : Nat) (x75 : Int) (s73 : (List Int)) (nx102 : (List Int) → Option (Int × Int)) =>
 getO v3.Values x75 fun x125 =>
 getO s73 (k74 : Int) fun x128 =>
 nx102 (s73.set ((k74 : Int)).toNat x125))
 (fun (s73 : (List Int)) =>
 (((if (decide ((0 : Int) ≤ v2.Sum)) = true then
 getO v3.Values v2.Sum fun x116 =>
 some x116
 else
 some (1 : Int)) : Option Int).bind fun (s109 : Int) =>
 (sh_impl_cellIndex v0 v1 v2 x3 s73).bind fun x113 =>
 some (x113, s109))) v2.Vars 0 (List.replicate ((v2.Vars.length : Int)).toNat (0 : Int))))

def sh_impl_tableOf (v0 : XGeo) (v1 : (List XVariable)) (v2 : XTable) (v3 : (List XRecord)) : Option (List Int) :=
 (sh_impl_cellCount v0 v1 v2).bind fun x5 =>
 mkO x5 <|
 rangeF (fun (k76 : Nat) (x77 : XRecord) (s75 : (List Int)) (nx116 : (List Int) → Option (List Int)) =>
 (sh_impl_contribution v0 v1 v2 x77).bind fun x130 =>
 (if (decide ((0 : Int) ≤ x130.1)) = true then
 getO s75 x130.1 fun x133 =>
 ckI (x133 + x130.2) <|
 nx116 (s75.set (x130.1).toNat (x133 + x130.2))
 else
 nx116 s75))
 (fun (s75 : (List Int)) =>
 some s75) v3 0 (List.replicate (x5).toNat (0 : Int))

def sh_slices_Clone_int (v0 : (List Int)) : Option (List Int) :=
 nilO v0 false fun b11 =>
 (if b11 = true then
 some ([] : List Int)
 else
 lnO (([] : List Int).length + v0.length) <|
 some (([] : List Int) ++ v0))

def sh_impl_isBase (v0 : (List Int)) (v1 : (List Int)) : Option Bool :=
 rangeF (fun (k42 : Nat) (x43 : Int) (s41 : Unit) (nx60 : Unit → Option Bool) =>
 getO v0 (k42 : Int) fun x73 =>
 (if (decide (x43 = x73)) = true then
 some false
 else
 nx60 ()))
 (fun (s41 : Unit) =>
 some true) v1 0 ()

def sh_impl_areCubeValues (v0 : (List Int)) : Option Bool :=
 rangeF (fun (k26 : Nat) (x27 : Int) (s25 : Unit) (nx36 : Unit → Option Bool) =>
 (if (decide (x27 < (-1000000 : Int))) = true then
 some false
 else
 (if (decide ((1000000 : Int) < x27)) = true then
 some false
 else
 nx36 ())))
 (fun (s25 : Unit) =>
 some true) v0 0 ()

def sh_impl_cubeOf (v0 : (List Int)) (v1 : (List Int)) : Option (XCube × Bool) :=
 (sh_slices_Clone_int v0).bind fun x7 =>
 (sh_impl_cubeCells v0).bind fun x9 =>
 mkO x9 <|
 rangeF (fun (k86 : Nat) (x87 : Int) (s85 : Int) (nx130 : Int → Option (XCube × Bool)) =>
 (sh_impl_indexOf v0 (k86 : Int)).bind fun x9727 =>
 (sh_impl_isBase v0 x9727).bind fun x9729 =>
 (if x9729 = true then
 ckI (s85 + (1 : Int)) <|
 nx130 (s85 + (1 : Int))
 else
 nx130 s85))
 (fun (s85 : Int) =>
 (if (decide (s85 ≠ (v1.length : Int))) = true then
 some ((⟨([] : List Int), ([] : List Int)⟩ : XCube), false)
 else
 (sh_impl_areCubeValues v1).bind fun x148 =>
 (if (!x148) = true then
 some ((⟨([] : List Int), ([] : List Int)⟩ : XCube), false)
 else
 rangeF (fun (k284 : Nat) (x285 : Int) (s283 : (XCube × Int)) (nx364 : (XCube × Int) → Option (XCube × Bool)) =>
 (sh_impl_indexOf v0 (k284 : Int)).bind fun x9695 =>
 (sh_impl_isBase v0 x9695).bind fun x9697 =>
 (if x9697 = true then
 getO v1 s283.2 fun x9706 =>
 getO s283.1.Cells (k284 : Int) fun x9709 =>
 ckI (s283.2 + (1 : Int)) <|
 nx364 ((⟨s283.1.Sizes, (s283.1.Cells.set ((k284 : Int)).toNat x9706)⟩ : XCube), (s283.2 + (1 : Int)))
 else
 nx364 (s283.1, s283.2)))
 (fun (s283 : (XCube × Int)) =>
 (sh_impl_strides v0).bind fun x5016 =>
 rangeF (fun (k5020 : Nat) (x5021 : Int) (s5019 : XCube) (nx8112 : XCube → Option (XCube × Bool)) =>
 rangeF (fun (k8900 : Nat) (x8901 : Int) (s8899 : XCube) (nx9408 : XCube → Option (XCube × Bool)) =>
 (sh_impl_indexOf v0 (k8900 : Int)).bind fun x9542 =>
 getO x9542 (k5020 : Int) fun x9584 =>
 getO v0 (k5020 : Int) fun x9587 =>
 (if (decide (x9584 ≠ x9587)) = true then
 nx9408 s8899
 else
 ckI ((k5020 : Int) + (1 : Int)) <|
 ck (0 ≤ ((k5020 : Int) + (1 : Int)) ∧ (((k5020 : Int) + (1 : Int))).toNat ≤ v0.length ∧ v0.length ≤ v0.length) <|
 ckI ((k5020 : Int) + (1 : Int)) <|
 ck (0 ≤ ((k5020 : Int) + (1 : Int)) ∧ (((k5020 : Int) + (1 : Int))).toNat ≤ x9542.length ∧ x9542.length ≤ x9542.length) <|
 (sh_impl_isBase ((v0.take v0.length).drop (((k5020 : Int) + (1 : Int))).toNat) ((x9542.take x9542.length).drop (((k5020 : Int) + (1 : Int))).toNat)).bind fun x9595 =>
 (if (!x9595) = true then
 nx9408 s8899
 else
 loopF (fun (nx9645 : (XCube × Int) → Option (XCube × Bool)) (s9598 : (XCube × Int)) =>
 (if (decide (s9598.2 ≤ x9587)) = true then
 getO s9598.1.Cells (k8900 : Int) fun x9659 =>
 ckI (s9598.2 * x5021) <|
 ckI ((k8900 : Int) - (s9598.2 * x5021)) <|
 getO s9598.1.Cells ((k8900 : Int) - (s9598.2 * x5021)) fun x9664 =>
 ckI (x9659 + x9664) <|
 ckI (s9598.2 + (1 : Int)) <|
 nx9645 ((⟨s9598.1.Sizes, (s9598.1.Cells.set ((k8900 : Int)).toNat (x9659 + x9664))⟩ : XCube), (s9598.2 + (1 : Int)))
 else
 nx9408 s9598.1)) FUEL (s8899, (1 : Int)))))
 (fun (s8899 : XCube) =>
 nx8112 s8899) s5019.Cells 0 s5019)
 (fun (s5019 : XCube) =>
 (sh_impl_areCubeValues s5019.Cells).bind fun x8122 =>
 (if (!x8122) = true then
 some ((⟨([] : List Int), ([] : List Int)⟩ : XCube), false)
 else
 some (s5019, true))) x5016 0 s283.1) (List.replicate (x9).toNat (0 : Int)) 0 ((⟨x7, (List.replicate (x9).toNat (0 : Int))⟩ : XCube), (0 : Int))))) (List.replicate (x9).toNat (0 : Int)) 0 (0 : Int)

def sh_impl_CubeOf (v0 : (List Int)) (v1 : (List Int)) : Option (XCube × Bool) :=
 (sh_impl_cubeCells v0).bind fun x8 =>
 (if (decide (x8 = (0 : Int))) = true then
 some ((⟨([] : List Int), ([] : List Int)⟩ : XCube), false)
 else
 (sh_impl_cubeOf v0 v1).bind fun x13 =>
 some (x13.1, x13.2))
def sh_impl_CubeOfTable (v0 : XGeo) (v1 : (List XVariable)) (v2 : XTable) (v3 : (List XRecord)) : Option (XCube × Bool) :=
 (sh_impl_areTabled v0 v1 v2).bind fun x17 =>
 (if (!x17) = true then
 some ((⟨([] : List Int), ([] : List Int)⟩ : XCube), false)
 else
 (sh_impl_isSurvey v0 v1 v3).bind fun x20 =>
 (if (!x20) = true then
 some ((⟨([] : List Int), ([] : List Int)⟩ : XCube), false)
 else
 (sh_impl_areasAt v0 v2.Level).bind fun x26 =>
 (sh_impl_crossed v1 v2).bind fun x52 =>
 rangeF (fun (k56 : Nat) (x57 : XVariable) (s55 : (List Int)) (nx64 : (List Int) → Option (XCube × Bool)) =>
 lnO (s55.length + [x57.Levels].length) <|
 nx64 (s55 ++ [x57.Levels]))
 (fun (s55 : (List Int)) =>
 (sh_impl_tableOf v0 v1 v2 v3).bind fun x71 =>
 (sh_impl_CubeOf s55 x71).bind fun x73 =>
 some (x73.1, x73.2)) x52 0 [(x26.length : Int)]))

def sh_laws_eqGeo (v0 : XGeo) (v1 : XGeo) : Option Bool :=
 (sh_laws_eqIntS v0.Parents v1.Parents).bind fun x8 =>
 (if (!x8) = true then
 some false
 else
 some true)

def sh_laws_eqVariable (v0 : XVariable) (v1 : XVariable) : Option Bool :=
 (if (decide (v0.Name ≠ v1.Name)) = true then
 some false
 else
 (if (decide (v0.Levels ≠ v1.Levels)) = true then
 some false
 else
 some true))

def sh_laws_eqVariableS (v0 : (List XVariable)) (v1 : (List XVariable)) : Option Bool :=
 (if (decide ((v0.length : Int) ≠ (v1.length : Int))) = true then
 some false
 else
 loopF (fun (nx229 : Int → Option Bool) (s142 : Int) =>
 (if (decide (s142 < (v0.length : Int))) = true then
 getO v0 s142 fun x263 =>
 getO v1 s142 fun x266 =>
 (sh_laws_eqVariable x263 x266).bind fun x269 =>
 (if (!x269) = true then
 some false
 else
 ckI (s142 + (1 : Int)) <|
 nx229 (s142 + (1 : Int)))
 else
 some true)) FUEL (0 : Int))

def sh_laws_eqTable (v0 : XTable) (v1 : XTable) : Option Bool :=
 (if (decide (v0.Level ≠ v1.Level)) = true then
 some false
 else
 (sh_laws_eqIntS v0.Vars v1.Vars).bind fun x10 =>
 (if (!x10) = true then
 some false
 else
 (sh_laws_eqIntS v0.Where v1.Where).bind fun x20 =>
 (if (!x20) = true then
 some false
 else
 (if (decide (v0.Sum ≠ v1.Sum)) = true then
 some false
 else
 some true))))

def sh_laws_eqRecord (v0 : XRecord) (v1 : XRecord) : Option Bool :=
 (if (decide (v0.Area ≠ v1.Area)) = true then
 some false
 else
 (if (decide (v0.House ≠ v1.House)) = true then
 some false
 else
 (sh_laws_eqIntS v0.Values v1.Values).bind fun x12 =>
 (if (!x12) = true then
 some false
 else
 some true)))

def sh_laws_eqRecordS (v0 : (List XRecord)) (v1 : (List XRecord)) : Option Bool :=
 (if (decide ((v0.length : Int) ≠ (v1.length : Int))) = true then
 some false
 else
 loopF (fun (nx229 : Int → Option Bool) (s142 : Int) =>
 (if (decide (s142 < (v0.length : Int))) = true then
 getO v0 s142 fun x263 =>
 getO v1 s142 fun x266 =>
 (sh_laws_eqRecord x263 x266).bind fun x269 =>
 (if (!x269) = true then
 some false
 else
 ckI (s142 + (1 : Int)) <|
 nx229 (s142 + (1 : Int)))
 else
 some true)) FUEL (0 : Int))

def sh_laws_markGeo (v0 : XGeo) (v1 : Int) : Option (XGeo × Int) :=
 (sh_laws_markIntS v0.Parents v1).bind fun x3 =>
 some ((⟨x3.1⟩ : XGeo), x3.2)

def sh_laws_markText (v0 : Int) : Option (List UInt8) :=
 (if (decide (v0 ≤ (0 : Int))) = true then
 some ([109, 48] : List UInt8)
 else
 loopF (fun (nx96 : (Int × (List UInt8)) → Option (List UInt8)) (s59 : (Int × (List UInt8))) =>
 (if (decide ((0 : Int) < s59.1)) = true then
 ck ((10 : Int) ≠ 0) <|
 ckI ((48 : Int) + (s59.1.tmod (10 : Int))) <|
 ckU ((48 : Int) + (s59.1.tmod (10 : Int))) <|
 ck ([((48 : Int) + (s59.1.tmod (10 : Int)))] = (bytesOf [((48 : Int) + (s59.1.tmod (10 : Int)))]).map fun b => ((b.toNat : Nat) : Int)) <|
 lnO ((bytesOf [((48 : Int) + (s59.1.tmod (10 : Int)))]).length + s59.2.length) <|
 ck ((10 : Int) ≠ 0) <|
 ckI (s59.1.tdiv (10 : Int)) <|
 nx96 ((s59.1.tdiv (10 : Int)), ((bytesOf [((48 : Int) + (s59.1.tmod (10 : Int)))]) ++ s59.2))
 else
 lnO (([109] : List UInt8).length + s59.2.length) <|
 some (([109] : List UInt8) ++ s59.2))) FUEL (v0, ([] : List UInt8)))

def sh_laws_markVariableS (v0 : (List XVariable)) (v1 : Int) : Option ((List XVariable) × Int) :=
 loopF (fun (nx239 : ((List XVariable) × Int × Int) → Option ((List XVariable) × Int)) (s144 : ((List XVariable) × Int × Int)) =>
 (if (decide (s144.2.2 < (s144.1.length : Int))) = true then
 (sh_laws_markText s144.2.1).bind fun x272 =>
 getO s144.1 s144.2.2 fun x274 =>
 ckI (s144.2.1 + (1 : Int)) <|
 getO (s144.1.set (s144.2.2).toNat (⟨x272, x274.Levels⟩ : XVariable)) s144.2.2 fun x282 =>
 ckI ((s144.2.1 + (1 : Int)) + (1 : Int)) <|
 ckI (s144.2.2 + (1 : Int)) <|
 nx239 (((s144.1.set (s144.2.2).toNat (⟨x272, x274.Levels⟩ : XVariable)).set (s144.2.2).toNat (⟨x282.Name, (s144.2.1 + (1 : Int))⟩ : XVariable)), ((s144.2.1 + (1 : Int)) + (1 : Int)), (s144.2.2 + (1 : Int)))
 else
 some (s144.1, s144.2.1))) FUEL (v0, v1, (0 : Int))

def sh_laws_markTable (v0 : XTable) (v1 : Int) : Option (XTable × Int) :=
 (sh_laws_markIntS v0.Vars v1).bind fun x3 =>
 (sh_laws_markIntS v0.Where x3.2).bind fun x7 =>
 some ((⟨v0.Level, x3.1, x7.1, v0.Sum⟩ : XTable), x7.2)

def sh_laws_markRecordS (v0 : (List XRecord)) (v1 : Int) : Option ((List XRecord) × Int) :=
 loopF (fun (nx259 : ((List XRecord) × Int × Int) → Option ((List XRecord) × Int)) (s156 : ((List XRecord) × Int × Int)) =>
 (if (decide (s156.2.2 < (s156.1.length : Int))) = true then
 getO s156.1 s156.2.2 fun x292 =>
 ckI (s156.2.1 + (1 : Int)) <|
 getO (s156.1.set (s156.2.2).toNat (⟨s156.2.1, x292.House, x292.Values⟩ : XRecord)) s156.2.2 fun x300 =>
 ckI ((s156.2.1 + (1 : Int)) + (1 : Int)) <|
 getO ((s156.1.set (s156.2.2).toNat (⟨s156.2.1, x292.House, x292.Values⟩ : XRecord)).set (s156.2.2).toNat (⟨x300.Area, (s156.2.1 + (1 : Int)), x300.Values⟩ : XRecord)) s156.2.2 fun x305 =>
 (sh_laws_markIntS x305.Values ((s156.2.1 + (1 : Int)) + (1 : Int))).bind fun x308 =>
 ckI (s156.2.2 + (1 : Int)) <|
 nx259 ((((s156.1.set (s156.2.2).toNat (⟨s156.2.1, x292.House, x292.Values⟩ : XRecord)).set (s156.2.2).toNat (⟨x300.Area, (s156.2.1 + (1 : Int)), x300.Values⟩ : XRecord)).set (s156.2.2).toNat (⟨x305.Area, x305.House, x308.1⟩ : XRecord)), x308.2, (s156.2.2 + (1 : Int)))
 else
 some (s156.1, s156.2.1))) FUEL (v0, v1, (0 : Int))

def sh_laws_FnExactCubeOfTable (v0 : XGeo) (v1 : (List XVariable)) (v2 : XTable) (v3 : (List XRecord)) : Option Bool :=
 (sh_laws_szGeo v0 (1048576 : Int)).bind fun x3 =>
 (if (decide (x3 < (0 : Int))) = true then
 some true
 else
 (sh_laws_szVariableS v1 x3).bind fun x9 =>
 (if (decide (x9 < (0 : Int))) = true then
 some true
 else
 (sh_laws_szTable v2 x9).bind fun x15 =>
 (if (decide (x15 < (0 : Int))) = true then
 some true
 else
 (sh_laws_szRecordS v3 x15).bind fun x21 =>
 (if (decide (x21 < (0 : Int))) = true then
 some true
 else
 (sh_laws_toGeo v0).bind fun x35 =>
 (sh_laws_toVariableS v1).bind fun x37 =>
 (sh_laws_toTable v2).bind fun x39 =>
 (sh_laws_toRecordS v3).bind fun x41 =>
 (sh_spec_CubeOfTable x35 x37 x39 x41).bind fun x43 =>
 (sh_laws_toGeo v0).bind fun x47 =>
 (sh_laws_toVariableS v1).bind fun x51 =>
 (sh_laws_toTable v2).bind fun x55 =>
 (sh_laws_toRecordS v3).bind fun x59 =>
 (sh_impl_CubeOfTable x47 x51 x55 x59).bind fun x63 =>
 (sh_laws_eqCube x63.1 x43.1).bind fun x75 =>
 (if (!x75) = true then
 some false
 else
 (if (x63.2 != x43.2) = true then
 some false
 else
 (sh_laws_toGeo v0).bind fun x92 =>
 (sh_laws_eqGeo x47 x92).bind fun x94 =>
 (if (!x94) = true then
 some false
 else
 (sh_laws_toVariableS v1).bind fun x110 =>
 (sh_laws_eqVariableS x51 x110).bind fun x112 =>
 (if (!x112) = true then
 some false
 else
 (sh_laws_toTable v2).bind fun x128 =>
 (sh_laws_eqTable x55 x128).bind fun x130 =>
 (if (!x130) = true then
 some false
 else
 (sh_laws_toRecordS v3).bind fun x146 =>
 (sh_laws_eqRecordS x59 x146).bind fun x148 =>
 (if (!x148) = true then
 some false
 else
 (sh_laws_markGeo x47 (1 : Int)).bind fun x153 =>
 (sh_laws_markVariableS x51 x153.2).bind fun x157 =>
 (sh_laws_markTable x55 x157.2).bind fun x161 =>
 (sh_laws_markRecordS x59 x161.2).bind fun x165 =>
 (if (decide (x165.2 < (0 : Int))) = true then
 some false
 else
 (sh_laws_eqCube x63.1 x43.1).bind fun x180 =>
 (if (!x180) = true then
 some false
 else
 (sh_laws_markCube x63.1 (1 : Int)).bind fun x185 =>
 (sh_laws_heldCube x185.1 (1 : Int)).bind fun x189 =>
 (if (decide (x189 < (0 : Int))) = true then
 some false
 else
 (if (decide (x189 ≠ x185.2)) = true then
 some false
 else
 (sh_laws_toGeo v0).bind fun x205 =>
 (sh_laws_toVariableS v1).bind fun x207 =>
 (sh_laws_toTable v2).bind fun x209 =>
 (sh_laws_toRecordS v3).bind fun x211 =>
 (sh_impl_CubeOfTable x205 x207 x209 x211).bind fun x213 =>
 (sh_laws_eqCube x213.1 x43.1).bind fun x225 =>
 (if (!x225) = true then
 some false
 else
 (if (x213.2 != x43.2) = true then
 some false
 else
 (sh_laws_heldCube x185.1 (1 : Int)).bind fun x231 =>
 (if (decide (x231 < (0 : Int))) = true then
 some false
 else
 (if (decide (x231 ≠ x185.2)) = true then
 some false
 else
 some true))))))))))))))))))
end AS
