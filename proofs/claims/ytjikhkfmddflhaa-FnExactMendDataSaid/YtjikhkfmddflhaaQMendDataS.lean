/- Plain functions. No condition. -/
import Derived.Test.YtjikhkfmddflhaaKc
set_option linter.unusedVariables false
set_option linter.unusedSimpArgs false
namespace AS
structure XCube where
  Sizes : (List Int)
  Cells : (List Int)
  deriving DecidableEq, Inhabited
def cXCube (c0 : Cd (List Int)) (c1 : Cd (List Int)) : Cd XCube := ⟨fun v => .agg [c0.enc v.Sizes, c1.enc v.Cells], c0.sz + (c1.sz + (0)), true, (c0.im && (c1.im && true)), fun v => by simp only [D.size, D.sizes, Cd.h_sz], fun _ => rfl, fun v => by simp only [D.imm, D.imms, Cd.h_im]⟩
theorem tXCube {c0 c0' : Cd (List Int)} {c1 c1' : Cd (List Int)} (tc0 : ToI c0 c0') (tc1 : ToI c1 c1') : ToI (cXCube c0 c1) (cXCube c0' c1') := ⟨fun v => by simp only [cXCube, D.toImm, D.toImms, tc0.h, tc1.h], by simp only [cXCube, tc0.im, tc1.im, Bool.and_true]⟩
theorem sXCube {c0 : Cd (List Int)} {c1 : Cd (List Int)} (tc0 : Sol c0) (tc1 : Sol c1) : Sol (cXCube c0 c1) := ⟨fun v => by simp only [cXCube, D.solid, D.solids, tc0.h, tc1.h, Bool.and_true]⟩
instance : Bd XCube := ⟨fun v => Bd.bd v.Sizes ∧ Bd.bd v.Cells⟩
structure XVariable where
  Name : (List UInt8)
  Levels : Int
  deriving DecidableEq, Inhabited
def cXVariable (c0 : Cd (List UInt8)) (c1 : Cd Int) : Cd XVariable := ⟨fun v => .agg [c0.enc v.Name, c1.enc v.Levels], c0.sz + (c1.sz + (0)), true, (c0.im && (c1.im && true)), fun v => by simp only [D.size, D.sizes, Cd.h_sz], fun _ => rfl, fun v => by simp only [D.imm, D.imms, Cd.h_im]⟩
theorem tXVariable {c0 c0' : Cd (List UInt8)} {c1 c1' : Cd Int} (tc0 : ToI c0 c0') (tc1 : ToI c1 c1') : ToI (cXVariable c0 c1) (cXVariable c0' c1') := ⟨fun v => by simp only [cXVariable, D.toImm, D.toImms, tc0.h, tc1.h], by simp only [cXVariable, tc0.im, tc1.im, Bool.and_true]⟩
theorem sXVariable {c0 : Cd (List UInt8)} {c1 : Cd Int} (tc0 : Sol c0) (tc1 : Sol c1) : Sol (cXVariable c0 c1) := ⟨fun v => by simp only [cXVariable, D.solid, D.solids, tc0.h, tc1.h, Bool.and_true]⟩
instance : Bd XVariable := ⟨fun v => Bd.bd v.Name ∧ Bd.bd v.Levels⟩
structure XEdit where
  Sets : (List Int)
  deriving DecidableEq, Inhabited
def cXEdit (c0 : Cd (List Int)) : Cd XEdit := ⟨fun v => .agg [c0.enc v.Sets], c0.sz + (0), true, (c0.im && true), fun v => by simp only [D.size, D.sizes, Cd.h_sz], fun _ => rfl, fun v => by simp only [D.imm, D.imms, Cd.h_im]⟩
theorem tXEdit {c0 c0' : Cd (List Int)} (tc0 : ToI c0 c0') : ToI (cXEdit c0) (cXEdit c0') := ⟨fun v => by simp only [cXEdit, D.toImm, D.toImms, tc0.h], by simp only [cXEdit, tc0.im, Bool.and_true]⟩
theorem sXEdit {c0 : Cd (List Int)} (tc0 : Sol c0) : Sol (cXEdit c0) := ⟨fun v => by simp only [cXEdit, D.solid, D.solids, tc0.h, Bool.and_true]⟩
instance : Bd XEdit := ⟨fun v => Bd.bd v.Sets⟩
structure XRecord where
  Area : Int
  House : Int
  Values : (List Int)
  deriving DecidableEq, Inhabited
def cXRecord (c0 : Cd Int) (c1 : Cd Int) (c2 : Cd (List Int)) : Cd XRecord := ⟨fun v => .agg [c0.enc v.Area, c1.enc v.House, c2.enc v.Values], c0.sz + (c1.sz + (c2.sz + (0))), true, (c0.im && (c1.im && (c2.im && true))), fun v => by simp only [D.size, D.sizes, Cd.h_sz], fun _ => rfl, fun v => by simp only [D.imm, D.imms, Cd.h_im]⟩
theorem tXRecord {c0 c0' : Cd Int} {c1 c1' : Cd Int} {c2 c2' : Cd (List Int)} (tc0 : ToI c0 c0') (tc1 : ToI c1 c1') (tc2 : ToI c2 c2') : ToI (cXRecord c0 c1 c2) (cXRecord c0' c1' c2') := ⟨fun v => by simp only [cXRecord, D.toImm, D.toImms, tc0.h, tc1.h, tc2.h], by simp only [cXRecord, tc0.im, tc1.im, tc2.im, Bool.and_true]⟩
theorem sXRecord {c0 : Cd Int} {c1 : Cd Int} {c2 : Cd (List Int)} (tc0 : Sol c0) (tc1 : Sol c1) (tc2 : Sol c2) : Sol (cXRecord c0 c1 c2) := ⟨fun v => by simp only [cXRecord, D.solid, D.solids, tc0.h, tc1.h, tc2.h, Bool.and_true]⟩
instance : Bd XRecord := ⟨fun v => Bd.bd v.Area ∧ Bd.bd v.House ∧ Bd.bd v.Values⟩
def sh_spec_l1In (v0 : Int) (v1 : Int) (v2 : Int) : Option Bool :=
 (if (decide (v1 ≤ v0)) = true then
 some (decide (v0 ≤ v2))
 else
 some false)

def sh_spec_l1All (v0 : (List Int)) (v1 : Int) (v2 : Int) : Option Bool :=
 rangeF (fun (k34 : Nat) (x35 : Int) (s33 : Unit) (nx48 : Unit → Option Bool) =>
 (sh_spec_l1In x35 v1 v2).bind fun x58 =>
 (if (!x58) = true then
 some false
 else
 nx48 ()))
 (fun (s33 : Unit) =>
 some true) v0 0 ()

def sh_laws_szIntS (v0 : (List Int)) (v1 : Int) : Option Int :=
 ckI (v1 - (v0.length : Int)) <|
 (if (decide ((v1 - (v0.length : Int)) < (0 : Int))) = true then
 some (-1 : Int)
 else
 some (v1 - (v0.length : Int)))

def sh_laws_toIntS (v0 : (List Int)) : Option (List Int) :=
 mkO (v0.length : Int) <|
 loopF (fun (nx115 : ((List Int) × Int) → Option (List Int)) (s72 : ((List Int) × Int)) =>
 (if (decide (s72.2 < (v0.length : Int))) = true then
 getO v0 s72.2 fun x130 =>
 getO s72.1 s72.2 fun x133 =>
 ckI (s72.2 + (1 : Int)) <|
 nx115 ((s72.1.set (s72.2).toNat x130), (s72.2 + (1 : Int)))
 else
 some s72.1)) FUEL ((List.replicate ((v0.length : Int)).toNat (0 : Int)), (0 : Int))

def sh_laws_eqIntS (v0 : (List Int)) (v1 : (List Int)) : Option Bool :=
 (if (decide ((v0.length : Int) ≠ (v1.length : Int))) = true then
 some false
 else
 loopF (fun (nx189 : Int → Option Bool) (s118 : Int) =>
 (if (decide (s118 < (v0.length : Int))) = true then
 getO v0 s118 fun x217 =>
 getO v1 s118 fun x220 =>
 (if (decide (x217 ≠ x220)) = true then
 some false
 else
 ckI (s118 + (1 : Int)) <|
 nx189 (s118 + (1 : Int)))
 else
 some true)) FUEL (0 : Int))

def sh_laws_markIntS (v0 : (List Int)) (v1 : Int) : Option ((List Int) × Int) :=
 loopF (fun (nx119 : ((List Int) × Int × Int) → Option ((List Int) × Int)) (s72 : ((List Int) × Int × Int)) =>
 (if (decide (s72.2.2 < (s72.1.length : Int))) = true then
 getO s72.1 s72.2.2 fun x138 =>
 ckI (s72.2.1 + (1 : Int)) <|
 ckI (s72.2.2 + (1 : Int)) <|
 nx119 ((s72.1.set (s72.2.2).toNat s72.2.1), (s72.2.1 + (1 : Int)), (s72.2.2 + (1 : Int)))
 else
 some (s72.1, s72.2.1))) FUEL (v0, v1, (0 : Int))

def sh_laws_heldIntS (v0 : (List Int)) (v1 : Int) : Option Int :=
 loopF (fun (nx199 : (Int × Int) → Option Int) (s120 : (Int × Int)) =>
 (if (decide (s120.2 < (v0.length : Int))) = true then
 getO v0 s120.2 fun x233 =>
 (if (decide (x233 ≠ s120.1)) = true then
 some (-1 : Int)
 else
 ckI (s120.1 + (1 : Int)) <|
 ckI (s120.2 + (1 : Int)) <|
 nx199 ((s120.1 + (1 : Int)), (s120.2 + (1 : Int))))
 else
 some s120.1)) FUEL (v1, (0 : Int))

def sh_laws_szVariable (v0 : XVariable) (v1 : Int) : Option Int :=
 ckI (v1 - (v0.Name.length : Int)) <|
 (if (decide ((v1 - (v0.Name.length : Int)) < (0 : Int))) = true then
 some (-1 : Int)
 else
 some (v1 - (v0.Name.length : Int)))

def sh_laws_szVariableS (v0 : (List XVariable)) (v1 : Int) : Option Int :=
 ckI (v1 - (v0.length : Int)) <|
 (if (decide ((v1 - (v0.length : Int)) < (0 : Int))) = true then
 some (-1 : Int)
 else
 loopF (fun (nx165 : (Int × Int) → Option Int) (s102 : (Int × Int)) =>
 (if (decide (s102.2 < (v0.length : Int))) = true then
 getO v0 s102.2 fun x190 =>
 (sh_laws_szVariable x190 s102.1).bind fun x193 =>
 (if (decide (x193 < (0 : Int))) = true then
 some (-1 : Int)
 else
 ckI (s102.2 + (1 : Int)) <|
 nx165 (x193, (s102.2 + (1 : Int))))
 else
 some s102.1)) FUEL ((v1 - (v0.length : Int)), (0 : Int)))

def sh_laws_szEdit (v0 : XEdit) (v1 : Int) : Option Int :=
 (sh_laws_szIntS v0.Sets v1).bind fun x3 =>
 (if (decide (x3 < (0 : Int))) = true then
 some (-1 : Int)
 else
 some x3)

def sh_laws_szEditS (v0 : (List XEdit)) (v1 : Int) : Option Int :=
 ckI (v1 - (v0.length : Int)) <|
 (if (decide ((v1 - (v0.length : Int)) < (0 : Int))) = true then
 some (-1 : Int)
 else
 loopF (fun (nx165 : (Int × Int) → Option Int) (s102 : (Int × Int)) =>
 (if (decide (s102.2 < (v0.length : Int))) = true then
 getO v0 s102.2 fun x190 =>
 (sh_laws_szEdit x190 s102.1).bind fun x193 =>
 (if (decide (x193 < (0 : Int))) = true then
 some (-1 : Int)
 else
 ckI (s102.2 + (1 : Int)) <|
 nx165 (x193, (s102.2 + (1 : Int))))
 else
 some s102.1)) FUEL ((v1 - (v0.length : Int)), (0 : Int)))

def sh_laws_toVariable (v0 : XVariable) : Option XVariable :=
 some (⟨v0.Name, v0.Levels⟩ : XVariable)

def sh_laws_toVariableS (v0 : (List XVariable)) : Option (List XVariable) :=
 mkO (v0.length : Int) <|
 loopF (fun (nx135 : ((List XVariable) × Int) → Option (List XVariable)) (s84 : ((List XVariable) × Int)) =>
 (if (decide (s84.2 < (v0.length : Int))) = true then
 getO v0 s84.2 fun x152 =>
 (sh_laws_toVariable x152).bind fun x155 =>
 getO s84.1 s84.2 fun x157 =>
 ckI (s84.2 + (1 : Int)) <|
 nx135 ((s84.1.set (s84.2).toNat x155), (s84.2 + (1 : Int)))
 else
 some s84.1)) FUEL ((List.replicate ((v0.length : Int)).toNat (⟨([] : List UInt8), (0 : Int)⟩ : XVariable)), (0 : Int))

def sh_laws_toEdit (v0 : XEdit) : Option XEdit :=
 (sh_laws_toIntS v0.Sets).bind fun x3 =>
 some (⟨x3⟩ : XEdit)

def sh_laws_toEditS (v0 : (List XEdit)) : Option (List XEdit) :=
 mkO (v0.length : Int) <|
 loopF (fun (nx135 : ((List XEdit) × Int) → Option (List XEdit)) (s84 : ((List XEdit) × Int)) =>
 (if (decide (s84.2 < (v0.length : Int))) = true then
 getO v0 s84.2 fun x152 =>
 (sh_laws_toEdit x152).bind fun x155 =>
 getO s84.1 s84.2 fun x157 =>
 ckI (s84.2 + (1 : Int)) <|
 nx135 ((s84.1.set (s84.2).toNat x155), (s84.2 + (1 : Int)))
 else
 some s84.1)) FUEL ((List.replicate ((v0.length : Int)).toNat (⟨([] : List Int)⟩ : XEdit)), (0 : Int))

def sh_spec_sName (v0 : (List UInt8)) : Option Bool :=
 loopF (fun (nx139 : Int → Option Bool) (s84 : Int) =>
 (if (decide (s84 < (v0.length : Int))) = true then
 getO v0 s84 fun x161 =>
 (if (decide ((x161.toNat : Int) < (97 : Int))) = true then
 some false
 else
 (if (decide ((122 : Int) < (x161.toNat : Int))) = true then
 some false
 else
 ckI (s84 + (1 : Int)) <|
 nx139 (s84 + (1 : Int))))
 else
 (sh_spec_l1In (v0.length : Int) (1 : Int) (8 : Int)).bind fun x171 =>
 some x171)) FUEL (0 : Int)

def sh_spec_sFind (v0 : (List XVariable)) (v1 : (List UInt8)) : Option Int :=
 rangeF (fun (k18 : Nat) (x19 : XVariable) (s17 : Unit) (nx24 : Unit → Option Int) =>
 (if (decide (x19.Name = v1)) = true then
 some (k18 : Int)
 else
 nx24 ()))
 (fun (s17 : Unit) =>
 some (-1 : Int)) v0 0 ()

def sh_spec_sGood (v0 : (List XVariable)) : Option Bool :=
 (sh_spec_l1In (v0.length : Int) (1 : Int) (6 : Int)).bind fun x12 =>
 (if (!x12) = true then
 some false
 else
 rangeF (fun (k104 : Nat) (x105 : XVariable) (s103 : Unit) (nx146 : Unit → Option Bool) =>
 (sh_spec_sName x105.Name).bind fun x177 =>
 (if (!x177) = true then
 some false
 else
 (sh_spec_l1In x105.Levels (2 : Int) (8 : Int)).bind fun x180 =>
 (if (!x180) = true then
 some false
 else
 ck (0 ≤ (k104 : Int) ∧ 0 ≤ ((k104 : Int)).toNat ∧ ((k104 : Int)).toNat ≤ v0.length) <|
 (sh_spec_sFind ((v0.take ((k104 : Int)).toNat).drop 0) x105.Name).bind fun x184 =>
 (if (decide ((0 : Int) ≤ x184)) = true then
 some false
 else
 nx146 ()))))
 (fun (s103 : Unit) =>
 some true) v0 0 ())

def sh_spec_eFull (v0 : (List XVariable)) (v1 : Int) : Option Int :=
 getO v0 v1 fun x8 =>
 ckK .u64 x8.Levels <|
 ck (0 ≤ x8.Levels ∧ x8.Levels < 64) <|
 ckI ((1 : Int) * 2 ^ (x8.Levels).toNat) <|
 ckI (((1 : Int) * 2 ^ (x8.Levels).toNat) - (1 : Int)) <|
 some (((1 : Int) * 2 ^ (x8.Levels).toNat) - (1 : Int))

def sh_spec_eGood (v0 : (List XVariable)) (v1 : XEdit) : Option Bool :=
 (if (decide ((v1.Sets.length : Int) ≠ (v0.length : Int))) = true then
 some false
 else
 rangeF (fun (k60 : Nat) (x61 : Int) (s59 : Unit) (nx82 : Unit → Option Bool) =>
 (sh_spec_eFull v0 (k60 : Int)).bind fun x98 =>
 (sh_spec_l1In x61 (1 : Int) x98).bind fun x100 =>
 (if (!x100) = true then
 some false
 else
 nx82 ()))
 (fun (s59 : Unit) =>
 some true) v1.Sets 0 ())

def sh_spec_eList (v0 : (List XVariable)) (v1 : (List XEdit)) : Option Bool :=
 (sh_spec_sGood v0).bind fun x14 =>
 (if (!x14) = true then
 some false
 else
 (if (decide ((40 : Int) < (v1.length : Int))) = true then
 some false
 else
 rangeF (fun (k52 : Nat) (x53 : XEdit) (s51 : Unit) (nx66 : Unit → Option Bool) =>
 (sh_spec_eGood v0 x53).bind fun x76 =>
 (if (!x76) = true then
 some false
 else
 nx66 ()))
 (fun (s51 : Unit) =>
 some true) v1 0 ()))

def sh_spec_sCount (v0 : (List XVariable)) : Option Int :=
 rangeF (fun (k20 : Nat) (x21 : XVariable) (s19 : Int) (nx28 : Int → Option Int) =>
 ckI (s19 * x21.Levels) <|
 nx28 (s19 * x21.Levels))
 (fun (s19 : Int) =>
 some s19) v0 0 (1 : Int)

def sh_spec_sAt (v0 : (List XVariable)) (v1 : Int) : Option (List Int) :=
 mkO (v0.length : Int) <|
 ckI ((v0.length : Int) - (1 : Int)) <|
 loopF (fun (nx203 : (Int × (List Int) × Int) → Option (List Int)) (s128 : (Int × (List Int) × Int)) =>
 (if (decide ((0 : Int) ≤ s128.2.2)) = true then
 getO v0 s128.2.2 fun x231 =>
 ck (x231.Levels ≠ 0) <|
 getO s128.2.1 s128.2.2 fun x235 =>
 ck (x231.Levels ≠ 0) <|
 ckI (s128.1.tdiv x231.Levels) <|
 ckI (s128.2.2 - (1 : Int)) <|
 nx203 ((s128.1.tdiv x231.Levels), (s128.2.1.set (s128.2.2).toNat (s128.1.tmod x231.Levels)), (s128.2.2 - (1 : Int)))
 else
 some s128.2.1)) FUEL (v1, (List.replicate ((v0.length : Int)).toNat (0 : Int)), ((v0.length : Int) - (1 : Int)))

def sh_spec_eFails (v0 : XEdit) (v1 : (List Int)) : Option Bool :=
 rangeF (fun (k90 : Nat) (x91 : Int) (s89 : Unit) (nx132 : Unit → Option Bool) =>
 getO v0.Sets (k90 : Int) fun x163 =>
 ckK .u64 x91 <|
 ck (0 ≤ x91 ∧ x91 < 64) <|
 ck (0 ≤ (x163 / 2 ^ (x91).toNat)) <|
 ckK .i64 (x163 / 2 ^ (x91).toNat) <|
 ck (0 ≤ (1 : Int)) <|
 ckK .i64 (1 : Int) <|
 (if (decide ((((x163 / 2 ^ (x91).toNat).toNat &&& (1 : Int).toNat : Nat) : Int) = (0 : Int))) = true then
 some false
 else
 nx132 ()))
 (fun (s89 : Unit) =>
 some true) v1 0 ()

def sh_spec_eFailed (v0 : (List XEdit)) (v1 : (List Int)) : Option (List Int) :=
 rangeF (fun (k50 : Nat) (x51 : XEdit) (s49 : (List Int)) (nx78 : (List Int) → Option (List Int)) =>
 (sh_spec_eFails x51 v1).bind fun x89 =>
 (if x89 = true then
 lnO (s49.length + [(k50 : Int)].length) <|
 nx78 (s49 ++ [(k50 : Int)])
 else
 nx78 s49))
 (fun (s49 : (List Int)) =>
 some s49) v0 0 ([] : List Int)

def sh_impl_isWord (v0 : (List UInt8)) : Option Bool :=
 (if (decide ((v0.length : Int) < (1 : Int))) = true then
 some false
 else
 (if (decide ((8 : Int) < (v0.length : Int))) = true then
 some false
 else
 rangeF (fun (k40 : Nat) (x41 : UInt8) (s39 : Unit) (nx50 : Unit → Option Bool) =>
 (if (decide ((x41.toNat : Int) < (97 : Int))) = true then
 some false
 else
 (if (decide ((122 : Int) < (x41.toNat : Int))) = true then
 some false
 else
 nx50 ())))
 (fun (s39 : Unit) =>
 some true) v0 0 ()))

def sh_impl_IsSchema (v0 : (List XVariable)) : Option Bool :=
 (if (decide ((v0.length : Int) < (1 : Int))) = true then
 some false
 else
 (if (decide ((6 : Int) < (v0.length : Int))) = true then
 some false
 else
 rangeF (fun (k164 : Nat) (x165 : XVariable) (s163 : Unit) (nx236 : Unit → Option Bool) =>
 (sh_impl_isWord x165.Name).bind fun x286 =>
 (if (!x286) = true then
 some false
 else
 (if (decide (x165.Levels < (2 : Int))) = true then
 some false
 else
 (if (decide ((8 : Int) < x165.Levels)) = true then
 some false
 else
 ck (0 ≤ (k164 : Int) ∧ 0 ≤ ((k164 : Int)).toNat ∧ ((k164 : Int)).toNat ≤ v0.length) <|
 rangeF (fun (k296 : Nat) (x297 : XVariable) (s295 : Unit) (nx302 : Unit → Option Bool) =>
 (if (decide (x297.Name = x165.Name)) = true then
 some false
 else
 nx302 ()))
 (fun (s295 : Unit) =>
 nx236 ()) ((v0.take ((k164 : Int)).toNat).drop 0) 0 ()))))
 (fun (s163 : Unit) =>
 some true) v0 0 ()))

def sh_impl_fullSet (v0 : XVariable) : Option Int :=
 ck (0 ≤ v0.Levels ∧ v0.Levels < 64) <|
 ckI ((1 : Int) * 2 ^ (v0.Levels).toNat) <|
 ckI (((1 : Int) * 2 ^ (v0.Levels).toNat) - (1 : Int)) <|
 some (((1 : Int) * 2 ^ (v0.Levels).toNat) - (1 : Int))

def sh_impl_isEdit (v0 : (List XVariable)) (v1 : XEdit) : Option Bool :=
 (if (decide ((v1.Sets.length : Int) ≠ (v0.length : Int))) = true then
 some false
 else
 rangeF (fun (k76 : Nat) (x77 : Int) (s75 : Unit) (nx106 : Unit → Option Bool) =>
 (if (decide (x77 < (1 : Int))) = true then
 some false
 else
 getO v0 (k76 : Int) fun x129 =>
 (sh_impl_fullSet x129).bind fun x132 =>
 (if (decide (x132 < x77)) = true then
 some false
 else
 nx106 ())))
 (fun (s75 : Unit) =>
 some true) v1.Sets 0 ())
def sh_impl_areEdits (v0 : (List XVariable)) (v1 : (List XEdit)) : Option Bool :=
 (if (decide ((40 : Int) < (v1.length : Int))) = true then
 some false
 else
 rangeF (fun (k40 : Nat) (x41 : XEdit) (s39 : Unit) (nx54 : Unit → Option Bool) =>
 (sh_impl_isEdit v0 x41).bind fun x64 =>
 (if (!x64) = true then
 some false
 else
 nx54 ()))
 (fun (s39 : Unit) =>
 some true) v1 0 ())

def sh_impl_combinations (v0 : (List XVariable)) : Option Int :=
 rangeF (fun (k20 : Nat) (x21 : XVariable) (s19 : Int) (nx28 : Int → Option Int) =>
 ckI (s19 * x21.Levels) <|
 nx28 (s19 * x21.Levels))
 (fun (s19 : Int) =>
 some s19) v0 0 (1 : Int)

def sh_impl_valuesAt (v0 : (List XVariable)) (v1 : Int) : Option (List Int) :=
 mkO (v0.length : Int) <|
 ckI ((v0.length : Int) - (1 : Int)) <|
 loopF (fun (nx203 : (Int × (List Int) × Int) → Option (List Int)) (s128 : (Int × (List Int) × Int)) =>
 (if (decide ((0 : Int) ≤ s128.2.2)) = true then
 getO v0 s128.2.2 fun x231 =>
 ck (x231.Levels ≠ 0) <|
 getO s128.2.1 s128.2.2 fun x235 =>
 ck (x231.Levels ≠ 0) <|
 ckI (s128.1.tdiv x231.Levels) <|
 ckI (s128.2.2 - (1 : Int)) <|
 nx203 ((s128.1.tdiv x231.Levels), (s128.2.1.set (s128.2.2).toNat (s128.1.tmod x231.Levels)), (s128.2.2 - (1 : Int)))
 else
 some s128.2.1)) FUEL (v1, (List.replicate ((v0.length : Int)).toNat (0 : Int)), ((v0.length : Int) - (1 : Int)))

def sh_impl_fails (v0 : XEdit) (v1 : (List Int)) : Option Bool :=
 rangeF (fun (k82 : Nat) (x83 : Int) (s81 : Unit) (nx120 : Unit → Option Bool) =>
 getO v0.Sets (k82 : Int) fun x148 =>
 ck (0 ≤ x83 ∧ x83 < 64) <|
 ck (0 ≤ (x148 / 2 ^ (x83).toNat)) <|
 ckK .i64 (x148 / 2 ^ (x83).toNat) <|
 ck (0 ≤ (1 : Int)) <|
 ckK .i64 (1 : Int) <|
 (if (decide ((((x148 / 2 ^ (x83).toNat).toNat &&& (1 : Int).toNat : Nat) : Int) = (0 : Int))) = true then
 some false
 else
 nx120 ()))
 (fun (s81 : Unit) =>
 some true) v1 0 ()

def sh_impl_failsOne (v0 : (List XEdit)) (v1 : (List Int)) : Option Bool :=
 rangeF (fun (k34 : Nat) (x35 : XEdit) (s33 : Unit) (nx48 : Unit → Option Bool) =>
 (sh_impl_fails x35 v1).bind fun x58 =>
 (if x58 = true then
 some true
 else
 nx48 ()))
 (fun (s33 : Unit) =>
 some false) v0 0 ()

def sh_laws_eqVariable (v0 : XVariable) (v1 : XVariable) : Option Bool :=
 (if (decide (v0.Name ≠ v1.Name)) = true then
 some false
 else
 (if (decide (v0.Levels ≠ v1.Levels)) = true then
 some false
 else
 some true))

def sh_laws_eqVariableS (v0 : (List XVariable)) (v1 : (List XVariable)) : Option Bool :=
 (if (decide ((v0.length : Int) ≠ (v1.length : Int))) = true then
 some false
 else
 loopF (fun (nx229 : Int → Option Bool) (s142 : Int) =>
 (if (decide (s142 < (v0.length : Int))) = true then
 getO v0 s142 fun x263 =>
 getO v1 s142 fun x266 =>
 (sh_laws_eqVariable x263 x266).bind fun x269 =>
 (if (!x269) = true then
 some false
 else
 ckI (s142 + (1 : Int)) <|
 nx229 (s142 + (1 : Int)))
 else
 some true)) FUEL (0 : Int))

def sh_laws_eqEdit (v0 : XEdit) (v1 : XEdit) : Option Bool :=
 (sh_laws_eqIntS v0.Sets v1.Sets).bind fun x8 =>
 (if (!x8) = true then
 some false
 else
 some true)

def sh_laws_eqEditS (v0 : (List XEdit)) (v1 : (List XEdit)) : Option Bool :=
 (if (decide ((v0.length : Int) ≠ (v1.length : Int))) = true then
 some false
 else
 loopF (fun (nx229 : Int → Option Bool) (s142 : Int) =>
 (if (decide (s142 < (v0.length : Int))) = true then
 getO v0 s142 fun x263 =>
 getO v1 s142 fun x266 =>
 (sh_laws_eqEdit x263 x266).bind fun x269 =>
 (if (!x269) = true then
 some false
 else
 ckI (s142 + (1 : Int)) <|
 nx229 (s142 + (1 : Int)))
 else
 some true)) FUEL (0 : Int))

def sh_laws_markText (v0 : Int) : Option (List UInt8) :=
 (if (decide (v0 ≤ (0 : Int))) = true then
 some ([109, 48] : List UInt8)
 else
 loopF (fun (nx96 : (Int × (List UInt8)) → Option (List UInt8)) (s59 : (Int × (List UInt8))) =>
 (if (decide ((0 : Int) < s59.1)) = true then
 ck ((10 : Int) ≠ 0) <|
 ckI ((48 : Int) + (s59.1.tmod (10 : Int))) <|
 ckU ((48 : Int) + (s59.1.tmod (10 : Int))) <|
 ck ([((48 : Int) + (s59.1.tmod (10 : Int)))] = (bytesOf [((48 : Int) + (s59.1.tmod (10 : Int)))]).map fun b => ((b.toNat : Nat) : Int)) <|
 lnO ((bytesOf [((48 : Int) + (s59.1.tmod (10 : Int)))]).length + s59.2.length) <|
 ck ((10 : Int) ≠ 0) <|
 ckI (s59.1.tdiv (10 : Int)) <|
 nx96 ((s59.1.tdiv (10 : Int)), ((bytesOf [((48 : Int) + (s59.1.tmod (10 : Int)))]) ++ s59.2))
 else
 lnO (([109] : List UInt8).length + s59.2.length) <|
 some (([109] : List UInt8) ++ s59.2))) FUEL (v0, ([] : List UInt8)))

def sh_laws_markVariableS (v0 : (List XVariable)) (v1 : Int) : Option ((List XVariable) × Int) :=
 loopF (fun (nx239 : ((List XVariable) × Int × Int) → Option ((List XVariable) × Int)) (s144 : ((List XVariable) × Int × Int)) =>
 (if (decide (s144.2.2 < (s144.1.length : Int))) = true then
 (sh_laws_markText s144.2.1).bind fun x272 =>
 getO s144.1 s144.2.2 fun x274 =>
 ckI (s144.2.1 + (1 : Int)) <|
 getO (s144.1.set (s144.2.2).toNat (⟨x272, x274.Levels⟩ : XVariable)) s144.2.2 fun x282 =>
 ckI ((s144.2.1 + (1 : Int)) + (1 : Int)) <|
 ckI (s144.2.2 + (1 : Int)) <|
 nx239 (((s144.1.set (s144.2.2).toNat (⟨x272, x274.Levels⟩ : XVariable)).set (s144.2.2).toNat (⟨x282.Name, (s144.2.1 + (1 : Int))⟩ : XVariable)), ((s144.2.1 + (1 : Int)) + (1 : Int)), (s144.2.2 + (1 : Int)))
 else
 some (s144.1, s144.2.1))) FUEL (v0, v1, (0 : Int))

def sh_laws_markEditS (v0 : (List XEdit)) (v1 : Int) : Option ((List XEdit) × Int) :=
 loopF (fun (nx99 : ((List XEdit) × Int × Int) → Option ((List XEdit) × Int)) (s60 : ((List XEdit) × Int × Int)) =>
 (if (decide (s60.2.2 < (s60.1.length : Int))) = true then
 getO s60.1 s60.2.2 fun x113 =>
 (sh_laws_markIntS x113.Sets s60.2.1).bind fun x116 =>
 ckI (s60.2.2 + (1 : Int)) <|
 nx99 ((s60.1.set (s60.2.2).toNat (⟨x116.1⟩ : XEdit)), x116.2, (s60.2.2 + (1 : Int)))
 else
 some (s60.1, s60.2.1))) FUEL (v0, v1, (0 : Int))

def sh_spec_l1Own (v0 : (List Int)) : Option (List Int) :=
 lnO (([] : List Int).length + v0.length) <|
 some (([] : List Int) ++ v0)

def sh_slices_Index_int (v0 : (List Int)) (v1 : Int) : Option Int :=
 rangeF (fun (k18 : Nat) (x19 : Int) (s17 : Unit) (nx24 : Unit → Option Int) =>
 (if (decide (v1 = x19)) = true then
 some (k18 : Int)
 else
 nx24 ()))
 (fun (s17 : Unit) =>
 some (-1 : Int)) v0 0 ()

def sh_slices_Contains_int (v0 : (List Int)) (v1 : Int) : Option Bool :=
 (sh_slices_Index_int v0 v1).bind fun x3 =>
 some (decide ((0 : Int) ≤ x3))

def sh_slices_Clone_int (v0 : (List Int)) : Option (List Int) :=
 nilO v0 false fun b11 =>
 (if b11 = true then
 some ([] : List Int)
 else
 lnO (([] : List Int).length + v0.length) <|
 some (([] : List Int) ++ v0))

def sh_spec_eSmall (v0 : (List XVariable)) (v1 : (List XEdit)) : Option Bool :=
 (sh_spec_eList v0 v1).bind fun x6 =>
 (if x6 = true then
 (sh_spec_sCount v0).bind fun x9 =>
 some (decide (x9 ≤ (100 : Int)))
 else
 some false)

def sh_spec_sFits (v0 : (List XVariable)) (v1 : (List Int)) : Option Bool :=
 (if (decide ((v1.length : Int) ≠ (v0.length : Int))) = true then
 some false
 else
 rangeF (fun (k76 : Nat) (x77 : XVariable) (s75 : Unit) (nx106 : Unit → Option Bool) =>
 getO v1 (k76 : Int) fun x128 =>
 ckI (x77.Levels - (1 : Int)) <|
 (sh_spec_l1In x128 (0 : Int) (x77.Levels - (1 : Int))).bind fun x132 =>
 (if (!x132) = true then
 some false
 else
 nx106 ()))
 (fun (s75 : Unit) =>
 some true) v0 0 ())

def sh_spec_eComplete (v0 : (List XVariable)) (v1 : (List XEdit)) (v2 : (List Int)) (v3 : (List Int)) : Option ((List Int) × Bool) :=
 loopF (fun (nx1219 : Int → Option ((List Int) × Bool)) (s732 : Int) =>
 (sh_spec_sCount v0).bind fun x1229 =>
 (if (decide (s732 < x1229)) = true then
 (sh_spec_sAt v0 s732).bind fun x1349 =>
 (sh_spec_eFailed v1 x1349).bind fun x1354 =>
 rangeF (fun (k1412 : Nat) (x1413 : Int) (s1411 : Bool) (nx1444 : Bool → Option ((List Int) × Bool)) =>
 (if s1411 = true then
 getO x1349 x1413 fun x1457 =>
 getO v3 x1413 fun x1460 =>
 nx1444 (decide (x1457 = x1460))
 else
 nx1444 false))
 (fun (s1411 : Bool) =>
 (if s1411 = true then
 some (x1349, true)
 else
 ckI (s732 + (1 : Int)) <|
 nx1219 (s732 + (1 : Int)))) v2 0 (decide ((x1354.length : Int) = (0 : Int)))
 else
 some (([] : List Int), false))) FUEL (0 : Int)

def sh_impl_isSmall (v0 : (List XVariable)) : Option Bool :=
 (sh_impl_IsSchema v0).bind fun x6 =>
 (if x6 = true then
 (sh_impl_combinations v0).bind fun x9 =>
 some (decide (x9 ≤ (100 : Int)))
 else
 some false)

def sh_impl_areValues (v0 : (List XVariable)) (v1 : (List Int)) : Option Bool :=
 (if (decide ((v1.length : Int) ≠ (v0.length : Int))) = true then
 some false
 else
 rangeF (fun (k60 : Nat) (x61 : Int) (s59 : Unit) (nx82 : Unit → Option Bool) =>
 (if (decide (x61 < (0 : Int))) = true then
 some false
 else
 getO v0 (k60 : Int) fun x99 =>
 (if (decide (x99.Levels ≤ x61)) = true then
 some false
 else
 nx82 ())))
 (fun (s59 : Unit) =>
 some true) v1 0 ())

def sh_impl_completionOf_1 (v0 : (List Int)) (v1 : (List Int)) (v2 : (List Int)) (v3 : (Option (List Int))) : Option ((Option (List Int)) × Bool) :=
 rangeF (fun (k66 : Nat) (x67 : Int) (s65 : Unit) (nx96 : Unit → Option ((Option (List Int)) × Bool)) =>
 getO v0 x67 fun x118 =>
 getO v2 x67 fun x121 =>
 (if (decide (x118 ≠ x121)) = true then
 some (v3, true)
 else
 nx96 ()))
 (fun (s65 : Unit) =>
 some ((some v0), false)) v1 0 ()

def sh_impl_passing_impl_completionOf_1 (v0 : (List XVariable)) (v1 : (List XEdit)) (v2 : ((List Int) × (List Int) × (Option (List Int)))) : Option ((Option (List Int)) × Unit) :=
 (sh_impl_combinations v0).bind fun x3 =>
 loopF (fun (nx78 : ((Option (List Int)) × Int) → Option ((Option (List Int)) × Unit)) (s5 : ((Option (List Int)) × Int)) =>
 (if (decide (s5.2 < x3)) = true then
 (sh_impl_valuesAt v0 s5.2).bind fun x100 =>
 (sh_impl_failsOne v1 x100).bind fun x107 =>
 (if (!x107) = true then
 (sh_impl_completionOf_1 x100 v2.1 v2.2.1 s5.1).bind fun x110 =>
 (if (!x110.2) = true then
 some (x110.1, ())
 else
 ckI (s5.2 + (1 : Int)) <|
 nx78 (x110.1, (s5.2 + (1 : Int))))
 else
 ckI (s5.2 + (1 : Int)) <|
 nx78 (s5.1, (s5.2 + (1 : Int))))
 else
 some (s5.1, ()))) FUEL (v2.2.2, (0 : Int))

def sh_impl_completionOf (v0 : (List XVariable)) (v1 : (List XEdit)) (v2 : (List Int)) (v3 : (List Int)) : Option (Option (List Int)) :=
 (sh_impl_passing_impl_completionOf_1 v0 v1 (v2, v3, (none : Option (List Int)))).bind fun x3 =>
 some x3.1

def sh_impl_completionOf_fg (v0 : (List XVariable)) (v1 : (List XEdit)) (v2 : (List Int)) (v3 : (List Int)) : Option (List Int) :=
 (sh_impl_completionOf v0 v1 v2 v3).map fun x => x.getD []

def sh_spec_l1Has (v0 : (List Int)) (v1 : Int) : Option Bool :=
 rangeF (fun (k18 : Nat) (x19 : Int) (s17 : Unit) (nx24 : Unit → Option Bool) =>
 (if (decide (x19 = v1)) = true then
 some true
 else
 nx24 ()))
 (fun (s17 : Unit) =>
 some false) v0 0 ()

def sh_spec_l1Sign (v0 : Int) : Option Int :=
 (if (decide (v0 < (0 : Int))) = true then
 some (-1 : Int)
 else
 (if (decide ((0 : Int) < v0)) = true then
 some (1 : Int)
 else
 some (0 : Int)))

def sh_spec_l1Less (v0 : (List Int)) (v1 : (List Int)) : Option Int :=
 jn (fun (s144 : Unit) =>
 ckI ((v0.length : Int) - (v1.length : Int)) <|
 (sh_spec_l1Sign ((v0.length : Int) - (v1.length : Int))).bind fun x155 =>
 some x155) fun af145 =>
 loopF (fun (nx252 : Int → Option Int) (s157 : Int) =>
 (if (decide (s157 < (v0.length : Int))) = true then
 (if (decide (s157 < (v1.length : Int))) = true then
 getO v0 s157 fun x290 =>
 getO v1 s157 fun x293 =>
 (if (decide (x290 ≠ x293)) = true then
 (if (decide (x290 < x293)) = true then
 some (-1 : Int)
 else
 some (1 : Int))
 else
 ckI (s157 + (1 : Int)) <|
 nx252 (s157 + (1 : Int)))
 else
 af145 ())
 else
 af145 ())) FUEL (0 : Int)

def sh_impl_membersOf (v0 : Int) : Option (List Int) :=
 loopF (fun (nx174 : ((List Int) × Int) → Option (List Int)) (s105 : ((List Int) × Int)) =>
 ck (0 ≤ s105.2 ∧ s105.2 < 64) <|
 (if (decide ((v0 / 2 ^ (s105.2).toNat) ≠ (0 : Int))) = true then
 ck (0 ≤ s105.2 ∧ s105.2 < 64) <|
 ck (0 ≤ (v0 / 2 ^ (s105.2).toNat)) <|
 ckK .i64 (v0 / 2 ^ (s105.2).toNat) <|
 ck (0 ≤ (1 : Int)) <|
 ckK .i64 (1 : Int) <|
 (if (decide ((((v0 / 2 ^ (s105.2).toNat).toNat &&& (1 : Int).toNat : Nat) : Int) = (1 : Int))) = true then
 lnO (s105.1.length + [s105.2].length) <|
 ckI (s105.2 + (1 : Int)) <|
 nx174 ((s105.1 ++ [s105.2]), (s105.2 + (1 : Int)))
 else
 ckI (s105.2 + (1 : Int)) <|
 nx174 (s105.1, (s105.2 + (1 : Int))))
 else
 some s105.1)) FUEL (([] : List Int), (0 : Int))

def sh_cmp_isNaN_int (v0 : Int) : Option Bool :=
 some (decide (v0 ≠ v0))

def sh_cmp_Compare_int (v0 : Int) (v1 : Int) : Option Int :=
 (sh_cmp_isNaN_int v0).bind fun x3 =>
 (sh_cmp_isNaN_int v1).bind fun x7 =>
 (if x3 = true then
 (if x7 = true then
 some (0 : Int)
 else
 some (-1 : Int))
 else
 (if x7 = true then
 some (1 : Int)
 else
 (if (decide (v0 < v1)) = true then
 some (-1 : Int)
 else
 (if (decide (v1 < v0)) = true then
 some (1 : Int)
 else
 some (0 : Int)))))

def sh_slices_Compare_int (v0 : (List Int)) (v1 : (List Int)) : Option Int :=
 rangeF (fun (k82 : Nat) (x83 : Int) (s81 : Unit) (nx120 : Unit → Option Int) =>
 (if (decide ((v1.length : Int) ≤ (k82 : Int))) = true then
 some (1 : Int)
 else
 getO v1 (k82 : Int) fun x159 =>
 (sh_cmp_Compare_int x83 x159).bind fun x164 =>
 (if (decide (x164 ≠ (0 : Int))) = true then
 some x164
 else
 nx120 ())))
 (fun (s81 : Unit) =>
 (if (decide ((v0.length : Int) < (v1.length : Int))) = true then
 some (-1 : Int)
 else
 some (0 : Int))) v0 0 ()

def sh_cmp_Or_int (v0 : (List Int)) : Option Int :=
 rangeF (fun (k18 : Nat) (x19 : Int) (s17 : Unit) (nx24 : Unit → Option Int) =>
 (if (decide (x19 ≠ (0 : Int))) = true then
 some x19
 else
 nx24 ()))
 (fun (s17 : Unit) =>
 some (0 : Int)) v0 0 ()

def sh_impl_otherVars (v0 : (List XVariable)) (v1 : (List Int)) : Option (List Int) :=
 rangeF (fun (k50 : Nat) (x51 : XVariable) (s49 : (List Int)) (nx78 : (List Int) → Option (List Int)) =>
 (sh_slices_Contains_int v1 (k50 : Int)).bind fun x89 =>
 (if (!x89) = true then
 lnO (s49.length + [(k50 : Int)].length) <|
 nx78 (s49 ++ [(k50 : Int)])
 else
 nx78 s49))
 (fun (s49 : (List Int)) =>
 some s49) v0 0 ([] : List Int)

def sh_spec_iWeights (v0 : (List XVariable)) (v1 : (List Int)) : Option Bool :=
 (if (decide ((v1.length : Int) = (v0.length : Int))) = true then
 (sh_spec_l1All v1 (1 : Int) (100 : Int)).bind fun x9 =>
 some x9
 else
 some false)

def sh_spec_iBits (v0 : Int) : Option (List Int) :=
 loopF (fun (nx214 : ((List Int) × Int) → Option (List Int)) (s129 : ((List Int) × Int)) =>
 ckK .u64 s129.2 <|
 ck (0 ≤ s129.2 ∧ s129.2 < 64) <|
 (if (decide ((0 : Int) < (v0 / 2 ^ (s129.2).toNat))) = true then
 ckK .u64 s129.2 <|
 ck (0 ≤ s129.2 ∧ s129.2 < 64) <|
 ck (0 ≤ (v0 / 2 ^ (s129.2).toNat)) <|
 ckK .i64 (v0 / 2 ^ (s129.2).toNat) <|
 ck (0 ≤ (1 : Int)) <|
 ckK .i64 (1 : Int) <|
 (if (decide ((((v0 / 2 ^ (s129.2).toNat).toNat &&& (1 : Int).toNat : Nat) : Int) = (1 : Int))) = true then
 lnO (s129.1.length + [s129.2].length) <|
 ckI (s129.2 + (1 : Int)) <|
 nx214 ((s129.1 ++ [s129.2]), (s129.2 + (1 : Int)))
 else
 ckI (s129.2 + (1 : Int)) <|
 nx214 (s129.1, (s129.2 + (1 : Int))))
 else
 some s129.1)) FUEL (([] : List Int), (0 : Int))

def sh_spec_iSum (v0 : (List Int)) (v1 : (List Int)) : Option Int :=
 rangeF (fun (k38 : Nat) (x39 : Int) (s37 : Int) (nx58 : Int → Option Int) =>
 getO v0 x39 fun x65 =>
 ckI (s37 + x65) <|
 nx58 (s37 + x65))
 (fun (s37 : Int) =>
 some s37) v1 0 (0 : Int)

def sh_spec_iOthers (v0 : (List XVariable)) (v1 : (List Int)) : Option (List Int) :=
 rangeF (fun (k50 : Nat) (x51 : XVariable) (s49 : (List Int)) (nx78 : (List Int) → Option (List Int)) =>
 (sh_spec_l1Has v1 (k50 : Int)).bind fun x89 =>
 (if (!x89) = true then
 lnO (s49.length + [(k50 : Int)].length) <|
 nx78 (s49 ++ [(k50 : Int)])
 else
 nx78 s49))
 (fun (s49 : (List Int)) =>
 some s49) v0 0 ([] : List Int)

def sh_spec_iCheapest (v0 : (List XVariable)) (v1 : (List XEdit)) (v2 : (List Int)) (v3 : (List Int)) : Option ((List Int) × Int × Bool) :=
 loopF (fun (nx587 : ((List Int) × Int × Bool × Int) → Option ((List Int) × Int × Bool)) (s373 : ((List Int) × Int × Bool × Int)) =>
 ckK .u64 (v0.length : Int) <|
 ck (0 ≤ (v0.length : Int) ∧ (v0.length : Int) < 64) <|
 ckI ((1 : Int) * 2 ^ ((v0.length : Int)).toNat) <|
 (if (decide (s373.2.2.2 < ((1 : Int) * 2 ^ ((v0.length : Int)).toNat))) = true then
 (sh_spec_iBits s373.2.2.2).bind fun x677 =>
 (sh_spec_iSum v2 x677).bind fun x681 =>
 (((if s373.2.2.1 = true then
 (if (decide (s373.2.1 < x681)) = true then
 some true
 else
 (if (decide (x681 = s373.2.1)) = true then
 (if (decide ((s373.1.length : Int) < (x677.length : Int))) = true then
 some true
 else
 (if (decide ((x677.length : Int) = (s373.1.length : Int))) = true then
 (sh_spec_l1Less x677 s373.1).bind fun x743 =>
 some (decide ((0 : Int) ≤ x743))
 else
 some false))
 else
 some false))
 else
 some false) : Option Bool).bind fun (s719 : Bool) =>
 (if s719 = true then
 ckI (s373.2.2.2 + (1 : Int)) <|
 nx587 (s373.1, s373.2.1, s373.2.2.1, (s373.2.2.2 + (1 : Int)))
 else
 (sh_spec_iOthers v0 x677).bind fun x727 =>
 (sh_spec_eComplete v0 v1 x727 v3).bind fun x729 =>
 (if x729.2 = true then
 ckI (s373.2.2.2 + (1 : Int)) <|
 nx587 (x677, x681, true, (s373.2.2.2 + (1 : Int)))
 else
 ckI (s373.2.2.2 + (1 : Int)) <|
 nx587 (s373.1, s373.2.1, s373.2.2.1, (s373.2.2.2 + (1 : Int))))))
 else
 some (s373.1, s373.2.1, s373.2.2.1))) FUEL (([] : List Int), (0 : Int), false, (0 : Int))

def sh_impl_areWeights (v0 : (List XVariable)) (v1 : (List Int)) : Option Bool :=
 (if (decide ((v1.length : Int) ≠ (v0.length : Int))) = true then
 some false
 else
 rangeF (fun (k36 : Nat) (x37 : Int) (s35 : Unit) (nx46 : Unit → Option Bool) =>
 (if (decide (x37 < (1 : Int))) = true then
 some false
 else
 (if (decide ((100 : Int) < x37)) = true then
 some false
 else
 nx46 ())))
 (fun (s35 : Unit) =>
 some true) v1 0 ())

def sh_impl_isMendable (v0 : (List XVariable)) (v1 : (List XEdit)) (v2 : (List Int)) : Option Bool :=
 (sh_impl_isSmall v0).bind fun x9 =>
 (if x9 = true then
 (sh_impl_areEdits v0 v1).bind fun x12 =>
 (if x12 = true then
 (sh_impl_areWeights v0 v2).bind fun x15 =>
 some x15
 else
 some false)
 else
 some false)

def sh_impl_weightOf (v0 : (List Int)) (v1 : (List Int)) : Option Int :=
 rangeF (fun (k38 : Nat) (x39 : Int) (s37 : Int) (nx58 : Int → Option Int) =>
 getO v0 x39 fun x65 =>
 ckI (s37 + x65) <|
 nx58 (s37 + x65))
 (fun (s37 : Int) =>
 some s37) v1 0 (0 : Int)

def sh_impl_cheapestChange_1 (v0 : (List Int)) (v1 : (List Int)) : Option Int :=
 (sh_impl_weightOf v1 v0).bind fun x3 =>
 some x3

def sh_impl_leastCover_impl_cheapestChange_1 (v0 : (List XVariable)) (v1 : (List XEdit)) (v2 : (List Int)) (v3 : (List Int)) : Option ((List Int) × Bool) :=
 ck (0 ≤ (v0.length : Int) ∧ (v0.length : Int) < 64) <|
 ckI ((1 : Int) * 2 ^ ((v0.length : Int)).toNat) <|
 loopF (fun (nx589 : ((List Int) × Bool × Int) → Option ((List Int) × Bool)) (s385 : ((List Int) × Bool × Int)) =>
 (if (decide (s385.2.2 < ((1 : Int) * 2 ^ ((v0.length : Int)).toNat))) = true then
 (sh_impl_membersOf s385.2.2).bind fun x676 =>
 jn (fun (s709 : Unit) =>
 (sh_impl_otherVars v0 x676).bind fun x717 =>
 (sh_impl_completionOf v0 v1 x717 v2).bind fun x719 =>
 ck (x719 ≠ some []) <|
 (if (x719.isSome) = true then
 ckI (s385.2.2 + (1 : Int)) <|
 nx589 (x676, true, (s385.2.2 + (1 : Int)))
 else
 ckI (s385.2.2 + (1 : Int)) <|
 nx589 (s385.1, s385.2.1, (s385.2.2 + (1 : Int))))) fun af710 =>
 (if s385.2.1 = true then
 (sh_impl_cheapestChange_1 x676 v3).bind fun x741 =>
 (sh_impl_cheapestChange_1 s385.1 v3).bind fun x743 =>
 (sh_cmp_Compare_int x741 x743).bind fun x745 =>
 (sh_cmp_Compare_int (x676.length : Int) (s385.1.length : Int)).bind fun x749 =>
 (sh_slices_Compare_int x676 s385.1).bind fun x751 =>
 (sh_cmp_Or_int [x745, x749, x751]).bind fun x753 =>
 (if (decide ((0 : Int) ≤ x753)) = true then
 ckI (s385.2.2 + (1 : Int)) <|
 nx589 (s385.1, s385.2.1, (s385.2.2 + (1 : Int)))
 else
 af710 ())
 else
 af710 ())
 else
 some (s385.1, s385.2.1))) FUEL (([] : List Int), false, (0 : Int))

def sh_impl_cheapestChange (v0 : (List XVariable)) (v1 : (List XEdit)) (v2 : (List Int)) (v3 : (List Int)) : Option ((List Int) × Bool) :=
 (sh_impl_leastCover_impl_cheapestChange_1 v0 v1 v3 v2).bind fun x3 =>
 some (x3.1, x3.2)

def sh_spec_iMend (v0 : (List XVariable)) (v1 : (List XEdit)) (v2 : (List Int)) (v3 : (List Int)) : Option ((List Int) × Bool) :=
 (sh_spec_iCheapest v0 v1 v2 v3).bind fun x3 =>
 (if (!x3.2.2) = true then
 some (([] : List Int), false)
 else
 (sh_spec_iOthers v0 x3.1).bind fun x11 =>
 (sh_spec_eComplete v0 v1 x11 v3).bind fun x13 =>
 some (x13.1, x13.2))

def sh_laws_szRecord (v0 : XRecord) (v1 : Int) : Option Int :=
 (sh_laws_szIntS v0.Values v1).bind fun x3 =>
 (if (decide (x3 < (0 : Int))) = true then
 some (-1 : Int)
 else
 some x3)

def sh_laws_szRecordS (v0 : (List XRecord)) (v1 : Int) : Option Int :=
 ckI (v1 - (v0.length : Int)) <|
 (if (decide ((v1 - (v0.length : Int)) < (0 : Int))) = true then
 some (-1 : Int)
 else
 loopF (fun (nx165 : (Int × Int) → Option Int) (s102 : (Int × Int)) =>
 (if (decide (s102.2 < (v0.length : Int))) = true then
 getO v0 s102.2 fun x190 =>
 (sh_laws_szRecord x190 s102.1).bind fun x193 =>
 (if (decide (x193 < (0 : Int))) = true then
 some (-1 : Int)
 else
 ckI (s102.2 + (1 : Int)) <|
 nx165 (x193, (s102.2 + (1 : Int))))
 else
 some s102.1)) FUEL ((v1 - (v0.length : Int)), (0 : Int)))

def sh_laws_toRecord (v0 : XRecord) : Option XRecord :=
 (sh_laws_toIntS v0.Values).bind fun x3 =>
 some (⟨v0.Area, v0.House, x3⟩ : XRecord)

def sh_laws_toRecordS (v0 : (List XRecord)) : Option (List XRecord) :=
 mkO (v0.length : Int) <|
 loopF (fun (nx135 : ((List XRecord) × Int) → Option (List XRecord)) (s84 : ((List XRecord) × Int)) =>
 (if (decide (s84.2 < (v0.length : Int))) = true then
 getO v0 s84.2 fun x152 =>
 (sh_laws_toRecord x152).bind fun x155 =>
 getO s84.1 s84.2 fun x157 =>
 ckI (s84.2 + (1 : Int)) <|
 nx135 ((s84.1.set (s84.2).toNat x155), (s84.2 + (1 : Int)))
 else
 some s84.1)) FUEL ((List.replicate ((v0.length : Int)).toNat (⟨(0 : Int), (0 : Int), ([] : List Int)⟩ : XRecord)), (0 : Int))

def sh_spec_rGood (v0 : (List XVariable)) (v1 : XRecord) : Option Bool :=
 (sh_spec_l1In v1.Area (0 : Int) (29 : Int)).bind fun x9 =>
 (if x9 = true then
 (sh_spec_l1In v1.House (0 : Int) (999 : Int)).bind fun x12 =>
 (if x12 = true then
 (sh_spec_sFits v0 v1.Values).bind fun x15 =>
 some x15
 else
 some false)
 else
 some false)

def sh_spec_dGood (v0 : (List XVariable)) (v1 : (List XRecord)) : Option Bool :=
 rangeF (fun (k34 : Nat) (x35 : XRecord) (s33 : Unit) (nx48 : Unit → Option Bool) =>
 (sh_spec_rGood v0 x35).bind fun x60 =>
 (if (!x60) = true then
 some false
 else
 nx48 ()))
 (fun (s33 : Unit) =>
 some (decide ((v1.length : Int) ≤ (40 : Int)))) v1 0 ()

def sh_spec_rOwn (v0 : XRecord) : Option XRecord :=
 (sh_spec_l1Own v0.Values).bind fun x3 =>
 some (⟨v0.Area, v0.House, x3⟩ : XRecord)

def sh_spec_iChanged (v0 : (List Int)) (v1 : (List Int)) (v2 : (List Int)) : Option Int :=
 rangeF (fun (k80 : Nat) (x81 : Int) (s79 : Int) (nx128 : Int → Option Int) =>
 getO v2 (k80 : Int) fun x145 =>
 (if (decide (x81 ≠ x145)) = true then
 getO v0 (k80 : Int) fun x149 =>
 ckI (s79 + x149) <|
 nx128 (s79 + x149)
 else
 nx128 s79))
 (fun (s79 : Int) =>
 some s79) v1 0 (0 : Int)

def sh_spec_MendData (v0 : (List XVariable)) (v1 : (List XEdit)) (v2 : (List Int)) (v3 : (List XRecord)) : Option ((List XRecord) × (List Int) × Bool) :=
 (sh_spec_eSmall v0 v1).bind fun x26 =>
 (if (!x26) = true then
 some (([] : List XRecord), ([] : List Int), false)
 else
 (sh_spec_iWeights v0 v2).bind fun x29 =>
 (if (!x29) = true then
 some (([] : List XRecord), ([] : List Int), false)
 else
 (sh_spec_dGood v0 v3).bind fun x32 =>
 (if (!x32) = true then
 some (([] : List XRecord), ([] : List Int), false)
 else
 rangeF (fun (k312 : Nat) (x313 : XRecord) (s311 : ((List XRecord) × (List Int))) (nx492 : ((List XRecord) × (List Int)) → Option ((List XRecord) × (List Int) × Bool)) =>
 (sh_spec_rOwn x313).bind fun x541 =>
 jn (fun (s560 : (XRecord × Int)) =>
 lnO (s311.1.length + [s560.1].length) <|
 lnO (s311.2.length + [s560.2].length) <|
 nx492 ((s311.1 ++ [s560.1]), (s311.2 ++ [s560.2]))) fun af561 =>
 (sh_spec_eFailed v1 x313.Values).bind fun x569 =>
 (if (decide ((0 : Int) < (x569.length : Int))) = true then
 (sh_spec_iMend v0 v1 v2 x313.Values).bind fun x575 =>
 (if (!x575.2) = true then
 some (([] : List XRecord), ([] : List Int), false)
 else
 (sh_spec_iChanged v2 x575.1 x313.Values).bind fun x581 =>
 af561 ((⟨x541.Area, x541.House, x575.1⟩ : XRecord), x581))
 else
 af561 (x541, (0 : Int))))
 (fun (s311 : ((List XRecord) × (List Int))) =>
 some (s311.1, s311.2, true)) v3 0 (([] : List XRecord), ([] : List Int)))))

def sh_impl_isRecord (v0 : (List XVariable)) (v1 : XRecord) : Option Bool :=
 (((if (decide ((0 : Int) ≤ v1.Area)) = true then
 (if (decide (v1.Area ≤ (29 : Int))) = true then
 (if (decide ((0 : Int) ≤ v1.House)) = true then
 (if (decide (v1.House ≤ (999 : Int))) = true then
 (sh_impl_areValues v0 v1.Values).bind fun x13 =>
 some x13
 else
 some false)
 else
 some false)
 else
 some false)
 else
 some false) : Option Bool).bind fun (s7 : Bool) =>
 some s7)

def sh_impl_isData (v0 : (List XVariable)) (v1 : (List XRecord)) : Option Bool :=
 (if (decide ((40 : Int) < (v1.length : Int))) = true then
 some false
 else
 rangeF (fun (k40 : Nat) (x41 : XRecord) (s39 : Unit) (nx54 : Unit → Option Bool) =>
 (sh_impl_isRecord v0 x41).bind fun x64 =>
 (if (!x64) = true then
 some false
 else
 nx54 ()))
 (fun (s39 : Unit) =>
 some true) v1 0 ())

def sh_impl_copyRecord (v0 : XRecord) : Option XRecord :=
 (sh_slices_Clone_int v0.Values).bind fun x3 =>
 some (⟨v0.Area, v0.House, x3⟩ : XRecord)

def sh_impl_copyRecords (v0 : (List XRecord)) : Option (List XRecord) :=
 mkO (v0.length : Int) <|
 rangeF (fun (k50 : Nat) (x51 : XRecord) (s49 : (List XRecord)) (nx74 : (List XRecord) → Option (List XRecord)) =>
 (sh_impl_copyRecord x51).bind fun x82 =>
 getO s49 (k50 : Int) fun x84 =>
 nx74 (s49.set ((k50 : Int)).toNat x82))
 (fun (s49 : (List XRecord)) =>
 some s49) v0 0 (List.replicate ((v0.length : Int)).toNat (⟨(0 : Int), (0 : Int), ([] : List Int)⟩ : XRecord))

def sh_impl_MendData (v0 : (List XVariable)) (v1 : (List XEdit)) (v2 : (List Int)) (v3 : (List XRecord)) : Option ((List XRecord) × (List Int) × Bool) :=
 (sh_impl_isMendable v0 v1 v2).bind fun x17 =>
 (if (!x17) = true then
 some (([] : List XRecord), ([] : List Int), false)
 else
 (sh_impl_isData v0 v3).bind fun x20 =>
 (if (!x20) = true then
 some (([] : List XRecord), ([] : List Int), false)
 else
 (sh_impl_copyRecords v3).bind fun x25 =>
 mkO (v3.length : Int) <|
 rangeF (fun (k256 : Nat) (x257 : XRecord) (s255 : ((List XRecord) × (List Int))) (nx400 : ((List XRecord) × (List Int)) → Option ((List XRecord) × (List Int) × Bool)) =>
 (sh_impl_failsOne v1 x257.Values).bind fun x445 =>
 (if (!x445) = true then
 nx400 (s255.1, s255.2)
 else
 (sh_impl_cheapestChange v0 v1 v2 x257.Values).bind fun x450 =>
 (if (!x450.2) = true then
 some (([] : List XRecord), ([] : List Int), false)
 else
 (sh_impl_otherVars v0 x450.1).bind fun x461 =>
 (sh_impl_completionOf_fg v0 v1 x461 x257.Values).bind fun x463 =>
 getO s255.1 (k256 : Int) fun x465 =>
 (sh_impl_weightOf v2 x450.1).bind fun x468 =>
 getO s255.2 (k256 : Int) fun x470 =>
 nx400 ((s255.1.set ((k256 : Int)).toNat (⟨x465.Area, x465.House, x463⟩ : XRecord)), (s255.2.set ((k256 : Int)).toNat x468)))))
 (fun (s255 : ((List XRecord) × (List Int))) =>
 some (s255.1, s255.2, true)) v3 0 (x25, (List.replicate ((v3.length : Int)).toNat (0 : Int)))))

def sh_laws_eqRecord (v0 : XRecord) (v1 : XRecord) : Option Bool :=
 (if (decide (v0.Area ≠ v1.Area)) = true then
 some false
 else
 (if (decide (v0.House ≠ v1.House)) = true then
 some false
 else
 (sh_laws_eqIntS v0.Values v1.Values).bind fun x12 =>
 (if (!x12) = true then
 some false
 else
 some true)))

def sh_laws_eqRecordS (v0 : (List XRecord)) (v1 : (List XRecord)) : Option Bool :=
 (if (decide ((v0.length : Int) ≠ (v1.length : Int))) = true then
 some false
 else
 loopF (fun (nx229 : Int → Option Bool) (s142 : Int) =>
 (if (decide (s142 < (v0.length : Int))) = true then
 getO v0 s142 fun x263 =>
 getO v1 s142 fun x266 =>
 (sh_laws_eqRecord x263 x266).bind fun x269 =>
 (if (!x269) = true then
 some false
 else
 ckI (s142 + (1 : Int)) <|
 nx229 (s142 + (1 : Int)))
 else
 some true)) FUEL (0 : Int))

def sh_laws_markRecordS (v0 : (List XRecord)) (v1 : Int) : Option ((List XRecord) × Int) :=
 loopF (fun (nx259 : ((List XRecord) × Int × Int) → Option ((List XRecord) × Int)) (s156 : ((List XRecord) × Int × Int)) =>
 (if (decide (s156.2.2 < (s156.1.length : Int))) = true then
 getO s156.1 s156.2.2 fun x292 =>
 ckI (s156.2.1 + (1 : Int)) <|
 getO (s156.1.set (s156.2.2).toNat (⟨s156.2.1, x292.House, x292.Values⟩ : XRecord)) s156.2.2 fun x300 =>
 ckI ((s156.2.1 + (1 : Int)) + (1 : Int)) <|
 getO ((s156.1.set (s156.2.2).toNat (⟨s156.2.1, x292.House, x292.Values⟩ : XRecord)).set (s156.2.2).toNat (⟨x300.Area, (s156.2.1 + (1 : Int)), x300.Values⟩ : XRecord)) s156.2.2 fun x305 =>
 (sh_laws_markIntS x305.Values ((s156.2.1 + (1 : Int)) + (1 : Int))).bind fun x308 =>
 ckI (s156.2.2 + (1 : Int)) <|
 nx259 ((((s156.1.set (s156.2.2).toNat (⟨s156.2.1, x292.House, x292.Values⟩ : XRecord)).set (s156.2.2).toNat (⟨x300.Area, (s156.2.1 + (1 : Int)), x300.Values⟩ : XRecord)).set (s156.2.2).toNat (⟨x305.Area, x305.House, x308.1⟩ : XRecord)), x308.2, (s156.2.2 + (1 : Int)))
 else
 some (s156.1, s156.2.1))) FUEL (v0, v1, (0 : Int))

def sh_laws_heldRecordS (v0 : (List XRecord)) (v1 : Int) : Option Int :=
 loopF (fun (nx299 : (Int × Int) → Option Int) (s180 : (Int × Int)) =>
 (if (decide (s180.2 < (v0.length : Int))) = true then
 getO v0 s180.2 fun x343 =>
 (if (decide (x343.Area ≠ s180.1)) = true then
 some (-1 : Int)
 else
 ckI (s180.1 + (1 : Int)) <|
 (if (decide (x343.House ≠ (s180.1 + (1 : Int)))) = true then
 some (-1 : Int)
 else
 ckI ((s180.1 + (1 : Int)) + (1 : Int)) <|
 (sh_laws_heldIntS x343.Values ((s180.1 + (1 : Int)) + (1 : Int))).bind fun x355 =>
 (if (decide (x355 < (0 : Int))) = true then
 some (-1 : Int)
 else
 ckI (s180.2 + (1 : Int)) <|
 nx299 (x355, (s180.2 + (1 : Int))))))
 else
 some s180.1)) FUEL (v1, (0 : Int))
def sh_laws_FnExactMendData (v0 : (List XVariable)) (v1 : (List XEdit)) (v2 : (List Int)) (v3 : (List XRecord)) : Option Bool :=
 (if (decide ((1048576 : Int) < (v2.length : Int))) = true then
 some true
 else
 (sh_laws_szVariableS v0 (1048576 : Int)).bind fun x9 =>
 (if (decide (x9 < (0 : Int))) = true then
 some true
 else
 (sh_laws_szEditS v1 x9).bind fun x15 =>
 (if (decide (x15 < (0 : Int))) = true then
 some true
 else
 (sh_laws_szRecordS v3 x15).bind fun x21 =>
 (if (decide (x21 < (0 : Int))) = true then
 some true
 else
 (sh_laws_toVariableS v0).bind fun x35 =>
 (sh_laws_toEditS v1).bind fun x37 =>
 (sh_laws_toIntS v2).bind fun x39 =>
 (sh_laws_toRecordS v3).bind fun x41 =>
 (sh_spec_MendData x35 x37 x39 x41).bind fun x43 =>
 (sh_laws_toVariableS v0).bind fun x47 =>
 (sh_laws_toEditS v1).bind fun x51 =>
 (sh_laws_toIntS v2).bind fun x55 =>
 (sh_laws_toRecordS v3).bind fun x59 =>
 (sh_impl_MendData x47 x51 x55 x59).bind fun x63 =>
 (sh_laws_eqRecordS x63.1 x43.1).bind fun x84 =>
 (if (!x84) = true then
 some false
 else
 (sh_laws_eqIntS x63.2.1 x43.2.1).bind fun x87 =>
 (if (!x87) = true then
 some false
 else
 (if (x63.2.2 != x43.2.2) = true then
 some false
 else
 (sh_laws_toVariableS v0).bind fun x104 =>
 (sh_laws_eqVariableS x47 x104).bind fun x106 =>
 (if (!x106) = true then
 some false
 else
 (sh_laws_toEditS v1).bind fun x122 =>
 (sh_laws_eqEditS x51 x122).bind fun x124 =>
 (if (!x124) = true then
 some false
 else
 (sh_laws_toIntS v2).bind fun x140 =>
 (sh_laws_eqIntS x55 x140).bind fun x142 =>
 (if (!x142) = true then
 some false
 else
 (sh_laws_toRecordS v3).bind fun x158 =>
 (sh_laws_eqRecordS x59 x158).bind fun x160 =>
 (if (!x160) = true then
 some false
 else
 (sh_laws_markVariableS x47 (1 : Int)).bind fun x165 =>
 (sh_laws_markEditS x51 x165.2).bind fun x169 =>
 (sh_laws_markIntS x55 x169.2).bind fun x173 =>
 (sh_laws_markRecordS x59 x173.2).bind fun x177 =>
 (((if (decide (x177.2 < (0 : Int))) = true then
 some true
 else
 (sh_laws_eqRecordS x63.1 x43.1).bind fun x289 =>
 (if (!x289) = true then
 some true
 else
 (sh_laws_eqIntS x63.2.1 x43.2.1).bind fun x292 =>
 (if (!x292) = true then
 some true
 else
 some (x63.2.2 != x43.2.2)))) : Option Bool).bind fun (s203 : Bool) =>
 (if s203 = true then
 some false
 else
 (sh_laws_markRecordS x63.1 (1 : Int)).bind fun x208 =>
 (sh_laws_markIntS x63.2.1 x208.2).bind fun x212 =>
 (sh_laws_heldRecordS x208.1 (1 : Int)).bind fun x216 =>
 (if (decide (x216 < (0 : Int))) = true then
 some false
 else
 (sh_laws_heldIntS x212.1 x216).bind fun x222 =>
 (if (decide (x222 < (0 : Int))) = true then
 some false
 else
 (if (decide (x222 ≠ x212.2)) = true then
 some false
 else
 (sh_laws_toVariableS v0).bind fun x238 =>
 (sh_laws_toEditS v1).bind fun x240 =>
 (sh_laws_toIntS v2).bind fun x242 =>
 (sh_laws_toRecordS v3).bind fun x244 =>
 (sh_impl_MendData x238 x240 x242 x244).bind fun x246 =>
 (sh_laws_eqRecordS x246.1 x43.1).bind fun x267 =>
 (if (!x267) = true then
 some false
 else
 (sh_laws_eqIntS x246.2.1 x43.2.1).bind fun x270 =>
 (if (!x270) = true then
 some false
 else
 (if (x246.2.2 != x43.2.2) = true then
 some false
 else
 (sh_laws_heldRecordS x208.1 (1 : Int)).bind fun x276 =>
 (if (decide (x276 < (0 : Int))) = true then
 some false
 else
 (sh_laws_heldIntS x212.1 x276).bind fun x282 =>
 (if (decide (x282 < (0 : Int))) = true then
 some false
 else
 (if (decide (x282 ≠ x212.2)) = true then
 some false
 else
 some true))))))))))))))))))))))
end AS
