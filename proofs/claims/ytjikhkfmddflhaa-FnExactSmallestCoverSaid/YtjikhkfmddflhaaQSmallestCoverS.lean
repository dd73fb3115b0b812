/- Plain functions. No condition. -/
import Derived.Test.YtjikhkfmddflhaaKc
set_option linter.unusedVariables false
set_option linter.unusedSimpArgs false
namespace AS
structure XCube where
  Sizes : (List Int)
  Cells : (List Int)
  deriving DecidableEq, Inhabited
def cXCube (c0 : Cd (List Int)) (c1 : Cd (List Int)) : Cd XCube := ⟨fun v => .agg [c0.enc v.Sizes, c1.enc v.Cells], c0.sz + (c1.sz + (0)), true, (c0.im && (c1.im && true)), fun v => by simp only [D.size, D.sizes, Cd.h_sz], fun _ => rfl, fun v => by simp only [D.imm, D.imms, Cd.h_im]⟩
theorem tXCube {c0 c0' : Cd (List Int)} {c1 c1' : Cd (List Int)} (tc0 : ToI c0 c0') (tc1 : ToI c1 c1') : ToI (cXCube c0 c1) (cXCube c0' c1') := ⟨fun v => by simp only [cXCube, D.toImm, D.toImms, tc0.h, tc1.h], by simp only [cXCube, tc0.im, tc1.im, Bool.and_true]⟩
theorem sXCube {c0 : Cd (List Int)} {c1 : Cd (List Int)} (tc0 : Sol c0) (tc1 : Sol c1) : Sol (cXCube c0 c1) := ⟨fun v => by simp only [cXCube, D.solid, D.solids, tc0.h, tc1.h, Bool.and_true]⟩
instance : Bd XCube := ⟨fun v => Bd.bd v.Sizes ∧ Bd.bd v.Cells⟩
structure XVariable where
  Name : (List UInt8)
  Levels : Int
  deriving DecidableEq, Inhabited
def cXVariable (c0 : Cd (List UInt8)) (c1 : Cd Int) : Cd XVariable := ⟨fun v => .agg [c0.enc v.Name, c1.enc v.Levels], c0.sz + (c1.sz + (0)), true, (c0.im && (c1.im && true)), fun v => by simp only [D.size, D.sizes, Cd.h_sz], fun _ => rfl, fun v => by simp only [D.imm, D.imms, Cd.h_im]⟩
theorem tXVariable {c0 c0' : Cd (List UInt8)} {c1 c1' : Cd Int} (tc0 : ToI c0 c0') (tc1 : ToI c1 c1') : ToI (cXVariable c0 c1) (cXVariable c0' c1') := ⟨fun v => by simp only [cXVariable, D.toImm, D.toImms, tc0.h, tc1.h], by simp only [cXVariable, tc0.im, tc1.im, Bool.and_true]⟩
theorem sXVariable {c0 : Cd (List UInt8)} {c1 : Cd Int} (tc0 : Sol c0) (tc1 : Sol c1) : Sol (cXVariable c0 c1) := ⟨fun v => by simp only [cXVariable, D.solid, D.solids, tc0.h, tc1.h, Bool.and_true]⟩
instance : Bd XVariable := ⟨fun v => Bd.bd v.Name ∧ Bd.bd v.Levels⟩
structure XEdit where
  Sets : (List Int)
  deriving DecidableEq, Inhabited
def cXEdit (c0 : Cd (List Int)) : Cd XEdit := ⟨fun v => .agg [c0.enc v.Sets], c0.sz + (0), true, (c0.im && true), fun v => by simp only [D.size, D.sizes, Cd.h_sz], fun _ => rfl, fun v => by simp only [D.imm, D.imms, Cd.h_im]⟩
theorem tXEdit {c0 c0' : Cd (List Int)} (tc0 : ToI c0 c0') : ToI (cXEdit c0) (cXEdit c0') := ⟨fun v => by simp only [cXEdit, D.toImm, D.toImms, tc0.h], by simp only [cXEdit, tc0.im, Bool.and_true]⟩
theorem sXEdit {c0 : Cd (List Int)} (tc0 : Sol c0) : Sol (cXEdit c0) := ⟨fun v => by simp only [cXEdit, D.solid, D.solids, tc0.h, Bool.and_true]⟩
instance : Bd XEdit := ⟨fun v => Bd.bd v.Sets⟩
def sh_spec_l1In (v0 : Int) (v1 : Int) (v2 : Int) : Option Bool :=
 (if (decide (v1 ≤ v0)) = true then
 some (decide (v0 ≤ v2))
 else
 some false)

def sh_laws_szIntS (v0 : (List Int)) (v1 : Int) : Option Int :=
 ckI (v1 - (v0.length : Int)) <|
 (if (decide ((v1 - (v0.length : Int)) < (0 : Int))) = true then
 some (-1 : Int)
 else
 some (v1 - (v0.length : Int)))

def sh_laws_toIntS (v0 : (List Int)) : Option (List Int) :=
 mkO (v0.length : Int) <|
 loopF (fun (nx115 : ((List Int) × Int) → Option (List Int)) (s72 : ((List Int) × Int)) =>
 (if (decide (s72.2 < (v0.length : Int))) = true then
 getO v0 s72.2 fun x130 =>
 getO s72.1 s72.2 fun x133 =>
 ckI (s72.2 + (1 : Int)) <|
 nx115 ((s72.1.set (s72.2).toNat x130), (s72.2 + (1 : Int)))
 else
 some s72.1)) FUEL ((List.replicate ((v0.length : Int)).toNat (0 : Int)), (0 : Int))

def sh_laws_eqIntS (v0 : (List Int)) (v1 : (List Int)) : Option Bool :=
 (if (decide ((v0.length : Int) ≠ (v1.length : Int))) = true then
 some false
 else
 loopF (fun (nx189 : Int → Option Bool) (s118 : Int) =>
 (if (decide (s118 < (v0.length : Int))) = true then
 getO v0 s118 fun x217 =>
 getO v1 s118 fun x220 =>
 (if (decide (x217 ≠ x220)) = true then
 some false
 else
 ckI (s118 + (1 : Int)) <|
 nx189 (s118 + (1 : Int)))
 else
 some true)) FUEL (0 : Int))

def sh_laws_markIntS (v0 : (List Int)) (v1 : Int) : Option ((List Int) × Int) :=
 loopF (fun (nx119 : ((List Int) × Int × Int) → Option ((List Int) × Int)) (s72 : ((List Int) × Int × Int)) =>
 (if (decide (s72.2.2 < (s72.1.length : Int))) = true then
 getO s72.1 s72.2.2 fun x138 =>
 ckI (s72.2.1 + (1 : Int)) <|
 ckI (s72.2.2 + (1 : Int)) <|
 nx119 ((s72.1.set (s72.2.2).toNat s72.2.1), (s72.2.1 + (1 : Int)), (s72.2.2 + (1 : Int)))
 else
 some (s72.1, s72.2.1))) FUEL (v0, v1, (0 : Int))

def sh_laws_heldIntS (v0 : (List Int)) (v1 : Int) : Option Int :=
 loopF (fun (nx199 : (Int × Int) → Option Int) (s120 : (Int × Int)) =>
 (if (decide (s120.2 < (v0.length : Int))) = true then
 getO v0 s120.2 fun x233 =>
 (if (decide (x233 ≠ s120.1)) = true then
 some (-1 : Int)
 else
 ckI (s120.1 + (1 : Int)) <|
 ckI (s120.2 + (1 : Int)) <|
 nx199 ((s120.1 + (1 : Int)), (s120.2 + (1 : Int))))
 else
 some s120.1)) FUEL (v1, (0 : Int))

def sh_slices_Index_int (v0 : (List Int)) (v1 : Int) : Option Int :=
 rangeF (fun (k18 : Nat) (x19 : Int) (s17 : Unit) (nx24 : Unit → Option Int) =>
 (if (decide (v1 = x19)) = true then
 some (k18 : Int)
 else
 nx24 ()))
 (fun (s17 : Unit) =>
 some (-1 : Int)) v0 0 ()

def sh_slices_Contains_int (v0 : (List Int)) (v1 : Int) : Option Bool :=
 (sh_slices_Index_int v0 v1).bind fun x3 =>
 some (decide ((0 : Int) ≤ x3))

def sh_laws_szVariable (v0 : XVariable) (v1 : Int) : Option Int :=
 ckI (v1 - (v0.Name.length : Int)) <|
 (if (decide ((v1 - (v0.Name.length : Int)) < (0 : Int))) = true then
 some (-1 : Int)
 else
 some (v1 - (v0.Name.length : Int)))

def sh_laws_szVariableS (v0 : (List XVariable)) (v1 : Int) : Option Int :=
 ckI (v1 - (v0.length : Int)) <|
 (if (decide ((v1 - (v0.length : Int)) < (0 : Int))) = true then
 some (-1 : Int)
 else
 loopF (fun (nx165 : (Int × Int) → Option Int) (s102 : (Int × Int)) =>
 (if (decide (s102.2 < (v0.length : Int))) = true then
 getO v0 s102.2 fun x190 =>
 (sh_laws_szVariable x190 s102.1).bind fun x193 =>
 (if (decide (x193 < (0 : Int))) = true then
 some (-1 : Int)
 else
 ckI (s102.2 + (1 : Int)) <|
 nx165 (x193, (s102.2 + (1 : Int))))
 else
 some s102.1)) FUEL ((v1 - (v0.length : Int)), (0 : Int)))

def sh_laws_szEdit (v0 : XEdit) (v1 : Int) : Option Int :=
 (sh_laws_szIntS v0.Sets v1).bind fun x3 =>
 (if (decide (x3 < (0 : Int))) = true then
 some (-1 : Int)
 else
 some x3)

def sh_laws_szEditS (v0 : (List XEdit)) (v1 : Int) : Option Int :=
 ckI (v1 - (v0.length : Int)) <|
 (if (decide ((v1 - (v0.length : Int)) < (0 : Int))) = true then
 some (-1 : Int)
 else
 loopF (fun (nx165 : (Int × Int) → Option Int) (s102 : (Int × Int)) =>
 (if (decide (s102.2 < (v0.length : Int))) = true then
 getO v0 s102.2 fun x190 =>
 (sh_laws_szEdit x190 s102.1).bind fun x193 =>
 (if (decide (x193 < (0 : Int))) = true then
 some (-1 : Int)
 else
 ckI (s102.2 + (1 : Int)) <|
 nx165 (x193, (s102.2 + (1 : Int))))
 else
 some s102.1)) FUEL ((v1 - (v0.length : Int)), (0 : Int)))

def sh_laws_toVariable (v0 : XVariable) : Option XVariable :=
 some (⟨v0.Name, v0.Levels⟩ : XVariable)

def sh_laws_toVariableS (v0 : (List XVariable)) : Option (List XVariable) :=
 mkO (v0.length : Int) <|
 loopF (fun (nx135 : ((List XVariable) × Int) → Option (List XVariable)) (s84 : ((List XVariable) × Int)) =>
 (if (decide (s84.2 < (v0.length : Int))) = true then
 getO v0 s84.2 fun x152 =>
 (sh_laws_toVariable x152).bind fun x155 =>
 getO s84.1 s84.2 fun x157 =>
 ckI (s84.2 + (1 : Int)) <|
 nx135 ((s84.1.set (s84.2).toNat x155), (s84.2 + (1 : Int)))
 else
 some s84.1)) FUEL ((List.replicate ((v0.length : Int)).toNat (⟨([] : List UInt8), (0 : Int)⟩ : XVariable)), (0 : Int))

def sh_laws_toEdit (v0 : XEdit) : Option XEdit :=
 (sh_laws_toIntS v0.Sets).bind fun x3 =>
 some (⟨x3⟩ : XEdit)

def sh_laws_toEditS (v0 : (List XEdit)) : Option (List XEdit) :=
 mkO (v0.length : Int) <|
 loopF (fun (nx135 : ((List XEdit) × Int) → Option (List XEdit)) (s84 : ((List XEdit) × Int)) =>
 (if (decide (s84.2 < (v0.length : Int))) = true then
 getO v0 s84.2 fun x152 =>
 (sh_laws_toEdit x152).bind fun x155 =>
 getO s84.1 s84.2 fun x157 =>
 ckI (s84.2 + (1 : Int)) <|
 nx135 ((s84.1.set (s84.2).toNat x155), (s84.2 + (1 : Int)))
 else
 some s84.1)) FUEL ((List.replicate ((v0.length : Int)).toNat (⟨([] : List Int)⟩ : XEdit)), (0 : Int))

def sh_spec_sName (v0 : (List UInt8)) : Option Bool :=
 loopF (fun (nx139 : Int → Option Bool) (s84 : Int) =>
 (if (decide (s84 < (v0.length : Int))) = true then
 getO v0 s84 fun x161 =>
 (if (decide ((x161.toNat : Int) < (97 : Int))) = true then
 some false
 else
 (if (decide ((122 : Int) < (x161.toNat : Int))) = true then
 some false
 else
 ckI (s84 + (1 : Int)) <|
 nx139 (s84 + (1 : Int))))
 else
 (sh_spec_l1In (v0.length : Int) (1 : Int) (8 : Int)).bind fun x171 =>
 some x171)) FUEL (0 : Int)

def sh_spec_sFind (v0 : (List XVariable)) (v1 : (List UInt8)) : Option Int :=
 rangeF (fun (k18 : Nat) (x19 : XVariable) (s17 : Unit) (nx24 : Unit → Option Int) =>
 (if (decide (x19.Name = v1)) = true then
 some (k18 : Int)
 else
 nx24 ()))
 (fun (s17 : Unit) =>
 some (-1 : Int)) v0 0 ()

def sh_spec_sGood (v0 : (List XVariable)) : Option Bool :=
 (sh_spec_l1In (v0.length : Int) (1 : Int) (6 : Int)).bind fun x12 =>
 (if (!x12) = true then
 some false
 else
 rangeF (fun (k104 : Nat) (x105 : XVariable) (s103 : Unit) (nx146 : Unit → Option Bool) =>
 (sh_spec_sName x105.Name).bind fun x177 =>
 (if (!x177) = true then
 some false
 else
 (sh_spec_l1In x105.Levels (2 : Int) (8 : Int)).bind fun x180 =>
 (if (!x180) = true then
 some false
 else
 ck (0 ≤ (k104 : Int) ∧ 0 ≤ ((k104 : Int)).toNat ∧ ((k104 : Int)).toNat ≤ v0.length) <|
 (sh_spec_sFind ((v0.take ((k104 : Int)).toNat).drop 0) x105.Name).bind fun x184 =>
 (if (decide ((0 : Int) ≤ x184)) = true then
 some false
 else
 nx146 ()))))
 (fun (s103 : Unit) =>
 some true) v0 0 ())

def sh_spec_eFull (v0 : (List XVariable)) (v1 : Int) : Option Int :=
 getO v0 v1 fun x8 =>
 ckK .u64 x8.Levels <|
 ck (0 ≤ x8.Levels ∧ x8.Levels < 64) <|
 ckI ((1 : Int) * 2 ^ (x8.Levels).toNat) <|
 ckI (((1 : Int) * 2 ^ (x8.Levels).toNat) - (1 : Int)) <|
 some (((1 : Int) * 2 ^ (x8.Levels).toNat) - (1 : Int))

def sh_spec_eGood (v0 : (List XVariable)) (v1 : XEdit) : Option Bool :=
 (if (decide ((v1.Sets.length : Int) ≠ (v0.length : Int))) = true then
 some false
 else
 rangeF (fun (k60 : Nat) (x61 : Int) (s59 : Unit) (nx82 : Unit → Option Bool) =>
 (sh_spec_eFull v0 (k60 : Int)).bind fun x98 =>
 (sh_spec_l1In x61 (1 : Int) x98).bind fun x100 =>
 (if (!x100) = true then
 some false
 else
 nx82 ()))
 (fun (s59 : Unit) =>
 some true) v1.Sets 0 ())

def sh_spec_eList (v0 : (List XVariable)) (v1 : (List XEdit)) : Option Bool :=
 (sh_spec_sGood v0).bind fun x14 =>
 (if (!x14) = true then
 some false
 else
 (if (decide ((40 : Int) < (v1.length : Int))) = true then
 some false
 else
 rangeF (fun (k52 : Nat) (x53 : XEdit) (s51 : Unit) (nx66 : Unit → Option Bool) =>
 (sh_spec_eGood v0 x53).bind fun x76 =>
 (if (!x76) = true then
 some false
 else
 nx66 ()))
 (fun (s51 : Unit) =>
 some true) v1 0 ()))

def sh_spec_sCount (v0 : (List XVariable)) : Option Int :=
 rangeF (fun (k20 : Nat) (x21 : XVariable) (s19 : Int) (nx28 : Int → Option Int) =>
 ckI (s19 * x21.Levels) <|
 nx28 (s19 * x21.Levels))
 (fun (s19 : Int) =>
 some s19) v0 0 (1 : Int)

def sh_spec_sAt (v0 : (List XVariable)) (v1 : Int) : Option (List Int) :=
 mkO (v0.length : Int) <|
 ckI ((v0.length : Int) - (1 : Int)) <|
 loopF (fun (nx203 : (Int × (List Int) × Int) → Option (List Int)) (s128 : (Int × (List Int) × Int)) =>
 (if (decide ((0 : Int) ≤ s128.2.2)) = true then
 getO v0 s128.2.2 fun x231 =>
 ck (x231.Levels ≠ 0) <|
 getO s128.2.1 s128.2.2 fun x235 =>
 ck (x231.Levels ≠ 0) <|
 ckI (s128.1.tdiv x231.Levels) <|
 ckI (s128.2.2 - (1 : Int)) <|
 nx203 ((s128.1.tdiv x231.Levels), (s128.2.1.set (s128.2.2).toNat (s128.1.tmod x231.Levels)), (s128.2.2 - (1 : Int)))
 else
 some s128.2.1)) FUEL (v1, (List.replicate ((v0.length : Int)).toNat (0 : Int)), ((v0.length : Int) - (1 : Int)))

def sh_spec_eFails (v0 : XEdit) (v1 : (List Int)) : Option Bool :=
 rangeF (fun (k90 : Nat) (x91 : Int) (s89 : Unit) (nx132 : Unit → Option Bool) =>
 getO v0.Sets (k90 : Int) fun x163 =>
 ckK .u64 x91 <|
 ck (0 ≤ x91 ∧ x91 < 64) <|
 ck (0 ≤ (x163 / 2 ^ (x91).toNat)) <|
 ckK .i64 (x163 / 2 ^ (x91).toNat) <|
 ck (0 ≤ (1 : Int)) <|
 ckK .i64 (1 : Int) <|
 (if (decide ((((x163 / 2 ^ (x91).toNat).toNat &&& (1 : Int).toNat : Nat) : Int) = (0 : Int))) = true then
 some false
 else
 nx132 ()))
 (fun (s89 : Unit) =>
 some true) v1 0 ()

def sh_spec_eFailed (v0 : (List XEdit)) (v1 : (List Int)) : Option (List Int) :=
 rangeF (fun (k50 : Nat) (x51 : XEdit) (s49 : (List Int)) (nx78 : (List Int) → Option (List Int)) =>
 (sh_spec_eFails x51 v1).bind fun x89 =>
 (if x89 = true then
 lnO (s49.length + [(k50 : Int)].length) <|
 nx78 (s49 ++ [(k50 : Int)])
 else
 nx78 s49))
 (fun (s49 : (List Int)) =>
 some s49) v0 0 ([] : List Int)

def sh_impl_isWord (v0 : (List UInt8)) : Option Bool :=
 (if (decide ((v0.length : Int) < (1 : Int))) = true then
 some false
 else
 (if (decide ((8 : Int) < (v0.length : Int))) = true then
 some false
 else
 rangeF (fun (k40 : Nat) (x41 : UInt8) (s39 : Unit) (nx50 : Unit → Option Bool) =>
 (if (decide ((x41.toNat : Int) < (97 : Int))) = true then
 some false
 else
 (if (decide ((122 : Int) < (x41.toNat : Int))) = true then
 some false
 else
 nx50 ())))
 (fun (s39 : Unit) =>
 some true) v0 0 ()))

def sh_impl_IsSchema (v0 : (List XVariable)) : Option Bool :=
 (if (decide ((v0.length : Int) < (1 : Int))) = true then
 some false
 else
 (if (decide ((6 : Int) < (v0.length : Int))) = true then
 some false
 else
 rangeF (fun (k164 : Nat) (x165 : XVariable) (s163 : Unit) (nx236 : Unit → Option Bool) =>
 (sh_impl_isWord x165.Name).bind fun x286 =>
 (if (!x286) = true then
 some false
 else
 (if (decide (x165.Levels < (2 : Int))) = true then
 some false
 else
 (if (decide ((8 : Int) < x165.Levels)) = true then
 some false
 else
 ck (0 ≤ (k164 : Int) ∧ 0 ≤ ((k164 : Int)).toNat ∧ ((k164 : Int)).toNat ≤ v0.length) <|
 rangeF (fun (k296 : Nat) (x297 : XVariable) (s295 : Unit) (nx302 : Unit → Option Bool) =>
 (if (decide (x297.Name = x165.Name)) = true then
 some false
 else
 nx302 ()))
 (fun (s295 : Unit) =>
 nx236 ()) ((v0.take ((k164 : Int)).toNat).drop 0) 0 ()))))
 (fun (s163 : Unit) =>
 some true) v0 0 ()))

def sh_impl_fullSet (v0 : XVariable) : Option Int :=
 ck (0 ≤ v0.Levels ∧ v0.Levels < 64) <|
 ckI ((1 : Int) * 2 ^ (v0.Levels).toNat) <|
 ckI (((1 : Int) * 2 ^ (v0.Levels).toNat) - (1 : Int)) <|
 some (((1 : Int) * 2 ^ (v0.Levels).toNat) - (1 : Int))

def sh_impl_isEdit (v0 : (List XVariable)) (v1 : XEdit) : Option Bool :=
 (if (decide ((v1.Sets.length : Int) ≠ (v0.length : Int))) = true then
 some false
 else
 rangeF (fun (k76 : Nat) (x77 : Int) (s75 : Unit) (nx106 : Unit → Option Bool) =>
 (if (decide (x77 < (1 : Int))) = true then
 some false
 else
 getO v0 (k76 : Int) fun x129 =>
 (sh_impl_fullSet x129).bind fun x132 =>
 (if (decide (x132 < x77)) = true then
 some false
 else
 nx106 ())))
 (fun (s75 : Unit) =>
 some true) v1.Sets 0 ())
def sh_impl_areEdits (v0 : (List XVariable)) (v1 : (List XEdit)) : Option Bool :=
 (if (decide ((40 : Int) < (v1.length : Int))) = true then
 some false
 else
 rangeF (fun (k40 : Nat) (x41 : XEdit) (s39 : Unit) (nx54 : Unit → Option Bool) =>
 (sh_impl_isEdit v0 x41).bind fun x64 =>
 (if (!x64) = true then
 some false
 else
 nx54 ()))
 (fun (s39 : Unit) =>
 some true) v1 0 ())

def sh_impl_combinations (v0 : (List XVariable)) : Option Int :=
 rangeF (fun (k20 : Nat) (x21 : XVariable) (s19 : Int) (nx28 : Int → Option Int) =>
 ckI (s19 * x21.Levels) <|
 nx28 (s19 * x21.Levels))
 (fun (s19 : Int) =>
 some s19) v0 0 (1 : Int)

def sh_impl_valuesAt (v0 : (List XVariable)) (v1 : Int) : Option (List Int) :=
 mkO (v0.length : Int) <|
 ckI ((v0.length : Int) - (1 : Int)) <|
 loopF (fun (nx203 : (Int × (List Int) × Int) → Option (List Int)) (s128 : (Int × (List Int) × Int)) =>
 (if (decide ((0 : Int) ≤ s128.2.2)) = true then
 getO v0 s128.2.2 fun x231 =>
 ck (x231.Levels ≠ 0) <|
 getO s128.2.1 s128.2.2 fun x235 =>
 ck (x231.Levels ≠ 0) <|
 ckI (s128.1.tdiv x231.Levels) <|
 ckI (s128.2.2 - (1 : Int)) <|
 nx203 ((s128.1.tdiv x231.Levels), (s128.2.1.set (s128.2.2).toNat (s128.1.tmod x231.Levels)), (s128.2.2 - (1 : Int)))
 else
 some s128.2.1)) FUEL (v1, (List.replicate ((v0.length : Int)).toNat (0 : Int)), ((v0.length : Int) - (1 : Int)))

def sh_impl_fails (v0 : XEdit) (v1 : (List Int)) : Option Bool :=
 rangeF (fun (k82 : Nat) (x83 : Int) (s81 : Unit) (nx120 : Unit → Option Bool) =>
 getO v0.Sets (k82 : Int) fun x148 =>
 ck (0 ≤ x83 ∧ x83 < 64) <|
 ck (0 ≤ (x148 / 2 ^ (x83).toNat)) <|
 ckK .i64 (x148 / 2 ^ (x83).toNat) <|
 ck (0 ≤ (1 : Int)) <|
 ckK .i64 (1 : Int) <|
 (if (decide ((((x148 / 2 ^ (x83).toNat).toNat &&& (1 : Int).toNat : Nat) : Int) = (0 : Int))) = true then
 some false
 else
 nx120 ()))
 (fun (s81 : Unit) =>
 some true) v1 0 ()

def sh_impl_failsOne (v0 : (List XEdit)) (v1 : (List Int)) : Option Bool :=
 rangeF (fun (k34 : Nat) (x35 : XEdit) (s33 : Unit) (nx48 : Unit → Option Bool) =>
 (sh_impl_fails x35 v1).bind fun x58 =>
 (if x58 = true then
 some true
 else
 nx48 ()))
 (fun (s33 : Unit) =>
 some false) v0 0 ()

def sh_laws_eqVariable (v0 : XVariable) (v1 : XVariable) : Option Bool :=
 (if (decide (v0.Name ≠ v1.Name)) = true then
 some false
 else
 (if (decide (v0.Levels ≠ v1.Levels)) = true then
 some false
 else
 some true))

def sh_laws_eqVariableS (v0 : (List XVariable)) (v1 : (List XVariable)) : Option Bool :=
 (if (decide ((v0.length : Int) ≠ (v1.length : Int))) = true then
 some false
 else
 loopF (fun (nx229 : Int → Option Bool) (s142 : Int) =>
 (if (decide (s142 < (v0.length : Int))) = true then
 getO v0 s142 fun x263 =>
 getO v1 s142 fun x266 =>
 (sh_laws_eqVariable x263 x266).bind fun x269 =>
 (if (!x269) = true then
 some false
 else
 ckI (s142 + (1 : Int)) <|
 nx229 (s142 + (1 : Int)))
 else
 some true)) FUEL (0 : Int))

def sh_laws_eqEdit (v0 : XEdit) (v1 : XEdit) : Option Bool :=
 (sh_laws_eqIntS v0.Sets v1.Sets).bind fun x8 =>
 (if (!x8) = true then
 some false
 else
 some true)

def sh_laws_eqEditS (v0 : (List XEdit)) (v1 : (List XEdit)) : Option Bool :=
 (if (decide ((v0.length : Int) ≠ (v1.length : Int))) = true then
 some false
 else
 loopF (fun (nx229 : Int → Option Bool) (s142 : Int) =>
 (if (decide (s142 < (v0.length : Int))) = true then
 getO v0 s142 fun x263 =>
 getO v1 s142 fun x266 =>
 (sh_laws_eqEdit x263 x266).bind fun x269 =>
 (if (!x269) = true then
 some false
 else
 ckI (s142 + (1 : Int)) <|
 nx229 (s142 + (1 : Int)))
 else
 some true)) FUEL (0 : Int))

def sh_laws_markText (v0 : Int) : Option (List UInt8) :=
 (if (decide (v0 ≤ (0 : Int))) = true then
 some ([109, 48] : List UInt8)
 else
 loopF (fun (nx96 : (Int × (List UInt8)) → Option (List UInt8)) (s59 : (Int × (List UInt8))) =>
 (if (decide ((0 : Int) < s59.1)) = true then
 ck ((10 : Int) ≠ 0) <|
 ckI ((48 : Int) + (s59.1.tmod (10 : Int))) <|
 ckU ((48 : Int) + (s59.1.tmod (10 : Int))) <|
 ck ([((48 : Int) + (s59.1.tmod (10 : Int)))] = (bytesOf [((48 : Int) + (s59.1.tmod (10 : Int)))]).map fun b => ((b.toNat : Nat) : Int)) <|
 lnO ((bytesOf [((48 : Int) + (s59.1.tmod (10 : Int)))]).length + s59.2.length) <|
 ck ((10 : Int) ≠ 0) <|
 ckI (s59.1.tdiv (10 : Int)) <|
 nx96 ((s59.1.tdiv (10 : Int)), ((bytesOf [((48 : Int) + (s59.1.tmod (10 : Int)))]) ++ s59.2))
 else
 lnO (([109] : List UInt8).length + s59.2.length) <|
 some (([109] : List UInt8) ++ s59.2))) FUEL (v0, ([] : List UInt8)))

def sh_laws_markVariableS (v0 : (List XVariable)) (v1 : Int) : Option ((List XVariable) × Int) :=
 loopF (fun (nx239 : ((List XVariable) × Int × Int) → Option ((List XVariable) × Int)) (s144 : ((List XVariable) × Int × Int)) =>
 (if (decide (s144.2.2 < (s144.1.length : Int))) = true then
 (sh_laws_markText s144.2.1).bind fun x272 =>
 getO s144.1 s144.2.2 fun x274 =>
 ckI (s144.2.1 + (1 : Int)) <|
 getO (s144.1.set (s144.2.2).toNat (⟨x272, x274.Levels⟩ : XVariable)) s144.2.2 fun x282 =>
 ckI ((s144.2.1 + (1 : Int)) + (1 : Int)) <|
 ckI (s144.2.2 + (1 : Int)) <|
 nx239 (((s144.1.set (s144.2.2).toNat (⟨x272, x274.Levels⟩ : XVariable)).set (s144.2.2).toNat (⟨x282.Name, (s144.2.1 + (1 : Int))⟩ : XVariable)), ((s144.2.1 + (1 : Int)) + (1 : Int)), (s144.2.2 + (1 : Int)))
 else
 some (s144.1, s144.2.1))) FUEL (v0, v1, (0 : Int))

def sh_laws_markEditS (v0 : (List XEdit)) (v1 : Int) : Option ((List XEdit) × Int) :=
 loopF (fun (nx99 : ((List XEdit) × Int × Int) → Option ((List XEdit) × Int)) (s60 : ((List XEdit) × Int × Int)) =>
 (if (decide (s60.2.2 < (s60.1.length : Int))) = true then
 getO s60.1 s60.2.2 fun x113 =>
 (sh_laws_markIntS x113.Sets s60.2.1).bind fun x116 =>
 ckI (s60.2.2 + (1 : Int)) <|
 nx99 ((s60.1.set (s60.2.2).toNat (⟨x116.1⟩ : XEdit)), x116.2, (s60.2.2 + (1 : Int)))
 else
 some (s60.1, s60.2.1))) FUEL (v0, v1, (0 : Int))

def sh_spec_eSmall (v0 : (List XVariable)) (v1 : (List XEdit)) : Option Bool :=
 (sh_spec_eList v0 v1).bind fun x6 =>
 (if x6 = true then
 (sh_spec_sCount v0).bind fun x9 =>
 some (decide (x9 ≤ (100 : Int)))
 else
 some false)

def sh_spec_l1Rising (v0 : (List Int)) (v1 : Int) (v2 : Int) : Option Bool :=
 rangeF (fun (k82 : Nat) (x83 : Int) (s81 : Unit) (nx120 : Unit → Option Bool) =>
 (sh_spec_l1In x83 v1 v2).bind fun x148 =>
 (if (!x148) = true then
 some false
 else
 (if (decide ((0 : Int) < (k82 : Int))) = true then
 ckI ((k82 : Int) - (1 : Int)) <|
 getO v0 ((k82 : Int) - (1 : Int)) fun x153 =>
 (if (decide (x83 ≤ x153)) = true then
 some false
 else
 nx120 ())
 else
 nx120 ())))
 (fun (s81 : Unit) =>
 some true) v0 0 ()

def sh_spec_sFits (v0 : (List XVariable)) (v1 : (List Int)) : Option Bool :=
 (if (decide ((v1.length : Int) ≠ (v0.length : Int))) = true then
 some false
 else
 rangeF (fun (k76 : Nat) (x77 : XVariable) (s75 : Unit) (nx106 : Unit → Option Bool) =>
 getO v1 (k76 : Int) fun x128 =>
 ckI (x77.Levels - (1 : Int)) <|
 (sh_spec_l1In x128 (0 : Int) (x77.Levels - (1 : Int))).bind fun x132 =>
 (if (!x132) = true then
 some false
 else
 nx106 ()))
 (fun (s75 : Unit) =>
 some true) v0 0 ())

def sh_spec_eAsked (v0 : (List XVariable)) (v1 : (List XEdit)) (v2 : (List Int)) (v3 : (List Int)) : Option Bool :=
 (sh_spec_eSmall v0 v1).bind fun x11 =>
 (if x11 = true then
 ckI ((v0.length : Int) - (1 : Int)) <|
 (sh_spec_l1Rising v2 (0 : Int) ((v0.length : Int) - (1 : Int))).bind fun x16 =>
 (if x16 = true then
 (sh_spec_sFits v0 v3).bind fun x19 =>
 some x19
 else
 some false)
 else
 some false)

def sh_spec_eComplete (v0 : (List XVariable)) (v1 : (List XEdit)) (v2 : (List Int)) (v3 : (List Int)) : Option ((List Int) × Bool) :=
 loopF (fun (nx1219 : Int → Option ((List Int) × Bool)) (s732 : Int) =>
 (sh_spec_sCount v0).bind fun x1229 =>
 (if (decide (s732 < x1229)) = true then
 (sh_spec_sAt v0 s732).bind fun x1349 =>
 (sh_spec_eFailed v1 x1349).bind fun x1354 =>
 rangeF (fun (k1412 : Nat) (x1413 : Int) (s1411 : Bool) (nx1444 : Bool → Option ((List Int) × Bool)) =>
 (if s1411 = true then
 getO x1349 x1413 fun x1457 =>
 getO v3 x1413 fun x1460 =>
 nx1444 (decide (x1457 = x1460))
 else
 nx1444 false))
 (fun (s1411 : Bool) =>
 (if s1411 = true then
 some (x1349, true)
 else
 ckI (s732 + (1 : Int)) <|
 nx1219 (s732 + (1 : Int)))) v2 0 (decide ((x1354.length : Int) = (0 : Int)))
 else
 some (([] : List Int), false))) FUEL (0 : Int)

def sh_impl_isSmall (v0 : (List XVariable)) : Option Bool :=
 (sh_impl_IsSchema v0).bind fun x6 =>
 (if x6 = true then
 (sh_impl_combinations v0).bind fun x9 =>
 some (decide (x9 ≤ (100 : Int)))
 else
 some false)

def sh_impl_areValues (v0 : (List XVariable)) (v1 : (List Int)) : Option Bool :=
 (if (decide ((v1.length : Int) ≠ (v0.length : Int))) = true then
 some false
 else
 rangeF (fun (k60 : Nat) (x61 : Int) (s59 : Unit) (nx82 : Unit → Option Bool) =>
 (if (decide (x61 < (0 : Int))) = true then
 some false
 else
 getO v0 (k60 : Int) fun x99 =>
 (if (decide (x99.Levels ≤ x61)) = true then
 some false
 else
 nx82 ())))
 (fun (s59 : Unit) =>
 some true) v1 0 ())

def sh_impl_completionOf_1 (v0 : (List Int)) (v1 : (List Int)) (v2 : (List Int)) (v3 : (Option (List Int))) : Option ((Option (List Int)) × Bool) :=
 rangeF (fun (k66 : Nat) (x67 : Int) (s65 : Unit) (nx96 : Unit → Option ((Option (List Int)) × Bool)) =>
 getO v0 x67 fun x118 =>
 getO v2 x67 fun x121 =>
 (if (decide (x118 ≠ x121)) = true then
 some (v3, true)
 else
 nx96 ()))
 (fun (s65 : Unit) =>
 some ((some v0), false)) v1 0 ()

def sh_impl_passing_impl_completionOf_1 (v0 : (List XVariable)) (v1 : (List XEdit)) (v2 : ((List Int) × (List Int) × (Option (List Int)))) : Option ((Option (List Int)) × Unit) :=
 (sh_impl_combinations v0).bind fun x3 =>
 loopF (fun (nx78 : ((Option (List Int)) × Int) → Option ((Option (List Int)) × Unit)) (s5 : ((Option (List Int)) × Int)) =>
 (if (decide (s5.2 < x3)) = true then
 (sh_impl_valuesAt v0 s5.2).bind fun x100 =>
 (sh_impl_failsOne v1 x100).bind fun x107 =>
 (if (!x107) = true then
 (sh_impl_completionOf_1 x100 v2.1 v2.2.1 s5.1).bind fun x110 =>
 (if (!x110.2) = true then
 some (x110.1, ())
 else
 ckI (s5.2 + (1 : Int)) <|
 nx78 (x110.1, (s5.2 + (1 : Int))))
 else
 ckI (s5.2 + (1 : Int)) <|
 nx78 (s5.1, (s5.2 + (1 : Int))))
 else
 some (s5.1, ()))) FUEL (v2.2.2, (0 : Int))

def sh_impl_completionOf (v0 : (List XVariable)) (v1 : (List XEdit)) (v2 : (List Int)) (v3 : (List Int)) : Option (Option (List Int)) :=
 (sh_impl_passing_impl_completionOf_1 v0 v1 (v2, v3, (none : Option (List Int)))).bind fun x3 =>
 some x3.1

def sh_spec_eLevels (v0 : Int) : Option (List Int) :=
 loopF (fun (nx214 : ((List Int) × Int) → Option (List Int)) (s129 : ((List Int) × Int)) =>
 ckK .u64 s129.2 <|
 ck (0 ≤ s129.2 ∧ s129.2 < 64) <|
 (if (decide ((0 : Int) < (v0 / 2 ^ (s129.2).toNat))) = true then
 ckK .u64 s129.2 <|
 ck (0 ≤ s129.2 ∧ s129.2 < 64) <|
 ck (0 ≤ (v0 / 2 ^ (s129.2).toNat)) <|
 ckK .i64 (v0 / 2 ^ (s129.2).toNat) <|
 ck (0 ≤ (1 : Int)) <|
 ckK .i64 (1 : Int) <|
 (if (decide ((((v0 / 2 ^ (s129.2).toNat).toNat &&& (1 : Int).toNat : Nat) : Int) = (1 : Int))) = true then
 lnO (s129.1.length + [s129.2].length) <|
 ckI (s129.2 + (1 : Int)) <|
 nx214 ((s129.1 ++ [s129.2]), (s129.2 + (1 : Int)))
 else
 ckI (s129.2 + (1 : Int)) <|
 nx214 (s129.1, (s129.2 + (1 : Int))))
 else
 some s129.1)) FUEL (([] : List Int), (0 : Int))

def sh_spec_l1Has (v0 : (List Int)) (v1 : Int) : Option Bool :=
 rangeF (fun (k18 : Nat) (x19 : Int) (s17 : Unit) (nx24 : Unit → Option Bool) =>
 (if (decide (x19 = v1)) = true then
 some true
 else
 nx24 ()))
 (fun (s17 : Unit) =>
 some false) v0 0 ()

def sh_spec_l1Sign (v0 : Int) : Option Int :=
 (if (decide (v0 < (0 : Int))) = true then
 some (-1 : Int)
 else
 (if (decide ((0 : Int) < v0)) = true then
 some (1 : Int)
 else
 some (0 : Int)))

def sh_spec_l1Less (v0 : (List Int)) (v1 : (List Int)) : Option Int :=
 jn (fun (s144 : Unit) =>
 ckI ((v0.length : Int) - (v1.length : Int)) <|
 (sh_spec_l1Sign ((v0.length : Int) - (v1.length : Int))).bind fun x155 =>
 some x155) fun af145 =>
 loopF (fun (nx252 : Int → Option Int) (s157 : Int) =>
 (if (decide (s157 < (v0.length : Int))) = true then
 (if (decide (s157 < (v1.length : Int))) = true then
 getO v0 s157 fun x290 =>
 getO v1 s157 fun x293 =>
 (if (decide (x290 ≠ x293)) = true then
 (if (decide (x290 < x293)) = true then
 some (-1 : Int)
 else
 some (1 : Int))
 else
 ckI (s157 + (1 : Int)) <|
 nx252 (s157 + (1 : Int)))
 else
 af145 ())
 else
 af145 ())) FUEL (0 : Int)

def sh_spec_SmallestCover (v0 : (List XVariable)) (v1 : (List XEdit)) (v2 : (List Int)) : Option ((List Int) × Bool) :=
 (sh_spec_eAsked v0 v1 ([] : List Int) v2).bind fun x8 =>
 (if (!x8) = true then
 some (([] : List Int), false)
 else
 loopF (fun (nx1313 : ((List Int) × Bool × Int) → Option ((List Int) × Bool)) (s801 : ((List Int) × Bool × Int)) =>
 ckK .u64 (v0.length : Int) <|
 ck (0 ≤ (v0.length : Int) ∧ (v0.length : Int) < 64) <|
 ckI ((1 : Int) * 2 ^ ((v0.length : Int)).toNat) <|
 (if (decide (s801.2.2 < ((1 : Int) * 2 ^ ((v0.length : Int)).toNat))) = true then
 (sh_spec_eLevels s801.2.2).bind fun x1463 =>
 rangeF (fun (k1514 : Nat) (x1515 : XVariable) (s1513 : (List Int)) (nx1542 : (List Int) → Option ((List Int) × Bool)) =>
 (sh_spec_l1Has x1463 (k1514 : Int)).bind fun x1587 =>
 (if (!x1587) = true then
 lnO (s1513.length + [(k1514 : Int)].length) <|
 nx1542 (s1513 ++ [(k1514 : Int)])
 else
 nx1542 s1513))
 (fun (s1513 : (List Int)) =>
 (sh_spec_eComplete v0 v1 s1513 v2).bind fun x1552 =>
 (if (!x1552.2) = true then
 ckI (s801.2.2 + (1 : Int)) <|
 nx1313 (s801.1, s801.2.1, (s801.2.2 + (1 : Int)))
 else
 (((if (!s801.2.1) = true then
 some true
 else
 (if (decide ((x1463.length : Int) < (s801.1.length : Int))) = true then
 some true
 else
 (if (decide ((x1463.length : Int) = (s801.1.length : Int))) = true then
 (sh_spec_l1Less x1463 s801.1).bind fun x1577 =>
 some (decide (x1577 < (0 : Int)))
 else
 some false))) : Option Bool).bind fun (s1565 : Bool) =>
 (if s1565 = true then
 ckI (s801.2.2 + (1 : Int)) <|
 nx1313 (x1463, true, (s801.2.2 + (1 : Int)))
 else
 ckI (s801.2.2 + (1 : Int)) <|
 nx1313 (s801.1, s801.2.1, (s801.2.2 + (1 : Int))))))) v0 0 ([] : List Int)
 else
 some (s801.1, s801.2.1))) FUEL (([] : List Int), false, (0 : Int)))

def sh_impl_membersOf (v0 : Int) : Option (List Int) :=
 loopF (fun (nx174 : ((List Int) × Int) → Option (List Int)) (s105 : ((List Int) × Int)) =>
 ck (0 ≤ s105.2 ∧ s105.2 < 64) <|
 (if (decide ((v0 / 2 ^ (s105.2).toNat) ≠ (0 : Int))) = true then
 ck (0 ≤ s105.2 ∧ s105.2 < 64) <|
 ck (0 ≤ (v0 / 2 ^ (s105.2).toNat)) <|
 ckK .i64 (v0 / 2 ^ (s105.2).toNat) <|
 ck (0 ≤ (1 : Int)) <|
 ckK .i64 (1 : Int) <|
 (if (decide ((((v0 / 2 ^ (s105.2).toNat).toNat &&& (1 : Int).toNat : Nat) : Int) = (1 : Int))) = true then
 lnO (s105.1.length + [s105.2].length) <|
 ckI (s105.2 + (1 : Int)) <|
 nx174 ((s105.1 ++ [s105.2]), (s105.2 + (1 : Int)))
 else
 ckI (s105.2 + (1 : Int)) <|
 nx174 (s105.1, (s105.2 + (1 : Int))))
 else
 some s105.1)) FUEL (([] : List Int), (0 : Int))

def sh_cmp_isNaN_int (v0 : Int) : Option Bool :=
 some (decide (v0 ≠ v0))

def sh_cmp_Compare_int (v0 : Int) (v1 : Int) : Option Int :=
 (sh_cmp_isNaN_int v0).bind fun x3 =>
 (sh_cmp_isNaN_int v1).bind fun x7 =>
 (if x3 = true then
 (if x7 = true then
 some (0 : Int)
 else
 some (-1 : Int))
 else
 (if x7 = true then
 some (1 : Int)
 else
 (if (decide (v0 < v1)) = true then
 some (-1 : Int)
 else
 (if (decide (v1 < v0)) = true then
 some (1 : Int)
 else
 some (0 : Int)))))

def sh_slices_Compare_int (v0 : (List Int)) (v1 : (List Int)) : Option Int :=
 rangeF (fun (k82 : Nat) (x83 : Int) (s81 : Unit) (nx120 : Unit → Option Int) =>
 (if (decide ((v1.length : Int) ≤ (k82 : Int))) = true then
 some (1 : Int)
 else
 getO v1 (k82 : Int) fun x159 =>
 (sh_cmp_Compare_int x83 x159).bind fun x164 =>
 (if (decide (x164 ≠ (0 : Int))) = true then
 some x164
 else
 nx120 ())))
 (fun (s81 : Unit) =>
 (if (decide ((v0.length : Int) < (v1.length : Int))) = true then
 some (-1 : Int)
 else
 some (0 : Int))) v0 0 ()

def sh_cmp_Or_int (v0 : (List Int)) : Option Int :=
 rangeF (fun (k18 : Nat) (x19 : Int) (s17 : Unit) (nx24 : Unit → Option Int) =>
 (if (decide (x19 ≠ (0 : Int))) = true then
 some x19
 else
 nx24 ()))
 (fun (s17 : Unit) =>
 some (0 : Int)) v0 0 ()

def sh_impl_otherVars (v0 : (List XVariable)) (v1 : (List Int)) : Option (List Int) :=
 rangeF (fun (k50 : Nat) (x51 : XVariable) (s49 : (List Int)) (nx78 : (List Int) → Option (List Int)) =>
 (sh_slices_Contains_int v1 (k50 : Int)).bind fun x89 =>
 (if (!x89) = true then
 lnO (s49.length + [(k50 : Int)].length) <|
 nx78 (s49 ++ [(k50 : Int)])
 else
 nx78 s49))
 (fun (s49 : (List Int)) =>
 some s49) v0 0 ([] : List Int)

def sh_impl_SmallestCover_1 (v0 : (List Int)) : Option Int :=
 some (v0.length : Int)

def sh_impl_leastCover_impl_SmallestCover_1 (v0 : (List XVariable)) (v1 : (List XEdit)) (v2 : (List Int)) (v3 : Unit) : Option ((List Int) × Bool) :=
 ck (0 ≤ (v0.length : Int) ∧ (v0.length : Int) < 64) <|
 ckI ((1 : Int) * 2 ^ ((v0.length : Int)).toNat) <|
 loopF (fun (nx589 : ((List Int) × Bool × Int) → Option ((List Int) × Bool)) (s385 : ((List Int) × Bool × Int)) =>
 (if (decide (s385.2.2 < ((1 : Int) * 2 ^ ((v0.length : Int)).toNat))) = true then
 (sh_impl_membersOf s385.2.2).bind fun x676 =>
 jn (fun (s709 : Unit) =>
 (sh_impl_otherVars v0 x676).bind fun x717 =>
 (sh_impl_completionOf v0 v1 x717 v2).bind fun x719 =>
 ck (x719 ≠ some []) <|
 (if (x719.isSome) = true then
 ckI (s385.2.2 + (1 : Int)) <|
 nx589 (x676, true, (s385.2.2 + (1 : Int)))
 else
 ckI (s385.2.2 + (1 : Int)) <|
 nx589 (s385.1, s385.2.1, (s385.2.2 + (1 : Int))))) fun af710 =>
 (if s385.2.1 = true then
 (sh_impl_SmallestCover_1 x676).bind fun x741 =>
 (sh_impl_SmallestCover_1 s385.1).bind fun x743 =>
 (sh_cmp_Compare_int x741 x743).bind fun x745 =>
 (sh_cmp_Compare_int (x676.length : Int) (s385.1.length : Int)).bind fun x749 =>
 (sh_slices_Compare_int x676 s385.1).bind fun x751 =>
 (sh_cmp_Or_int [x745, x749, x751]).bind fun x753 =>
 (if (decide ((0 : Int) ≤ x753)) = true then
 ckI (s385.2.2 + (1 : Int)) <|
 nx589 (s385.1, s385.2.1, (s385.2.2 + (1 : Int)))
 else
 af710 ())
 else
 af710 ())
 else
 some (s385.1, s385.2.1))) FUEL (([] : List Int), false, (0 : Int))

def sh_impl_SmallestCover (v0 : (List XVariable)) (v1 : (List XEdit)) (v2 : (List Int)) : Option ((List Int) × Bool) :=
 (sh_impl_isSmall v0).bind fun x26 =>
 (if (!x26) = true then
 some (([] : List Int), false)
 else
 (sh_impl_areEdits v0 v1).bind fun x29 =>
 (if (!x29) = true then
 some (([] : List Int), false)
 else
 (sh_impl_areValues v0 v2).bind fun x32 =>
 (if (!x32) = true then
 some (([] : List Int), false)
 else
 (sh_impl_leastCover_impl_SmallestCover_1 v0 v1 v2 ()).bind fun x37 =>
 some (x37.1, x37.2))))

def sh_laws_FnExactSmallestCover (v0 : (List XVariable)) (v1 : (List XEdit)) (v2 : (List Int)) : Option Bool :=
 (if (decide ((1048576 : Int) < (v2.length : Int))) = true then
 some true
 else
 (sh_laws_szVariableS v0 (1048576 : Int)).bind fun x9 =>
 (if (decide (x9 < (0 : Int))) = true then
 some true
 else
 (sh_laws_szEditS v1 x9).bind fun x15 =>
 (if (decide (x15 < (0 : Int))) = true then
 some true
 else
 (sh_laws_toVariableS v0).bind fun x27 =>
 (sh_laws_toEditS v1).bind fun x29 =>
 (sh_laws_toIntS v2).bind fun x31 =>
 (sh_spec_SmallestCover x27 x29 x31).bind fun x33 =>
 (sh_laws_toVariableS v0).bind fun x37 =>
 (sh_laws_toEditS v1).bind fun x41 =>
 (sh_laws_toIntS v2).bind fun x45 =>
 (sh_impl_SmallestCover x37 x41 x45).bind fun x49 =>
 (sh_laws_eqIntS x49.1 x33.1).bind fun x61 =>
 (if (!x61) = true then
 some false
 else
 (if (x49.2 != x33.2) = true then
 some false
 else
 (sh_laws_toVariableS v0).bind fun x78 =>
 (sh_laws_eqVariableS x37 x78).bind fun x80 =>
 (if (!x80) = true then
 some false
 else
 (sh_laws_toEditS v1).bind fun x96 =>
 (sh_laws_eqEditS x41 x96).bind fun x98 =>
 (if (!x98) = true then
 some false
 else
 (sh_laws_toIntS v2).bind fun x114 =>
 (sh_laws_eqIntS x45 x114).bind fun x116 =>
 (if (!x116) = true then
 some false
 else
 (sh_laws_markVariableS x37 (1 : Int)).bind fun x121 =>
 (sh_laws_markEditS x41 x121.2).bind fun x125 =>
 (sh_laws_markIntS x45 x125.2).bind fun x129 =>
 (if (decide (x129.2 < (0 : Int))) = true then
 some false
 else
 (sh_laws_eqIntS x49.1 x33.1).bind fun x144 =>
 (if (!x144) = true then
 some false
 else
 (sh_laws_markIntS x49.1 (1 : Int)).bind fun x149 =>
 (sh_laws_heldIntS x149.1 (1 : Int)).bind fun x153 =>
 (if (decide (x153 < (0 : Int))) = true then
 some false
 else
 (if (decide (x153 ≠ x149.2)) = true then
 some false
 else
 (sh_laws_toVariableS v0).bind fun x167 =>
 (sh_laws_toEditS v1).bind fun x169 =>
 (sh_laws_toIntS v2).bind fun x171 =>
 (sh_impl_SmallestCover x167 x169 x171).bind fun x173 =>
 (sh_laws_eqIntS x173.1 x33.1).bind fun x185 =>
 (if (!x185) = true then
 some false
 else
 (if (x173.2 != x33.2) = true then
 some false
 else
 (sh_laws_heldIntS x149.1 (1 : Int)).bind fun x191 =>
 (if (decide (x191 < (0 : Int))) = true then
 some false
 else
 (if (decide (x191 ≠ x149.2)) = true then
 some false
 else
 some true))))))))))))))))
end AS
