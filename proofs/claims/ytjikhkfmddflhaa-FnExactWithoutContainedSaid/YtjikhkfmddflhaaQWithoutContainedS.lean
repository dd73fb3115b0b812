/- Plain functions. No condition. -/
import Derived.Test.YtjikhkfmddflhaaKc
set_option linter.unusedVariables false
set_option linter.unusedSimpArgs false
namespace AS
structure XCube where
  Sizes : (List Int)
  Cells : (List Int)
  deriving DecidableEq, Inhabited
def cXCube (c0 : Cd (List Int)) (c1 : Cd (List Int)) : Cd XCube := ⟨fun v => .agg [c0.enc v.Sizes, c1.enc v.Cells], c0.sz + (c1.sz + (0)), true, (c0.im && (c1.im && true)), fun v => by simp only [D.size, D.sizes, Cd.h_sz], fun _ => rfl, fun v => by simp only [D.imm, D.imms, Cd.h_im]⟩
theorem tXCube {c0 c0' : Cd (List Int)} {c1 c1' : Cd (List Int)} (tc0 : ToI c0 c0') (tc1 : ToI c1 c1') : ToI (cXCube c0 c1) (cXCube c0' c1') := ⟨fun v => by simp only [cXCube, D.toImm, D.toImms, tc0.h, tc1.h], by simp only [cXCube, tc0.im, tc1.im, Bool.and_true]⟩
theorem sXCube {c0 : Cd (List Int)} {c1 : Cd (List Int)} (tc0 : Sol c0) (tc1 : Sol c1) : Sol (cXCube c0 c1) := ⟨fun v => by simp only [cXCube, D.solid, D.solids, tc0.h, tc1.h, Bool.and_true]⟩
instance : Bd XCube := ⟨fun v => Bd.bd v.Sizes ∧ Bd.bd v.Cells⟩
structure XVariable where
  Name : (List UInt8)
  Levels : Int
  deriving DecidableEq, Inhabited
def cXVariable (c0 : Cd (List UInt8)) (c1 : Cd Int) : Cd XVariable := ⟨fun v => .agg [c0.enc v.Name, c1.enc v.Levels], c0.sz + (c1.sz + (0)), true, (c0.im && (c1.im && true)), fun v => by simp only [D.size, D.sizes, Cd.h_sz], fun _ => rfl, fun v => by simp only [D.imm, D.imms, Cd.h_im]⟩
theorem tXVariable {c0 c0' : Cd (List UInt8)} {c1 c1' : Cd Int} (tc0 : ToI c0 c0') (tc1 : ToI c1 c1') : ToI (cXVariable c0 c1) (cXVariable c0' c1') := ⟨fun v => by simp only [cXVariable, D.toImm, D.toImms, tc0.h, tc1.h], by simp only [cXVariable, tc0.im, tc1.im, Bool.and_true]⟩
theorem sXVariable {c0 : Cd (List UInt8)} {c1 : Cd Int} (tc0 : Sol c0) (tc1 : Sol c1) : Sol (cXVariable c0 c1) := ⟨fun v => by simp only [cXVariable, D.solid, D.solids, tc0.h, tc1.h, Bool.and_true]⟩
instance : Bd XVariable := ⟨fun v => Bd.bd v.Name ∧ Bd.bd v.Levels⟩
structure XEdit where
  Sets : (List Int)
  deriving DecidableEq, Inhabited
def cXEdit (c0 : Cd (List Int)) : Cd XEdit := ⟨fun v => .agg [c0.enc v.Sets], c0.sz + (0), true, (c0.im && true), fun v => by simp only [D.size, D.sizes, Cd.h_sz], fun _ => rfl, fun v => by simp only [D.imm, D.imms, Cd.h_im]⟩
theorem tXEdit {c0 c0' : Cd (List Int)} (tc0 : ToI c0 c0') : ToI (cXEdit c0) (cXEdit c0') := ⟨fun v => by simp only [cXEdit, D.toImm, D.toImms, tc0.h], by simp only [cXEdit, tc0.im, Bool.and_true]⟩
theorem sXEdit {c0 : Cd (List Int)} (tc0 : Sol c0) : Sol (cXEdit c0) := ⟨fun v => by simp only [cXEdit, D.solid, D.solids, tc0.h, Bool.and_true]⟩
instance : Bd XEdit := ⟨fun v => Bd.bd v.Sets⟩
def sh_spec_l1In (v0 : Int) (v1 : Int) (v2 : Int) : Option Bool :=
 (if (decide (v1 ≤ v0)) = true then
 some (decide (v0 ≤ v2))
 else
 some false)

def sh_laws_szIntS (v0 : (List Int)) (v1 : Int) : Option Int :=
 ckI (v1 - (v0.length : Int)) <|
 (if (decide ((v1 - (v0.length : Int)) < (0 : Int))) = true then
 some (-1 : Int)
 else
 some (v1 - (v0.length : Int)))

def sh_laws_toIntS (v0 : (List Int)) : Option (List Int) :=
 mkO (v0.length : Int) <|
 loopF (fun (nx115 : ((List Int) × Int) → Option (List Int)) (s72 : ((List Int) × Int)) =>
 (if (decide (s72.2 < (v0.length : Int))) = true then
 getO v0 s72.2 fun x130 =>
 getO s72.1 s72.2 fun x133 =>
 ckI (s72.2 + (1 : Int)) <|
 nx115 ((s72.1.set (s72.2).toNat x130), (s72.2 + (1 : Int)))
 else
 some s72.1)) FUEL ((List.replicate ((v0.length : Int)).toNat (0 : Int)), (0 : Int))

def sh_laws_eqIntS (v0 : (List Int)) (v1 : (List Int)) : Option Bool :=
 (if (decide ((v0.length : Int) ≠ (v1.length : Int))) = true then
 some false
 else
 loopF (fun (nx189 : Int → Option Bool) (s118 : Int) =>
 (if (decide (s118 < (v0.length : Int))) = true then
 getO v0 s118 fun x217 =>
 getO v1 s118 fun x220 =>
 (if (decide (x217 ≠ x220)) = true then
 some false
 else
 ckI (s118 + (1 : Int)) <|
 nx189 (s118 + (1 : Int)))
 else
 some true)) FUEL (0 : Int))

def sh_laws_markIntS (v0 : (List Int)) (v1 : Int) : Option ((List Int) × Int) :=
 loopF (fun (nx119 : ((List Int) × Int × Int) → Option ((List Int) × Int)) (s72 : ((List Int) × Int × Int)) =>
 (if (decide (s72.2.2 < (s72.1.length : Int))) = true then
 getO s72.1 s72.2.2 fun x138 =>
 ckI (s72.2.1 + (1 : Int)) <|
 ckI (s72.2.2 + (1 : Int)) <|
 nx119 ((s72.1.set (s72.2.2).toNat s72.2.1), (s72.2.1 + (1 : Int)), (s72.2.2 + (1 : Int)))
 else
 some (s72.1, s72.2.1))) FUEL (v0, v1, (0 : Int))

def sh_laws_heldIntS (v0 : (List Int)) (v1 : Int) : Option Int :=
 loopF (fun (nx199 : (Int × Int) → Option Int) (s120 : (Int × Int)) =>
 (if (decide (s120.2 < (v0.length : Int))) = true then
 getO v0 s120.2 fun x233 =>
 (if (decide (x233 ≠ s120.1)) = true then
 some (-1 : Int)
 else
 ckI (s120.1 + (1 : Int)) <|
 ckI (s120.2 + (1 : Int)) <|
 nx199 ((s120.1 + (1 : Int)), (s120.2 + (1 : Int))))
 else
 some s120.1)) FUEL (v1, (0 : Int))

def sh_spec_l1Own (v0 : (List Int)) : Option (List Int) :=
 lnO (([] : List Int).length + v0.length) <|
 some (([] : List Int) ++ v0)

def sh_slices_Clone_int (v0 : (List Int)) : Option (List Int) :=
 nilO v0 false fun b11 =>
 (if b11 = true then
 some ([] : List Int)
 else
 lnO (([] : List Int).length + v0.length) <|
 some (([] : List Int) ++ v0))

def sh_laws_szVariable (v0 : XVariable) (v1 : Int) : Option Int :=
 ckI (v1 - (v0.Name.length : Int)) <|
 (if (decide ((v1 - (v0.Name.length : Int)) < (0 : Int))) = true then
 some (-1 : Int)
 else
 some (v1 - (v0.Name.length : Int)))

def sh_laws_szVariableS (v0 : (List XVariable)) (v1 : Int) : Option Int :=
 ckI (v1 - (v0.length : Int)) <|
 (if (decide ((v1 - (v0.length : Int)) < (0 : Int))) = true then
 some (-1 : Int)
 else
 loopF (fun (nx165 : (Int × Int) → Option Int) (s102 : (Int × Int)) =>
 (if (decide (s102.2 < (v0.length : Int))) = true then
 getO v0 s102.2 fun x190 =>
 (sh_laws_szVariable x190 s102.1).bind fun x193 =>
 (if (decide (x193 < (0 : Int))) = true then
 some (-1 : Int)
 else
 ckI (s102.2 + (1 : Int)) <|
 nx165 (x193, (s102.2 + (1 : Int))))
 else
 some s102.1)) FUEL ((v1 - (v0.length : Int)), (0 : Int)))

def sh_laws_szEdit (v0 : XEdit) (v1 : Int) : Option Int :=
 (sh_laws_szIntS v0.Sets v1).bind fun x3 =>
 (if (decide (x3 < (0 : Int))) = true then
 some (-1 : Int)
 else
 some x3)

def sh_laws_szEditS (v0 : (List XEdit)) (v1 : Int) : Option Int :=
 ckI (v1 - (v0.length : Int)) <|
 (if (decide ((v1 - (v0.length : Int)) < (0 : Int))) = true then
 some (-1 : Int)
 else
 loopF (fun (nx165 : (Int × Int) → Option Int) (s102 : (Int × Int)) =>
 (if (decide (s102.2 < (v0.length : Int))) = true then
 getO v0 s102.2 fun x190 =>
 (sh_laws_szEdit x190 s102.1).bind fun x193 =>
 (if (decide (x193 < (0 : Int))) = true then
 some (-1 : Int)
 else
 ckI (s102.2 + (1 : Int)) <|
 nx165 (x193, (s102.2 + (1 : Int))))
 else
 some s102.1)) FUEL ((v1 - (v0.length : Int)), (0 : Int)))

def sh_laws_toVariable (v0 : XVariable) : Option XVariable :=
 some (⟨v0.Name, v0.Levels⟩ : XVariable)

def sh_laws_toVariableS (v0 : (List XVariable)) : Option (List XVariable) :=
 mkO (v0.length : Int) <|
 loopF (fun (nx135 : ((List XVariable) × Int) → Option (List XVariable)) (s84 : ((List XVariable) × Int)) =>
 (if (decide (s84.2 < (v0.length : Int))) = true then
 getO v0 s84.2 fun x152 =>
 (sh_laws_toVariable x152).bind fun x155 =>
 getO s84.1 s84.2 fun x157 =>
 ckI (s84.2 + (1 : Int)) <|
 nx135 ((s84.1.set (s84.2).toNat x155), (s84.2 + (1 : Int)))
 else
 some s84.1)) FUEL ((List.replicate ((v0.length : Int)).toNat (⟨([] : List UInt8), (0 : Int)⟩ : XVariable)), (0 : Int))

def sh_laws_toEdit (v0 : XEdit) : Option XEdit :=
 (sh_laws_toIntS v0.Sets).bind fun x3 =>
 some (⟨x3⟩ : XEdit)

def sh_laws_toEditS (v0 : (List XEdit)) : Option (List XEdit) :=
 mkO (v0.length : Int) <|
 loopF (fun (nx135 : ((List XEdit) × Int) → Option (List XEdit)) (s84 : ((List XEdit) × Int)) =>
 (if (decide (s84.2 < (v0.length : Int))) = true then
 getO v0 s84.2 fun x152 =>
 (sh_laws_toEdit x152).bind fun x155 =>
 getO s84.1 s84.2 fun x157 =>
 ckI (s84.2 + (1 : Int)) <|
 nx135 ((s84.1.set (s84.2).toNat x155), (s84.2 + (1 : Int)))
 else
 some s84.1)) FUEL ((List.replicate ((v0.length : Int)).toNat (⟨([] : List Int)⟩ : XEdit)), (0 : Int))

def sh_spec_sName (v0 : (List UInt8)) : Option Bool :=
 loopF (fun (nx139 : Int → Option Bool) (s84 : Int) =>
 (if (decide (s84 < (v0.length : Int))) = true then
 getO v0 s84 fun x161 =>
 (if (decide ((x161.toNat : Int) < (97 : Int))) = true then
 some false
 else
 (if (decide ((122 : Int) < (x161.toNat : Int))) = true then
 some false
 else
 ckI (s84 + (1 : Int)) <|
 nx139 (s84 + (1 : Int))))
 else
 (sh_spec_l1In (v0.length : Int) (1 : Int) (8 : Int)).bind fun x171 =>
 some x171)) FUEL (0 : Int)

def sh_spec_sFind (v0 : (List XVariable)) (v1 : (List UInt8)) : Option Int :=
 rangeF (fun (k18 : Nat) (x19 : XVariable) (s17 : Unit) (nx24 : Unit → Option Int) =>
 (if (decide (x19.Name = v1)) = true then
 some (k18 : Int)
 else
 nx24 ()))
 (fun (s17 : Unit) =>
 some (-1 : Int)) v0 0 ()

def sh_spec_sGood (v0 : (List XVariable)) : Option Bool :=
 (sh_spec_l1In (v0.length : Int) (1 : Int) (6 : Int)).bind fun x12 =>
 (if (!x12) = true then
 some false
 else
 rangeF (fun (k104 : Nat) (x105 : XVariable) (s103 : Unit) (nx146 : Unit → Option Bool) =>
 (sh_spec_sName x105.Name).bind fun x177 =>
 (if (!x177) = true then
 some false
 else
 (sh_spec_l1In x105.Levels (2 : Int) (8 : Int)).bind fun x180 =>
 (if (!x180) = true then
 some false
 else
 ck (0 ≤ (k104 : Int) ∧ 0 ≤ ((k104 : Int)).toNat ∧ ((k104 : Int)).toNat ≤ v0.length) <|
 (sh_spec_sFind ((v0.take ((k104 : Int)).toNat).drop 0) x105.Name).bind fun x184 =>
 (if (decide ((0 : Int) ≤ x184)) = true then
 some false
 else
 nx146 ()))))
 (fun (s103 : Unit) =>
 some true) v0 0 ())

def sh_spec_eFull (v0 : (List XVariable)) (v1 : Int) : Option Int :=
 getO v0 v1 fun x8 =>
 ckK .u64 x8.Levels <|
 ck (0 ≤ x8.Levels ∧ x8.Levels < 64) <|
 ckI ((1 : Int) * 2 ^ (x8.Levels).toNat) <|
 ckI (((1 : Int) * 2 ^ (x8.Levels).toNat) - (1 : Int)) <|
 some (((1 : Int) * 2 ^ (x8.Levels).toNat) - (1 : Int))

def sh_spec_eGood (v0 : (List XVariable)) (v1 : XEdit) : Option Bool :=
 (if (decide ((v1.Sets.length : Int) ≠ (v0.length : Int))) = true then
 some false
 else
 rangeF (fun (k60 : Nat) (x61 : Int) (s59 : Unit) (nx82 : Unit → Option Bool) =>
 (sh_spec_eFull v0 (k60 : Int)).bind fun x98 =>
 (sh_spec_l1In x61 (1 : Int) x98).bind fun x100 =>
 (if (!x100) = true then
 some false
 else
 nx82 ()))
 (fun (s59 : Unit) =>
 some true) v1.Sets 0 ())

def sh_spec_eList (v0 : (List XVariable)) (v1 : (List XEdit)) : Option Bool :=
 (sh_spec_sGood v0).bind fun x14 =>
 (if (!x14) = true then
 some false
 else
 (if (decide ((40 : Int) < (v1.length : Int))) = true then
 some false
 else
 rangeF (fun (k52 : Nat) (x53 : XEdit) (s51 : Unit) (nx66 : Unit → Option Bool) =>
 (sh_spec_eGood v0 x53).bind fun x76 =>
 (if (!x76) = true then
 some false
 else
 nx66 ()))
 (fun (s51 : Unit) =>
 some true) v1 0 ()))

def sh_spec_sCount (v0 : (List XVariable)) : Option Int :=
 rangeF (fun (k20 : Nat) (x21 : XVariable) (s19 : Int) (nx28 : Int → Option Int) =>
 ckI (s19 * x21.Levels) <|
 nx28 (s19 * x21.Levels))
 (fun (s19 : Int) =>
 some s19) v0 0 (1 : Int)

def sh_impl_isWord (v0 : (List UInt8)) : Option Bool :=
 (if (decide ((v0.length : Int) < (1 : Int))) = true then
 some false
 else
 (if (decide ((8 : Int) < (v0.length : Int))) = true then
 some false
 else
 rangeF (fun (k40 : Nat) (x41 : UInt8) (s39 : Unit) (nx50 : Unit → Option Bool) =>
 (if (decide ((x41.toNat : Int) < (97 : Int))) = true then
 some false
 else
 (if (decide ((122 : Int) < (x41.toNat : Int))) = true then
 some false
 else
 nx50 ())))
 (fun (s39 : Unit) =>
 some true) v0 0 ()))

def sh_impl_IsSchema (v0 : (List XVariable)) : Option Bool :=
 (if (decide ((v0.length : Int) < (1 : Int))) = true then
 some false
 else
 (if (decide ((6 : Int) < (v0.length : Int))) = true then
 some false
 else
 rangeF (fun (k164 : Nat) (x165 : XVariable) (s163 : Unit) (nx236 : Unit → Option Bool) =>
 (sh_impl_isWord x165.Name).bind fun x286 =>
 (if (!x286) = true then
 some false
 else
 (if (decide (x165.Levels < (2 : Int))) = true then
 some false
 else
 (if (decide ((8 : Int) < x165.Levels)) = true then
 some false
 else
 ck (0 ≤ (k164 : Int) ∧ 0 ≤ ((k164 : Int)).toNat ∧ ((k164 : Int)).toNat ≤ v0.length) <|
 rangeF (fun (k296 : Nat) (x297 : XVariable) (s295 : Unit) (nx302 : Unit → Option Bool) =>
 (if (decide (x297.Name = x165.Name)) = true then
 some false
 else
 nx302 ()))
 (fun (s295 : Unit) =>
 nx236 ()) ((v0.take ((k164 : Int)).toNat).drop 0) 0 ()))))
 (fun (s163 : Unit) =>
 some true) v0 0 ()))

def sh_impl_fullSet (v0 : XVariable) : Option Int :=
 ck (0 ≤ v0.Levels ∧ v0.Levels < 64) <|
 ckI ((1 : Int) * 2 ^ (v0.Levels).toNat) <|
 ckI (((1 : Int) * 2 ^ (v0.Levels).toNat) - (1 : Int)) <|
 some (((1 : Int) * 2 ^ (v0.Levels).toNat) - (1 : Int))

def sh_impl_isEdit (v0 : (List XVariable)) (v1 : XEdit) : Option Bool :=
 (if (decide ((v1.Sets.length : Int) ≠ (v0.length : Int))) = true then
 some false
 else
 rangeF (fun (k76 : Nat) (x77 : Int) (s75 : Unit) (nx106 : Unit → Option Bool) =>
 (if (decide (x77 < (1 : Int))) = true then
 some false
 else
 getO v0 (k76 : Int) fun x129 =>
 (sh_impl_fullSet x129).bind fun x132 =>
 (if (decide (x132 < x77)) = true then
 some false
 else
 nx106 ())))
 (fun (s75 : Unit) =>
 some true) v1.Sets 0 ())
def sh_impl_areEdits (v0 : (List XVariable)) (v1 : (List XEdit)) : Option Bool :=
 (if (decide ((40 : Int) < (v1.length : Int))) = true then
 some false
 else
 rangeF (fun (k40 : Nat) (x41 : XEdit) (s39 : Unit) (nx54 : Unit → Option Bool) =>
 (sh_impl_isEdit v0 x41).bind fun x64 =>
 (if (!x64) = true then
 some false
 else
 nx54 ()))
 (fun (s39 : Unit) =>
 some true) v1 0 ())

def sh_impl_combinations (v0 : (List XVariable)) : Option Int :=
 rangeF (fun (k20 : Nat) (x21 : XVariable) (s19 : Int) (nx28 : Int → Option Int) =>
 ckI (s19 * x21.Levels) <|
 nx28 (s19 * x21.Levels))
 (fun (s19 : Int) =>
 some s19) v0 0 (1 : Int)

def sh_laws_eqVariable (v0 : XVariable) (v1 : XVariable) : Option Bool :=
 (if (decide (v0.Name ≠ v1.Name)) = true then
 some false
 else
 (if (decide (v0.Levels ≠ v1.Levels)) = true then
 some false
 else
 some true))

def sh_laws_eqVariableS (v0 : (List XVariable)) (v1 : (List XVariable)) : Option Bool :=
 (if (decide ((v0.length : Int) ≠ (v1.length : Int))) = true then
 some false
 else
 loopF (fun (nx229 : Int → Option Bool) (s142 : Int) =>
 (if (decide (s142 < (v0.length : Int))) = true then
 getO v0 s142 fun x263 =>
 getO v1 s142 fun x266 =>
 (sh_laws_eqVariable x263 x266).bind fun x269 =>
 (if (!x269) = true then
 some false
 else
 ckI (s142 + (1 : Int)) <|
 nx229 (s142 + (1 : Int)))
 else
 some true)) FUEL (0 : Int))

def sh_laws_eqEdit (v0 : XEdit) (v1 : XEdit) : Option Bool :=
 (sh_laws_eqIntS v0.Sets v1.Sets).bind fun x8 =>
 (if (!x8) = true then
 some false
 else
 some true)

def sh_laws_eqEditS (v0 : (List XEdit)) (v1 : (List XEdit)) : Option Bool :=
 (if (decide ((v0.length : Int) ≠ (v1.length : Int))) = true then
 some false
 else
 loopF (fun (nx229 : Int → Option Bool) (s142 : Int) =>
 (if (decide (s142 < (v0.length : Int))) = true then
 getO v0 s142 fun x263 =>
 getO v1 s142 fun x266 =>
 (sh_laws_eqEdit x263 x266).bind fun x269 =>
 (if (!x269) = true then
 some false
 else
 ckI (s142 + (1 : Int)) <|
 nx229 (s142 + (1 : Int)))
 else
 some true)) FUEL (0 : Int))

def sh_laws_markText (v0 : Int) : Option (List UInt8) :=
 (if (decide (v0 ≤ (0 : Int))) = true then
 some ([109, 48] : List UInt8)
 else
 loopF (fun (nx96 : (Int × (List UInt8)) → Option (List UInt8)) (s59 : (Int × (List UInt8))) =>
 (if (decide ((0 : Int) < s59.1)) = true then
 ck ((10 : Int) ≠ 0) <|
 ckI ((48 : Int) + (s59.1.tmod (10 : Int))) <|
 ckU ((48 : Int) + (s59.1.tmod (10 : Int))) <|
 ck ([((48 : Int) + (s59.1.tmod (10 : Int)))] = (bytesOf [((48 : Int) + (s59.1.tmod (10 : Int)))]).map fun b => ((b.toNat : Nat) : Int)) <|
 lnO ((bytesOf [((48 : Int) + (s59.1.tmod (10 : Int)))]).length + s59.2.length) <|
 ck ((10 : Int) ≠ 0) <|
 ckI (s59.1.tdiv (10 : Int)) <|
 nx96 ((s59.1.tdiv (10 : Int)), ((bytesOf [((48 : Int) + (s59.1.tmod (10 : Int)))]) ++ s59.2))
 else
 lnO (([109] : List UInt8).length + s59.2.length) <|
 some (([109] : List UInt8) ++ s59.2))) FUEL (v0, ([] : List UInt8)))

def sh_laws_markVariableS (v0 : (List XVariable)) (v1 : Int) : Option ((List XVariable) × Int) :=
 loopF (fun (nx239 : ((List XVariable) × Int × Int) → Option ((List XVariable) × Int)) (s144 : ((List XVariable) × Int × Int)) =>
 (if (decide (s144.2.2 < (s144.1.length : Int))) = true then
 (sh_laws_markText s144.2.1).bind fun x272 =>
 getO s144.1 s144.2.2 fun x274 =>
 ckI (s144.2.1 + (1 : Int)) <|
 getO (s144.1.set (s144.2.2).toNat (⟨x272, x274.Levels⟩ : XVariable)) s144.2.2 fun x282 =>
 ckI ((s144.2.1 + (1 : Int)) + (1 : Int)) <|
 ckI (s144.2.2 + (1 : Int)) <|
 nx239 (((s144.1.set (s144.2.2).toNat (⟨x272, x274.Levels⟩ : XVariable)).set (s144.2.2).toNat (⟨x282.Name, (s144.2.1 + (1 : Int))⟩ : XVariable)), ((s144.2.1 + (1 : Int)) + (1 : Int)), (s144.2.2 + (1 : Int)))
 else
 some (s144.1, s144.2.1))) FUEL (v0, v1, (0 : Int))

def sh_laws_markEditS (v0 : (List XEdit)) (v1 : Int) : Option ((List XEdit) × Int) :=
 loopF (fun (nx99 : ((List XEdit) × Int × Int) → Option ((List XEdit) × Int)) (s60 : ((List XEdit) × Int × Int)) =>
 (if (decide (s60.2.2 < (s60.1.length : Int))) = true then
 getO s60.1 s60.2.2 fun x113 =>
 (sh_laws_markIntS x113.Sets s60.2.1).bind fun x116 =>
 ckI (s60.2.2 + (1 : Int)) <|
 nx99 ((s60.1.set (s60.2.2).toNat (⟨x116.1⟩ : XEdit)), x116.2, (s60.2.2 + (1 : Int)))
 else
 some (s60.1, s60.2.1))) FUEL (v0, v1, (0 : Int))

def sh_spec_eSmall (v0 : (List XVariable)) (v1 : (List XEdit)) : Option Bool :=
 (sh_spec_eList v0 v1).bind fun x6 =>
 (if x6 = true then
 (sh_spec_sCount v0).bind fun x9 =>
 some (decide (x9 ≤ (100 : Int)))
 else
 some false)

def sh_impl_isSmall (v0 : (List XVariable)) : Option Bool :=
 (sh_impl_IsSchema v0).bind fun x6 =>
 (if x6 = true then
 (sh_impl_combinations v0).bind fun x9 =>
 some (decide (x9 ≤ (100 : Int)))
 else
 some false)

def sh_spec_l1Sign (v0 : Int) : Option Int :=
 (if (decide (v0 < (0 : Int))) = true then
 some (-1 : Int)
 else
 (if (decide ((0 : Int) < v0)) = true then
 some (1 : Int)
 else
 some (0 : Int)))

def sh_spec_l1Less (v0 : (List Int)) (v1 : (List Int)) : Option Int :=
 jn (fun (s144 : Unit) =>
 ckI ((v0.length : Int) - (v1.length : Int)) <|
 (sh_spec_l1Sign ((v0.length : Int) - (v1.length : Int))).bind fun x155 =>
 some x155) fun af145 =>
 loopF (fun (nx252 : Int → Option Int) (s157 : Int) =>
 (if (decide (s157 < (v0.length : Int))) = true then
 (if (decide (s157 < (v1.length : Int))) = true then
 getO v0 s157 fun x290 =>
 getO v1 s157 fun x293 =>
 (if (decide (x290 ≠ x293)) = true then
 (if (decide (x290 < x293)) = true then
 some (-1 : Int)
 else
 some (1 : Int))
 else
 ckI (s157 + (1 : Int)) <|
 nx252 (s157 + (1 : Int)))
 else
 af145 ())
 else
 af145 ())) FUEL (0 : Int)

def sh_cmp_isNaN_int (v0 : Int) : Option Bool :=
 some (decide (v0 ≠ v0))

def sh_cmp_Compare_int (v0 : Int) (v1 : Int) : Option Int :=
 (sh_cmp_isNaN_int v0).bind fun x3 =>
 (sh_cmp_isNaN_int v1).bind fun x7 =>
 (if x3 = true then
 (if x7 = true then
 some (0 : Int)
 else
 some (-1 : Int))
 else
 (if x7 = true then
 some (1 : Int)
 else
 (if (decide (v0 < v1)) = true then
 some (-1 : Int)
 else
 (if (decide (v1 < v0)) = true then
 some (1 : Int)
 else
 some (0 : Int)))))

def sh_slices_Compare_int (v0 : (List Int)) (v1 : (List Int)) : Option Int :=
 rangeF (fun (k82 : Nat) (x83 : Int) (s81 : Unit) (nx120 : Unit → Option Int) =>
 (if (decide ((v1.length : Int) ≤ (k82 : Int))) = true then
 some (1 : Int)
 else
 getO v1 (k82 : Int) fun x159 =>
 (sh_cmp_Compare_int x83 x159).bind fun x164 =>
 (if (decide (x164 ≠ (0 : Int))) = true then
 some x164
 else
 nx120 ())))
 (fun (s81 : Unit) =>
 (if (decide ((v0.length : Int) < (v1.length : Int))) = true then
 some (-1 : Int)
 else
 some (0 : Int))) v0 0 ()

def sh_spec_l1Same (v0 : (List Int)) (v1 : (List Int)) : Option Bool :=
 (if (decide ((v0.length : Int) ≠ (v1.length : Int))) = true then
 some false
 else
 rangeF (fun (k52 : Nat) (x53 : Int) (s51 : Unit) (nx70 : Unit → Option Bool) =>
 getO v1 (k52 : Int) fun x83 =>
 (if (decide (x53 ≠ x83)) = true then
 some false
 else
 nx70 ()))
 (fun (s51 : Unit) =>
 some true) v0 0 ())

def sh_spec_eContains (v0 : XEdit) (v1 : XEdit) : Option Bool :=
 rangeF (fun (k74 : Nat) (x75 : Int) (s73 : Unit) (nx108 : Unit → Option Bool) =>
 getO v0.Sets (k74 : Int) fun x133 =>
 ck (0 ≤ x75) <|
 ckK .i64 x75 <|
 ck (0 ≤ x133) <|
 ckK .i64 x133 <|
 (if (decide (((x75.toNat &&& x133.toNat : Nat) : Int) ≠ x75)) = true then
 some false
 else
 nx108 ()))
 (fun (s73 : Unit) =>
 some true) v1.Sets 0 ()

def sh_spec_eAdd (v0 : (List XEdit)) (v1 : XEdit) : Option (List XEdit) :=
 ((loopF (fun (nx218 : Int → Option Int) (s151 : Int) =>
 lmO v0.length <|
 (if (decide (s151 < (v0.length : Int))) = true then
 getO v0 s151 fun x245 =>
 (sh_spec_l1Less x245.Sets v1.Sets).bind fun x248 =>
 (if (decide (x248 < (0 : Int))) = true then
 ckI (s151 + (1 : Int)) <|
 nx218 (s151 + (1 : Int))
 else
 some s151)
 else
 some s151)) FUEL (0 : Int) : Option Int).bind fun (s102 : Int) =>
 jn (fun (s119 : Unit) =>
 ck (0 ≤ s102 ∧ 0 ≤ (s102).toNat ∧ (s102).toNat ≤ v0.length) <|
 lnO (([] : List XEdit).length + ((v0.take (s102).toNat).drop 0).length) <|
 (sh_spec_l1Own v1.Sets).bind fun x129 =>
 lnO ((([] : List XEdit) ++ ((v0.take (s102).toNat).drop 0)).length + [(⟨x129⟩ : XEdit)].length) <|
 ck (0 ≤ s102 ∧ (s102).toNat ≤ v0.length ∧ v0.length ≤ v0.length) <|
 lnO (((([] : List XEdit) ++ ((v0.take (s102).toNat).drop 0)) ++ [(⟨x129⟩ : XEdit)]).length + ((v0.take v0.length).drop (s102).toNat).length) <|
 some (((([] : List XEdit) ++ ((v0.take (s102).toNat).drop 0)) ++ [(⟨x129⟩ : XEdit)]) ++ ((v0.take v0.length).drop (s102).toNat))) fun af120 =>
 lmO v0.length <|
 (if (decide (s102 < (v0.length : Int))) = true then
 getO v0 s102 fun x145 =>
 (sh_spec_l1Same x145.Sets v1.Sets).bind fun x148 =>
 (if x148 = true then
 some v0
 else
 af120 ())
 else
 af120 ()))

def sh_spec_eWithout (v0 : (List XEdit)) : Option (List XEdit) :=
 rangeF (fun (k560 : Nat) (x561 : XEdit) (s559 : (List XEdit)) (nx928 : (List XEdit) → Option (List XEdit)) =>
 rangeF (fun (k1069 : Nat) (x1070 : XEdit) (s1068 : Bool) (nx1095 : Bool → Option (List XEdit)) =>
 (if s1068 = true then
 nx1095 true
 else
 (sh_spec_l1Same x561.Sets x1070.Sets).bind fun x1108 =>
 (if (!x1108) = true then
 (sh_spec_eContains x1070 x561).bind fun x1111 =>
 nx1095 x1111
 else
 nx1095 false)))
 (fun (s1068 : Bool) =>
 (if (!s1068) = true then
 (sh_spec_eAdd s559 x561).bind fun x1099 =>
 nx928 x1099
 else
 nx928 s559)) v0 0 false)
 (fun (s559 : (List XEdit)) =>
 some s559) v0 0 ([] : List XEdit)

def sh_spec_WithoutContained (v0 : (List XVariable)) (v1 : (List XEdit)) : Option ((List XEdit) × Bool) :=
 (sh_spec_eSmall v0 v1).bind fun x8 =>
 (if (!x8) = true then
 some (([] : List XEdit), false)
 else
 (sh_spec_eWithout v1).bind fun x13 =>
 some (x13, true))

def sh_impl_compareEdits (v0 : XEdit) (v1 : XEdit) : Option Int :=
 (sh_slices_Compare_int v0.Sets v1.Sets).bind fun x3 =>
 some x3

def sh_impl_contains (v0 : XEdit) (v1 : XEdit) : Option Bool :=
 rangeF (fun (k74 : Nat) (x75 : Int) (s73 : Unit) (nx108 : Unit → Option Bool) =>
 getO v0.Sets (k74 : Int) fun x133 =>
 ck (0 ≤ x75) <|
 ckK .i64 x75 <|
 ck (0 ≤ x133) <|
 ckK .i64 x133 <|
 (if (decide ((((x75.toNat &&& x133.toNat) ^^^ x75.toNat : Nat) : Int) ≠ (0 : Int))) = true then
 some false
 else
 nx108 ()))
 (fun (s73 : Unit) =>
 some true) v1.Sets 0 ()

def sh_lexI : List Int → List Int → Int
  | [], [] => 0
  | [], _ :: _ => -1
  | _ :: _, [] => 1
  | a :: l, b :: m => if a < b then -1 else if b < a then 1 else sh_lexI l m
def sh_slices_SortFunc_impl_Edit_impl_Edit_impl_compareEdits (v0 : (List XEdit)) (v1 : Unit) : Option ((List XEdit) × Unit) :=
 if v0.length ≤ 1048576 ∧ (v0.map (·.Sets)).Nodup ∧ (∀ x ∈ v0, ∀ y ∈ v0, sh_impl_compareEdits x y = some (sh_lexI x.Sets y.Sets)) then some (v0.mergeSort fun x y => !decide (sh_lexI y.Sets x.Sets < 0), ()) else none

def sh_impl_WithoutContained (v0 : (List XVariable)) (v1 : (List XEdit)) : Option ((List XEdit) × Bool) :=
 (sh_impl_isSmall v0).bind fun x17 =>
 (if (!x17) = true then
 some (([] : List XEdit), false)
 else
 (sh_impl_areEdits v0 v1).bind fun x20 =>
 (if (!x20) = true then
 some (([] : List XEdit), false)
 else
 rangeF (fun (k1188 : Nat) (x1189 : XEdit) (s1187 : (List XEdit)) (nx1960 : (List XEdit) → Option ((List XEdit) × Bool)) =>
 rangeF (fun (k2256 : Nat) (x2257 : XEdit) (s2255 : Bool) (nx2316 : Bool → Option ((List XEdit) × Bool)) =>
 (((sh_impl_compareEdits x1189 x2257).bind fun x2340 =>
 (if (decide (x2340 = (0 : Int))) = true then
 (if (decide ((k2256 : Int) < (k1188 : Int))) = true then
 some false
 else
 some s2255)
 else
 (sh_impl_contains x2257 x1189).bind fun x2348 =>
 (if x2348 = true then
 some false
 else
 some s2255)) : Option Bool).bind fun (s2336 : Bool) =>
 nx2316 s2336))
 (fun (s2255 : Bool) =>
 (if s2255 = true then
 (sh_slices_Clone_int x1189.Sets).bind fun x2320 =>
 lnO (s1187.length + [(⟨x2320⟩ : XEdit)].length) <|
 nx1960 (s1187 ++ [(⟨x2320⟩ : XEdit)])
 else
 nx1960 s1187)) v1 0 true)
 (fun (s1187 : (List XEdit)) =>
 (sh_slices_SortFunc_impl_Edit_impl_Edit_impl_compareEdits s1187 ()).bind fun x1965 =>
 some (x1965.1, true)) v1 0 ([] : List XEdit)))

def sh_laws_heldEditS (v0 : (List XEdit)) (v1 : Int) : Option Int :=
 loopF (fun (nx159 : (Int × Int) → Option Int) (s96 : (Int × Int)) =>
 (if (decide (s96.2 < (v0.length : Int))) = true then
 getO v0 s96.2 fun x184 =>
 (sh_laws_heldIntS x184.Sets s96.1).bind fun x187 =>
 (if (decide (x187 < (0 : Int))) = true then
 some (-1 : Int)
 else
 ckI (s96.2 + (1 : Int)) <|
 nx159 (x187, (s96.2 + (1 : Int))))
 else
 some s96.1)) FUEL (v1, (0 : Int))

def sh_laws_FnExactWithoutContained (v0 : (List XVariable)) (v1 : (List XEdit)) : Option Bool :=
 (sh_laws_szVariableS v0 (1048576 : Int)).bind fun x3 =>
 (if (decide (x3 < (0 : Int))) = true then
 some true
 else
 (sh_laws_szEditS v1 x3).bind fun x9 =>
 (if (decide (x9 < (0 : Int))) = true then
 some true
 else
 (sh_laws_toVariableS v0).bind fun x19 =>
 (sh_laws_toEditS v1).bind fun x21 =>
 (sh_spec_WithoutContained x19 x21).bind fun x23 =>
 (sh_laws_toVariableS v0).bind fun x27 =>
 (sh_laws_toEditS v1).bind fun x31 =>
 (sh_impl_WithoutContained x27 x31).bind fun x35 =>
 (sh_laws_eqEditS x35.1 x23.1).bind fun x47 =>
 (if (!x47) = true then
 some false
 else
 (if (x35.2 != x23.2) = true then
 some false
 else
 (sh_laws_toVariableS v0).bind fun x64 =>
 (sh_laws_eqVariableS x27 x64).bind fun x66 =>
 (if (!x66) = true then
 some false
 else
 (sh_laws_toEditS v1).bind fun x82 =>
 (sh_laws_eqEditS x31 x82).bind fun x84 =>
 (if (!x84) = true then
 some false
 else
 (sh_laws_markVariableS x27 (1 : Int)).bind fun x89 =>
 (sh_laws_markEditS x31 x89.2).bind fun x93 =>
 (if (decide (x93.2 < (0 : Int))) = true then
 some false
 else
 (sh_laws_eqEditS x35.1 x23.1).bind fun x108 =>
 (if (!x108) = true then
 some false
 else
 (sh_laws_markEditS x35.1 (1 : Int)).bind fun x113 =>
 (sh_laws_heldEditS x113.1 (1 : Int)).bind fun x117 =>
 (if (decide (x117 < (0 : Int))) = true then
 some false
 else
 (if (decide (x117 ≠ x113.2)) = true then
 some false
 else
 (sh_laws_toVariableS v0).bind fun x129 =>
 (sh_laws_toEditS v1).bind fun x131 =>
 (sh_impl_WithoutContained x129 x131).bind fun x133 =>
 (sh_laws_eqEditS x133.1 x23.1).bind fun x145 =>
 (if (!x145) = true then
 some false
 else
 (if (x133.2 != x23.2) = true then
 some false
 else
 (sh_laws_heldEditS x113.1 (1 : Int)).bind fun x151 =>
 (if (decide (x151 < (0 : Int))) = true then
 some false
 else
 (if (decide (x151 ≠ x113.2)) = true then
 some false
 else
 some true))))))))))))))
end AS
