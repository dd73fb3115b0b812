/- Plain functions. No condition. -/
import Derived.Test.YtnjjldjgknkijaaKc
import Derived.Test.YtnjjldjgknkijaaSaa
set_option linter.unusedVariables false
set_option linter.unusedSimpArgs false
namespace AS
structure XVariable where
  Name : (List UInt8)
  Levels : Int
  deriving DecidableEq, Inhabited
def cXVariable (c0 : Cd (List UInt8)) (c1 : Cd Int) : Cd XVariable := ⟨fun v => .agg [c0.enc v.Name, c1.enc v.Levels], c0.sz + (c1.sz + (0)), true, (c0.im && (c1.im && true)), fun v => by simp only [D.size, D.sizes, Cd.h_sz], fun _ => rfl, fun v => by simp only [D.imm, D.imms, Cd.h_im]⟩
theorem tXVariable {c0 c0' : Cd (List UInt8)} {c1 c1' : Cd Int} (tc0 : ToI c0 c0') (tc1 : ToI c1 c1') : ToI (cXVariable c0 c1) (cXVariable c0' c1') := ⟨fun v => by simp only [cXVariable, D.toImm, D.toImms, tc0.h, tc1.h], by simp only [cXVariable, tc0.im, tc1.im, Bool.and_true]⟩
theorem sXVariable {c0 : Cd (List UInt8)} {c1 : Cd Int} (tc0 : Sol c0) (tc1 : Sol c1) : Sol (cXVariable c0 c1) := ⟨fun v => by simp only [cXVariable, D.solid, D.solids, tc0.h, tc1.h, Bool.and_true]⟩
instance : Bd XVariable := ⟨fun v => Bd.bd v.Name ∧ Bd.bd v.Levels⟩
def sh_laws_szVariable (v0 : XVariable) (v1 : Int) : Option Int :=
 ckI (v1 - (v0.Name.length : Int)) <|
 (if (decide ((v1 - (v0.Name.length : Int)) < (0 : Int))) = true then
 some (-1 : Int)
 else
 some (v1 - (v0.Name.length : Int)))

def sh_laws_szVariableS (v0 : (List XVariable)) (v1 : Int) : Option Int :=
 ckI (v1 - (v0.length : Int)) <|
 (if (decide ((v1 - (v0.length : Int)) < (0 : Int))) = true then
 some (-1 : Int)
 else
 loopF (fun (nx165 : (Int × Int) → Option Int) (s102 : (Int × Int)) =>
 (if (decide (s102.2 < (v0.length : Int))) = true then
 getO v0 s102.2 fun x190 =>
 (sh_laws_szVariable x190 s102.1).bind fun x193 =>
 (if (decide (x193 < (0 : Int))) = true then
 some (-1 : Int)
 else
 ckI (s102.2 + (1 : Int)) <|
 nx165 (x193, (s102.2 + (1 : Int))))
 else
 some s102.1)) FUEL ((v1 - (v0.length : Int)), (0 : Int)))

def sh_laws_toVariable (v0 : XVariable) : Option XVariable :=
 some (⟨v0.Name, v0.Levels⟩ : XVariable)

def sh_laws_toVariableS (v0 : (List XVariable)) : Option (List XVariable) :=
 mkO (v0.length : Int) <|
 loopF (fun (nx135 : ((List XVariable) × Int) → Option (List XVariable)) (s84 : ((List XVariable) × Int)) =>
 (if (decide (s84.2 < (v0.length : Int))) = true then
 getO v0 s84.2 fun x152 =>
 (sh_laws_toVariable x152).bind fun x155 =>
 getO s84.1 s84.2 fun x157 =>
 ckI (s84.2 + (1 : Int)) <|
 nx135 ((s84.1.set (s84.2).toNat x155), (s84.2 + (1 : Int)))
 else
 some s84.1)) FUEL ((List.replicate ((v0.length : Int)).toNat (⟨([] : List UInt8), (0 : Int)⟩ : XVariable)), (0 : Int))

def sh_spec_sName (v0 : (List UInt8)) : Option Bool :=
 loopF (fun (nx139 : Int → Option Bool) (s84 : Int) =>
 (if (decide (s84 < (v0.length : Int))) = true then
 getO v0 s84 fun x161 =>
 (if (decide ((x161.toNat : Int) < (97 : Int))) = true then
 some false
 else
 (if (decide ((122 : Int) < (x161.toNat : Int))) = true then
 some false
 else
 ckI (s84 + (1 : Int)) <|
 nx139 (s84 + (1 : Int))))
 else
 (sh_spec_l1In (v0.length : Int) (1 : Int) (8 : Int)).bind fun x171 =>
 some x171)) FUEL (0 : Int)

def sh_spec_sFind (v0 : (List XVariable)) (v1 : (List UInt8)) : Option Int :=
 rangeF (fun (k18 : Nat) (x19 : XVariable) (s17 : Unit) (nx24 : Unit → Option Int) =>
 (if (decide (x19.Name = v1)) = true then
 some (k18 : Int)
 else
 nx24 ()))
 (fun (s17 : Unit) =>
 some (-1 : Int)) v0 0 ()

def sh_spec_sGood (v0 : (List XVariable)) : Option Bool :=
 (sh_spec_l1In (v0.length : Int) (1 : Int) (6 : Int)).bind fun x12 =>
 (if (!x12) = true then
 some false
 else
 rangeF (fun (k104 : Nat) (x105 : XVariable) (s103 : Unit) (nx146 : Unit → Option Bool) =>
 (sh_spec_sName x105.Name).bind fun x177 =>
 (if (!x177) = true then
 some false
 else
 (sh_spec_l1In x105.Levels (2 : Int) (8 : Int)).bind fun x180 =>
 (if (!x180) = true then
 some false
 else
 ck (0 ≤ (k104 : Int) ∧ 0 ≤ ((k104 : Int)).toNat ∧ ((k104 : Int)).toNat ≤ v0.length) <|
 (sh_spec_sFind ((v0.take ((k104 : Int)).toNat).drop 0) x105.Name).bind fun x184 =>
 (if (decide ((0 : Int) ≤ x184)) = true then
 some false
 else
 nx146 ()))))
 (fun (s103 : Unit) =>
 some true) v0 0 ())

def sh_spec_iWeights (v0 : (List XVariable)) (v1 : (List Int)) : Option Bool :=
 (if (decide ((v1.length : Int) = (v0.length : Int))) = true then
 (sh_spec_l1All v1 (1 : Int) (100 : Int)).bind fun x9 =>
 some x9
 else
 some false)

def sh_spec_sFits (v0 : (List XVariable)) (v1 : (List Int)) : Option Bool :=
 (if (decide ((v1.length : Int) ≠ (v0.length : Int))) = true then
 some false
 else
 rangeF (fun (k76 : Nat) (x77 : XVariable) (s75 : Unit) (nx106 : Unit → Option Bool) =>
 getO v1 (k76 : Int) fun x128 =>
 ckI (x77.Levels - (1 : Int)) <|
 (sh_spec_l1In x128 (0 : Int) (x77.Levels - (1 : Int))).bind fun x132 =>
 (if (!x132) = true then
 some false
 else
 nx106 ()))
 (fun (s75 : Unit) =>
 some true) v0 0 ())

def sh_spec_iChanged (v0 : (List Int)) (v1 : (List Int)) (v2 : (List Int)) : Option Int :=
 rangeF (fun (k80 : Nat) (x81 : Int) (s79 : Int) (nx128 : Int → Option Int) =>
 getO v2 (k80 : Int) fun x145 =>
 (if (decide (x81 ≠ x145)) = true then
 getO v0 (k80 : Int) fun x149 =>
 ckI (s79 + x149) <|
 nx128 (s79 + x149)
 else
 nx128 s79))
 (fun (s79 : Int) =>
 some s79) v1 0 (0 : Int)

def sh_spec_ChangeCost (v0 : (List XVariable)) (v1 : (List Int)) (v2 : (List Int)) (v3 : (List Int)) : Option (Int × Bool) :=
 (((sh_spec_sGood v0).bind fun x44 =>
 (if (!x44) = true then
 some true
 else
 (sh_spec_iWeights v0 v1).bind fun x47 =>
 (if (!x47) = true then
 some true
 else
 (sh_spec_sFits v0 v2).bind fun x50 =>
 (if (!x50) = true then
 some true
 else
 (sh_spec_sFits v0 v3).bind fun x53 =>
 some (!x53)))) : Option Bool).bind fun (s37 : Bool) =>
 (if s37 = true then
 some ((0 : Int), false)
 else
 (sh_spec_iChanged v1 v2 v3).bind fun x42 =>
 some (x42, true)))

def sh_impl_isWord (v0 : (List UInt8)) : Option Bool :=
 (if (decide ((v0.length : Int) < (1 : Int))) = true then
 some false
 else
 (if (decide ((8 : Int) < (v0.length : Int))) = true then
 some false
 else
 rangeF (fun (k40 : Nat) (x41 : UInt8) (s39 : Unit) (nx50 : Unit → Option Bool) =>
 (if (decide ((x41.toNat : Int) < (97 : Int))) = true then
 some false
 else
 (if (decide ((122 : Int) < (x41.toNat : Int))) = true then
 some false
 else
 nx50 ())))
 (fun (s39 : Unit) =>
 some true) v0 0 ()))

def sh_impl_IsSchema (v0 : (List XVariable)) : Option Bool :=
 (if (decide ((v0.length : Int) < (1 : Int))) = true then
 some false
 else
 (if (decide ((6 : Int) < (v0.length : Int))) = true then
 some false
 else
 rangeF (fun (k164 : Nat) (x165 : XVariable) (s163 : Unit) (nx236 : Unit → Option Bool) =>
 (sh_impl_isWord x165.Name).bind fun x286 =>
 (if (!x286) = true then
 some false
 else
 (if (decide (x165.Levels < (2 : Int))) = true then
 some false
 else
 (if (decide ((8 : Int) < x165.Levels)) = true then
 some false
 else
 ck (0 ≤ (k164 : Int) ∧ 0 ≤ ((k164 : Int)).toNat ∧ ((k164 : Int)).toNat ≤ v0.length) <|
 rangeF (fun (k296 : Nat) (x297 : XVariable) (s295 : Unit) (nx302 : Unit → Option Bool) =>
 (if (decide (x297.Name = x165.Name)) = true then
 some false
 else
 nx302 ()))
 (fun (s295 : Unit) =>
 nx236 ()) ((v0.take ((k164 : Int)).toNat).drop 0) 0 ()))))
 (fun (s163 : Unit) =>
 some true) v0 0 ()))

def sh_impl_areWeights (v0 : (List XVariable)) (v1 : (List Int)) : Option Bool :=
 (if (decide ((v1.length : Int) ≠ (v0.length : Int))) = true then
 some false
 else
 rangeF (fun (k36 : Nat) (x37 : Int) (s35 : Unit) (nx46 : Unit → Option Bool) =>
 (if (decide (x37 < (1 : Int))) = true then
 some false
 else
 (if (decide ((100 : Int) < x37)) = true then
 some false
 else
 nx46 ())))
 (fun (s35 : Unit) =>
 some true) v1 0 ())

def sh_impl_areValues (v0 : (List XVariable)) (v1 : (List Int)) : Option Bool :=
 (if (decide ((v1.length : Int) ≠ (v0.length : Int))) = true then
 some false
 else
 rangeF (fun (k60 : Nat) (x61 : Int) (s59 : Unit) (nx82 : Unit → Option Bool) =>
 (if (decide (x61 < (0 : Int))) = true then
 some false
 else
 getO v0 (k60 : Int) fun x99 =>
 (if (decide (x99.Levels ≤ x61)) = true then
 some false
 else
 nx82 ())))
 (fun (s59 : Unit) =>
 some true) v1 0 ())

def sh_impl_changeCost (v0 : (List Int)) (v1 : (List Int)) (v2 : (List Int)) : Option Int :=
 rangeF (fun (k80 : Nat) (x81 : Int) (s79 : Int) (nx128 : Int → Option Int) =>
 getO v2 (k80 : Int) fun x145 =>
 (if (decide (x81 ≠ x145)) = true then
 getO v0 (k80 : Int) fun x149 =>
 ckI (s79 + x149) <|
 nx128 (s79 + x149)
 else
 nx128 s79))
 (fun (s79 : Int) =>
 some s79) v1 0 (0 : Int)

def sh_impl_ChangeCost (v0 : (List XVariable)) (v1 : (List Int)) (v2 : (List Int)) (v3 : (List Int)) : Option (Int × Bool) :=
 (((sh_impl_IsSchema v0).bind fun x44 =>
 (if (!x44) = true then
 some true
 else
 (sh_impl_areWeights v0 v1).bind fun x47 =>
 (if (!x47) = true then
 some true
 else
 (sh_impl_areValues v0 v2).bind fun x50 =>
 (if (!x50) = true then
 some true
 else
 (sh_impl_areValues v0 v3).bind fun x53 =>
 some (!x53)))) : Option Bool).bind fun (s37 : Bool) =>
 (if s37 = true then
 some ((0 : Int), false)
 else
 (sh_impl_changeCost v1 v2 v3).bind fun x42 =>
 some (x42, true)))

def sh_laws_eqVariable (v0 : XVariable) (v1 : XVariable) : Option Bool :=
 (if (decide (v0.Name ≠ v1.Name)) = true then
 some false
 else
 (if (decide (v0.Levels ≠ v1.Levels)) = true then
 some false
 else
 some true))

def sh_laws_eqVariableS (v0 : (List XVariable)) (v1 : (List XVariable)) : Option Bool :=
 (if (decide ((v0.length : Int) ≠ (v1.length : Int))) = true then
 some false
 else
 loopF (fun (nx229 : Int → Option Bool) (s142 : Int) =>
 (if (decide (s142 < (v0.length : Int))) = true then
 getO v0 s142 fun x263 =>
 getO v1 s142 fun x266 =>
 (sh_laws_eqVariable x263 x266).bind fun x269 =>
 (if (!x269) = true then
 some false
 else
 ckI (s142 + (1 : Int)) <|
 nx229 (s142 + (1 : Int)))
 else
 some true)) FUEL (0 : Int))

def sh_laws_FnExactChangeCost (v0 : (List XVariable)) (v1 : (List Int)) (v2 : (List Int)) (v3 : (List Int)) : Option Bool :=
 (if (decide ((1048576 : Int) < (v1.length : Int))) = true then
 some true
 else
 (if (decide ((1048576 : Int) < (v2.length : Int))) = true then
 some true
 else
 (if (decide ((1048576 : Int) < (v3.length : Int))) = true then
 some true
 else
 (sh_laws_szVariableS v0 (1048576 : Int)).bind fun x21 =>
 (if (decide (x21 < (0 : Int))) = true then
 some true
 else
 (sh_laws_toVariableS v0).bind fun x35 =>
 (sh_laws_toIntS v1).bind fun x37 =>
 (sh_laws_toIntS v2).bind fun x39 =>
 (sh_laws_toIntS v3).bind fun x41 =>
 (sh_spec_ChangeCost x35 x37 x39 x41).bind fun x43 =>
 (sh_laws_toVariableS v0).bind fun x47 =>
 (sh_laws_toIntS v1).bind fun x51 =>
 (sh_laws_toIntS v2).bind fun x55 =>
 (sh_laws_toIntS v3).bind fun x59 =>
 (sh_impl_ChangeCost x47 x51 x55 x59).bind fun x63 =>
 (if (decide (x63.1 ≠ x43.1)) = true then
 some false
 else
 (if (x63.2 != x43.2) = true then
 some false
 else
 (sh_laws_toVariableS v0).bind fun x84 =>
 (sh_laws_eqVariableS x47 x84).bind fun x86 =>
 (if (!x86) = true then
 some false
 else
 (sh_laws_toIntS v1).bind fun x102 =>
 (sh_laws_eqIntS x51 x102).bind fun x104 =>
 (if (!x104) = true then
 some false
 else
 (sh_laws_toIntS v2).bind fun x120 =>
 (sh_laws_eqIntS x55 x120).bind fun x122 =>
 (if (!x122) = true then
 some false
 else
 (sh_laws_toIntS v3).bind fun x138 =>
 (sh_laws_eqIntS x59 x138).bind fun x140 =>
 (if (!x140) = true then
 some false
 else
 some true))))))))))
end AS
