/- Plain functions. No condition. -/
import Derived.Test.YtliinmppiocmcaaKc
set_option linter.unusedVariables false
set_option linter.unusedSimpArgs false
namespace AS
structure XVariable where
  Name : (List UInt8)
  Levels : Int
  deriving DecidableEq, Inhabited
def cXVariable (c0 : Cd (List UInt8)) (c1 : Cd Int) : Cd XVariable := ⟨fun v => .agg [c0.enc v.Name, c1.enc v.Levels], c0.sz + (c1.sz + (0)), true, (c0.im && (c1.im && true)), fun v => by simp only [D.size, D.sizes, Cd.h_sz], fun _ => rfl, fun v => by simp only [D.imm, D.imms, Cd.h_im]⟩
theorem tXVariable {c0 c0' : Cd (List UInt8)} {c1 c1' : Cd Int} (tc0 : ToI c0 c0') (tc1 : ToI c1 c1') : ToI (cXVariable c0 c1) (cXVariable c0' c1') := ⟨fun v => by simp only [cXVariable, D.toImm, D.toImms, tc0.h, tc1.h], by simp only [cXVariable, tc0.im, tc1.im, Bool.and_true]⟩
theorem sXVariable {c0 : Cd (List UInt8)} {c1 : Cd Int} (tc0 : Sol c0) (tc1 : Sol c1) : Sol (cXVariable c0 c1) := ⟨fun v => by simp only [cXVariable, D.solid, D.solids, tc0.h, tc1.h, Bool.and_true]⟩
instance : Bd XVariable := ⟨fun v => Bd.bd v.Name ∧ Bd.bd v.Levels⟩
structure XEdit where
  Sets : (List Int)
  deriving DecidableEq, Inhabited
def cXEdit (c0 : Cd (List Int)) : Cd XEdit := ⟨fun v => .agg [c0.enc v.Sets], c0.sz + (0), true, (c0.im && true), fun v => by simp only [D.size, D.sizes, Cd.h_sz], fun _ => rfl, fun v => by simp only [D.imm, D.imms, Cd.h_im]⟩
theorem tXEdit {c0 c0' : Cd (List Int)} (tc0 : ToI c0 c0') : ToI (cXEdit c0) (cXEdit c0') := ⟨fun v => by simp only [cXEdit, D.toImm, D.toImms, tc0.h], by simp only [cXEdit, tc0.im, Bool.and_true]⟩
theorem sXEdit {c0 : Cd (List Int)} (tc0 : Sol c0) : Sol (cXEdit c0) := ⟨fun v => by simp only [cXEdit, D.solid, D.solids, tc0.h, Bool.and_true]⟩
instance : Bd XEdit := ⟨fun v => Bd.bd v.Sets⟩
def sh_laws_szVariable (v0 : XVariable) (v1 : Int) : Option Int :=
 ckI (v1 - (v0.Name.length : Int)) <|
 (if (decide ((v1 - (v0.Name.length : Int)) < (0 : Int))) = true then
 some (-1 : Int)
 else
 some (v1 - (v0.Name.length : Int)))

def sh_laws_szVariableS (v0 : (List XVariable)) (v1 : Int) : Option Int :=
 ckI (v1 - (v0.length : Int)) <|
 (if (decide ((v1 - (v0.length : Int)) < (0 : Int))) = true then
 some (-1 : Int)
 else
 loopF (fun (nx165 : (Int × Int) → Option Int) (s102 : (Int × Int)) =>
 (if (decide (s102.2 < (v0.length : Int))) = true then
 getO v0 s102.2 fun x190 =>
 (sh_laws_szVariable x190 s102.1).bind fun x193 =>
 (if (decide (x193 < (0 : Int))) = true then
 some (-1 : Int)
 else
 ckI (s102.2 + (1 : Int)) <|
 nx165 (x193, (s102.2 + (1 : Int))))
 else
 some s102.1)) FUEL ((v1 - (v0.length : Int)), (0 : Int)))

def sh_laws_szIntS (v0 : (List Int)) (v1 : Int) : Option Int :=
 ckI (v1 - (v0.length : Int)) <|
 (if (decide ((v1 - (v0.length : Int)) < (0 : Int))) = true then
 some (-1 : Int)
 else
 some (v1 - (v0.length : Int)))

def sh_laws_szEdit (v0 : XEdit) (v1 : Int) : Option Int :=
 (sh_laws_szIntS v0.Sets v1).bind fun x3 =>
 (if (decide (x3 < (0 : Int))) = true then
 some (-1 : Int)
 else
 some x3)

def sh_laws_toVariable (v0 : XVariable) : Option XVariable :=
 some (⟨v0.Name, v0.Levels⟩ : XVariable)

def sh_laws_toVariableS (v0 : (List XVariable)) : Option (List XVariable) :=
 mkO (v0.length : Int) <|
 loopF (fun (nx135 : ((List XVariable) × Int) → Option (List XVariable)) (s84 : ((List XVariable) × Int)) =>
 (if (decide (s84.2 < (v0.length : Int))) = true then
 getO v0 s84.2 fun x152 =>
 (sh_laws_toVariable x152).bind fun x155 =>
 getO s84.1 s84.2 fun x157 =>
 ckI (s84.2 + (1 : Int)) <|
 nx135 ((s84.1.set (s84.2).toNat x155), (s84.2 + (1 : Int)))
 else
 some s84.1)) FUEL ((List.replicate ((v0.length : Int)).toNat (⟨([] : List UInt8), (0 : Int)⟩ : XVariable)), (0 : Int))

def sh_laws_toIntS (v0 : (List Int)) : Option (List Int) :=
 mkO (v0.length : Int) <|
 loopF (fun (nx115 : ((List Int) × Int) → Option (List Int)) (s72 : ((List Int) × Int)) =>
 (if (decide (s72.2 < (v0.length : Int))) = true then
 getO v0 s72.2 fun x130 =>
 getO s72.1 s72.2 fun x133 =>
 ckI (s72.2 + (1 : Int)) <|
 nx115 ((s72.1.set (s72.2).toNat x130), (s72.2 + (1 : Int)))
 else
 some s72.1)) FUEL ((List.replicate ((v0.length : Int)).toNat (0 : Int)), (0 : Int))

def sh_laws_toEdit (v0 : XEdit) : Option XEdit :=
 (sh_laws_toIntS v0.Sets).bind fun x3 =>
 some (⟨x3⟩ : XEdit)

def sh_spec_l1In (v0 : Int) (v1 : Int) (v2 : Int) : Option Bool :=
 (if (decide (v1 ≤ v0)) = true then
 some (decide (v0 ≤ v2))
 else
 some false)

def sh_spec_sName (v0 : (List UInt8)) : Option Bool :=
 loopF (fun (nx139 : Int → Option Bool) (s84 : Int) =>
 (if (decide (s84 < (v0.length : Int))) = true then
 getO v0 s84 fun x161 =>
 (if (decide ((x161.toNat : Int) < (97 : Int))) = true then
 some false
 else
 (if (decide ((122 : Int) < (x161.toNat : Int))) = true then
 some false
 else
 ckI (s84 + (1 : Int)) <|
 nx139 (s84 + (1 : Int))))
 else
 (sh_spec_l1In (v0.length : Int) (1 : Int) (8 : Int)).bind fun x171 =>
 some x171)) FUEL (0 : Int)

def sh_spec_sFind (v0 : (List XVariable)) (v1 : (List UInt8)) : Option Int :=
 rangeF (fun (k18 : Nat) (x19 : XVariable) (s17 : Unit) (nx24 : Unit → Option Int) =>
 (if (decide (x19.Name = v1)) = true then
 some (k18 : Int)
 else
 nx24 ()))
 (fun (s17 : Unit) =>
 some (-1 : Int)) v0 0 ()

def sh_spec_sGood (v0 : (List XVariable)) : Option Bool :=
 (sh_spec_l1In (v0.length : Int) (1 : Int) (6 : Int)).bind fun x12 =>
 (if (!x12) = true then
 some false
 else
 rangeF (fun (k104 : Nat) (x105 : XVariable) (s103 : Unit) (nx146 : Unit → Option Bool) =>
 (sh_spec_sName x105.Name).bind fun x177 =>
 (if (!x177) = true then
 some false
 else
 (sh_spec_l1In x105.Levels (2 : Int) (8 : Int)).bind fun x180 =>
 (if (!x180) = true then
 some false
 else
 ck (0 ≤ (k104 : Int) ∧ 0 ≤ ((k104 : Int)).toNat ∧ ((k104 : Int)).toNat ≤ v0.length) <|
 (sh_spec_sFind ((v0.take ((k104 : Int)).toNat).drop 0) x105.Name).bind fun x184 =>
 (if (decide ((0 : Int) ≤ x184)) = true then
 some false
 else
 nx146 ()))))
 (fun (s103 : Unit) =>
 some true) v0 0 ())

def sh_spec_eFull (v0 : (List XVariable)) (v1 : Int) : Option Int :=
 getO v0 v1 fun x8 =>
 ckK .u64 x8.Levels <|
 ck (0 ≤ x8.Levels ∧ x8.Levels < 64) <|
 ckI ((1 : Int) * 2 ^ (x8.Levels).toNat) <|
 ckI (((1 : Int) * 2 ^ (x8.Levels).toNat) - (1 : Int)) <|
 some (((1 : Int) * 2 ^ (x8.Levels).toNat) - (1 : Int))

def sh_spec_eGood (v0 : (List XVariable)) (v1 : XEdit) : Option Bool :=
 (if (decide ((v1.Sets.length : Int) ≠ (v0.length : Int))) = true then
 some false
 else
 rangeF (fun (k60 : Nat) (x61 : Int) (s59 : Unit) (nx82 : Unit → Option Bool) =>
 (sh_spec_eFull v0 (k60 : Int)).bind fun x98 =>
 (sh_spec_l1In x61 (1 : Int) x98).bind fun x100 =>
 (if (!x100) = true then
 some false
 else
 nx82 ()))
 (fun (s59 : Unit) =>
 some true) v1.Sets 0 ())

def sh_spec_eList (v0 : (List XVariable)) (v1 : (List XEdit)) : Option Bool :=
 (sh_spec_sGood v0).bind fun x14 =>
 (if (!x14) = true then
 some false
 else
 (if (decide ((40 : Int) < (v1.length : Int))) = true then
 some false
 else
 rangeF (fun (k52 : Nat) (x53 : XEdit) (s51 : Unit) (nx66 : Unit → Option Bool) =>
 (sh_spec_eGood v0 x53).bind fun x76 =>
 (if (!x76) = true then
 some false
 else
 nx66 ()))
 (fun (s51 : Unit) =>
 some true) v1 0 ()))

def sh_spec_eInvolved (v0 : (List XVariable)) (v1 : XEdit) : Option (List Int) :=
 rangeF (fun (k50 : Nat) (x51 : Int) (s49 : (List Int)) (nx78 : (List Int) → Option (List Int)) =>
 (sh_spec_eFull v0 (k50 : Int)).bind fun x89 =>
 (if (decide (x51 ≠ x89)) = true then
 lnO (s49.length + [(k50 : Int)].length) <|
 nx78 (s49 ++ [(k50 : Int)])
 else
 nx78 s49))
 (fun (s49 : (List Int)) =>
 some s49) v1.Sets 0 ([] : List Int)

def sh_spec_eLevels (v0 : Int) : Option (List Int) :=
 loopF (fun (nx214 : ((List Int) × Int) → Option (List Int)) (s129 : ((List Int) × Int)) =>
 ckK .u64 s129.2 <|
 ck (0 ≤ s129.2 ∧ s129.2 < 64) <|
 (if (decide ((0 : Int) < (v0 / 2 ^ (s129.2).toNat))) = true then
 ckK .u64 s129.2 <|
 ck (0 ≤ s129.2 ∧ s129.2 < 64) <|
 ck (0 ≤ (v0 / 2 ^ (s129.2).toNat)) <|
 ckK .i64 (v0 / 2 ^ (s129.2).toNat) <|
 ck (0 ≤ (1 : Int)) <|
 ckK .i64 (1 : Int) <|
 (if (decide ((((v0 / 2 ^ (s129.2).toNat).toNat &&& (1 : Int).toNat : Nat) : Int) = (1 : Int))) = true then
 lnO (s129.1.length + [s129.2].length) <|
 ckI (s129.2 + (1 : Int)) <|
 nx214 ((s129.1 ++ [s129.2]), (s129.2 + (1 : Int)))
 else
 ckI (s129.2 + (1 : Int)) <|
 nx214 (s129.1, (s129.2 + (1 : Int))))
 else
 some s129.1)) FUEL (([] : List Int), (0 : Int))

def sh_spec_l1Num_B (self : Int → Option (List UInt8)) (v0 : Int) : Option (List UInt8) :=
 (if (decide (v0 < (10 : Int))) = true then
 ckI ((48 : Int) + v0) <|
 ckU ((48 : Int) + v0) <|
 ck ([((48 : Int) + v0)] = (bytesOf [((48 : Int) + v0)]).map fun b => ((b.toNat : Nat) : Int)) <|
 some (bytesOf [((48 : Int) + v0)])
 else
 ck ((10 : Int) ≠ 0) <|
 ckI (v0.tdiv (10 : Int)) <|
 (self (v0.tdiv (10 : Int))).bind fun x31 =>
 ck ((10 : Int) ≠ 0) <|
 ckI ((48 : Int) + (v0.tmod (10 : Int))) <|
 ckU ((48 : Int) + (v0.tmod (10 : Int))) <|
 ck ([((48 : Int) + (v0.tmod (10 : Int)))] = (bytesOf [((48 : Int) + (v0.tmod (10 : Int)))]).map fun b => ((b.toNat : Nat) : Int)) <|
 lnO (x31.length + (bytesOf [((48 : Int) + (v0.tmod (10 : Int)))]).length) <|
 some (x31 ++ (bytesOf [((48 : Int) + (v0.tmod (10 : Int)))])))
def sh_spec_l1Num (v0 : Int) : Option (List UInt8) := loopF sh_spec_l1Num_B FUEL v0

def sh_spec_eText (v0 : (List XVariable)) (v1 : XEdit) : Option (List UInt8) :=
 (sh_spec_eInvolved v0 v1).bind fun x558 =>
 rangeF (fun (k562 : Nat) (x563 : Int) (s561 : (List UInt8)) (nx926 : (List UInt8) → Option (List UInt8)) =>
 (((if (decide (s561 ≠ ([] : List UInt8))) = true then
 lnO (s561.length + ([32] : List UInt8).length) <|
 some (s561 ++ ([32] : List UInt8))
 else
 some s561) : Option (List UInt8)).bind fun (s1023 : (List UInt8)) =>
 getO v0 x563 fun x1030 =>
 lnO (x1030.Name.length + ([61] : List UInt8).length) <|
 lnO (s1023.length + (x1030.Name ++ ([61] : List UInt8)).length) <|
 getO v1.Sets x563 fun x1041 =>
 (sh_spec_eLevels x1041).bind fun x1044 =>
 rangeF (fun (k1048 : Nat) (x1049 : Int) (s1047 : (List UInt8)) (nx1088 : (List UInt8) → Option (List UInt8)) =>
 (((if (decide ((0 : Int) < (k1048 : Int))) = true then
 lnO (s1047.length + ([44] : List UInt8).length) <|
 some (s1047 ++ ([44] : List UInt8))
 else
 some s1047) : Option (List UInt8)).bind fun (s1102 : (List UInt8)) =>
 (sh_spec_l1Num x1049).bind fun x1104 =>
 lnO (s1102.length + x1104.length) <|
 nx1088 (s1102 ++ x1104)))
 (fun (s1047 : (List UInt8)) =>
 nx926 s1047) x1044 0 (s1023 ++ (x1030.Name ++ ([61] : List UInt8)))))
 (fun (s561 : (List UInt8)) =>
 (if (decide (s561 = ([] : List UInt8))) = true then
 some ([97, 108, 108] : List UInt8)
 else
 some s561)) x558 0 ([] : List UInt8)

def sh_spec_EditText (v0 : (List XVariable)) (v1 : XEdit) : Option ((List UInt8) × Bool) :=
 (sh_spec_eList v0 [v1]).bind fun x8 =>
 (if (!x8) = true then
 some (([] : List UInt8), false)
 else
 (sh_spec_eText v0 v1).bind fun x13 =>
 some (x13, true))

def sh_impl_isWord (v0 : (List UInt8)) : Option Bool :=
 (if (decide ((v0.length : Int) < (1 : Int))) = true then
 some false
 else
 (if (decide ((8 : Int) < (v0.length : Int))) = true then
 some false
 else
 rangeF (fun (k40 : Nat) (x41 : UInt8) (s39 : Unit) (nx50 : Unit → Option Bool) =>
 (if (decide ((x41.toNat : Int) < (97 : Int))) = true then
 some false
 else
 (if (decide ((122 : Int) < (x41.toNat : Int))) = true then
 some false
 else
 nx50 ())))
 (fun (s39 : Unit) =>
 some true) v0 0 ()))

def sh_impl_IsSchema (v0 : (List XVariable)) : Option Bool :=
 (if (decide ((v0.length : Int) < (1 : Int))) = true then
 some false
 else
 (if (decide ((6 : Int) < (v0.length : Int))) = true then
 some false
 else
 rangeF (fun (k164 : Nat) (x165 : XVariable) (s163 : Unit) (nx236 : Unit → Option Bool) =>
 (sh_impl_isWord x165.Name).bind fun x286 =>
 (if (!x286) = true then
 some false
 else
 (if (decide (x165.Levels < (2 : Int))) = true then
 some false
 else
 (if (decide ((8 : Int) < x165.Levels)) = true then
 some false
 else
 ck (0 ≤ (k164 : Int) ∧ 0 ≤ ((k164 : Int)).toNat ∧ ((k164 : Int)).toNat ≤ v0.length) <|
 rangeF (fun (k296 : Nat) (x297 : XVariable) (s295 : Unit) (nx302 : Unit → Option Bool) =>
 (if (decide (x297.Name = x165.Name)) = true then
 some false
 else
 nx302 ()))
 (fun (s295 : Unit) =>
 nx236 ()) ((v0.take ((k164 : Int)).toNat).drop 0) 0 ()))))
 (fun (s163 : Unit) =>
 some true) v0 0 ()))

def sh_impl_fullSet (v0 : XVariable) : Option Int :=
 ck (0 ≤ v0.Levels ∧ v0.Levels < 64) <|
 ckI ((1 : Int) * 2 ^ (v0.Levels).toNat) <|
 ckI (((1 : Int) * 2 ^ (v0.Levels).toNat) - (1 : Int)) <|
 some (((1 : Int) * 2 ^ (v0.Levels).toNat) - (1 : Int))

def sh_impl_isEdit (v0 : (List XVariable)) (v1 : XEdit) : Option Bool :=
 (if (decide ((v1.Sets.length : Int) ≠ (v0.length : Int))) = true then
 some false
 else
 rangeF (fun (k76 : Nat) (x77 : Int) (s75 : Unit) (nx106 : Unit → Option Bool) =>
 (if (decide (x77 < (1 : Int))) = true then
 some false
 else
 getO v0 (k76 : Int) fun x129 =>
 (sh_impl_fullSet x129).bind fun x132 =>
 (if (decide (x132 < x77)) = true then
 some false
 else
 nx106 ())))
 (fun (s75 : Unit) =>
 some true) v1.Sets 0 ())
def sh_impl_involvedIn (v0 : (List XVariable)) (v1 : XEdit) : Option (List Int) :=
 rangeF (fun (k86 : Nat) (x87 : Int) (s85 : (List Int)) (nx138 : (List Int) → Option (List Int)) =>
 getO v0 (k86 : Int) fun x158 =>
 (sh_impl_fullSet x158).bind fun x161 =>
 (if (decide (x87 ≠ x161)) = true then
 lnO (s85.length + [(k86 : Int)].length) <|
 nx138 (s85 ++ [(k86 : Int)])
 else
 nx138 s85))
 (fun (s85 : (List Int)) =>
 some s85) v1.Sets 0 ([] : List Int)

def sh_strings_Join (v0 : (List (List UInt8))) (v1 : (List UInt8)) : Option (List UInt8) :=
 if v0.length ≤ 1048576 ∧ (v1.intercalate v0).length ≤ 140737488355328 then some (v1.intercalate v0) else none

def sh_impl_setText (v0 : Int) : Option (List UInt8) :=
 loopF (fun (nx184 : ((List (List UInt8)) × Int) → Option (List UInt8)) (s111 : ((List (List UInt8)) × Int)) =>
 (if (decide (s111.2 < (8 : Int))) = true then
 ck (0 ≤ s111.2 ∧ s111.2 < 64) <|
 ck (0 ≤ (v0 / 2 ^ (s111.2).toNat)) <|
 ckK .i64 (v0 / 2 ^ (s111.2).toNat) <|
 ck (0 ≤ (1 : Int)) <|
 ckK .i64 (1 : Int) <|
 (if (decide ((((v0 / 2 ^ (s111.2).toNat).toNat &&& (1 : Int).toNat : Nat) : Int) = (1 : Int))) = true then
 ckI ((48 : Int) + s111.2) <|
 ckK .i32 ((48 : Int) + s111.2) <|
 ck (0 ≤ ((48 : Int) + s111.2) ∧ ((48 : Int) + s111.2) < 128) <|
 lnO (s111.1.length + [[UInt8.ofNat (((48 : Int) + s111.2)).toNat]].length) <|
 ckI (s111.2 + (1 : Int)) <|
 nx184 ((s111.1 ++ [[UInt8.ofNat (((48 : Int) + s111.2)).toNat]]), (s111.2 + (1 : Int)))
 else
 ckI (s111.2 + (1 : Int)) <|
 nx184 (s111.1, (s111.2 + (1 : Int))))
 else
 (sh_strings_Join s111.1 ([44] : List UInt8)).bind fun x223 =>
 some x223)) FUEL (([] : List (List UInt8)), (0 : Int))

def sh_impl_EditText (v0 : (List XVariable)) (v1 : XEdit) : Option ((List UInt8) × Bool) :=
 (sh_impl_IsSchema v0).bind fun x17 =>
 (if (!x17) = true then
 some (([] : List UInt8), false)
 else
 (sh_impl_isEdit v0 v1).bind fun x20 =>
 (if (!x20) = true then
 some (([] : List UInt8), false)
 else
 (sh_impl_involvedIn v0 v1).bind fun x25 =>
 (if (decide ((x25.length : Int) = (0 : Int))) = true then
 some (([97, 108, 108] : List UInt8), true)
 else
 mkO (x25.length : Int) <|
 rangeF (fun (k130 : Nat) (x131 : Int) (s129 : (List (List UInt8))) (nx186 : (List (List UInt8)) → Option ((List UInt8) × Bool)) =>
 getO v0 x131 fun x206 =>
 lnO (x206.Name.length + ([61] : List UInt8).length) <|
 getO v1.Sets x131 fun x210 =>
 (sh_impl_setText x210).bind fun x213 =>
 lnO ((x206.Name ++ ([61] : List UInt8)).length + x213.length) <|
 getO s129 (k130 : Int) fun x216 =>
 nx186 (s129.set ((k130 : Int)).toNat ((x206.Name ++ ([61] : List UInt8)) ++ x213)))
 (fun (s129 : (List (List UInt8))) =>
 (sh_strings_Join s129 ([32] : List UInt8)).bind fun x191 =>
 some (x191, true)) x25 0 (List.replicate ((x25.length : Int)).toNat ([] : List UInt8)))))

def sh_laws_eqVariable (v0 : XVariable) (v1 : XVariable) : Option Bool :=
 (if (decide (v0.Name ≠ v1.Name)) = true then
 some false
 else
 (if (decide (v0.Levels ≠ v1.Levels)) = true then
 some false
 else
 some true))

def sh_laws_eqVariableS (v0 : (List XVariable)) (v1 : (List XVariable)) : Option Bool :=
 (if (decide ((v0.length : Int) ≠ (v1.length : Int))) = true then
 some false
 else
 loopF (fun (nx229 : Int → Option Bool) (s142 : Int) =>
 (if (decide (s142 < (v0.length : Int))) = true then
 getO v0 s142 fun x263 =>
 getO v1 s142 fun x266 =>
 (sh_laws_eqVariable x263 x266).bind fun x269 =>
 (if (!x269) = true then
 some false
 else
 ckI (s142 + (1 : Int)) <|
 nx229 (s142 + (1 : Int)))
 else
 some true)) FUEL (0 : Int))

def sh_laws_eqIntS (v0 : (List Int)) (v1 : (List Int)) : Option Bool :=
 (if (decide ((v0.length : Int) ≠ (v1.length : Int))) = true then
 some false
 else
 loopF (fun (nx189 : Int → Option Bool) (s118 : Int) =>
 (if (decide (s118 < (v0.length : Int))) = true then
 getO v0 s118 fun x217 =>
 getO v1 s118 fun x220 =>
 (if (decide (x217 ≠ x220)) = true then
 some false
 else
 ckI (s118 + (1 : Int)) <|
 nx189 (s118 + (1 : Int)))
 else
 some true)) FUEL (0 : Int))

def sh_laws_eqEdit (v0 : XEdit) (v1 : XEdit) : Option Bool :=
 (sh_laws_eqIntS v0.Sets v1.Sets).bind fun x8 =>
 (if (!x8) = true then
 some false
 else
 some true)

def sh_laws_FnExactEditText (v0 : (List XVariable)) (v1 : XEdit) : Option Bool :=
 (sh_laws_szVariableS v0 (1048576 : Int)).bind fun x3 =>
 (if (decide (x3 < (0 : Int))) = true then
 some true
 else
 (sh_laws_szEdit v1 x3).bind fun x9 =>
 (if (decide (x9 < (0 : Int))) = true then
 some true
 else
 (sh_laws_toVariableS v0).bind fun x19 =>
 (sh_laws_toEdit v1).bind fun x21 =>
 (sh_spec_EditText x19 x21).bind fun x23 =>
 (sh_laws_toVariableS v0).bind fun x27 =>
 (sh_laws_toEdit v1).bind fun x31 =>
 (sh_impl_EditText x27 x31).bind fun x35 =>
 (if (decide (x35.1 ≠ x23.1)) = true then
 some false
 else
 (if (x35.2 != x23.2) = true then
 some false
 else
 (sh_laws_toVariableS v0).bind fun x56 =>
 (sh_laws_eqVariableS x27 x56).bind fun x58 =>
 (if (!x58) = true then
 some false
 else
 (sh_laws_toEdit v1).bind fun x74 =>
 (sh_laws_eqEdit x31 x74).bind fun x76 =>
 (if (!x76) = true then
 some false
 else
 some true))))))
end AS
