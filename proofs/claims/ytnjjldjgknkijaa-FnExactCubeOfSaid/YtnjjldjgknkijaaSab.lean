/- Plain functions. No condition. -/
import Derived.Test.YtnjjldjgknkijaaKc
import Derived.Test.YtnjjldjgknkijaaSaa
set_option linter.unusedVariables false
set_option linter.unusedSimpArgs false
namespace AS
def sh_laws_eqIntSS (v0 : (List (List Int))) (v1 : (List (List Int))) : Option Bool :=
 (if (decide ((v0.length : Int) ≠ (v1.length : Int))) = true then
 some false
 else
 loopF (fun (nx229 : Int → Option Bool) (s142 : Int) =>
 (if (decide (s142 < (v0.length : Int))) = true then
 getO v0 s142 fun x263 =>
 getO v1 s142 fun x266 =>
 (sh_laws_eqIntS x263 x266).bind fun x269 =>
 (if (!x269) = true then
 some false
 else
 ckI (s142 + (1 : Int)) <|
 nx229 (s142 + (1 : Int)))
 else
 some true)) FUEL (0 : Int))

def sh_laws_markIntSS (v0 : (List (List Int))) (v1 : Int) : Option ((List (List Int)) × Int) :=
 loopF (fun (nx99 : ((List (List Int)) × Int × Int) → Option ((List (List Int)) × Int)) (s60 : ((List (List Int)) × Int × Int)) =>
 (if (decide (s60.2.2 < (s60.1.length : Int))) = true then
 getO s60.1 s60.2.2 fun x113 =>
 (sh_laws_markIntS x113 s60.2.1).bind fun x116 =>
 ckI (s60.2.2 + (1 : Int)) <|
 nx99 ((s60.1.set (s60.2.2).toNat x116.1), x116.2, (s60.2.2 + (1 : Int)))
 else
 some (s60.1, s60.2.1))) FUEL (v0, v1, (0 : Int))

def sh_laws_heldIntSS (v0 : (List (List Int))) (v1 : Int) : Option Int :=
 loopF (fun (nx159 : (Int × Int) → Option Int) (s96 : (Int × Int)) =>
 (if (decide (s96.2 < (v0.length : Int))) = true then
 getO v0 s96.2 fun x184 =>
 (sh_laws_heldIntS x184 s96.1).bind fun x187 =>
 (if (decide (x187 < (0 : Int))) = true then
 some (-1 : Int)
 else
 ckI (s96.2 + (1 : Int)) <|
 nx159 (x187, (s96.2 + (1 : Int))))
 else
 some s96.1)) FUEL (v1, (0 : Int))

def sh_spec_cbCount (v0 : (List Int)) : Option Int :=
 (if (decide ((4 : Int) < (v0.length : Int))) = true then
 some (0 : Int)
 else
 (sh_spec_l1All v0 (1 : Int) (30 : Int)).bind fun x16 =>
 (if (!x16) = true then
 some (0 : Int)
 else
 rangeF (fun (k44 : Nat) (x45 : Int) (s43 : Int) (nx56 : Int → Option Int) =>
 ckI (x45 + (1 : Int)) <|
 ckI (s43 * (x45 + (1 : Int))) <|
 nx56 (s43 * (x45 + (1 : Int))))
 (fun (s43 : Int) =>
 (if (decide ((2000 : Int) < s43)) = true then
 some (0 : Int)
 else
 some s43)) v0 0 (1 : Int)))

def sh_spec_cbIndices (v0 : (List Int)) (v1 : Int) : Option (List Int) :=
 mkO (v0.length : Int) <|
 ckI ((v0.length : Int) - (1 : Int)) <|
 loopF (fun (nx233 : (Int × (List Int) × Int) → Option (List Int)) (s146 : (Int × (List Int) × Int)) =>
 (if (decide ((0 : Int) ≤ s146.2.2)) = true then
 getO v0 s146.2.2 fun x265 =>
 ckI (x265 + (1 : Int)) <|
 ck ((x265 + (1 : Int)) ≠ 0) <|
 getO s146.2.1 s146.2.2 fun x270 =>
 ckI (x265 + (1 : Int)) <|
 ck ((x265 + (1 : Int)) ≠ 0) <|
 ckI (s146.1.tdiv (x265 + (1 : Int))) <|
 ckI (s146.2.2 - (1 : Int)) <|
 nx233 ((s146.1.tdiv (x265 + (1 : Int))), (s146.2.1.set (s146.2.2).toNat (s146.1.tmod (x265 + (1 : Int)))), (s146.2.2 - (1 : Int)))
 else
 some s146.2.1)) FUEL (v1, (List.replicate ((v0.length : Int)).toNat (0 : Int)), ((v0.length : Int) - (1 : Int)))

def sh_spec_cbAt (v0 : (List Int)) (v1 : (List Int)) : Option Int :=
 rangeF (fun (k50 : Nat) (x51 : Int) (s49 : Int) (nx78 : Int → Option Int) =>
 ckI (x51 + (1 : Int)) <|
 ckI (s49 * (x51 + (1 : Int))) <|
 getO v1 (k50 : Int) fun x89 =>
 ckI ((s49 * (x51 + (1 : Int))) + x89) <|
 nx78 ((s49 * (x51 + (1 : Int))) + x89))
 (fun (s49 : Int) =>
 some s49) v0 0 (0 : Int)

def sh_impl_cubeCells (v0 : (List Int)) : Option Int :=
 (if (decide ((4 : Int) < (v0.length : Int))) = true then
 some (0 : Int)
 else
 rangeF (fun (k68 : Nat) (x69 : Int) (s67 : Int) (nx104 : Int → Option Int) =>
 (if (decide (x69 < (1 : Int))) = true then
 some (0 : Int)
 else
 (if (decide ((30 : Int) < x69)) = true then
 some (0 : Int)
 else
 ckI (x69 + (1 : Int)) <|
 ckI (s67 * (x69 + (1 : Int))) <|
 nx104 (s67 * (x69 + (1 : Int))))))
 (fun (s67 : Int) =>
 (if (decide ((2000 : Int) < s67)) = true then
 some (0 : Int)
 else
 some s67)) v0 0 (1 : Int))

def sh_impl_strides (v0 : (List Int)) : Option (List Int) :=
 mkO (v0.length : Int) <|
 ckI ((v0.length : Int) - (1 : Int)) <|
 loopF (fun (nx153 : ((List Int) × Int × Int) → Option (List Int)) (s98 : ((List Int) × Int × Int)) =>
 (if (decide ((0 : Int) ≤ s98.2.2)) = true then
 getO s98.1 s98.2.2 fun x172 =>
 getO v0 s98.2.2 fun x175 =>
 ckI (x175 + (1 : Int)) <|
 ckI (s98.2.1 * (x175 + (1 : Int))) <|
 ckI (s98.2.2 - (1 : Int)) <|
 nx153 ((s98.1.set (s98.2.2).toNat s98.2.1), (s98.2.1 * (x175 + (1 : Int))), (s98.2.2 - (1 : Int)))
 else
 some s98.1)) FUEL ((List.replicate ((v0.length : Int)).toNat (0 : Int)), (1 : Int), ((v0.length : Int) - (1 : Int)))

def sh_impl_indexOf (v0 : (List Int)) (v1 : Int) : Option (List Int) :=
 mkO (v0.length : Int) <|
 (sh_impl_strides v0).bind fun x90 =>
 rangeF (fun (k94 : Nat) (x95 : Int) (s93 : (Int × (List Int))) (nx142 : (Int × (List Int)) → Option (List Int)) =>
 ck (x95 ≠ 0) <|
 ckI (s93.1.tdiv x95) <|
 getO s93.2 (k94 : Int) fun x163 =>
 ck (x95 ≠ 0) <|
 nx142 ((s93.1.tmod x95), (s93.2.set ((k94 : Int)).toNat (s93.1.tdiv x95))))
 (fun (s93 : (Int × (List Int))) =>
 some s93.2) x90 0 (v1, (List.replicate ((v0.length : Int)).toNat (0 : Int)))

def sh_impl_cellOf (v0 : (List Int)) (v1 : (List Int)) : Option Int :=
 (sh_impl_strides v0).bind fun x48 =>
 rangeF (fun (k52 : Nat) (x53 : Int) (s51 : Int) (nx76 : Int → Option Int) =>
 getO v1 (k52 : Int) fun x84 =>
 ckI (x84 * x53) <|
 ckI (s51 + (x84 * x53)) <|
 nx76 (s51 + (x84 * x53)))
 (fun (s51 : Int) =>
 some s51) x48 0 (0 : Int)
end AS
