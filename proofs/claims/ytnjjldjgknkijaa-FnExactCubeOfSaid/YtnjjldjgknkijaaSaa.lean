/- Plain functions. No condition. -/
import Derived.Test.YtnjjldjgknkijaaKc
set_option linter.unusedVariables false
set_option linter.unusedSimpArgs false
namespace AS
def sh_laws_toIntS (v0 : (List Int)) : Option (List Int) :=
 mkO (v0.length : Int) <|
 loopF (fun (nx115 : ((List Int) × Int) → Option (List Int)) (s72 : ((List Int) × Int)) =>
 (if (decide (s72.2 < (v0.length : Int))) = true then
 getO v0 s72.2 fun x130 =>
 getO s72.1 s72.2 fun x133 =>
 ckI (s72.2 + (1 : Int)) <|
 nx115 ((s72.1.set (s72.2).toNat x130), (s72.2 + (1 : Int)))
 else
 some s72.1)) FUEL ((List.replicate ((v0.length : Int)).toNat (0 : Int)), (0 : Int))

def sh_spec_l1In (v0 : Int) (v1 : Int) (v2 : Int) : Option Bool :=
 (if (decide (v1 ≤ v0)) = true then
 some (decide (v0 ≤ v2))
 else
 some false)

def sh_spec_l1All (v0 : (List Int)) (v1 : Int) (v2 : Int) : Option Bool :=
 rangeF (fun (k34 : Nat) (x35 : Int) (s33 : Unit) (nx48 : Unit → Option Bool) =>
 (sh_spec_l1In x35 v1 v2).bind fun x58 =>
 (if (!x58) = true then
 some false
 else
 nx48 ()))
 (fun (s33 : Unit) =>
 some true) v0 0 ()

def sh_spec_l1Own (v0 : (List Int)) : Option (List Int) :=
 lnO (([] : List Int).length + v0.length) <|
 some (([] : List Int) ++ v0)

def sh_spec_AddCells (v0 : (List Int)) (v1 : (List Int)) : Option ((List Int) × Bool) :=
 (((if (decide ((v0.length : Int) ≠ (v1.length : Int))) = true then
 some true
 else
 (if (decide ((600 : Int) < (v0.length : Int))) = true then
 some true
 else
 (sh_spec_l1All v0 (-1000000 : Int) (1000000 : Int)).bind fun x114 =>
 (if (!x114) = true then
 some true
 else
 (sh_spec_l1All v1 (-1000000 : Int) (1000000 : Int)).bind fun x117 =>
 some (!x117)))) : Option Bool).bind fun (s34 : Bool) =>
 (if s34 = true then
 some (([] : List Int), false)
 else
 (sh_spec_l1Own v0).bind fun x39 =>
 rangeF (fun (k78 : Nat) (x79 : Int) (s77 : (List Int)) (nx98 : (List Int) → Option ((List Int) × Bool)) =>
 getO s77 (k78 : Int) fun x105 =>
 ckI (x105 + x79) <|
 nx98 (s77.set ((k78 : Int)).toNat (x105 + x79)))
 (fun (s77 : (List Int)) =>
 some (s77, true)) v1 0 x39))

def sh_impl_areSmallIntegers (v0 : (List Int)) (v1 : Int) : Option Bool :=
 (if (decide ((v0.length : Int) ≠ v1)) = true then
 some false
 else
 rangeF (fun (k32 : Nat) (x33 : Int) (s31 : Unit) (nx42 : Unit → Option Bool) =>
 (if (decide (x33 < (-1000000 : Int))) = true then
 some false
 else
 (if (decide ((1000000 : Int) < x33)) = true then
 some false
 else
 nx42 ())))
 (fun (s31 : Unit) =>
 some true) v0 0 ())

def sh_slices_Clone_int (v0 : (List Int)) : Option (List Int) :=
 nilO v0 false fun b11 =>
 (if b11 = true then
 some ([] : List Int)
 else
 lnO (([] : List Int).length + v0.length) <|
 some (([] : List Int) ++ v0))

def sh_impl_AddCells (v0 : (List Int)) (v1 : (List Int)) : Option ((List Int) × Bool) :=
 (if (decide ((600 : Int) < (v0.length : Int))) = true then
 some (([] : List Int), false)
 else
 (sh_impl_areSmallIntegers v0 (v0.length : Int)).bind fun x32 =>
 (if (!x32) = true then
 some (([] : List Int), false)
 else
 (sh_impl_areSmallIntegers v1 (v0.length : Int)).bind fun x36 =>
 (if (!x36) = true then
 some (([] : List Int), false)
 else
 (sh_slices_Clone_int v0).bind fun x41 =>
 rangeF (fun (k80 : Nat) (x81 : Int) (s79 : (List Int)) (nx100 : (List Int) → Option ((List Int) × Bool)) =>
 getO s79 (k80 : Int) fun x107 =>
 ckI (x107 + x81) <|
 nx100 (s79.set ((k80 : Int)).toNat (x107 + x81)))
 (fun (s79 : (List Int)) =>
 some (s79, true)) v1 0 x41)))

def sh_laws_eqIntS (v0 : (List Int)) (v1 : (List Int)) : Option Bool :=
 (if (decide ((v0.length : Int) ≠ (v1.length : Int))) = true then
 some false
 else
 loopF (fun (nx189 : Int → Option Bool) (s118 : Int) =>
 (if (decide (s118 < (v0.length : Int))) = true then
 getO v0 s118 fun x217 =>
 getO v1 s118 fun x220 =>
 (if (decide (x217 ≠ x220)) = true then
 some false
 else
 ckI (s118 + (1 : Int)) <|
 nx189 (s118 + (1 : Int)))
 else
 some true)) FUEL (0 : Int))

def sh_laws_markIntS (v0 : (List Int)) (v1 : Int) : Option ((List Int) × Int) :=
 loopF (fun (nx119 : ((List Int) × Int × Int) → Option ((List Int) × Int)) (s72 : ((List Int) × Int × Int)) =>
 (if (decide (s72.2.2 < (s72.1.length : Int))) = true then
 getO s72.1 s72.2.2 fun x138 =>
 ckI (s72.2.1 + (1 : Int)) <|
 ckI (s72.2.2 + (1 : Int)) <|
 nx119 ((s72.1.set (s72.2.2).toNat s72.2.1), (s72.2.1 + (1 : Int)), (s72.2.2 + (1 : Int)))
 else
 some (s72.1, s72.2.1))) FUEL (v0, v1, (0 : Int))

def sh_laws_heldIntS (v0 : (List Int)) (v1 : Int) : Option Int :=
 loopF (fun (nx199 : (Int × Int) → Option Int) (s120 : (Int × Int)) =>
 (if (decide (s120.2 < (v0.length : Int))) = true then
 getO v0 s120.2 fun x233 =>
 (if (decide (x233 ≠ s120.1)) = true then
 some (-1 : Int)
 else
 ckI (s120.1 + (1 : Int)) <|
 ckI (s120.2 + (1 : Int)) <|
 nx199 ((s120.1 + (1 : Int)), (s120.2 + (1 : Int))))
 else
 some s120.1)) FUEL (v1, (0 : Int))

def sh_laws_FnExactAddCells (v0 : (List Int)) (v1 : (List Int)) : Option Bool :=
 (if (decide ((1048576 : Int) < (v0.length : Int))) = true then
 some true
 else
 (if (decide ((1048576 : Int) < (v1.length : Int))) = true then
 some true
 else
 (sh_laws_toIntS v0).bind fun x19 =>
 (sh_laws_toIntS v1).bind fun x21 =>
 (sh_spec_AddCells x19 x21).bind fun x23 =>
 (sh_laws_toIntS v0).bind fun x27 =>
 (sh_laws_toIntS v1).bind fun x31 =>
 (sh_impl_AddCells x27 x31).bind fun x35 =>
 (sh_laws_eqIntS x35.1 x23.1).bind fun x47 =>
 (if (!x47) = true then
 some false
 else
 (if (x35.2 != x23.2) = true then
 some false
 else
 (sh_laws_toIntS v0).bind fun x64 =>
 (sh_laws_eqIntS x27 x64).bind fun x66 =>
 (if (!x66) = true then
 some false
 else
 (sh_laws_toIntS v1).bind fun x82 =>
 (sh_laws_eqIntS x31 x82).bind fun x84 =>
 (if (!x84) = true then
 some false
 else
 (sh_laws_markIntS x27 (1 : Int)).bind fun x89 =>
 (sh_laws_markIntS x31 x89.2).bind fun x93 =>
 (if (decide (x93.2 < (0 : Int))) = true then
 some false
 else
 (sh_laws_eqIntS x35.1 x23.1).bind fun x108 =>
 (if (!x108) = true then
 some false
 else
 (sh_laws_markIntS x35.1 (1 : Int)).bind fun x113 =>
 (sh_laws_heldIntS x113.1 (1 : Int)).bind fun x117 =>
 (if (decide (x117 < (0 : Int))) = true then
 some false
 else
 (if (decide (x117 ≠ x113.2)) = true then
 some false
 else
 (sh_laws_toIntS v0).bind fun x129 =>
 (sh_laws_toIntS v1).bind fun x131 =>
 (sh_impl_AddCells x129 x131).bind fun x133 =>
 (sh_laws_eqIntS x133.1 x23.1).bind fun x145 =>
 (if (!x145) = true then
 some false
 else
 (if (x133.2 != x23.2) = true then
 some false
 else
 (sh_laws_heldIntS x113.1 (1 : Int)).bind fun x151 =>
 (if (decide (x151 < (0 : Int))) = true then
 some false
 else
 (if (decide (x151 ≠ x113.2)) = true then
 some false
 else
 some true))))))))))))))
end AS
