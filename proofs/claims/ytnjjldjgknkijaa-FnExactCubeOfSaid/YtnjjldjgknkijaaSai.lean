/- Plain functions. No condition. -/
import Derived.Test.YtnjjldjgknkijaaKc
import Derived.Test.YtnjjldjgknkijaaSaa
import Derived.Test.YtnjjldjgknkijaaSab
import Derived.Test.YtnjjldjgknkijaaSad
import Derived.Test.YtnjjldjgknkijaaSae
set_option linter.unusedVariables false
set_option linter.unusedSimpArgs false
namespace AS
def sh_spec_cbBase (v0 : (List Int)) : Option (List Int) :=
 loopF (fun (nx814 : ((List Int) × Int) → Option (List Int)) (s489 : ((List Int) × Int)) =>
 (sh_spec_cbCount v0).bind fun x824 =>
 (if (decide (s489.2 < x824)) = true then
 (sh_spec_cbIndices v0 s489.2).bind fun x940 =>
 rangeF (fun (k944 : Nat) (x945 : Int) (s943 : Bool) (nx962 : Bool → Option (List Int)) =>
 (if s943 = true then
 getO v0 (k944 : Int) fun x974 =>
 nx962 (decide (x945 < x974))
 else
 nx962 false))
 (fun (s943 : Bool) =>
 (if s943 = true then
 lnO (s489.1.length + [s489.2].length) <|
 ckI (s489.2 + (1 : Int)) <|
 nx814 ((s489.1 ++ [s489.2]), (s489.2 + (1 : Int)))
 else
 ckI (s489.2 + (1 : Int)) <|
 nx814 (s489.1, (s489.2 + (1 : Int))))) x940 0 true
 else
 some s489.1)) FUEL (([] : List Int), (0 : Int))

def sh_spec_cbValues (v0 : XCube) : Option (List Int) :=
 (sh_spec_cbBase v0.Sizes).bind fun x42 =>
 rangeF (fun (k46 : Nat) (x47 : Int) (s45 : (List Int)) (nx66 : (List Int) → Option (List Int)) =>
 getO v0.Cells x47 fun x73 =>
 lnO (s45.length + [x73].length) <|
 nx66 (s45 ++ [x73]))
 (fun (s45 : (List Int)) =>
 some s45) x42 0 ([] : List Int)

def sh_spec_BaseOf (v0 : XCube) : Option ((List Int) × Bool) :=
 (sh_spec_cbGood v0).bind fun x8 =>
 (if (!x8) = true then
 some (([] : List Int), false)
 else
 (sh_spec_cbValues v0).bind fun x13 =>
 some (x13, true))

def sh_impl_isBase (v0 : (List Int)) (v1 : (List Int)) : Option Bool :=
 rangeF (fun (k42 : Nat) (x43 : Int) (s41 : Unit) (nx60 : Unit → Option Bool) =>
 getO v0 (k42 : Int) fun x73 =>
 (if (decide (x43 = x73)) = true then
 some false
 else
 nx60 ()))
 (fun (s41 : Unit) =>
 some true) v1 0 ()

def sh_impl_baseOf (v0 : XCube) : Option (List Int) :=
 rangeF (fun (k74 : Nat) (x75 : Int) (s73 : (List Int)) (nx118 : (List Int) → Option (List Int)) =>
 (sh_impl_indexOf v0.Sizes (k74 : Int)).bind fun x135 =>
 (sh_impl_isBase v0.Sizes x135).bind fun x137 =>
 (if x137 = true then
 lnO (s73.length + [x75].length) <|
 nx118 (s73 ++ [x75])
 else
 nx118 s73))
 (fun (s73 : (List Int)) =>
 some s73) v0.Cells 0 ([] : List Int)

def sh_impl_BaseOf (v0 : XCube) : Option ((List Int) × Bool) :=
 (sh_impl_IsCube v0).bind fun x8 =>
 (if (!x8) = true then
 some (([] : List Int), false)
 else
 (sh_impl_baseOf v0).bind fun x13 =>
 some (x13, true))

def sh_laws_FnExactBaseOf (v0 : XCube) : Option Bool :=
 (sh_laws_szCube v0 (1048576 : Int)).bind fun x3 =>
 (if (decide (x3 < (0 : Int))) = true then
 some true
 else
 (sh_laws_toCube v0).bind fun x11 =>
 (sh_spec_BaseOf x11).bind fun x13 =>
 (sh_laws_toCube v0).bind fun x17 =>
 (sh_impl_BaseOf x17).bind fun x21 =>
 (sh_laws_eqIntS x21.1 x13.1).bind fun x33 =>
 (if (!x33) = true then
 some false
 else
 (if (x21.2 != x13.2) = true then
 some false
 else
 (sh_laws_toCube v0).bind fun x50 =>
 (sh_laws_eqCube x17 x50).bind fun x52 =>
 (if (!x52) = true then
 some false
 else
 (sh_laws_markCube x17 (1 : Int)).bind fun x57 =>
 (if (decide (x57.2 < (0 : Int))) = true then
 some false
 else
 (sh_laws_eqIntS x21.1 x13.1).bind fun x72 =>
 (if (!x72) = true then
 some false
 else
 (sh_laws_markIntS x21.1 (1 : Int)).bind fun x77 =>
 (sh_laws_heldIntS x77.1 (1 : Int)).bind fun x81 =>
 (if (decide (x81 < (0 : Int))) = true then
 some false
 else
 (if (decide (x81 ≠ x77.2)) = true then
 some false
 else
 (sh_laws_toCube v0).bind fun x91 =>
 (sh_impl_BaseOf x91).bind fun x93 =>
 (sh_laws_eqIntS x93.1 x13.1).bind fun x105 =>
 (if (!x105) = true then
 some false
 else
 (if (x93.2 != x13.2) = true then
 some false
 else
 (sh_laws_heldIntS x77.1 (1 : Int)).bind fun x111 =>
 (if (decide (x111 < (0 : Int))) = true then
 some false
 else
 (if (decide (x111 ≠ x77.2)) = true then
 some false
 else
 some true))))))))))))
end AS
