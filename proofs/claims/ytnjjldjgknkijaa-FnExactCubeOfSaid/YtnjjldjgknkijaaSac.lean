/- Plain functions. No condition. -/
import Derived.Test.YtnjjldjgknkijaaKc
import Derived.Test.YtnjjldjgknkijaaSaa
import Derived.Test.YtnjjldjgknkijaaSab
set_option linter.unusedVariables false
set_option linter.unusedSimpArgs false
namespace AS
def sh_spec_cbParts (v0 : (List Int)) (v1 : Int) (v2 : Int) : Option (List Int) :=
 (sh_spec_cbIndices v0 v1).bind fun x3 =>
 loopF (fun (nx183 : ((List Int) × (List Int) × Int) → Option (List Int)) (s112 : ((List Int) × (List Int) × Int)) =>
 getO v0 v2 fun x196 =>
 (if (decide (s112.2.2 < x196)) = true then
 getO s112.1 v2 fun x212 =>
 (sh_spec_cbAt v0 (s112.1.set (v2).toNat s112.2.2)).bind fun x215 =>
 lnO (s112.2.1.length + [x215].length) <|
 ckI (s112.2.2 + (1 : Int)) <|
 nx183 ((s112.1.set (v2).toNat s112.2.2), (s112.2.1 ++ [x215]), (s112.2.2 + (1 : Int)))
 else
 some s112.2.1)) FUEL (x3, ([] : List Int), (0 : Int))

def sh_spec_PartsOf (v0 : (List Int)) (v1 : Int) : Option ((List (List Int)) × Bool) :=
 (sh_spec_cbCount v0).bind fun x17 =>
 ckI (x17 - (1 : Int)) <|
 (sh_spec_l1In v1 (0 : Int) (x17 - (1 : Int))).bind fun x20 =>
 (if (!x20) = true then
 some (([] : List (List Int)), false)
 else
 (sh_spec_cbIndices v0 v1).bind fun x100 =>
 rangeF (fun (k104 : Nat) (x105 : Int) (s103 : (List (List Int))) (nx148 : (List (List Int)) → Option ((List (List Int)) × Bool)) =>
 getO v0 (k104 : Int) fun x164 =>
 (if (decide (x105 = x164)) = true then
 (sh_spec_cbParts v0 v1 (k104 : Int)).bind fun x168 =>
 lnO (s103.length + [x168].length) <|
 nx148 (s103 ++ [x168])
 else
 nx148 s103))
 (fun (s103 : (List (List Int))) =>
 some (s103, true)) x100 0 ([] : List (List Int)))

def sh_impl_PartsOf (v0 : (List Int)) (v1 : Int) : Option ((List (List Int)) × Bool) :=
 (if (decide (v1 < (0 : Int))) = true then
 some (([] : List (List Int)), false)
 else
 (sh_impl_cubeCells v0).bind fun x12 =>
 (if (decide (x12 ≤ v1)) = true then
 some (([] : List (List Int)), false)
 else
 (sh_impl_strides v0).bind fun x17 =>
 (sh_impl_indexOf v0 v1).bind fun x762 =>
 rangeF (fun (k766 : Nat) (x767 : Int) (s765 : (List (List Int))) (nx1254 : (List (List Int)) → Option ((List (List Int)) × Bool)) =>
 getO v0 (k766 : Int) fun x1388 =>
 (if (decide (x767 ≠ x1388)) = true then
 nx1254 s765
 else
 loopF (fun (nx1480 : ((List Int) × Int) → Option ((List (List Int)) × Bool)) (s1445 : ((List Int) × Int)) =>
 (if (decide ((0 : Int) < s1445.2)) = true then
 getO x17 (k766 : Int) fun x1491 =>
 ckI (s1445.2 * x1491) <|
 ckI (v1 - (s1445.2 * x1491)) <|
 lnO (s1445.1.length + [(v1 - (s1445.2 * x1491))].length) <|
 ckI (s1445.2 - (1 : Int)) <|
 nx1480 ((s1445.1 ++ [(v1 - (s1445.2 * x1491))]), (s1445.2 - (1 : Int)))
 else
 lnO (s765.length + [s1445.1].length) <|
 nx1254 (s765 ++ [s1445.1]))) FUEL (([] : List Int), x767)))
 (fun (s765 : (List (List Int))) =>
 some (s765, true)) x762 0 ([] : List (List Int))))

def sh_laws_FnExactPartsOf (v0 : (List Int)) (v1 : Int) : Option Bool :=
 (if (decide ((1048576 : Int) < (v0.length : Int))) = true then
 some true
 else
 (sh_laws_toIntS v0).bind fun x11 =>
 (sh_spec_PartsOf x11 v1).bind fun x13 =>
 (sh_laws_toIntS v0).bind fun x17 =>
 (sh_impl_PartsOf x17 v1).bind fun x21 =>
 (sh_laws_eqIntSS x21.1 x13.1).bind fun x33 =>
 (if (!x33) = true then
 some false
 else
 (if (x21.2 != x13.2) = true then
 some false
 else
 (sh_laws_toIntS v0).bind fun x50 =>
 (sh_laws_eqIntS x17 x50).bind fun x52 =>
 (if (!x52) = true then
 some false
 else
 (sh_laws_markIntS x17 (1 : Int)).bind fun x57 =>
 (if (decide (x57.2 < (0 : Int))) = true then
 some false
 else
 (sh_laws_eqIntSS x21.1 x13.1).bind fun x72 =>
 (if (!x72) = true then
 some false
 else
 (sh_laws_markIntSS x21.1 (1 : Int)).bind fun x77 =>
 (sh_laws_heldIntSS x77.1 (1 : Int)).bind fun x81 =>
 (if (decide (x81 < (0 : Int))) = true then
 some false
 else
 (if (decide (x81 ≠ x77.2)) = true then
 some false
 else
 (sh_laws_toIntS v0).bind fun x91 =>
 (sh_impl_PartsOf x91 v1).bind fun x93 =>
 (sh_laws_eqIntSS x93.1 x13.1).bind fun x105 =>
 (if (!x105) = true then
 some false
 else
 (if (x93.2 != x13.2) = true then
 some false
 else
 (sh_laws_heldIntSS x77.1 (1 : Int)).bind fun x111 =>
 (if (decide (x111 < (0 : Int))) = true then
 some false
 else
 (if (decide (x111 ≠ x77.2)) = true then
 some false
 else
 some true))))))))))))
end AS
