/- Plain functions. No condition. -/
import Derived.Test.YtahffpadaffmdaaKc
import Derived.Test.YtahffpadaffmdaaSda
import Derived.Test.YtahffpadaffmdaaSdb
import Derived.Test.YtahffpadaffmdaaSdc
set_option linter.unusedVariables false
set_option linter.unusedSimpArgs false
namespace AS
def sh_spec_sAt (v0 : (List XVariable)) (v1 : Int) : Option (List Int) :=
 mkO (v0.length : Int) <|
 ckI ((v0.length : Int) - (1 : Int)) <|
 loopF (fun (nx203 : (Int × (List Int) × Int) → Option (List Int)) (s128 : (Int × (List Int) × Int)) =>
 (if (decide ((0 : Int) ≤ s128.2.2)) = true then
 getO v0 s128.2.2 fun x231 =>
 ck (x231.Levels ≠ 0) <|
 getO s128.2.1 s128.2.2 fun x235 =>
 ck (x231.Levels ≠ 0) <|
 ckI (s128.1.tdiv x231.Levels) <|
 ckI (s128.2.2 - (1 : Int)) <|
 nx203 ((s128.1.tdiv x231.Levels), (s128.2.1.set (s128.2.2).toNat (s128.1.tmod x231.Levels)), (s128.2.2 - (1 : Int)))
 else
 some s128.2.1)) FUEL (v1, (List.replicate ((v0.length : Int)).toNat (0 : Int)), ((v0.length : Int) - (1 : Int)))

def sh_spec_CellAt (v0 : XGeo) (v1 : (List XVariable)) (v2 : XTable) (v3 : Int) : Option (Int × (List Int) × Bool) :=
 (sh_spec_uGood v0 v1 v2).bind fun x26 =>
 (if (!x26) = true then
 some ((0 : Int), ([] : List Int), false)
 else
 (sh_spec_uCount v0 v1 v2).bind fun x29 =>
 ckI (x29 - (1 : Int)) <|
 (sh_spec_l1In v3 (0 : Int) (x29 - (1 : Int))).bind fun x32 =>
 (if (!x32) = true then
 some ((0 : Int), ([] : List Int), false)
 else
 (sh_spec_sPart v1 v2.Vars).bind fun x37 =>
 (sh_spec_sCount x37).bind fun x41 =>
 (sh_spec_gLevel v0 v2.Level).bind fun x53 =>
 ck (x41 ≠ 0) <|
 ckI (v3.tdiv x41) <|
 getO x53 (v3.tdiv x41) fun x57 =>
 ck (x41 ≠ 0) <|
 (sh_spec_sAt x37 (v3.tmod x41)).bind fun x61 =>
 some (x57, x61, true)))

def sh_impl_valuesAt (v0 : (List XVariable)) (v1 : Int) : Option (List Int) :=
 mkO (v0.length : Int) <|
 ckI ((v0.length : Int) - (1 : Int)) <|
 loopF (fun (nx203 : (Int × (List Int) × Int) → Option (List Int)) (s128 : (Int × (List Int) × Int)) =>
 (if (decide ((0 : Int) ≤ s128.2.2)) = true then
 getO v0 s128.2.2 fun x231 =>
 ck (x231.Levels ≠ 0) <|
 getO s128.2.1 s128.2.2 fun x235 =>
 ck (x231.Levels ≠ 0) <|
 ckI (s128.1.tdiv x231.Levels) <|
 ckI (s128.2.2 - (1 : Int)) <|
 nx203 ((s128.1.tdiv x231.Levels), (s128.2.1.set (s128.2.2).toNat (s128.1.tmod x231.Levels)), (s128.2.2 - (1 : Int)))
 else
 some s128.2.1)) FUEL (v1, (List.replicate ((v0.length : Int)).toNat (0 : Int)), ((v0.length : Int) - (1 : Int)))

def sh_impl_cellAt (v0 : XGeo) (v1 : (List XVariable)) (v2 : XTable) (v3 : Int) : Option (Int × (List Int)) :=
 (sh_impl_crossed v1 v2).bind fun x3 =>
 (sh_impl_combinations x3).bind fun x7 =>
 (sh_impl_areasAt v0 v2.Level).bind fun x19 =>
 ck (x7 ≠ 0) <|
 ckI (v3.tdiv x7) <|
 getO x19 (v3.tdiv x7) fun x23 =>
 ck (x7 ≠ 0) <|
 (sh_impl_valuesAt x3 (v3.tmod x7)).bind fun x27 =>
 some (x23, x27)

def sh_impl_CellAt (v0 : XGeo) (v1 : (List XVariable)) (v2 : XTable) (v3 : Int) : Option (Int × (List Int) × Bool) :=
 (sh_impl_areTabled v0 v1 v2).bind fun x20 =>
 (if (!x20) = true then
 some ((0 : Int), ([] : List Int), false)
 else
 (if (decide (v3 < (0 : Int))) = true then
 some ((0 : Int), ([] : List Int), false)
 else
 (sh_impl_cellCount v0 v1 v2).bind fun x24 =>
 (if (decide (x24 ≤ v3)) = true then
 some ((0 : Int), ([] : List Int), false)
 else
 (sh_impl_cellAt v0 v1 v2 v3).bind fun x29 =>
 some (x29.1, x29.2, true))))

def sh_laws_markIntS (v0 : (List Int)) (v1 : Int) : Option ((List Int) × Int) :=
 loopF (fun (nx119 : ((List Int) × Int × Int) → Option ((List Int) × Int)) (s72 : ((List Int) × Int × Int)) =>
 (if (decide (s72.2.2 < (s72.1.length : Int))) = true then
 getO s72.1 s72.2.2 fun x138 =>
 ckI (s72.2.1 + (1 : Int)) <|
 ckI (s72.2.2 + (1 : Int)) <|
 nx119 ((s72.1.set (s72.2.2).toNat s72.2.1), (s72.2.1 + (1 : Int)), (s72.2.2 + (1 : Int)))
 else
 some (s72.1, s72.2.1))) FUEL (v0, v1, (0 : Int))

def sh_laws_markGeo (v0 : XGeo) (v1 : Int) : Option (XGeo × Int) :=
 (sh_laws_markIntS v0.Parents v1).bind fun x3 =>
 some ((⟨x3.1⟩ : XGeo), x3.2)

def sh_laws_markText (v0 : Int) : Option (List UInt8) :=
 (if (decide (v0 ≤ (0 : Int))) = true then
 some ([109, 48] : List UInt8)
 else
 loopF (fun (nx96 : (Int × (List UInt8)) → Option (List UInt8)) (s59 : (Int × (List UInt8))) =>
 (if (decide ((0 : Int) < s59.1)) = true then
 ck ((10 : Int) ≠ 0) <|
 ckI ((48 : Int) + (s59.1.tmod (10 : Int))) <|
 ckU ((48 : Int) + (s59.1.tmod (10 : Int))) <|
 ck ([((48 : Int) + (s59.1.tmod (10 : Int)))] = (bytesOf [((48 : Int) + (s59.1.tmod (10 : Int)))]).map fun b => ((b.toNat : Nat) : Int)) <|
 lnO ((bytesOf [((48 : Int) + (s59.1.tmod (10 : Int)))]).length + s59.2.length) <|
 ck ((10 : Int) ≠ 0) <|
 ckI (s59.1.tdiv (10 : Int)) <|
 nx96 ((s59.1.tdiv (10 : Int)), ((bytesOf [((48 : Int) + (s59.1.tmod (10 : Int)))]) ++ s59.2))
 else
 lnO (([109] : List UInt8).length + s59.2.length) <|
 some (([109] : List UInt8) ++ s59.2))) FUEL (v0, ([] : List UInt8)))

def sh_laws_markVariableS (v0 : (List XVariable)) (v1 : Int) : Option ((List XVariable) × Int) :=
 loopF (fun (nx239 : ((List XVariable) × Int × Int) → Option ((List XVariable) × Int)) (s144 : ((List XVariable) × Int × Int)) =>
 (if (decide (s144.2.2 < (s144.1.length : Int))) = true then
 (sh_laws_markText s144.2.1).bind fun x272 =>
 getO s144.1 s144.2.2 fun x274 =>
 ckI (s144.2.1 + (1 : Int)) <|
 getO (s144.1.set (s144.2.2).toNat (⟨x272, x274.Levels⟩ : XVariable)) s144.2.2 fun x282 =>
 ckI ((s144.2.1 + (1 : Int)) + (1 : Int)) <|
 ckI (s144.2.2 + (1 : Int)) <|
 nx239 (((s144.1.set (s144.2.2).toNat (⟨x272, x274.Levels⟩ : XVariable)).set (s144.2.2).toNat (⟨x282.Name, (s144.2.1 + (1 : Int))⟩ : XVariable)), ((s144.2.1 + (1 : Int)) + (1 : Int)), (s144.2.2 + (1 : Int)))
 else
 some (s144.1, s144.2.1))) FUEL (v0, v1, (0 : Int))

def sh_laws_markTable (v0 : XTable) (v1 : Int) : Option (XTable × Int) :=
 (sh_laws_markIntS v0.Vars v1).bind fun x3 =>
 (sh_laws_markIntS v0.Where x3.2).bind fun x7 =>
 some ((⟨v0.Level, x3.1, x7.1, v0.Sum⟩ : XTable), x7.2)

def sh_laws_heldIntS (v0 : (List Int)) (v1 : Int) : Option Int :=
 loopF (fun (nx199 : (Int × Int) → Option Int) (s120 : (Int × Int)) =>
 (if (decide (s120.2 < (v0.length : Int))) = true then
 getO v0 s120.2 fun x233 =>
 (if (decide (x233 ≠ s120.1)) = true then
 some (-1 : Int)
 else
 ckI (s120.1 + (1 : Int)) <|
 ckI (s120.2 + (1 : Int)) <|
 nx199 ((s120.1 + (1 : Int)), (s120.2 + (1 : Int))))
 else
 some s120.1)) FUEL (v1, (0 : Int))

def sh_laws_FnExactCellAt (v0 : XGeo) (v1 : (List XVariable)) (v2 : XTable) (v3 : Int) : Option Bool :=
 (sh_laws_szGeo v0 (1048576 : Int)).bind fun x3 =>
 (if (decide (x3 < (0 : Int))) = true then
 some true
 else
 (sh_laws_szVariableS v1 x3).bind fun x9 =>
 (if (decide (x9 < (0 : Int))) = true then
 some true
 else
 (sh_laws_szTable v2 x9).bind fun x15 =>
 (if (decide (x15 < (0 : Int))) = true then
 some true
 else
 (sh_laws_toGeo v0).bind fun x27 =>
 (sh_laws_toVariableS v1).bind fun x29 =>
 (sh_laws_toTable v2).bind fun x31 =>
 (sh_spec_CellAt x27 x29 x31 v3).bind fun x33 =>
 (sh_laws_toGeo v0).bind fun x37 =>
 (sh_laws_toVariableS v1).bind fun x41 =>
 (sh_laws_toTable v2).bind fun x45 =>
 (sh_impl_CellAt x37 x41 x45 v3).bind fun x49 =>
 (if (decide (x49.1 ≠ x33.1)) = true then
 some false
 else
 (sh_laws_eqIntS x49.2.1 x33.2.1).bind fun x65 =>
 (if (!x65) = true then
 some false
 else
 (if (x49.2.2 != x33.2.2) = true then
 some false
 else
 (sh_laws_toGeo v0).bind fun x82 =>
 (sh_laws_eqGeo x37 x82).bind fun x84 =>
 (if (!x84) = true then
 some false
 else
 (sh_laws_toVariableS v1).bind fun x100 =>
 (sh_laws_eqVariableS x41 x100).bind fun x102 =>
 (if (!x102) = true then
 some false
 else
 (sh_laws_toTable v2).bind fun x118 =>
 (sh_laws_eqTable x45 x118).bind fun x120 =>
 (if (!x120) = true then
 some false
 else
 (sh_laws_markGeo x37 (1 : Int)).bind fun x125 =>
 (sh_laws_markVariableS x41 x125.2).bind fun x129 =>
 (sh_laws_markTable x45 x129.2).bind fun x133 =>
 (if (decide (x133.2 < (0 : Int))) = true then
 some false
 else
 (sh_laws_eqIntS x49.2.1 x33.2.1).bind fun x148 =>
 (if (!x148) = true then
 some false
 else
 (sh_laws_markIntS x49.2.1 (1 : Int)).bind fun x153 =>
 (sh_laws_heldIntS x153.1 (1 : Int)).bind fun x157 =>
 (if (decide (x157 < (0 : Int))) = true then
 some false
 else
 (if (decide (x157 ≠ x153.2)) = true then
 some false
 else
 (sh_laws_toGeo v0).bind fun x171 =>
 (sh_laws_toVariableS v1).bind fun x173 =>
 (sh_laws_toTable v2).bind fun x175 =>
 (sh_impl_CellAt x171 x173 x175 v3).bind fun x177 =>
 (if (decide (x177.1 ≠ x33.1)) = true then
 some false
 else
 (sh_laws_eqIntS x177.2.1 x33.2.1).bind fun x193 =>
 (if (!x193) = true then
 some false
 else
 (if (x177.2.2 != x33.2.2) = true then
 some false
 else
 (sh_laws_heldIntS x153.1 (1 : Int)).bind fun x199 =>
 (if (decide (x199 < (0 : Int))) = true then
 some false
 else
 (if (decide (x199 ≠ x153.2)) = true then
 some false
 else
 some true))))))))))))))))))
end AS
