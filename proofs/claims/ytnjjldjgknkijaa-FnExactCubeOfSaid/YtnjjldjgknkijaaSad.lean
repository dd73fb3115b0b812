/- Plain functions. No condition. -/
import Derived.Test.YtnjjldjgknkijaaKc
import Derived.Test.YtnjjldjgknkijaaSaa
import Derived.Test.YtnjjldjgknkijaaSab
import Derived.Test.YtnjjldjgknkijaaSac
set_option linter.unusedVariables false
set_option linter.unusedSimpArgs false
namespace AS
structure XCube where
  Sizes : (List Int)
  Cells : (List Int)
  deriving DecidableEq, Inhabited
def cXCube (c0 : Cd (List Int)) (c1 : Cd (List Int)) : Cd XCube := ⟨fun v => .agg [c0.enc v.Sizes, c1.enc v.Cells], c0.sz + (c1.sz + (0)), true, (c0.im && (c1.im && true)), fun v => by simp only [D.size, D.sizes, Cd.h_sz], fun _ => rfl, fun v => by simp only [D.imm, D.imms, Cd.h_im]⟩
theorem tXCube {c0 c0' : Cd (List Int)} {c1 c1' : Cd (List Int)} (tc0 : ToI c0 c0') (tc1 : ToI c1 c1') : ToI (cXCube c0 c1) (cXCube c0' c1') := ⟨fun v => by simp only [cXCube, D.toImm, D.toImms, tc0.h, tc1.h], by simp only [cXCube, tc0.im, tc1.im, Bool.and_true]⟩
theorem sXCube {c0 : Cd (List Int)} {c1 : Cd (List Int)} (tc0 : Sol c0) (tc1 : Sol c1) : Sol (cXCube c0 c1) := ⟨fun v => by simp only [cXCube, D.solid, D.solids, tc0.h, tc1.h, Bool.and_true]⟩
instance : Bd XCube := ⟨fun v => Bd.bd v.Sizes ∧ Bd.bd v.Cells⟩
def sh_laws_szIntS (v0 : (List Int)) (v1 : Int) : Option Int :=
 ckI (v1 - (v0.length : Int)) <|
 (if (decide ((v1 - (v0.length : Int)) < (0 : Int))) = true then
 some (-1 : Int)
 else
 some (v1 - (v0.length : Int)))

def sh_laws_szCube (v0 : XCube) (v1 : Int) : Option Int :=
 (sh_laws_szIntS v0.Sizes v1).bind fun x3 =>
 (if (decide (x3 < (0 : Int))) = true then
 some (-1 : Int)
 else
 (sh_laws_szIntS v0.Cells x3).bind fun x9 =>
 (if (decide (x9 < (0 : Int))) = true then
 some (-1 : Int)
 else
 some x9))

def sh_laws_toCube (v0 : XCube) : Option XCube :=
 (sh_laws_toIntS v0.Sizes).bind fun x3 =>
 (sh_laws_toIntS v0.Cells).bind fun x7 =>
 some (⟨x3, x7⟩ : XCube)

def sh_laws_eqCube (v0 : XCube) (v1 : XCube) : Option Bool :=
 (sh_laws_eqIntS v0.Sizes v1.Sizes).bind fun x8 =>
 (if (!x8) = true then
 some false
 else
 (sh_laws_eqIntS v0.Cells v1.Cells).bind fun x18 =>
 (if (!x18) = true then
 some false
 else
 some true))

def sh_laws_markCube (v0 : XCube) (v1 : Int) : Option (XCube × Int) :=
 (sh_laws_markIntS v0.Sizes v1).bind fun x3 =>
 (sh_laws_markIntS v0.Cells x3.2).bind fun x7 =>
 some ((⟨x3.1, x7.1⟩ : XCube), x7.2)

def sh_laws_heldCube (v0 : XCube) (v1 : Int) : Option Int :=
 (sh_laws_heldIntS v0.Sizes v1).bind fun x3 =>
 (if (decide (x3 < (0 : Int))) = true then
 some (-1 : Int)
 else
 (sh_laws_heldIntS v0.Cells x3).bind fun x9 =>
 (if (decide (x9 < (0 : Int))) = true then
 some (-1 : Int)
 else
 some x9))

def sh_spec_cbForm (v0 : XCube) : Option Bool :=
 (sh_spec_cbCount v0.Sizes).bind fun x3 =>
 (if (decide ((0 : Int) < x3)) = true then
 (if (decide ((v0.Cells.length : Int) = x3)) = true then
 (sh_spec_l1All v0.Cells (-1000000 : Int) (1000000 : Int)).bind fun x13 =>
 some x13
 else
 some false)
 else
 some false)

def sh_spec_cbBroken (v0 : XCube) (v1 : Int) : Option Bool :=
 (sh_spec_cbIndices v0.Sizes v1).bind fun x406 =>
 rangeF (fun (k410 : Nat) (x411 : Int) (s409 : Unit) (nx608 : Unit → Option Bool) =>
 getO v0.Sizes (k410 : Int) fun x718 =>
 (if (decide (x411 ≠ x718)) = true then
 nx608 ()
 else
 (sh_spec_cbParts v0.Sizes v1 (k410 : Int)).bind fun x763 =>
 rangeF (fun (k767 : Nat) (x768 : Int) (s766 : Int) (nx787 : Int → Option Bool) =>
 getO v0.Cells x768 fun x801 =>
 ckI (s766 + x801) <|
 nx787 (s766 + x801))
 (fun (s766 : Int) =>
 getO v0.Cells v1 fun x793 =>
 (if (decide (s766 ≠ x793)) = true then
 some true
 else
 nx608 ())) x763 0 (0 : Int)))
 (fun (s409 : Unit) =>
 some false) x406 0 ()

def sh_spec_cbFirst (v0 : XCube) : Option Int :=
 rangeF (fun (k34 : Nat) (x35 : Int) (s33 : Unit) (nx48 : Unit → Option Int) =>
 (sh_spec_cbBroken v0 (k34 : Int)).bind fun x60 =>
 (if x60 = true then
 some (k34 : Int)
 else
 nx48 ()))
 (fun (s33 : Unit) =>
 some (v0.Cells.length : Int)) v0.Cells 0 ()

def sh_spec_cbGood (v0 : XCube) : Option Bool :=
 (sh_spec_cbForm v0).bind fun x7 =>
 (if x7 = true then
 (sh_spec_cbFirst v0).bind fun x10 =>
 lmO v0.Cells.length <|
 some (decide (x10 = (v0.Cells.length : Int)))
 else
 some false)

def sh_impl_areCubeValues (v0 : (List Int)) : Option Bool :=
 rangeF (fun (k26 : Nat) (x27 : Int) (s25 : Unit) (nx36 : Unit → Option Bool) =>
 (if (decide (x27 < (-1000000 : Int))) = true then
 some false
 else
 (if (decide ((1000000 : Int) < x27)) = true then
 some false
 else
 nx36 ())))
 (fun (s25 : Unit) =>
 some true) v0 0 ()

def sh_impl_hasRightForm (v0 : XCube) : Option Bool :=
 (sh_impl_cubeCells v0.Sizes).bind fun x3 =>
 (if (decide ((0 : Int) < x3)) = true then
 (if (decide ((v0.Cells.length : Int) = x3)) = true then
 (sh_impl_areCubeValues v0.Cells).bind fun x13 =>
 some x13
 else
 some false)
 else
 some false)

def sh_impl_firstBreak (v0 : XCube) : Option Int :=
 (sh_impl_strides v0.Sizes).bind fun x3 =>
 rangeF (fun (k2586 : Nat) (x2587 : Int) (s2585 : Unit) (nx3874 : Unit → Option Int) =>
 (sh_impl_indexOf v0.Sizes (k2586 : Int)).bind fun x4524 =>
 rangeF (fun (k4528 : Nat) (x4529 : Int) (s4527 : Unit) (nx4846 : Unit → Option Int) =>
 getO v0.Sizes (k4528 : Int) fun x5016 =>
 (if (decide (x4529 ≠ x5016)) = true then
 nx4846 ()
 else
 loopF (fun (nx5138 : (Int × Int) → Option Int) (s5091 : (Int × Int)) =>
 (if (decide (s5091.2 ≤ x4529)) = true then
 getO x3 (k4528 : Int) fun x5152 =>
 ckI (s5091.2 * x5152) <|
 ckI ((k2586 : Int) - (s5091.2 * x5152)) <|
 getO v0.Cells ((k2586 : Int) - (s5091.2 * x5152)) fun x5157 =>
 ckI (s5091.1 + x5157) <|
 ckI (s5091.2 + (1 : Int)) <|
 nx5138 ((s5091.1 + x5157), (s5091.2 + (1 : Int)))
 else
 (if (decide (s5091.1 ≠ x2587)) = true then
 some (k2586 : Int)
 else
 nx4846 ()))) FUEL ((0 : Int), (1 : Int))))
 (fun (s4527 : Unit) =>
 nx3874 ()) x4524 0 ())
 (fun (s2585 : Unit) =>
 some (v0.Cells.length : Int)) v0.Cells 0 ()
end AS
