/- Plain functions. No condition. -/
import Derived.Test.YtjikhkfmddflhaaKc
set_option linter.unusedVariables false
set_option linter.unusedSimpArgs false
namespace AS
structure XCube where
  Sizes : (List Int)
  Cells : (List Int)
  deriving DecidableEq, Inhabited
def cXCube (c0 : Cd (List Int)) (c1 : Cd (List Int)) : Cd XCube := ⟨fun v => .agg [c0.enc v.Sizes, c1.enc v.Cells], c0.sz + (c1.sz + (0)), true, (c0.im && (c1.im && true)), fun v => by simp only [D.size, D.sizes, Cd.h_sz], fun _ => rfl, fun v => by simp only [D.imm, D.imms, Cd.h_im]⟩
theorem tXCube {c0 c0' : Cd (List Int)} {c1 c1' : Cd (List Int)} (tc0 : ToI c0 c0') (tc1 : ToI c1 c1') : ToI (cXCube c0 c1) (cXCube c0' c1') := ⟨fun v => by simp only [cXCube, D.toImm, D.toImms, tc0.h, tc1.h], by simp only [cXCube, tc0.im, tc1.im, Bool.and_true]⟩
theorem sXCube {c0 : Cd (List Int)} {c1 : Cd (List Int)} (tc0 : Sol c0) (tc1 : Sol c1) : Sol (cXCube c0 c1) := ⟨fun v => by simp only [cXCube, D.solid, D.solids, tc0.h, tc1.h, Bool.and_true]⟩
instance : Bd XCube := ⟨fun v => Bd.bd v.Sizes ∧ Bd.bd v.Cells⟩
structure XVariable where
  Name : (List UInt8)
  Levels : Int
  deriving DecidableEq, Inhabited
def cXVariable (c0 : Cd (List UInt8)) (c1 : Cd Int) : Cd XVariable := ⟨fun v => .agg [c0.enc v.Name, c1.enc v.Levels], c0.sz + (c1.sz + (0)), true, (c0.im && (c1.im && true)), fun v => by simp only [D.size, D.sizes, Cd.h_sz], fun _ => rfl, fun v => by simp only [D.imm, D.imms, Cd.h_im]⟩
theorem tXVariable {c0 c0' : Cd (List UInt8)} {c1 c1' : Cd Int} (tc0 : ToI c0 c0') (tc1 : ToI c1 c1') : ToI (cXVariable c0 c1) (cXVariable c0' c1') := ⟨fun v => by simp only [cXVariable, D.toImm, D.toImms, tc0.h, tc1.h], by simp only [cXVariable, tc0.im, tc1.im, Bool.and_true]⟩
theorem sXVariable {c0 : Cd (List UInt8)} {c1 : Cd Int} (tc0 : Sol c0) (tc1 : Sol c1) : Sol (cXVariable c0 c1) := ⟨fun v => by simp only [cXVariable, D.solid, D.solids, tc0.h, tc1.h, Bool.and_true]⟩
instance : Bd XVariable := ⟨fun v => Bd.bd v.Name ∧ Bd.bd v.Levels⟩
def sh_spec_l1In (v0 : Int) (v1 : Int) (v2 : Int) : Option Bool :=
 (if (decide (v1 ≤ v0)) = true then
 some (decide (v0 ≤ v2))
 else
 some false)

def sh_spec_l1All (v0 : (List Int)) (v1 : Int) (v2 : Int) : Option Bool :=
 rangeF (fun (k34 : Nat) (x35 : Int) (s33 : Unit) (nx48 : Unit → Option Bool) =>
 (sh_spec_l1In x35 v1 v2).bind fun x58 =>
 (if (!x58) = true then
 some false
 else
 nx48 ()))
 (fun (s33 : Unit) =>
 some true) v0 0 ()

def sh_spec_cbCount (v0 : (List Int)) : Option Int :=
 (if (decide ((4 : Int) < (v0.length : Int))) = true then
 some (0 : Int)
 else
 (sh_spec_l1All v0 (1 : Int) (30 : Int)).bind fun x16 =>
 (if (!x16) = true then
 some (0 : Int)
 else
 rangeF (fun (k44 : Nat) (x45 : Int) (s43 : Int) (nx56 : Int → Option Int) =>
 ckI (x45 + (1 : Int)) <|
 ckI (s43 * (x45 + (1 : Int))) <|
 nx56 (s43 * (x45 + (1 : Int))))
 (fun (s43 : Int) =>
 (if (decide ((2000 : Int) < s43)) = true then
 some (0 : Int)
 else
 some s43)) v0 0 (1 : Int)))

def sh_spec_cbIndices (v0 : (List Int)) (v1 : Int) : Option (List Int) :=
 mkO (v0.length : Int) <|
 ckI ((v0.length : Int) - (1 : Int)) <|
 loopF (fun (nx233 : (Int × (List Int) × Int) → Option (List Int)) (s146 : (Int × (List Int) × Int)) =>
 (if (decide ((0 : Int) ≤ s146.2.2)) = true then
 getO v0 s146.2.2 fun x265 =>
 ckI (x265 + (1 : Int)) <|
 ck ((x265 + (1 : Int)) ≠ 0) <|
 getO s146.2.1 s146.2.2 fun x270 =>
 ckI (x265 + (1 : Int)) <|
 ck ((x265 + (1 : Int)) ≠ 0) <|
 ckI (s146.1.tdiv (x265 + (1 : Int))) <|
 ckI (s146.2.2 - (1 : Int)) <|
 nx233 ((s146.1.tdiv (x265 + (1 : Int))), (s146.2.1.set (s146.2.2).toNat (s146.1.tmod (x265 + (1 : Int)))), (s146.2.2 - (1 : Int)))
 else
 some s146.2.1)) FUEL (v1, (List.replicate ((v0.length : Int)).toNat (0 : Int)), ((v0.length : Int) - (1 : Int)))

def sh_spec_cbAt (v0 : (List Int)) (v1 : (List Int)) : Option Int :=
 rangeF (fun (k50 : Nat) (x51 : Int) (s49 : Int) (nx78 : Int → Option Int) =>
 ckI (x51 + (1 : Int)) <|
 ckI (s49 * (x51 + (1 : Int))) <|
 getO v1 (k50 : Int) fun x89 =>
 ckI ((s49 * (x51 + (1 : Int))) + x89) <|
 nx78 ((s49 * (x51 + (1 : Int))) + x89))
 (fun (s49 : Int) =>
 some s49) v0 0 (0 : Int)

def sh_impl_cubeCells (v0 : (List Int)) : Option Int :=
 (if (decide ((4 : Int) < (v0.length : Int))) = true then
 some (0 : Int)
 else
 rangeF (fun (k68 : Nat) (x69 : Int) (s67 : Int) (nx104 : Int → Option Int) =>
 (if (decide (x69 < (1 : Int))) = true then
 some (0 : Int)
 else
 (if (decide ((30 : Int) < x69)) = true then
 some (0 : Int)
 else
 ckI (x69 + (1 : Int)) <|
 ckI (s67 * (x69 + (1 : Int))) <|
 nx104 (s67 * (x69 + (1 : Int))))))
 (fun (s67 : Int) =>
 (if (decide ((2000 : Int) < s67)) = true then
 some (0 : Int)
 else
 some s67)) v0 0 (1 : Int))

def sh_impl_strides (v0 : (List Int)) : Option (List Int) :=
 mkO (v0.length : Int) <|
 ckI ((v0.length : Int) - (1 : Int)) <|
 loopF (fun (nx153 : ((List Int) × Int × Int) → Option (List Int)) (s98 : ((List Int) × Int × Int)) =>
 (if (decide ((0 : Int) ≤ s98.2.2)) = true then
 getO s98.1 s98.2.2 fun x172 =>
 getO v0 s98.2.2 fun x175 =>
 ckI (x175 + (1 : Int)) <|
 ckI (s98.2.1 * (x175 + (1 : Int))) <|
 ckI (s98.2.2 - (1 : Int)) <|
 nx153 ((s98.1.set (s98.2.2).toNat s98.2.1), (s98.2.1 * (x175 + (1 : Int))), (s98.2.2 - (1 : Int)))
 else
 some s98.1)) FUEL ((List.replicate ((v0.length : Int)).toNat (0 : Int)), (1 : Int), ((v0.length : Int) - (1 : Int)))

def sh_impl_indexOf (v0 : (List Int)) (v1 : Int) : Option (List Int) :=
 mkO (v0.length : Int) <|
 (sh_impl_strides v0).bind fun x90 =>
 rangeF (fun (k94 : Nat) (x95 : Int) (s93 : (Int × (List Int))) (nx142 : (Int × (List Int)) → Option (List Int)) =>
 ck (x95 ≠ 0) <|
 ckI (s93.1.tdiv x95) <|
 getO s93.2 (k94 : Int) fun x163 =>
 ck (x95 ≠ 0) <|
 nx142 ((s93.1.tmod x95), (s93.2.set ((k94 : Int)).toNat (s93.1.tdiv x95))))
 (fun (s93 : (Int × (List Int))) =>
 some s93.2) x90 0 (v1, (List.replicate ((v0.length : Int)).toNat (0 : Int)))

def sh_impl_cellOf (v0 : (List Int)) (v1 : (List Int)) : Option Int :=
 (sh_impl_strides v0).bind fun x48 =>
 rangeF (fun (k52 : Nat) (x53 : Int) (s51 : Int) (nx76 : Int → Option Int) =>
 getO v1 (k52 : Int) fun x84 =>
 ckI (x84 * x53) <|
 ckI (s51 + (x84 * x53)) <|
 nx76 (s51 + (x84 * x53)))
 (fun (s51 : Int) =>
 some s51) x48 0 (0 : Int)
def sh_laws_szIntS (v0 : (List Int)) (v1 : Int) : Option Int :=
 ckI (v1 - (v0.length : Int)) <|
 (if (decide ((v1 - (v0.length : Int)) < (0 : Int))) = true then
 some (-1 : Int)
 else
 some (v1 - (v0.length : Int)))

def sh_laws_szCube (v0 : XCube) (v1 : Int) : Option Int :=
 (sh_laws_szIntS v0.Sizes v1).bind fun x3 =>
 (if (decide (x3 < (0 : Int))) = true then
 some (-1 : Int)
 else
 (sh_laws_szIntS v0.Cells x3).bind fun x9 =>
 (if (decide (x9 < (0 : Int))) = true then
 some (-1 : Int)
 else
 some x9))

def sh_laws_toIntS (v0 : (List Int)) : Option (List Int) :=
 mkO (v0.length : Int) <|
 loopF (fun (nx115 : ((List Int) × Int) → Option (List Int)) (s72 : ((List Int) × Int)) =>
 (if (decide (s72.2 < (v0.length : Int))) = true then
 getO v0 s72.2 fun x130 =>
 getO s72.1 s72.2 fun x133 =>
 ckI (s72.2 + (1 : Int)) <|
 nx115 ((s72.1.set (s72.2).toNat x130), (s72.2 + (1 : Int)))
 else
 some s72.1)) FUEL ((List.replicate ((v0.length : Int)).toNat (0 : Int)), (0 : Int))

def sh_laws_toCube (v0 : XCube) : Option XCube :=
 (sh_laws_toIntS v0.Sizes).bind fun x3 =>
 (sh_laws_toIntS v0.Cells).bind fun x7 =>
 some (⟨x3, x7⟩ : XCube)

def sh_laws_eqIntS (v0 : (List Int)) (v1 : (List Int)) : Option Bool :=
 (if (decide ((v0.length : Int) ≠ (v1.length : Int))) = true then
 some false
 else
 loopF (fun (nx189 : Int → Option Bool) (s118 : Int) =>
 (if (decide (s118 < (v0.length : Int))) = true then
 getO v0 s118 fun x217 =>
 getO v1 s118 fun x220 =>
 (if (decide (x217 ≠ x220)) = true then
 some false
 else
 ckI (s118 + (1 : Int)) <|
 nx189 (s118 + (1 : Int)))
 else
 some true)) FUEL (0 : Int))

def sh_laws_eqCube (v0 : XCube) (v1 : XCube) : Option Bool :=
 (sh_laws_eqIntS v0.Sizes v1.Sizes).bind fun x8 =>
 (if (!x8) = true then
 some false
 else
 (sh_laws_eqIntS v0.Cells v1.Cells).bind fun x18 =>
 (if (!x18) = true then
 some false
 else
 some true))

def sh_laws_markIntS (v0 : (List Int)) (v1 : Int) : Option ((List Int) × Int) :=
 loopF (fun (nx119 : ((List Int) × Int × Int) → Option ((List Int) × Int)) (s72 : ((List Int) × Int × Int)) =>
 (if (decide (s72.2.2 < (s72.1.length : Int))) = true then
 getO s72.1 s72.2.2 fun x138 =>
 ckI (s72.2.1 + (1 : Int)) <|
 ckI (s72.2.2 + (1 : Int)) <|
 nx119 ((s72.1.set (s72.2.2).toNat s72.2.1), (s72.2.1 + (1 : Int)), (s72.2.2 + (1 : Int)))
 else
 some (s72.1, s72.2.1))) FUEL (v0, v1, (0 : Int))

def sh_laws_markCube (v0 : XCube) (v1 : Int) : Option (XCube × Int) :=
 (sh_laws_markIntS v0.Sizes v1).bind fun x3 =>
 (sh_laws_markIntS v0.Cells x3.2).bind fun x7 =>
 some ((⟨x3.1, x7.1⟩ : XCube), x7.2)

def sh_laws_heldIntS (v0 : (List Int)) (v1 : Int) : Option Int :=
 loopF (fun (nx199 : (Int × Int) → Option Int) (s120 : (Int × Int)) =>
 (if (decide (s120.2 < (v0.length : Int))) = true then
 getO v0 s120.2 fun x233 =>
 (if (decide (x233 ≠ s120.1)) = true then
 some (-1 : Int)
 else
 ckI (s120.1 + (1 : Int)) <|
 ckI (s120.2 + (1 : Int)) <|
 nx199 ((s120.1 + (1 : Int)), (s120.2 + (1 : Int))))
 else
 some s120.1)) FUEL (v1, (0 : Int))

def sh_laws_heldCube (v0 : XCube) (v1 : Int) : Option Int :=
 (sh_laws_heldIntS v0.Sizes v1).bind fun x3 =>
 (if (decide (x3 < (0 : Int))) = true then
 some (-1 : Int)
 else
 (sh_laws_heldIntS v0.Cells x3).bind fun x9 =>
 (if (decide (x9 < (0 : Int))) = true then
 some (-1 : Int)
 else
 some x9))

def sh_spec_cbForm (v0 : XCube) : Option Bool :=
 (sh_spec_cbCount v0.Sizes).bind fun x3 =>
 (if (decide ((0 : Int) < x3)) = true then
 (if (decide ((v0.Cells.length : Int) = x3)) = true then
 (sh_spec_l1All v0.Cells (-1000000 : Int) (1000000 : Int)).bind fun x13 =>
 some x13
 else
 some false)
 else
 some false)

def sh_spec_cbParts (v0 : (List Int)) (v1 : Int) (v2 : Int) : Option (List Int) :=
 (sh_spec_cbIndices v0 v1).bind fun x3 =>
 loopF (fun (nx183 : ((List Int) × (List Int) × Int) → Option (List Int)) (s112 : ((List Int) × (List Int) × Int)) =>
 getO v0 v2 fun x196 =>
 (if (decide (s112.2.2 < x196)) = true then
 getO s112.1 v2 fun x212 =>
 (sh_spec_cbAt v0 (s112.1.set (v2).toNat s112.2.2)).bind fun x215 =>
 lnO (s112.2.1.length + [x215].length) <|
 ckI (s112.2.2 + (1 : Int)) <|
 nx183 ((s112.1.set (v2).toNat s112.2.2), (s112.2.1 ++ [x215]), (s112.2.2 + (1 : Int)))
 else
 some s112.2.1)) FUEL (x3, ([] : List Int), (0 : Int))

def sh_spec_cbBroken (v0 : XCube) (v1 : Int) : Option Bool :=
 (sh_spec_cbIndices v0.Sizes v1).bind fun x406 =>
 rangeF (fun (k410 : Nat) (x411 : Int) (s409 : Unit) (nx608 : Unit → Option Bool) =>
 getO v0.Sizes (k410 : Int) fun x718 =>
 (if (decide (x411 ≠ x718)) = true then
 nx608 ()
 else
 (sh_spec_cbParts v0.Sizes v1 (k410 : Int)).bind fun x763 =>
 rangeF (fun (k767 : Nat) (x768 : Int) (s766 : Int) (nx787 : Int → Option Bool) =>
 getO v0.Cells x768 fun x801 =>
 ckI (s766 + x801) <|
 nx787 (s766 + x801))
 (fun (s766 : Int) =>
 getO v0.Cells v1 fun x793 =>
 (if (decide (s766 ≠ x793)) = true then
 some true
 else
 nx608 ())) x763 0 (0 : Int)))
 (fun (s409 : Unit) =>
 some false) x406 0 ()

def sh_spec_cbFirst (v0 : XCube) : Option Int :=
 rangeF (fun (k34 : Nat) (x35 : Int) (s33 : Unit) (nx48 : Unit → Option Int) =>
 (sh_spec_cbBroken v0 (k34 : Int)).bind fun x60 =>
 (if x60 = true then
 some (k34 : Int)
 else
 nx48 ()))
 (fun (s33 : Unit) =>
 some (v0.Cells.length : Int)) v0.Cells 0 ()

def sh_spec_cbGood (v0 : XCube) : Option Bool :=
 (sh_spec_cbForm v0).bind fun x7 =>
 (if x7 = true then
 (sh_spec_cbFirst v0).bind fun x10 =>
 lmO v0.Cells.length <|
 some (decide (x10 = (v0.Cells.length : Int)))
 else
 some false)

def sh_impl_areCubeValues (v0 : (List Int)) : Option Bool :=
 rangeF (fun (k26 : Nat) (x27 : Int) (s25 : Unit) (nx36 : Unit → Option Bool) =>
 (if (decide (x27 < (-1000000 : Int))) = true then
 some false
 else
 (if (decide ((1000000 : Int) < x27)) = true then
 some false
 else
 nx36 ())))
 (fun (s25 : Unit) =>
 some true) v0 0 ()

def sh_impl_hasRightForm (v0 : XCube) : Option Bool :=
 (sh_impl_cubeCells v0.Sizes).bind fun x3 =>
 (if (decide ((0 : Int) < x3)) = true then
 (if (decide ((v0.Cells.length : Int) = x3)) = true then
 (sh_impl_areCubeValues v0.Cells).bind fun x13 =>
 some x13
 else
 some false)
 else
 some false)

def sh_impl_firstBreak (v0 : XCube) : Option Int :=
 (sh_impl_strides v0.Sizes).bind fun x3 =>
 rangeF (fun (k2586 : Nat) (x2587 : Int) (s2585 : Unit) (nx3874 : Unit → Option Int) =>
 (sh_impl_indexOf v0.Sizes (k2586 : Int)).bind fun x4524 =>
 rangeF (fun (k4528 : Nat) (x4529 : Int) (s4527 : Unit) (nx4846 : Unit → Option Int) =>
 getO v0.Sizes (k4528 : Int) fun x5016 =>
 (if (decide (x4529 ≠ x5016)) = true then
 nx4846 ()
 else
 loopF (fun (nx5138 : (Int × Int) → Option Int) (s5091 : (Int × Int)) =>
 (if (decide (s5091.2 ≤ x4529)) = true then
 getO x3 (k4528 : Int) fun x5152 =>
 ckI (s5091.2 * x5152) <|
 ckI ((k2586 : Int) - (s5091.2 * x5152)) <|
 getO v0.Cells ((k2586 : Int) - (s5091.2 * x5152)) fun x5157 =>
 ckI (s5091.1 + x5157) <|
 ckI (s5091.2 + (1 : Int)) <|
 nx5138 ((s5091.1 + x5157), (s5091.2 + (1 : Int)))
 else
 (if (decide (s5091.1 ≠ x2587)) = true then
 some (k2586 : Int)
 else
 nx4846 ()))) FUEL ((0 : Int), (1 : Int))))
 (fun (s4527 : Unit) =>
 nx3874 ()) x4524 0 ())
 (fun (s2585 : Unit) =>
 some (v0.Cells.length : Int)) v0.Cells 0 ()
def sh_spec_l1Put (v0 : (List Int)) (v1 : Int) : Option (List Int) :=
 ((loopF (fun (nx166 : Int → Option Int) (s115 : Int) =>
 (if (decide (s115 < (v0.length : Int))) = true then
 getO v0 s115 fun x187 =>
 (if (decide (x187 < v1)) = true then
 ckI (s115 + (1 : Int)) <|
 nx166 (s115 + (1 : Int))
 else
 some s115)
 else
 some s115)) FUEL (0 : Int) : Option Int).bind fun (s78 : Int) =>
 jn (fun (s91 : Unit) =>
 ck (0 ≤ s78 ∧ 0 ≤ (s78).toNat ∧ (s78).toNat ≤ v0.length) <|
 lnO (([] : List Int).length + ((v0.take (s78).toNat).drop 0).length) <|
 lnO ((([] : List Int) ++ ((v0.take (s78).toNat).drop 0)).length + [v1].length) <|
 ck (0 ≤ s78 ∧ (s78).toNat ≤ v0.length ∧ v0.length ≤ v0.length) <|
 lnO (((([] : List Int) ++ ((v0.take (s78).toNat).drop 0)) ++ [v1]).length + ((v0.take v0.length).drop (s78).toNat).length) <|
 some (((([] : List Int) ++ ((v0.take (s78).toNat).drop 0)) ++ [v1]) ++ ((v0.take v0.length).drop (s78).toNat))) fun af92 =>
 (if (decide (s78 < (v0.length : Int))) = true then
 getO v0 s78 fun x111 =>
 (if (decide (x111 = v1)) = true then
 some v0
 else
 af92 ())
 else
 af92 ()))

def sh_spec_cbGroups (v0 : (List Int)) : Option Int :=
 rangeF (fun (k26 : Nat) (x27 : Int) (s25 : (List Int)) (nx38 : (List Int) → Option Int) =>
 (sh_spec_l1Put s25 x27).bind fun x99 =>
 nx38 x99)
 (fun (s25 : (List Int)) =>
 (if (decide ((s25.length : Int) = (0 : Int))) = true then
 some (0 : Int)
 else
 getO s25 (0 : Int) fun x83 =>
 (if (decide (x83 ≠ (0 : Int))) = true then
 some (0 : Int)
 else
 ckI ((s25.length : Int) - (1 : Int)) <|
 getO s25 ((s25.length : Int) - (1 : Int)) fun x89 =>
 ckI ((s25.length : Int) - (1 : Int)) <|
 (if (decide (x89 ≠ ((s25.length : Int) - (1 : Int)))) = true then
 some (0 : Int)
 else
 some (s25.length : Int))))) v0 0 ([] : List Int)

def sh_spec_l1Own (v0 : (List Int)) : Option (List Int) :=
 lnO (([] : List Int).length + v0.length) <|
 some (([] : List Int) ++ v0)

def sh_spec_cbIf (v0 : XCube) : Option (XCube × Bool) :=
 (sh_spec_cbGood v0).bind fun x8 =>
 (if (!x8) = true then
 some ((⟨([] : List Int), ([] : List Int)⟩ : XCube), false)
 else
 some (v0, true))

def sh_spec_GroupCube (v0 : XCube) (v1 : Int) (v2 : (List Int)) : Option (XCube × Bool) :=
 (((sh_spec_cbGood v0).bind fun x698 =>
 (if (!x698) = true then
 some true
 else
 ckI ((v0.Sizes.length : Int) - (1 : Int)) <|
 (sh_spec_l1In v1 (0 : Int) ((v0.Sizes.length : Int) - (1 : Int))).bind fun x703 =>
 (if (!x703) = true then
 some true
 else
 getO v0.Sizes v1 fun x707 =>
 (if (decide ((v2.length : Int) ≠ x707)) = true then
 some true
 else
 (sh_spec_cbGroups v2).bind fun x711 =>
 some (decide (x711 = (0 : Int)))))) : Option Bool).bind fun (s49 : Bool) =>
 (if s49 = true then
 some ((⟨([] : List Int), ([] : List Int)⟩ : XCube), false)
 else
 (sh_spec_l1Own v0.Sizes).bind fun x54 =>
 (sh_spec_cbGroups v2).bind fun x61 =>
 getO x54 v1 fun x63 =>
 (sh_spec_cbCount (x54.set (v1).toNat x61)).bind fun x70 =>
 mkO x70 <|
 rangeF (fun (k387 : Nat) (x388 : Int) (s386 : XCube) (nx591 : XCube → Option (XCube × Bool)) =>
 (sh_spec_cbIndices v0.Sizes (k387 : Int)).bind fun x650 =>
 ((getO x650 v1 fun x685 =>
 getO v0.Sizes v1 fun x688 =>
 (if (decide (x685 = x688)) = true then
 getO s386.Sizes v1 fun x692 =>
 some (x650.set (v1).toNat x692)
 else
 getO v2 x685 fun x695 =>
 some (x650.set (v1).toNat x695)) : Option (List Int)).bind fun (s671 : (List Int)) =>
 (sh_spec_cbAt s386.Sizes s671).bind fun x673 =>
 getO s386.Cells x673 fun x675 =>
 ckI (x675 + x388) <|
 nx591 (⟨s386.Sizes, (s386.Cells.set (x673).toNat (x675 + x388))⟩ : XCube)))
 (fun (s386 : XCube) =>
 (sh_spec_cbIf s386).bind fun x596 =>
 some (x596.1, x596.2)) v0.Cells 0 (⟨(x54.set (v1).toNat x61), (List.replicate (x70).toNat (0 : Int))⟩ : XCube)))

def sh_impl_IsCube (v0 : XCube) : Option Bool :=
 (sh_impl_hasRightForm v0).bind fun x7 =>
 (if x7 = true then
 (sh_impl_firstBreak v0).bind fun x10 =>
 lmO v0.Cells.length <|
 some (decide (x10 = (v0.Cells.length : Int)))
 else
 some false)

def sh_slices_Index_int (v0 : (List Int)) (v1 : Int) : Option Int :=
 rangeF (fun (k18 : Nat) (x19 : Int) (s17 : Unit) (nx24 : Unit → Option Int) =>
 (if (decide (v1 = x19)) = true then
 some (k18 : Int)
 else
 nx24 ()))
 (fun (s17 : Unit) =>
 some (-1 : Int)) v0 0 ()

def sh_slices_Contains_int (v0 : (List Int)) (v1 : Int) : Option Bool :=
 (sh_slices_Index_int v0 v1).bind fun x3 =>
 some (decide ((0 : Int) ≤ x3))

def sh_impl_groupNumbers (v0 : (List Int)) : Option Int :=
 rangeF (fun (k80 : Nat) (x81 : Int) (s79 : Int) (nx128 : Int → Option Int) =>
 (if (decide (x81 < (0 : Int))) = true then
 some (0 : Int)
 else
 (if (decide ((v0.length : Int) ≤ x81)) = true then
 some (0 : Int)
 else
 ckI (x81 + (1 : Int)) <|
 nx128 (max s79 (x81 + (1 : Int))))))
 (fun (s79 : Int) =>
 loopF (fun (nx209 : Int → Option Int) (s178 : Int) =>
 (if (decide (s178 < s79)) = true then
 (sh_slices_Contains_int v0 s178).bind fun x221 =>
 (if (!x221) = true then
 some (0 : Int)
 else
 ckI (s178 + (1 : Int)) <|
 nx209 (s178 + (1 : Int)))
 else
 some s79)) FUEL (0 : Int)) v0 0 (0 : Int)

def sh_slices_Clone_int (v0 : (List Int)) : Option (List Int) :=
 nilO v0 false fun b11 =>
 (if b11 = true then
 some ([] : List Int)
 else
 lnO (([] : List Int).length + v0.length) <|
 some (([] : List Int) ++ v0))

def sh_impl_GroupCube (v0 : XCube) (v1 : Int) (v2 : (List Int)) : Option (XCube × Bool) :=
 (((sh_impl_IsCube v0).bind fun x698 =>
 (if (!x698) = true then
 some true
 else
 (if (decide (v1 < (0 : Int))) = true then
 some true
 else
 (if (decide ((v0.Sizes.length : Int) ≤ v1)) = true then
 some true
 else
 getO v0.Sizes v1 fun x705 =>
 (if (decide ((v2.length : Int) ≠ x705)) = true then
 some true
 else
 (sh_impl_groupNumbers v2).bind fun x709 =>
 some (decide (x709 = (0 : Int))))))) : Option Bool).bind fun (s43 : Bool) =>
 (if s43 = true then
 some ((⟨([] : List Int), ([] : List Int)⟩ : XCube), false)
 else
 (sh_slices_Clone_int v0.Sizes).bind fun x48 =>
 (sh_impl_groupNumbers v2).bind fun x55 =>
 getO x48 v1 fun x57 =>
 (sh_impl_cubeCells (x48.set (v1).toNat x55)).bind fun x64 =>
 mkO x64 <|
 rangeF (fun (k381 : Nat) (x382 : Int) (s380 : XCube) (nx585 : XCube → Option (XCube × Bool)) =>
 (sh_impl_indexOf v0.Sizes (k381 : Int)).bind fun x650 =>
 ((getO x650 v1 fun x685 =>
 getO v0.Sizes v1 fun x688 =>
 (if (decide (x685 = x688)) = true then
 getO s380.Sizes v1 fun x692 =>
 some (x650.set (v1).toNat x692)
 else
 getO v2 x685 fun x695 =>
 some (x650.set (v1).toNat x695)) : Option (List Int)).bind fun (s671 : (List Int)) =>
 (sh_impl_cellOf s380.Sizes s671).bind fun x673 =>
 getO s380.Cells x673 fun x675 =>
 ckI (x675 + x382) <|
 nx585 (⟨s380.Sizes, (s380.Cells.set (x673).toNat (x675 + x382))⟩ : XCube)))
 (fun (s380 : XCube) =>
 (sh_impl_areCubeValues s380.Cells).bind fun x595 =>
 (if (!x595) = true then
 some ((⟨([] : List Int), ([] : List Int)⟩ : XCube), false)
 else
 some (s380, true))) v0.Cells 0 (⟨(x48.set (v1).toNat x55), (List.replicate (x64).toNat (0 : Int))⟩ : XCube)))

def sh_laws_FnExactGroupCube (v0 : XCube) (v1 : Int) (v2 : (List Int)) : Option Bool :=
 (if (decide ((1048576 : Int) < (v2.length : Int))) = true then
 some true
 else
 (sh_laws_szCube v0 (1048576 : Int)).bind fun x9 =>
 (if (decide (x9 < (0 : Int))) = true then
 some true
 else
 (sh_laws_toCube v0).bind fun x19 =>
 (sh_laws_toIntS v2).bind fun x21 =>
 (sh_spec_GroupCube x19 v1 x21).bind fun x23 =>
 (sh_laws_toCube v0).bind fun x27 =>
 (sh_laws_toIntS v2).bind fun x31 =>
 (sh_impl_GroupCube x27 v1 x31).bind fun x35 =>
 (sh_laws_eqCube x35.1 x23.1).bind fun x47 =>
 (if (!x47) = true then
 some false
 else
 (if (x35.2 != x23.2) = true then
 some false
 else
 (sh_laws_toCube v0).bind fun x64 =>
 (sh_laws_eqCube x27 x64).bind fun x66 =>
 (if (!x66) = true then
 some false
 else
 (sh_laws_toIntS v2).bind fun x82 =>
 (sh_laws_eqIntS x31 x82).bind fun x84 =>
 (if (!x84) = true then
 some false
 else
 (sh_laws_markCube x27 (1 : Int)).bind fun x89 =>
 (sh_laws_markIntS x31 x89.2).bind fun x93 =>
 (if (decide (x93.2 < (0 : Int))) = true then
 some false
 else
 (sh_laws_eqCube x35.1 x23.1).bind fun x108 =>
 (if (!x108) = true then
 some false
 else
 (sh_laws_markCube x35.1 (1 : Int)).bind fun x113 =>
 (sh_laws_heldCube x113.1 (1 : Int)).bind fun x117 =>
 (if (decide (x117 < (0 : Int))) = true then
 some false
 else
 (if (decide (x117 ≠ x113.2)) = true then
 some false
 else
 (sh_laws_toCube v0).bind fun x129 =>
 (sh_laws_toIntS v2).bind fun x131 =>
 (sh_impl_GroupCube x129 v1 x131).bind fun x133 =>
 (sh_laws_eqCube x133.1 x23.1).bind fun x145 =>
 (if (!x145) = true then
 some false
 else
 (if (x133.2 != x23.2) = true then
 some false
 else
 (sh_laws_heldCube x113.1 (1 : Int)).bind fun x151 =>
 (if (decide (x151 < (0 : Int))) = true then
 some false
 else
 (if (decide (x151 ≠ x113.2)) = true then
 some false
 else
 some true))))))))))))))
end AS
