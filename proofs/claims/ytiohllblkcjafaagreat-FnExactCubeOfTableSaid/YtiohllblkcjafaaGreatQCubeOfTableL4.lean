/- The program computes the plain functions. No condition. -/
import Derived.Test.YtiohllblkcjafaaGreatQCubeOfTableS
import Derived.Test.YtiohllblkcjafaaGreatProg
import Derived.Test.YtiohllblkcjafaaGreatQCubeOfTableL3
set_option maxRecDepth 100000
set_option linter.unusedVariables false
set_option linter.unusedSimpArgs false
namespace AS.W
open Go Go.Proofs
def rs_impl_cellIndex (r : Int) : List D := [cI.enc r]
def m106 : MC := .seq (.reg [q1 5 (.box (.t 0)),q1 7 (.box (.t 2)),q1 10 (.asg (.c (.int .i64 0)))] [1, 3, 4, 5, 7])
 (.seq (.reg [q1 15 (.ld 5 1 true),q1 16 (.fa 7 0 0),q1 17 (.ld 16 1 false),q1 18 (.call 40 [(.t 15), (.t 17)]),q1 19 (.mv (.t 3)),q1 20 (.call 112 [(.t 18), (.t 19)]),q1 14 (.mvt 20),q1 21 (.ext 14 0),q1 22 (.ext 14 1),q1 11 (.asg (.t 21)),q1 12 (.asg (.t 22))] [1, 4, 7, 11, 12])
 (.seq (.kp [1, 4, 7, 11] (.seq (.reg [q1 23 (.mv (.t 12)),q1 24 (.nt (.t 23))] [1, 4, 7, 11, 24])
 (.cond (.t 24) (.seq (.reg [q1 10 (.asg (.c (.int .i64 (-1))))] [10])
 (.ret)) (.skip))))
 (.seq (.reg [q1 25 (.mv (.t 1)),q1 26 (.ld 7 4 true),q1 27 (.call 41 [(.t 25), (.t 26)]),q1 13 (.asg (.t 27))] [4, 11, 13])
 (.seq (.reg [q1 28 (.mv (.t 11)),q1 29 (.mv (.t 13)),q1 30 (.call 103 [(.t 29)]),q1 31 (.bin .mul (.t 28) (.t 30)),q1 32 (.mv (.t 13)),q1 33 (.mv (.t 4)),q1 34 (.call 113 [(.t 32), (.t 33)]),q1 35 (.bin .add (.t 31) (.t 34)),q1 10 (.asg (.t 35))] [10])
 (.ret)))))
theorem con_impl_cellIndex {v0 : XGeo} {v1 : (List XVariable)} {v2 : XTable} {v3 : Int} {v4 : (List Int)} {r : Int} (h : sh_impl_cellIndex v0 v1 v2 v3 v4 = some r) : Con Tryz.prog 106 [cc10.enc v0, cc6.enc v1, cc0.enc v2, cI.enc v3, cc13.enc v4] [] (rs_impl_cellIndex r) := by
 delta sh_impl_cellIndex at h
 refine top (out := none) (f := Tryz.f106) (m := m106) (rs := [.t 10]) (by kernel_rfl) rfl (by kernel_rfl) (by kernel_rfl) (by kernel_rfl) (by kernel_rfl) (by kernel_rfl) ?_
 exact
  ini [q2 0 cc10 v0, q2 1 cc6 v1, q2 2 cc0 v2, q2 3 cI v3, q2 4 cc13 v4] rfl <| wpC_seq <| reg_s <| x_box (ss rfl rfl) <| x_box (ss rfl rfl) <| x_asg (sc cI (0 : Int) rfl) <| sq [q2 1 cc6 v1, q2 3 cI v3, q2 4 cc13 v4, q3 5 cc10 v0, q3 7 cc0 v2] <|
  xn <| wpC_seq <| reg_s <| st rfl <| ldb rfl rfl rfl rfl <| st rfl <| fab rfl rfl rfl rfl <| st rfl <| lda rfl rfl rfl rfl rfl rfl <| bnd h fun x5 e6 h => st rfl <| o_call (a1 (c := cc10) (tXGeo (tLs tK)) rfl (a1 (c := cI) tK rfl a0)) (con_impl_areasAt e6) (.inl (so1 (sLo sK) so0)) <| st rfl <| mvd rfl rfl <| bnd h fun x7 e8 h => st rfl <| o_call (a1 (c := cc14) (tLo tK) rfl (a1 (c := cI) tK rfl a0)) (con_slices_BinarySearch_int e8) (.inl (so1 sK (so1 sB so0))) <| x_mvt rfl <| x_ext rfl rfl <| x_ext rfl rfl <| x_asg (ss rfl rfl) <| x_asg (ss rfl rfl) <| sq [q2 1 cc6 v1, q2 4 cc13 v4, q3 7 cc0 v2, q2 11 cI x7.1, q2 12 cB x7.2] <|
  xn <| wpC_seq <| wpC_kp <| wpC_seq <| reg_s <| st rfl <| mvd rfl rfl <| st rfl <| o_nt rfl <| sq [q2 1 cc6 v1, q2 4 cc13 v4, q3 7 cc0 v2, q2 11 cI x7.1, q2 24 cB (!x7.2)] <|
  xn <| cnd rfl h (fun b10 h => wpC_seq <| reg_s <| x_asg (sc cI (-1 : Int) rfl) <| sq [q2 10 cI (-1 : Int)] <|
  xn <| wpC_ret <| rt <| rt <| re <| fin h (r1 (ss rfl rfl) <| r0) rfl)
  (fun b10 h => wpC_skip <| kpN [q2 1 cc6 v1, q2 4 cc13 v4, q3 7 cc0 v2, q2 11 cI x7.1] (by kernel_rfl) <| xn <| wpC_seq <| reg_s <| st rfl <| mvd rfl rfl <| st rfl <| ldb rfl rfl rfl rfl <| bnd h fun x13 e14 h => st rfl <| o_call (a1 (c := cc6) (tLs (tXVariable tS tK)) rfl (a1 (c := cc0) (tXTable tK (tLs tK) (tLs tK) tK) rfl a0)) (con_impl_crossed e14) (.inl (so1 (sLo (sXVariable sS sK)) so0)) <| x_asg (so rfl rfl) <| sq [q2 4 cc13 v4, q2 11 cI x7.1, q2 13 cc9 x13] <|
  xn <| wpC_seq <| reg_s <| st rfl <| mvd rfl rfl <| st rfl <| mvo rfl rfl <| bnd h fun x21 e22 h => st rfl <| o_call (a1 (c := cc9) (tLo (tXVariable tS tK)) rfl a0) (con_impl_combinations e22) (.inl (so1 sK so0)) <| ckI_k h fun i23 h => st rfl <| b_mul (k := .i64) rfl rfl i23 <| st rfl <| mvo rfl rfl <| st rfl <| mvd rfl rfl <| bnd h fun x24 e25 h => st rfl <| o_call (a1 (c := cc9) (tLo (tXVariable tS tK)) rfl (a1 (c := cc13) (tLs tK) rfl a0)) (con_impl_indexOfValues e25) (.inl (so1 sK so0)) <| ckI_k h fun i26 h => st rfl <| b_add (k := .i64) rfl rfl i26 <| x_asg (ss rfl rfl) <| sq [q2 10 cI ((x7.1 * x21) + x24)] <|
  xn <| wpC_ret <| re <| fin h (r1 (ss rfl rfl) <| r0) rfl)

def rs_impl_contribution (r : (Int × Int)) : List D := [cI.enc r.1, cI.enc r.2]
def m79 : MC := .seq (.reg [q1 4 (.box (.t 0)),q1 6 (.box (.t 2)),q1 7 (.box (.t 3)),q1 8 (.asg (.c (.int .i64 0))),q1 9 (.asg (.c (.int .i64 0)))] [1, 4, 6, 7])
 (.seq (.reg [q1 15 (.ld 4 1 true),q1 16 (.fa 7 0 0),q1 17 (.ld 16 1 false),q1 18 (.fa 6 0 0),q1 19 (.ld 18 1 false),q1 20 (.call 104 [(.t 15), (.t 17), (.t 19)]),q1 10 (.asg (.t 20))] [1, 4, 6, 7, 10])
 (.seq (.kp [1, 4, 6, 7, 10] (.seq (.reg [q1 21 (.mv (.t 10)),q1 22 (.bin .lss (.t 21) (.c (.int .i64 0))),q1 23 (.mv (.t 22)),
  ⟨some 24, .ld 6 4 true, some (23, false)⟩,
  ⟨some 25, .ld 7 3 true, some (23, false)⟩,
  ⟨some 26, .call 105 [(.t 24), (.t 25)], some (23, false)⟩,
  ⟨some 27, .nt (.t 26), some (23, false)⟩,q1 28 (.pick (.t 23) (.c (.bool true)) (.t 27))] [1, 4, 6, 7, 10, 28])
 (.cond (.t 28) (.seq (.reg [q1 8 (.asg (.c (.int .i64 (-1)))),q1 9 (.asg (.c (.int .i64 0)))] [8, 9])
 (.ret)) (.skip))))
 (.seq (.reg [q1 29 (.fa 6 1 1),q1 30 (.ld 29 1 false),q1 31 (.len false (.t 30)),q1 32 (.mk (.int .i64 0) (.t 31)),q1 11 (.asg (.t 32))] [1, 4, 6, 7, 10, 11])
 (.seq (.kp [1, 4, 6, 7, 10, 11] (.seq (.reg [q1 33 (.fa 6 1 1),q1 34 (.ld 33 1 false),q1 35 (.len false (.t 34)),q1 36 (.mv (.c (.int .i64 0)))] [1, 4, 6, 7, 10, 11, 33, 34, 35, 36])
 (.blk 0 (.loop (.seq (.reg [q1 37 (.bin .lss (.t 36) (.t 35))] [1, 4, 6, 7, 10, 11, 33, 34, 35, 36, 37])
 (.seq (.kp [1, 4, 6, 7, 10, 11, 33, 34, 35, 36] (.cond (.t 37) (.skip) (.exit 0)))
 (.seq (.kp [1, 4, 6, 7, 10, 11, 33, 34, 35, 36] (.blk 1 (.seq (.reg [q1 38 (.mv (.t 36)),q1 39 (.ia 34 (.t 36) 1),q1 40 (.ld 39 1 false),q1 12 (.asg (.t 38)),q1 13 (.asg (.t 40))] [1, 4, 6, 7, 10, 11, 12, 13, 33, 34, 35, 36])
 (.reg [q1 41 (.mv (.t 11)),q1 42 (.mv (.t 12)),q1 43 (.fa 7 2 2),q1 44 (.ld 43 1 false),q1 45 (.mv (.t 13)),q1 46 (.ia 44 (.t 45) 1),q1 47 (.ld 46 1 false),q1 48 (.ia 41 (.t 42) 1),q0 (.st 48 (.t 47) 1)] [1, 4, 6, 7, 10, 11, 33, 34, 35, 36]))))
 (.reg [q1 49 (.bin .add (.t 36) (.c (.int .i64 1))),q1 36 (.mv (.t 49))] [1, 4, 6, 7, 10, 11, 33, 34, 35, 36]))))))))
 (.seq (.reg [q1 14 (.asg (.c (.int .i64 1)))] [1, 4, 6, 7, 10, 11, 14])
 (.seq (.kp [1, 4, 6, 10, 11, 14] (.seq (.reg [q1 50 (.fa 6 3 3),q1 51 (.ld 50 1 false),q1 52 (.bin .geq (.t 51) (.c (.int .i64 0)))] [1, 4, 6, 7, 10, 11, 14, 52])
 (.cond (.t 52) (.reg [q1 53 (.fa 7 2 2),q1 54 (.ld 53 1 false),q1 55 (.fa 6 3 3),q1 56 (.ld 55 1 false),q1 57 (.ia 54 (.t 56) 1),q1 58 (.ld 57 1 false),q1 14 (.asg (.t 58))] [1, 4, 6, 10, 11, 14]) (.skip))))
 (.seq (.reg [q1 59 (.ld 4 1 true),q1 60 (.mv (.t 1)),q1 61 (.ld 6 4 true),q1 62 (.mv (.t 10)),q1 63 (.mv (.t 11)),q1 64 (.call 106 [(.t 59), (.t 60), (.t 61), (.t 62), (.t 63)]),q1 65 (.mv (.t 14)),q1 8 (.asg (.t 64)),q1 9 (.asg (.t 65))] [8, 9])
 (.ret))))))))
theorem con_impl_contribution {v0 : XGeo} {v1 : (List XVariable)} {v2 : XTable} {v3 : XRecord} {r : (Int × Int)} (h : sh_impl_contribution v0 v1 v2 v3 = some r) : Con Tryz.prog 79 [cc10.enc v0, cc6.enc v1, cc0.enc v2, cc5.enc v3] [] (rs_impl_contribution r) := by
 delta sh_impl_contribution at h
 refine top (out := none) (f := Tryz.f79) (m := m79) (rs := [.t 8, .t 9]) (by kernel_rfl) rfl (by kernel_rfl) (by kernel_rfl) (by kernel_rfl) (by kernel_rfl) (by kernel_rfl) ?_
 exact
  ini [q2 0 cc10 v0, q2 1 cc6 v1, q2 2 cc0 v2, q2 3 cc5 v3] rfl <| wpC_seq <| reg_s <| x_box (ss rfl rfl) <| x_box (ss rfl rfl) <| x_box (ss rfl rfl) <| x_asg (sc cI (0 : Int) rfl) <| x_asg (sc cI (0 : Int) rfl) <| sq [q2 1 cc6 v1, q3 4 cc10 v0, q3 6 cc0 v2, q3 7 cc5 v3] <|
  xn <| wpC_seq <| reg_s <| st rfl <| ldb rfl rfl rfl rfl <| st rfl <| fab rfl rfl rfl rfl <| st rfl <| lda rfl rfl rfl rfl rfl rfl <| st rfl <| fab rfl rfl rfl rfl <| st rfl <| lda rfl rfl rfl rfl rfl rfl <| bnd h fun x3 e4 h => st rfl <| o_call (a1 (c := cc10) (tXGeo (tLs tK)) rfl (a1 (c := cI) tK rfl (a1 (c := cI) tK rfl a0))) (con_impl_ancestorAt e4) (.inl (so1 sK so0)) <| x_asg (ss rfl rfl) <| sq [q2 1 cc6 v1, q3 4 cc10 v0, q3 6 cc0 v2, q3 7 cc5 v3, q2 10 cI x3] <|
  xn <| wpC_seq <| wpC_kp <| wpC_seq <| reg_s <| st rfl <| mvd rfl rfl <| st rfl <| b_lss (k := .i64) rfl rfl <| st rfl <| mvd rfl rfl <| ite_k h (fun b15 h => gf rfl b15 <| gf rfl b15 <| gf rfl b15 <| gf rfl b15 <| st rfl <| pick1 rfl b15 (cd := cB) (v := true) rfl rfl <| sq [q2 1 cc6 v1, q3 4 cc10 v0, q3 6 cc0 v2, q3 7 cc5 v3, q2 10 cI x3, q2 28 cB true] <|
  xn <| cnd1 rfl rfl <| wpC_seq <| reg_s <| x_asg (sc cI (-1 : Int) rfl) <| x_asg (sc cI (0 : Int) rfl) <| sq [q2 8 cI (-1 : Int), q2 9 cI (0 : Int)] <|
  xn <| wpC_ret <| rt <| rt <| re <| fin h (r1 (ss rfl rfl) <| r1 (ss rfl rfl) <| r0) rfl)
  (fun b15 h => gt' rfl b15 <| st rfl <| ldb rfl rfl rfl rfl <| gt' rfl b15 <| st rfl <| ldb rfl rfl rfl rfl <| gt' rfl b15 <| bnd h fun x16 e17 h => st rfl <| o_call (a1 (c := cc0) (tXTable tK (tLs tK) (tLs tK) tK) rfl (a1 (c := cc5) (tXRecord tK tK (tLs tK)) rfl a0)) (con_impl_meetsWhere e17) (.inl (so1 sB so0)) <| gt' rfl b15 <| st rfl <| o_nt rfl <| st rfl <| pick0 rfl b15 (cd := cB) (v := (!x16)) rfl rfl <| sq [q2 1 cc6 v1, q3 4 cc10 v0, q3 6 cc0 v2, q3 7 cc5 v3, q2 10 cI x3, q2 28 cB (!x16)] <|
  xn <| cnd rfl h (fun b18 h => wpC_seq <| reg_s <| x_asg (sc cI (-1 : Int) rfl) <| x_asg (sc cI (0 : Int) rfl) <| sq [q2 8 cI (-1 : Int), q2 9 cI (0 : Int)] <|
  xn <| wpC_ret <| rt <| rt <| re <| fin h (r1 (ss rfl rfl) <| r1 (ss rfl rfl) <| r0) rfl)
  (fun b18 h => wpC_skip <| kpN [q2 1 cc6 v1, q3 4 cc10 v0, q3 6 cc0 v2, q3 7 cc5 v3, q2 10 cI x3] (by kernel_rfl) <| xn <| wpC_seq <| reg_s <| st rfl <| fab rfl rfl rfl rfl <| st rfl <| lda rfl rfl rfl rfl rfl rfl <| stw rfl <| lens rfl fun l22 => mkO_k h fun i23 l24 h => st rfl <| o_mk (c := cI) (a0 := (0 : Int)) rfl (k := .i64) rfl i23 l24 <| x_asg (so rfl rfl) <| sq [q2 1 cc6 v1, q3 4 cc10 v0, q3 6 cc0 v2, q3 7 cc5 v3, q2 10 cI x3, q2 11 cc14 (List.replicate ((v2.Vars.length : Int)).toNat (0 : Int))] <|
  xn <| wpC_seq <| wpC_kp <| wpC_seq <| reg_s <| st rfl <| fab rfl rfl rfl rfl <| st rfl <| lda rfl rfl rfl rfl rfl rfl <| stw rfl <| lens rfl fun l72 => st rfl <| mvc cI (0 : Int) rfl <| sq [q2 1 cc6 v1, q3 4 cc10 v0, q3 6 cc0 v2, q3 7 cc5 v3, q2 10 cI x3, q2 11 cc14 (List.replicate ((v2.Vars.length : Int)).toNat (0 : Int)), (33, .adr 6 [.fld 1]), q2 34 cc13 v2.Vars, q2 35 cI (v2.Vars.length : Int), q2 36 cI (0 : Int)] <|
  xn <| wpC_blk <| lpR (fun (k74 : Nat) (s73 : (List Int)) => [q2 1 cc6 v1, q3 4 cc10 v0, q3 6 cc0 v2, q3 7 cc5 v3, q2 10 cI x3, q2 11 cc14 s73, (33, .adr 6 [.fld 1]), q2 34 cc13 v2.Vars, q2 35 cI (v2.Vars.length : Int), q2 36 cI (k74 : Int)]) (List.replicate ((v2.Vars.length : Int)).toNat (0 : Int)) rfl h
  (fun G104 s73 h => wpC_seq <| reg_s <| st rfl <| b_lss (k := .i64) rfl rfl <| sq [q2 1 cc6 v1, q3 4 cc10 v0, q3 6 cc0 v2, q3 7 cc5 v3, q2 10 cI x3, q2 11 cc14 s73, (33, .adr 6 [.fld 1]), q2 34 cc13 v2.Vars, q2 35 cI (v2.Vars.length : Int), q2 36 cI (v2.Vars.length : Int), q2 37 cB (decide ((v2.Vars.length : Int) < (v2.Vars.length : Int)))] <|
  xn <| wpC_seq <| wpC_kp <| cnd0 rfl (dlf _) <| wpC_exit <| xt <| xt <| xt <| xb <| kpN [q2 1 cc6 v1, q3 4 cc10 v0, q3 6 cc0 v2, q3 7 cc5 v3, q2 10 cI x3, q2 11 cc14 s73] (by kernel_rfl) <| xn <| wpC_seq <| reg_s <| x_asg (sc cI (1 : Int) rfl) <| sq [q2 1 cc6 v1, q3 4 cc10 v0, q3 6 cc0 v2, q3 7 cc5 v3, q2 10 cI x3, q2 11 cc14 s73, q2 14 cI (1 : Int)] <|
  xn <| wpC_seq <| jw (fun (s109 : Int) => [q2 1 cc6 v1, q3 4 cc10 v0, q3 6 cc0 v2, q2 10 cI x3, q2 11 cc14 s73, q2 14 cI s109]) h (fun s109 h => xn <| wpC_seq <| reg_s <| st rfl <| ldb rfl rfl rfl rfl <| st rfl <| mvd rfl rfl <| st rfl <| ldb rfl rfl rfl rfl <| st rfl <| mvd rfl rfl <| st rfl <| mvo rfl rfl <| bnd h fun x113 e114 h => st rfl <| o_call (a1 (c := cc10) (tXGeo (tLs tK)) rfl (a1 (c := cc6) (tLs (tXVariable tS tK)) rfl (a1 (c := cc0) (tXTable tK (tLs tK) (tLs tK) tK) rfl (a1 (c := cI) tK rfl (a1 (c := cc14) (tLo tK) rfl a0))))) (con_impl_cellIndex e114) (.inl (so1 sK so0)) <| st rfl <| mvd rfl rfl <| x_asg (ss rfl rfl) <| x_asg (ss rfl rfl) <| sq [q2 8 cI x113, q2 9 cI s109] <|
  xn <| wpC_ret <| re <| fin h (r1 (ss rfl rfl) <| r1 (ss rfl rfl) <| r0) rfl)
  fun s109' q110 h => wpC_kp <| wpC_seq <| reg_s <| st rfl <| fab rfl rfl rfl rfl <| st rfl <| lda rfl rfl rfl rfl rfl rfl <| st rfl <| b_geq (k := .i64) rfl rfl <| sq [q2 1 cc6 v1, q3 4 cc10 v0, q3 6 cc0 v2, q3 7 cc5 v3, q2 10 cI x3, q2 11 cc14 s73, q2 14 cI (1 : Int), q2 52 cB (decide ((0 : Int) ≤ v2.Sum))] <|
  xn <| cnd rfl h (fun b115 h => reg_s <| st rfl <| fab rfl rfl rfl rfl <| st rfl <| lda rfl rfl rfl rfl rfl rfl <| st rfl <| fab rfl rfl rfl rfl <| st rfl <| lda rfl rfl rfl rfl rfl rfl <| getO_k h fun x116 i117 g118 h => st rfl <| ias rfl rfl i117 g118 rfl <| st rfl <| ldi rfl rfl rfl rfl <| x_asg (ss rfl rfl) <| sq [q2 1 cc6 v1, q3 4 cc10 v0, q3 6 cc0 v2, q2 10 cI x3, q2 11 cc14 s73, q2 14 cI x116] <|
  kpN [q2 1 cc6 v1, q3 4 cc10 v0, q3 6 cc0 v2, q2 10 cI x3, q2 11 cc14 s73, q2 14 cI x116] (by kernel_rfl) <| lfn (S := (fun (s109 : Int) => [q2 1 cc6 v1, q3 4 cc10 v0, q3 6 cc0 v2, q2 10 cI x3, q2 11 cc14 s73, q2 14 cI s109])) h q110 rfl)
  (fun b115 h => wpC_skip <| kpN [q2 1 cc6 v1, q3 4 cc10 v0, q3 6 cc0 v2, q2 10 cI x3, q2 11 cc14 s73, q2 14 cI (1 : Int)] (by kernel_rfl) <| lfn (S := (fun (s109 : Int) => [q2 1 cc6 v1, q3 4 cc10 v0, q3 6 cc0 v2, q2 10 cI x3, q2 11 cc14 s73, q2 14 cI s109])) h q110 rfl))
  (fun G104 nx102 k74 s73 x75 hk76 hx77 hn103 h => wpC_seq <| reg_s <| st rfl <| b_lss (k := .i64) rfl rfl <| sq [q2 1 cc6 v1, q3 4 cc10 v0, q3 6 cc0 v2, q3 7 cc5 v3, q2 10 cI x3, q2 11 cc14 s73, (33, .adr 6 [.fld 1]), q2 34 cc13 v2.Vars, q2 35 cI (v2.Vars.length : Int), q2 36 cI (k74 : Int), q2 37 cB (decide ((k74 : Int) < (v2.Vars.length : Int)))] <|
  xn <| wpC_seq <| wpC_kp <| cnd1 rfl (dlt hk76) <| wpC_skip <| kpN [q2 1 cc6 v1, q3 4 cc10 v0, q3 6 cc0 v2, q3 7 cc5 v3, q2 10 cI x3, q2 11 cc14 s73, (33, .adr 6 [.fld 1]), q2 34 cc13 v2.Vars, q2 35 cI (v2.Vars.length : Int), q2 36 cI (k74 : Int)] (by kernel_rfl) <| xn <| wpC_seq <| wpC_kp <| wpC_blk <| wpC_seq <| reg_s <| st rfl <| mvd rfl rfl <| st rfl <| ias rfl rfl (Int.natCast_nonneg _) hx77 rfl <| st rfl <| ldi rfl rfl rfl rfl <| x_asg (ss rfl rfl) <| x_asg (ss rfl rfl) <| sq [q2 1 cc6 v1, q3 4 cc10 v0, q3 6 cc0 v2, q3 7 cc5 v3, q2 10 cI x3, q2 11 cc14 s73, q2 12 cI (k74 : Int), q2 13 cI x75, (33, .adr 6 [.fld 1]), q2 34 cc13 v2.Vars, q2 35 cI (v2.Vars.length : Int), q2 36 cI (k74 : Int)] <|
  xn <| reg_s <| st rfl <| mvo rfl rfl <| st rfl <| mvd rfl rfl <| st rfl <| fab rfl rfl rfl rfl <| st rfl <| lda rfl rfl rfl rfl rfl rfl <| st rfl <| mvd rfl rfl <| getO_k h fun x125 i126 g127 h => st rfl <| ias rfl rfl i126 g127 rfl <| st rfl <| ldi rfl rfl rfl rfl <| getO_k h fun x128 i129 g130 h => st rfl <| iar rfl rfl rfl rfl i129 g130 rfl <| x_sta (cc14.enc (s73.set ((k74 : Int)).toNat x125)) (ss rfl rfl) rfl rfl (Ln.idx g130 Ln.nil) (Cd.h_sz cI _) rfl <| sq [q2 1 cc6 v1, q3 4 cc10 v0, q3 6 cc0 v2, q3 7 cc5 v3, q2 10 cI x3, q2 11 cc14 (s73.set ((k74 : Int)).toNat x125), (33, .adr 6 [.fld 1]), q2 34 cc13 v2.Vars, q2 35 cI (v2.Vars.length : Int), q2 36 cI (k74 : Int)] <|
  xbb <| kpN [q2 1 cc6 v1, q3 4 cc10 v0, q3 6 cc0 v2, q3 7 cc5 v3, q2 10 cI x3, q2 11 cc14 (s73.set ((k74 : Int)).toNat x125), (33, .adr 6 [.fld 1]), q2 34 cc13 v2.Vars, q2 35 cI (v2.Vars.length : Int), q2 36 cI (k74 : Int)] (by kernel_rfl) <| xn <| reg_s <| st rfl <| b_inc rfl rfl l72 hk76 <| st rfl <| mvd rfl rfl <| sq [q2 1 cc6 v1, q3 4 cc10 v0, q3 6 cc0 v2, q3 7 cc5 v3, q2 10 cI x3, q2 11 cc14 (s73.set ((k74 : Int)).toNat x125), (33, .adr 6 [.fld 1]), q2 34 cc13 v2.Vars, q2 35 cI (v2.Vars.length : Int), q2 36 cI ((k74 + 1 : Nat) : Int)] <|
  xn <| hn103 (s73.set ((k74 : Int)).toNat x125) h)))

def rs_impl_tableOf (r : (List Int)) : List D := [cc14.enc r]
def m43 : MC := .seq (.reg [q1 4 (.box (.t 0)),q1 6 (.box (.t 2)),q1 8 (.asg (.c (.slice true [])))] [1, 3, 4, 6])
 (.seq (.reg [q1 14 (.ld 4 1 true),q1 15 (.mv (.t 1)),q1 16 (.ld 6 4 true),q1 17 (.call 78 [(.t 14), (.t 15), (.t 16)]),q1 18 (.mk (.int .i64 0) (.t 17)),q1 9 (.asg (.t 18))] [1, 3, 4, 6, 9])
 (.seq (.kp [9] (.seq (.reg [q1 19 (.mv (.t 3)),q1 20 (.len false (.t 19)),q1 21 (.mv (.c (.int .i64 0)))] [1, 3, 4, 6, 9, 19, 20, 21])
 (.blk 0 (.loop (.seq (.reg [q1 22 (.bin .lss (.t 21) (.t 20))] [1, 3, 4, 6, 9, 19, 20, 21, 22])
 (.seq (.kp [1, 3, 4, 6, 9, 19, 20, 21] (.cond (.t 22) (.skip) (.exit 0)))
 (.seq (.kp [1, 3, 4, 6, 9, 19, 20, 21] (.blk 1 (.seq (.reg [q1 23 (.ia 19 (.t 21) 3),q1 24 (.ld 23 3 true),q1 11 (.alloc (.agg [.int .i64 0, .int .i64 0, .slice true []])),q0 (.st 11 (.t 24) 3)] [1, 3, 4, 6, 9, 11, 19, 20, 21])
 (.seq (.reg [q1 26 (.ld 4 1 true),q1 27 (.mv (.t 1)),q1 28 (.ld 6 4 true),q1 29 (.ld 11 3 true),q1 30 (.call 79 [(.t 26), (.t 27), (.t 28), (.t 29)]),q1 25 (.mvt 30),q1 31 (.ext 25 0),q1 32 (.ext 25 1),q1 12 (.asg (.t 31)),q1 13 (.asg (.t 32))] [1, 3, 4, 6, 9, 12, 13, 19, 20, 21])
 (.seq (.reg [q1 33 (.mv (.t 12)),q1 34 (.bin .geq (.t 33) (.c (.int .i64 0)))] [1, 3, 4, 6, 9, 12, 13, 19, 20, 21, 34])
 (.cond (.t 34) (.reg [q1 35 (.mv (.t 9)),q1 36 (.mv (.t 12)),q1 37 (.ia 35 (.t 36) 1),q1 38 (.ld 37 1 false),q1 39 (.mv (.t 13)),q1 40 (.bin .add (.t 38) (.t 39)),q1 41 (.ia 35 (.t 36) 1),q0 (.st 41 (.t 40) 1)] [1, 3, 4, 6, 9, 19, 20, 21]) (.skip)))))))
 (.reg [q1 42 (.bin .add (.t 21) (.c (.int .i64 1))),q1 21 (.mv (.t 42))] [1, 3, 4, 6, 9, 19, 20, 21]))))))))
 (.seq (.reg [q1 43 (.mv (.t 9)),q1 8 (.asg (.t 43))] [8])
 (.ret))))
theorem con_impl_tableOf {v0 : XGeo} {v1 : (List XVariable)} {v2 : XTable} {v3 : (List XRecord)} {r : (List Int)} (h : sh_impl_tableOf v0 v1 v2 v3 = some r) : Con Tryz.prog 43 [cc10.enc v0, cc6.enc v1, cc0.enc v2, cc1.enc v3] [] (rs_impl_tableOf r) := by
 delta sh_impl_tableOf at h
 refine top (out := none) (f := Tryz.f43) (m := m43) (rs := [.t 8]) (by kernel_rfl) rfl (by kernel_rfl) (by kernel_rfl) (by kernel_rfl) (by kernel_rfl) (by kernel_rfl) ?_
 exact
  ini [q2 0 cc10 v0, q2 1 cc6 v1, q2 2 cc0 v2, q2 3 cc1 v3] rfl <| wpC_seq <| reg_s <| x_box (ss rfl rfl) <| x_box (ss rfl rfl) <| x_asg (sc cc14 ([] : List Int) rfl) <| sq [q2 1 cc6 v1, q2 3 cc1 v3, q3 4 cc10 v0, q3 6 cc0 v2] <|
  xn <| wpC_seq <| reg_s <| st rfl <| ldb rfl rfl rfl rfl <| st rfl <| mvd rfl rfl <| st rfl <| ldb rfl rfl rfl rfl <| bnd h fun x5 e6 h => st rfl <| o_call (a1 (c := cc10) (tXGeo (tLs tK)) rfl (a1 (c := cc6) (tLs (tXVariable tS tK)) rfl (a1 (c := cc0) (tXTable tK (tLs tK) (tLs tK) tK) rfl a0))) (con_impl_cellCount e6) (.inl (so1 sK so0)) <| mkO_k h fun i7 l8 h => st rfl <| o_mk (c := cI) (a0 := (0 : Int)) rfl (k := .i64) rfl i7 l8 <| x_asg (so rfl rfl) <| sq [q2 1 cc6 v1, q2 3 cc1 v3, q3 4 cc10 v0, q3 6 cc0 v2, q2 9 cc14 (List.replicate (x5).toNat (0 : Int))] <|
  xn <| wpC_seq <| wpC_kp <| wpC_seq <| reg_s <| st rfl <| mvd rfl rfl <| stw rfl <| lens rfl fun l74 => st rfl <| mvc cI (0 : Int) rfl <| sq [q2 1 cc6 v1, q2 3 cc1 v3, q3 4 cc10 v0, q3 6 cc0 v2, q2 9 cc14 (List.replicate (x5).toNat (0 : Int)), q2 19 cc1 v3, q2 20 cI (v3.length : Int), q2 21 cI (0 : Int)] <|
  xn <| wpC_blk <| lpR (fun (k76 : Nat) (s75 : (List Int)) => [q2 1 cc6 v1, q2 3 cc1 v3, q3 4 cc10 v0, q3 6 cc0 v2, q2 9 cc14 s75, q2 19 cc1 v3, q2 20 cI (v3.length : Int), q2 21 cI (k76 : Int)]) (List.replicate (x5).toNat (0 : Int)) rfl h
  (fun G118 s75 h => wpC_seq <| reg_s <| st rfl <| b_lss (k := .i64) rfl rfl <| sq [q2 1 cc6 v1, q2 3 cc1 v3, q3 4 cc10 v0, q3 6 cc0 v2, q2 9 cc14 s75, q2 19 cc1 v3, q2 20 cI (v3.length : Int), q2 21 cI (v3.length : Int), q2 22 cB (decide ((v3.length : Int) < (v3.length : Int)))] <|
  xn <| wpC_seq <| wpC_kp <| cnd0 rfl (dlf _) <| wpC_exit <| xt <| xt <| xt <| xb <| kpN [q2 9 cc14 s75] (by kernel_rfl) <| xn <| wpC_seq <| reg_s <| st rfl <| mvo rfl rfl <| x_asg (sr rfl rfl) <| sq [q2 8 cc14 s75] <|
  xn <| wpC_ret <| re <| fin h (r1 (so rfl rfl) <| r0) rfl)
  (fun G118 nx116 k76 s75 x77 hk78 hx79 hn117 h => wpC_seq <| reg_s <| st rfl <| b_lss (k := .i64) rfl rfl <| sq [q2 1 cc6 v1, q2 3 cc1 v3, q3 4 cc10 v0, q3 6 cc0 v2, q2 9 cc14 s75, q2 19 cc1 v3, q2 20 cI (v3.length : Int), q2 21 cI (k76 : Int), q2 22 cB (decide ((k76 : Int) < (v3.length : Int)))] <|
  xn <| wpC_seq <| wpC_kp <| cnd1 rfl (dlt hk78) <| wpC_skip <| kpN [q2 1 cc6 v1, q2 3 cc1 v3, q3 4 cc10 v0, q3 6 cc0 v2, q2 9 cc14 s75, q2 19 cc1 v3, q2 20 cI (v3.length : Int), q2 21 cI (k76 : Int)] (by kernel_rfl) <| xn <| wpC_seq <| wpC_kp <| wpC_blk <| wpC_seq <| reg_s <| st rfl <| ias rfl rfl (Int.natCast_nonneg _) hx79 rfl <| st rfl <| ldi rfl rfl rfl rfl <| x_all cc8 (⟨(0 : Int), (0 : Int), ([] : List Int)⟩ : XRecord) rfl <| x_stb (ss rfl rfl) rfl (Cd.h_sz _ _) rfl <| sq [q2 1 cc6 v1, q2 3 cc1 v3, q3 4 cc10 v0, q3 6 cc0 v2, q2 9 cc14 s75, q3 11 cc5 x77, q2 19 cc1 v3, q2 20 cI (v3.length : Int), q2 21 cI (k76 : Int)] <|
  xn <| wpC_seq <| reg_s <| st rfl <| ldb rfl rfl rfl rfl <| st rfl <| mvd rfl rfl <| st rfl <| ldb rfl rfl rfl rfl <| st rfl <| ldb rfl rfl rfl rfl <| bnd h fun x130 e131 h => st rfl <| o_call (a1 (c := cc10) (tXGeo (tLs tK)) rfl (a1 (c := cc6) (tLs (tXVariable tS tK)) rfl (a1 (c := cc0) (tXTable tK (tLs tK) (tLs tK) tK) rfl (a1 (c := cc5) (tXRecord tK tK (tLs tK)) rfl a0)))) (con_impl_contribution e131) (.inl (so1 sK (so1 sK so0))) <| x_mvt rfl <| x_ext rfl rfl <| x_ext rfl rfl <| x_asg (ss rfl rfl) <| x_asg (ss rfl rfl) <| sq [q2 1 cc6 v1, q2 3 cc1 v3, q3 4 cc10 v0, q3 6 cc0 v2, q2 9 cc14 s75, q2 12 cI x130.1, q2 13 cI x130.2, q2 19 cc1 v3, q2 20 cI (v3.length : Int), q2 21 cI (k76 : Int)] <|
  xn <| wpC_seq <| reg_s <| st rfl <| mvd rfl rfl <| st rfl <| b_geq (k := .i64) rfl rfl <| sq [q2 1 cc6 v1, q2 3 cc1 v3, q3 4 cc10 v0, q3 6 cc0 v2, q2 9 cc14 s75, q2 12 cI x130.1, q2 13 cI x130.2, q2 19 cc1 v3, q2 20 cI (v3.length : Int), q2 21 cI (k76 : Int), q2 34 cB (decide ((0 : Int) ≤ x130.1))] <|
  xn <| cnd rfl h (fun b132 h => reg_s <| st rfl <| mvo rfl rfl <| st rfl <| mvd rfl rfl <| getO_k h fun x133 i134 g135 h => st rfl <| iar rfl rfl rfl rfl i134 g135 rfl <| st rfl <| lda rfl rfl (Gt.idx g135 Gt.nil) rfl rfl rfl <| st rfl <| mvd rfl rfl <| ckI_k h fun i136 h => st rfl <| b_add (k := .i64) rfl rfl i136 <| st rfl <| iar rfl rfl rfl rfl i134 g135 rfl <| x_sta (cc14.enc (s75.set (x130.1).toNat (x133 + x130.2))) (ss rfl rfl) rfl rfl (Ln.idx g135 Ln.nil) (Cd.h_sz cI _) rfl <| sq [q2 1 cc6 v1, q2 3 cc1 v3, q3 4 cc10 v0, q3 6 cc0 v2, q2 9 cc14 (s75.set (x130.1).toNat (x133 + x130.2)), q2 19 cc1 v3, q2 20 cI (v3.length : Int), q2 21 cI (k76 : Int)] <|
  xbb <| kpN [q2 1 cc6 v1, q2 3 cc1 v3, q3 4 cc10 v0, q3 6 cc0 v2, q2 9 cc14 (s75.set (x130.1).toNat (x133 + x130.2)), q2 19 cc1 v3, q2 20 cI (v3.length : Int), q2 21 cI (k76 : Int)] (by kernel_rfl) <| xn <| reg_s <| st rfl <| b_inc rfl rfl l74 hk78 <| st rfl <| mvd rfl rfl <| sq [q2 1 cc6 v1, q2 3 cc1 v3, q3 4 cc10 v0, q3 6 cc0 v2, q2 9 cc14 (s75.set (x130.1).toNat (x133 + x130.2)), q2 19 cc1 v3, q2 20 cI (v3.length : Int), q2 21 cI ((k76 + 1 : Nat) : Int)] <|
  xn <| hn117 (s75.set (x130.1).toNat (x133 + x130.2)) h)
  (fun b132 h => wpC_skip <| xbb <| kpN [q2 1 cc6 v1, q2 3 cc1 v3, q3 4 cc10 v0, q3 6 cc0 v2, q2 9 cc14 s75, q2 19 cc1 v3, q2 20 cI (v3.length : Int), q2 21 cI (k76 : Int)] (by kernel_rfl) <| xn <| reg_s <| st rfl <| b_inc rfl rfl l74 hk78 <| st rfl <| mvd rfl rfl <| sq [q2 1 cc6 v1, q2 3 cc1 v3, q3 4 cc10 v0, q3 6 cc0 v2, q2 9 cc14 s75, q2 19 cc1 v3, q2 20 cI (v3.length : Int), q2 21 cI ((k76 + 1 : Nat) : Int)] <|
  xn <| hn117 s75 h))

def rs_slices_Clone_int (r : (List Int)) : List D := [cc14.enc r]
def m98 : MC := .seq (.reg [q1 2 (.asg (.c (.slice true [])))] [0])
 (.seq (.kp [0] (.seq (.reg [q1 3 (.mv (.t 0)),q1 4 (.eqn false (.t 3))] [0, 4])
 (.cond (.t 4) (.seq (.reg [q1 2 (.asg (.c (.slice true [])))] [2])
 (.ret)) (.skip))))
 (.seq (.reg [q1 5 (.bsl [] 1),q1 6 (.mv (.t 0)),q1 7 (.app (.t 5) (.t 6) 1),q1 2 (.asg (.t 7))] [2])
 (.ret)))
theorem con_slices_Clone_int {v0 : (List Int)} {r : (List Int)} (h : sh_slices_Clone_int v0 = some r) : Con Tryz.prog 98 [cc13.enc v0] [] (rs_slices_Clone_int r) := by
 delta sh_slices_Clone_int at h
 refine top (out := none) (f := Tryz.f98) (m := m98) (rs := [.t 2]) (by kernel_rfl) rfl (by kernel_rfl) (by kernel_rfl) (by kernel_rfl) (by kernel_rfl) (by kernel_rfl) ?_
 exact
  ini [q2 0 cc13 v0] rfl <| wpC_seq <| reg_s <| x_asg (sc cc14 ([] : List Int) rfl) <| sq [q2 0 cc13 v0] <|
  xn <| wpC_seq <| wpC_kp <| wpC_seq <| reg_s <| st rfl <| mvd rfl rfl <| nilO_k h fun u12 w13 => stw rfl <| eqs rfl u12 w13 fun b11 h => sq [q2 0 cc13 v0, q2 4 cB b11] <|
  xn <| cnd rfl h (fun b14 h => wpC_seq <| reg_s <| x_asg (sc cc14 ([] : List Int) rfl) <| sq [q2 2 cc14 ([] : List Int)] <|
  xn <| wpC_ret <| rt <| rt <| re <| fin h (r1 (so rfl rfl) <| r0) rfl)
  (fun b14 h => wpC_skip <| kpN [q2 0 cc13 v0] (by kernel_rfl) <| xn <| wpC_seq <| reg_s <| x_bsl cI ([] : List Int) t0 rfl rfl <| st rfl <| mvd rfl rfl <| lnO_k h fun l16 h => x_app (so rfl rfl) (ts rfl) l16 rfl <| x_asg (so rfl rfl) <| sq [q2 2 cc14 (([] : List Int) ++ v0)] <|
  xn <| wpC_ret <| re <| fin h (r1 (so rfl rfl) <| r0) rfl)

def rs_impl_isBase (r : Bool) : List D := [cB.enc r]
def m99 : MC := .seq (.reg [q1 4 (.asg (.c (.bool false)))] [0, 1])
 (.seq (.kp [] (.seq (.reg [q1 7 (.mv (.t 1)),q1 8 (.len false (.t 7)),q1 9 (.mv (.c (.int .i64 0)))] [0, 1, 7, 8, 9])
 (.blk 0 (.loop (.seq (.reg [q1 10 (.bin .lss (.t 9) (.t 8))] [0, 1, 7, 8, 9, 10])
 (.seq (.kp [0, 1, 7, 8, 9] (.cond (.t 10) (.skip) (.exit 0)))
 (.seq (.kp [0, 1, 7, 8, 9] (.blk 1 (.seq (.reg [q1 11 (.mv (.t 9)),q1 12 (.ia 7 (.t 9) 1),q1 13 (.ld 12 1 false),q1 5 (.asg (.t 11)),q1 6 (.asg (.t 13))] [0, 1, 5, 6, 7, 8, 9])
 (.seq (.reg [q1 14 (.mv (.t 6)),q1 15 (.mv (.t 0)),q1 16 (.mv (.t 5)),q1 17 (.ia 15 (.t 16) 1),q1 18 (.ld 17 1 false),q1 19 (.bin .eql (.t 14) (.t 18))] [0, 1, 7, 8, 9, 19])
 (.cond (.t 19) (.seq (.reg [q1 4 (.asg (.c (.bool false)))] [4])
 (.ret)) (.skip))))))
 (.reg [q1 20 (.bin .add (.t 9) (.c (.int .i64 1))),q1 9 (.mv (.t 20))] [0, 1, 7, 8, 9]))))))))
 (.seq (.reg [q1 4 (.asg (.c (.bool true)))] [4])
 (.ret)))
theorem con_impl_isBase {v0 : (List Int)} {v1 : (List Int)} {r : Bool} (h : sh_impl_isBase v0 v1 = some r) : Con Tryz.prog 99 [cc13.enc v0, cc13.enc v1] [] (rs_impl_isBase r) := by
 delta sh_impl_isBase at h
 refine top (out := none) (f := Tryz.f99) (m := m99) (rs := [.t 4]) (by kernel_rfl) rfl (by kernel_rfl) (by kernel_rfl) (by kernel_rfl) (by kernel_rfl) (by kernel_rfl) ?_
 exact
  ini [q2 0 cc13 v0, q2 1 cc13 v1] rfl <| wpC_seq <| reg_s <| x_asg (sc cB false rfl) <| sq [q2 0 cc13 v0, q2 1 cc13 v1] <|
  xn <| wpC_seq <| wpC_kp <| wpC_seq <| reg_s <| st rfl <| mvd rfl rfl <| stw rfl <| lens rfl fun l40 => st rfl <| mvc cI (0 : Int) rfl <| sq [q2 0 cc13 v0, q2 1 cc13 v1, q2 7 cc13 v1, q2 8 cI (v1.length : Int), q2 9 cI (0 : Int)] <|
  xn <| wpC_blk <| lpR (fun (k42 : Nat) (s41 : Unit) => [q2 0 cc13 v0, q2 1 cc13 v1, q2 7 cc13 v1, q2 8 cI (v1.length : Int), q2 9 cI (k42 : Int)]) () rfl h
  (fun G62 s41 h => wpC_seq <| reg_s <| st rfl <| b_lss (k := .i64) rfl rfl <| sq [q2 0 cc13 v0, q2 1 cc13 v1, q2 7 cc13 v1, q2 8 cI (v1.length : Int), q2 9 cI (v1.length : Int), q2 10 cB (decide ((v1.length : Int) < (v1.length : Int)))] <|
  xn <| wpC_seq <| wpC_kp <| cnd0 rfl (dlf _) <| wpC_exit <| xt <| xt <| xt <| xb <| kpN [] (by kernel_rfl) <| xn <| wpC_seq <| reg_s <| x_asg (sc cB true rfl) <| sq [q2 4 cB true] <|
  xn <| wpC_ret <| re <| fin h (r1 (ss rfl rfl) <| r0) rfl)
  (fun G62 nx60 k42 s41 x43 hk44 hx45 hn61 h => wpC_seq <| reg_s <| st rfl <| b_lss (k := .i64) rfl rfl <| sq [q2 0 cc13 v0, q2 1 cc13 v1, q2 7 cc13 v1, q2 8 cI (v1.length : Int), q2 9 cI (k42 : Int), q2 10 cB (decide ((k42 : Int) < (v1.length : Int)))] <|
  xn <| wpC_seq <| wpC_kp <| cnd1 rfl (dlt hk44) <| wpC_skip <| kpN [q2 0 cc13 v0, q2 1 cc13 v1, q2 7 cc13 v1, q2 8 cI (v1.length : Int), q2 9 cI (k42 : Int)] (by kernel_rfl) <| xn <| wpC_seq <| wpC_kp <| wpC_blk <| wpC_seq <| reg_s <| st rfl <| mvd rfl rfl <| st rfl <| ias rfl rfl (Int.natCast_nonneg _) hx45 rfl <| st rfl <| ldi rfl rfl rfl rfl <| x_asg (ss rfl rfl) <| x_asg (ss rfl rfl) <| sq [q2 0 cc13 v0, q2 1 cc13 v1, q2 5 cI (k42 : Int), q2 6 cI x43, q2 7 cc13 v1, q2 8 cI (v1.length : Int), q2 9 cI (k42 : Int)] <|
  xn <| wpC_seq <| reg_s <| st rfl <| mvd rfl rfl <| st rfl <| mvd rfl rfl <| st rfl <| mvd rfl rfl <| getO_k h fun x73 i74 g75 h => st rfl <| ias rfl rfl i74 g75 rfl <| st rfl <| ldi rfl rfl rfl rfl <| st rfl <| b_eql (k := .i64) rfl rfl <| sq [q2 0 cc13 v0, q2 1 cc13 v1, q2 7 cc13 v1, q2 8 cI (v1.length : Int), q2 9 cI (k42 : Int), q2 19 cB (decide (x43 = x73))] <|
  xn <| cnd rfl h (fun b76 h => wpC_seq <| reg_s <| x_asg (sc cB false rfl) <| sq [q2 4 cB false] <|
  xn <| wpC_ret <| rb <| rt <| rt <| rt <| rb <| rt <| rt <| re <| fin h (r1 (ss rfl rfl) <| r0) rfl)
  (fun b76 h => wpC_skip <| xbb <| kpN [q2 0 cc13 v0, q2 1 cc13 v1, q2 7 cc13 v1, q2 8 cI (v1.length : Int), q2 9 cI (k42 : Int)] (by kernel_rfl) <| xn <| reg_s <| st rfl <| b_inc rfl rfl l40 hk44 <| st rfl <| mvd rfl rfl <| sq [q2 0 cc13 v0, q2 1 cc13 v1, q2 7 cc13 v1, q2 8 cI (v1.length : Int), q2 9 cI ((k42 + 1 : Nat) : Int)] <|
  xn <| hn61 () h))

def rs_impl_areCubeValues (r : Bool) : List D := [cB.enc r]
def m101 : MC := .seq (.reg [q1 2 (.asg (.c (.bool false)))] [0])
 (.seq (.kp [] (.seq (.reg [q1 5 (.mv (.t 0)),q1 6 (.len false (.t 5)),q1 7 (.mv (.c (.int .i64 0)))] [0, 5, 6, 7])
 (.blk 0 (.loop (.seq (.reg [q1 8 (.bin .lss (.t 7) (.t 6))] [0, 5, 6, 7, 8])
 (.seq (.kp [0, 5, 6, 7] (.cond (.t 8) (.skip) (.exit 0)))
 (.seq (.kp [0, 5, 6, 7] (.blk 1 (.seq (.reg [q1 9 (.ia 5 (.t 7) 1),q1 10 (.ld 9 1 false),q1 4 (.asg (.t 10))] [0, 4, 5, 6, 7])
 (.seq (.reg [q1 11 (.mv (.t 4)),q1 12 (.bin .lss (.t 11) (.c (.int .i64 (-1000000)))),q1 13 (.mv (.t 12)),
  ⟨some 14, .mv (.t 4), some (13, false)⟩,
  ⟨some 15, .bin .gtr (.t 14) (.c (.int .i64 1000000)), some (13, false)⟩,q1 16 (.pick (.t 13) (.c (.bool true)) (.t 15))] [0, 5, 6, 7, 16])
 (.cond (.t 16) (.seq (.reg [q1 2 (.asg (.c (.bool false)))] [2])
 (.ret)) (.skip))))))
 (.reg [q1 17 (.bin .add (.t 7) (.c (.int .i64 1))),q1 7 (.mv (.t 17))] [0, 5, 6, 7]))))))))
 (.seq (.reg [q1 2 (.asg (.c (.bool true)))] [2])
 (.ret)))
theorem con_impl_areCubeValues {v0 : (List Int)} {r : Bool} (h : sh_impl_areCubeValues v0 = some r) : Con Tryz.prog 101 [cc13.enc v0] [] (rs_impl_areCubeValues r) := by
 delta sh_impl_areCubeValues at h
 refine top (out := none) (f := Tryz.f101) (m := m101) (rs := [.t 2]) (by kernel_rfl) rfl (by kernel_rfl) (by kernel_rfl) (by kernel_rfl) (by kernel_rfl) (by kernel_rfl) ?_
 exact
  ini [q2 0 cc13 v0] rfl <| wpC_seq <| reg_s <| x_asg (sc cB false rfl) <| sq [q2 0 cc13 v0] <|
  xn <| wpC_seq <| wpC_kp <| wpC_seq <| reg_s <| st rfl <| mvd rfl rfl <| stw rfl <| lens rfl fun l24 => st rfl <| mvc cI (0 : Int) rfl <| sq [q2 0 cc13 v0, q2 5 cc13 v0, q2 6 cI (v0.length : Int), q2 7 cI (0 : Int)] <|
  xn <| wpC_blk <| lpR (fun (k26 : Nat) (s25 : Unit) => [q2 0 cc13 v0, q2 5 cc13 v0, q2 6 cI (v0.length : Int), q2 7 cI (k26 : Int)]) () rfl h
  (fun G38 s25 h => wpC_seq <| reg_s <| st rfl <| b_lss (k := .i64) rfl rfl <| sq [q2 0 cc13 v0, q2 5 cc13 v0, q2 6 cI (v0.length : Int), q2 7 cI (v0.length : Int), q2 8 cB (decide ((v0.length : Int) < (v0.length : Int)))] <|
  xn <| wpC_seq <| wpC_kp <| cnd0 rfl (dlf _) <| wpC_exit <| xt <| xt <| xt <| xb <| kpN [] (by kernel_rfl) <| xn <| wpC_seq <| reg_s <| x_asg (sc cB true rfl) <| sq [q2 2 cB true] <|
  xn <| wpC_ret <| re <| fin h (r1 (ss rfl rfl) <| r0) rfl)
  (fun G38 nx36 k26 s25 x27 hk28 hx29 hn37 h => wpC_seq <| reg_s <| st rfl <| b_lss (k := .i64) rfl rfl <| sq [q2 0 cc13 v0, q2 5 cc13 v0, q2 6 cI (v0.length : Int), q2 7 cI (k26 : Int), q2 8 cB (decide ((k26 : Int) < (v0.length : Int)))] <|
  xn <| wpC_seq <| wpC_kp <| cnd1 rfl (dlt hk28) <| wpC_skip <| kpN [q2 0 cc13 v0, q2 5 cc13 v0, q2 6 cI (v0.length : Int), q2 7 cI (k26 : Int)] (by kernel_rfl) <| xn <| wpC_seq <| wpC_kp <| wpC_blk <| wpC_seq <| reg_s <| st rfl <| ias rfl rfl (Int.natCast_nonneg _) hx29 rfl <| st rfl <| ldi rfl rfl rfl rfl <| x_asg (ss rfl rfl) <| sq [q2 0 cc13 v0, q2 4 cI x27, q2 5 cc13 v0, q2 6 cI (v0.length : Int), q2 7 cI (k26 : Int)] <|
  xn <| wpC_seq <| reg_s <| st rfl <| mvd rfl rfl <| st rfl <| b_lss (k := .i64) rfl rfl <| st rfl <| mvd rfl rfl <| ite_k h (fun b43 h => gf rfl b43 <| gf rfl b43 <| st rfl <| pick1 rfl b43 (cd := cB) (v := true) rfl rfl <| sq [q2 0 cc13 v0, q2 5 cc13 v0, q2 6 cI (v0.length : Int), q2 7 cI (k26 : Int), q2 16 cB true] <|
  xn <| cnd1 rfl rfl <| wpC_seq <| reg_s <| x_asg (sc cB false rfl) <| sq [q2 2 cB false] <|
  xn <| wpC_ret <| rb <| rt <| rt <| rt <| rb <| rt <| rt <| re <| fin h (r1 (ss rfl rfl) <| r0) rfl)
  (fun b43 h => gt' rfl b43 <| st rfl <| mvd rfl rfl <| gt' rfl b43 <| st rfl <| b_gtr (k := .i64) rfl rfl <| st rfl <| pick0 rfl b43 (cd := cB) (v := (decide ((1000000 : Int) < x27))) rfl rfl <| sq [q2 0 cc13 v0, q2 5 cc13 v0, q2 6 cI (v0.length : Int), q2 7 cI (k26 : Int), q2 16 cB (decide ((1000000 : Int) < x27))] <|
  xn <| cnd rfl h (fun b44 h => wpC_seq <| reg_s <| x_asg (sc cB false rfl) <| sq [q2 2 cB false] <|
  xn <| wpC_ret <| rb <| rt <| rt <| rt <| rb <| rt <| rt <| re <| fin h (r1 (ss rfl rfl) <| r0) rfl)
  (fun b44 h => wpC_skip <| xbb <| kpN [q2 0 cc13 v0, q2 5 cc13 v0, q2 6 cI (v0.length : Int), q2 7 cI (k26 : Int)] (by kernel_rfl) <| xn <| reg_s <| st rfl <| b_inc rfl rfl l24 hk28 <| st rfl <| mvd rfl rfl <| sq [q2 0 cc13 v0, q2 5 cc13 v0, q2 6 cI (v0.length : Int), q2 7 cI ((k26 + 1 : Nat) : Int)] <|
  xn <| hn37 () h)))

def rs_impl_cubeOf (r : (XCube × Bool)) : List D := [cc7.enc r.1, cB.enc r.2]
def m77 : MC := .seq (.reg [q1 4 (.alloc (.agg [.slice true [], .slice true []])),q1 5 (.asg (.c (.bool false)))] [0, 1, 4])
 (.seq (.reg [q1 16 (.mv (.t 0)),q1 17 (.call 98 [(.t 16)]),q1 18 (.mv (.t 0)),q1 19 (.call 76 [(.t 18)]),q1 20 (.mk (.int .i64 0) (.t 19)),q1 21 (.bld [.slice true [], .slice true []] [(0, (.t 17)), (1, (.t 20))]),q1 6 (.alloc (.agg [.slice true [], .slice true []])),q0 (.st 6 (.t 21) 2)] [0, 1, 4, 6])
 (.seq (.reg [q1 7 (.asg (.c (.int .i64 0)))] [0, 1, 4, 6, 7])
 (.seq (.kp [0, 1, 4, 6, 7] (.seq (.reg [q1 22 (.fa 6 1 1),q1 23 (.ld 22 1 false),q1 24 (.len false (.t 23)),q1 25 (.mv (.c (.int .i64 0)))] [0, 1, 4, 6, 7, 24, 25])
 (.blk 0 (.loop (.seq (.reg [q1 26 (.bin .lss (.t 25) (.t 24))] [0, 1, 4, 6, 7, 24, 25, 26])
 (.seq (.kp [0, 1, 4, 6, 7, 24, 25] (.cond (.t 26) (.skip) (.exit 0)))
 (.seq (.kp [0, 1, 4, 6, 7, 24, 25] (.blk 1 (.seq (.reg [q1 27 (.mv (.t 25)),q1 8 (.asg (.t 27))] [0, 1, 4, 6, 7, 8, 24, 25])
 (.seq (.reg [q1 28 (.mv (.t 0)),q1 29 (.mv (.t 0)),q1 30 (.mv (.t 8)),q1 31 (.call 100 [(.t 29), (.t 30)]),q1 32 (.call 99 [(.t 28), (.t 31)])] [0, 1, 4, 6, 7, 24, 25, 32])
 (.cond (.t 32) (.reg [q1 33 (.mv (.t 7)),q1 34 (.bin .add (.t 33) (.c (.int .i64 1))),q1 7 (.asg (.t 34))] [0, 1, 4, 6, 7, 24, 25]) (.skip))))))
 (.reg [q1 35 (.bin .add (.t 25) (.c (.int .i64 1))),q1 25 (.mv (.t 35))] [0, 1, 4, 6, 7, 24, 25]))))))))
 (.seq (.kp [0, 1, 4, 6] (.seq (.reg [q1 36 (.mv (.t 7)),q1 37 (.mv (.t 1)),q1 38 (.len false (.t 37)),q1 39 (.bin .neq (.t 36) (.t 38)),q1 40 (.mv (.t 39)),
  ⟨some 41, .mv (.t 1), some (40, false)⟩,
  ⟨some 42, .call 101 [(.t 41)], some (40, false)⟩,
  ⟨some 43, .nt (.t 42), some (40, false)⟩,q1 44 (.pick (.t 40) (.c (.bool true)) (.t 43))] [0, 1, 4, 6, 44])
 (.cond (.t 44) (.seq (.reg [q1 45 (.bld [.slice true [], .slice true []] []),q0 (.st 4 (.t 45) 2),q1 5 (.asg (.c (.bool false)))] [4, 5])
 (.ret)) (.skip))))
 (.seq (.reg [q1 9 (.asg (.c (.int .i64 0)))] [0, 1, 4, 6, 9])
 (.seq (.kp [0, 4, 6] (.seq (.reg [q1 46 (.fa 6 1 1),q1 47 (.ld 46 1 false),q1 48 (.len false (.t 47)),q1 49 (.mv (.c (.int .i64 0)))] [0, 1, 4, 6, 9, 48, 49])
 (.blk 2 (.loop (.seq (.reg [q1 50 (.bin .lss (.t 49) (.t 48))] [0, 1, 4, 6, 9, 48, 49, 50])
 (.seq (.kp [0, 1, 4, 6, 9, 48, 49] (.cond (.t 50) (.skip) (.exit 2)))
 (.seq (.kp [0, 1, 4, 6, 9, 48, 49] (.blk 3 (.seq (.reg [q1 51 (.mv (.t 49)),q1 10 (.asg (.t 51))] [0, 1, 4, 6, 9, 10, 48, 49])
 (.seq (.reg [q1 52 (.mv (.t 0)),q1 53 (.mv (.t 0)),q1 54 (.mv (.t 10)),q1 55 (.call 100 [(.t 53), (.t 54)]),q1 56 (.call 99 [(.t 52), (.t 55)])] [0, 1, 4, 6, 9, 10, 48, 49, 56])
 (.cond (.t 56) (.seq (.drw [⟨0, q1 57 (.fa 6 1 1), [58, 59, 60, 61, 62, 63, 64]⟩,
  ⟨1, q1 58 (.ld 57 1 false), [59, 60, 61, 62, 63, 64]⟩,
  ⟨2, q1 59 (.mv (.t 10)), [57, 58, 60, 61, 62, 63, 64]⟩,
  ⟨3, q1 60 (.mv (.t 1)), [57, 58, 59, 61, 62, 63, 64]⟩,
  ⟨4, q1 61 (.mv (.t 9)), [57, 58, 59, 60, 62, 63, 64]⟩,
  ⟨5, q1 62 (.ia 60 (.t 61) 1), [57, 58, 59, 63, 64]⟩,
  ⟨6, q1 63 (.ld 62 1 false), [57, 58, 59, 64]⟩,
  ⟨7, q1 64 (.ia 58 (.t 59) 1), []⟩]
  [(8, q0 (.st 64 (.t 63) 1))] [0, 1, 4, 6, 9, 48, 49])
 (.reg [q1 65 (.mv (.t 9)),q1 66 (.bin .add (.t 65) (.c (.int .i64 1))),q1 9 (.asg (.t 66))] [0, 1, 4, 6, 9, 48, 49])) (.skip))))))
 (.reg [q1 67 (.bin .add (.t 49) (.c (.int .i64 1))),q1 49 (.mv (.t 67))] [0, 1, 4, 6, 9, 48, 49]))))))))
 (.seq (.kp [4, 6] (.seq (.reg [q1 68 (.mv (.t 0)),q1 69 (.call 102 [(.t 68)]),q1 70 (.len false (.t 69)),q1 71 (.mv (.c (.int .i64 0)))] [0, 4, 6, 69, 70, 71])
 (.blk 4 (.loop (.seq (.reg [q1 72 (.bin .lss (.t 71) (.t 70))] [0, 4, 6, 69, 70, 71, 72])
 (.seq (.kp [0, 4, 6, 69, 70, 71] (.cond (.t 72) (.skip) (.exit 4)))
 (.seq (.kp [0, 4, 6, 69, 70, 71] (.blk 5 (.seq (.reg [q1 73 (.mv (.t 71)),q1 74 (.ia 69 (.t 71) 1),q1 75 (.ld 74 1 false),q1 11 (.asg (.t 73)),q1 12 (.asg (.t 75))] [0, 4, 6, 11, 12, 69, 70, 71])
 (.seq (.reg [q1 76 (.fa 6 1 1),q1 77 (.ld 76 1 false),q1 78 (.len false (.t 77)),q1 79 (.mv (.c (.int .i64 0)))] [0, 4, 6, 11, 12, 69, 70, 71, 78, 79])
 (.blk 6 (.loop (.seq (.reg [q1 80 (.bin .lss (.t 79) (.t 78))] [0, 4, 6, 11, 12, 69, 70, 71, 78, 79, 80])
 (.seq (.kp [0, 4, 6, 11, 12, 69, 70, 71, 78, 79] (.cond (.t 80) (.skip) (.exit 6)))
 (.seq (.kp [0, 4, 6, 11, 12, 69, 70, 71, 78, 79] (.blk 7 (.seq (.reg [q1 81 (.mv (.t 79)),q1 13 (.asg (.t 81))] [0, 4, 6, 11, 12, 13, 69, 70, 71, 78, 79])
 (.seq (.reg [q1 82 (.mv (.t 0)),q1 83 (.mv (.t 13)),q1 84 (.call 100 [(.t 82), (.t 83)]),q1 14 (.asg (.t 84))] [0, 4, 6, 11, 12, 13, 14, 69, 70, 71, 78, 79])
 (.fz 14 (.seq (.kp [0, 4, 6, 11, 12, 13, 69, 70, 71, 78, 79] (.seq (.drw [⟨0, q1 85 (.mv (.t 14)), [86, 87, 88, 89, 90, 91, 92, 93, 94, 95, 96, 97, 98, 99, 100, 101, 102, 103, 104, 105]⟩,
  ⟨1, q1 86 (.mv (.t 11)), [85, 87, 88, 89, 90, 91, 92, 93, 94, 95, 96, 97, 98, 99, 100, 101, 102, 103, 104, 105]⟩,
  ⟨2, q1 87 (.ia 85 (.t 86) 1), [88, 89, 90, 91, 92, 93, 94, 95, 96, 97, 98, 99, 100, 101, 102, 103, 104, 105]⟩,
  ⟨3, q1 88 (.ld 87 1 false), [89, 90, 91, 92, 93, 94, 95, 96, 97, 98, 99, 100, 101, 102, 103, 104, 105]⟩,
  ⟨4, q1 89 (.mv (.t 0)), [85, 86, 87, 88, 90, 91, 92, 93, 94, 95, 96, 97, 98, 99, 100, 101, 102, 103, 104, 105]⟩,
  ⟨5, q1 90 (.mv (.t 11)), [85, 86, 87, 88, 89, 91, 92, 93, 94, 95, 96, 97, 98, 99, 100, 101, 102, 103, 104, 105]⟩,
  ⟨6, q1 91 (.ia 89 (.t 90) 1), [85, 86, 87, 88, 92, 93, 94, 95, 96, 97, 98, 99, 100, 101, 102, 103, 104, 105]⟩,
  ⟨7, q1 92 (.ld 91 1 false), [85, 86, 87, 88, 93, 94, 95, 96, 97, 98, 99, 100, 101, 102, 103, 104, 105]⟩,
  ⟨8, q1 93 (.bin .neq (.t 88) (.t 92)), [94, 95, 96, 97, 98, 99, 100, 101, 102, 103, 104, 105]⟩,
  ⟨9, q1 94 (.mv (.t 93)), [95, 96, 97, 98, 99, 100, 101, 102, 103, 104, 105]⟩,
  ⟨10, ⟨some 95, .mv (.t 0), some (94, false)⟩, [96, 97, 98, 99, 100, 101, 102, 103, 104, 105]⟩,
  ⟨11, ⟨some 96, .mv (.t 11), some (94, false)⟩, [95, 97, 98, 99, 100, 101, 102, 103, 104, 105]⟩,
  ⟨12, ⟨some 97, .bin .add (.t 96) (.c (.int .i64 1)), some (94, false)⟩, [95, 98, 99, 100, 101, 102, 103, 104, 105]⟩,
  ⟨13, ⟨some 98, .sl (.t 95) (some (.t 97)) none 1, some (94, false)⟩, [99, 100, 101, 102, 103, 104, 105]⟩,
  ⟨14, ⟨some 99, .mv (.t 14), some (94, false)⟩, [95, 96, 97, 98, 100, 101, 102, 103, 104, 105]⟩,
  ⟨15, ⟨some 100, .mv (.t 11), some (94, false)⟩, [95, 96, 97, 98, 99, 101, 102, 103, 104, 105]⟩,
  ⟨16, ⟨some 101, .bin .add (.t 100) (.c (.int .i64 1)), some (94, false)⟩, [95, 96, 97, 98, 99, 102, 103, 104, 105]⟩,
  ⟨17, ⟨some 102, .sl (.t 99) (some (.t 101)) none 1, some (94, false)⟩, [95, 96, 97, 98, 103, 104, 105]⟩,
  ⟨18, ⟨some 103, .call 99 [(.t 98), (.t 102)], some (94, false)⟩, [104, 105]⟩,
  ⟨19, ⟨some 104, .nt (.t 103), some (94, false)⟩, [105]⟩,
  ⟨20, q1 105 (.pick (.t 94) (.c (.bool true)) (.t 104)), []⟩]
  [] [0, 4, 6, 11, 12, 13, 69, 70, 71, 78, 79, 105])
 (.cond (.t 105) (.exit 7) (.skip))))
 (.seq (.reg [q1 15 (.asg (.c (.int .i64 1)))] [0, 4, 6, 11, 12, 13, 15, 69, 70, 71, 78, 79])
 (.blk 8 (.loop (.seq (.kp [0, 4, 6, 11, 12, 13, 15, 69, 70, 71, 78, 79] (.seq (.reg [q1 106 (.mv (.t 15)),q1 107 (.mv (.t 0)),q1 108 (.mv (.t 11)),q1 109 (.ia 107 (.t 108) 1),q1 110 (.ld 109 1 false),q1 111 (.bin .leq (.t 106) (.t 110))] [0, 4, 6, 11, 12, 13, 15, 69, 70, 71, 78, 79, 111])
 (.cond (.t 111) (.skip) (.exit 8))))
 (.seq (.kp [0, 4, 6, 11, 12, 13, 15, 69, 70, 71, 78, 79] (.blk 9 (.drw [⟨0, q1 114 (.fa 6 1 1), [115, 116, 117, 118, 119, 120, 121, 122, 123, 124, 125, 126, 127, 128, 129]⟩,
  ⟨1, q1 115 (.ld 114 1 false), [116, 117, 118, 119, 120, 121, 122, 123, 124, 125, 126, 127, 128, 129]⟩,
  ⟨2, q1 116 (.mv (.t 13)), [114, 115, 117, 118, 119, 120, 121, 122, 123, 124, 125, 126, 127, 128, 129]⟩,
  ⟨3, q1 117 (.ia 115 (.t 116) 1), [118, 119, 120, 121, 122, 123, 124, 125, 126, 127, 128, 129]⟩,
  ⟨4, q1 118 (.ld 117 1 false), [119, 120, 121, 122, 123, 124, 125, 126, 127, 128, 129]⟩,
  ⟨5, q1 119 (.fa 6 1 1), [114, 115, 116, 117, 118, 120, 121, 122, 123, 124, 125, 126, 127, 128, 129]⟩,
  ⟨6, q1 120 (.ld 119 1 false), [114, 115, 116, 117, 118, 121, 122, 123, 124, 125, 126, 127, 128, 129]⟩,
  ⟨7, q1 121 (.mv (.t 13)), [114, 115, 116, 117, 118, 119, 120, 122, 123, 124, 125, 126, 127, 128, 129]⟩,
  ⟨8, q1 122 (.mv (.t 15)), [114, 115, 116, 117, 118, 119, 120, 121, 123, 124, 125, 126, 127, 128, 129]⟩,
  ⟨9, q1 123 (.mv (.t 12)), [114, 115, 116, 117, 118, 119, 120, 121, 122, 124, 125, 126, 127, 128, 129]⟩,
  ⟨10, q1 124 (.bin .mul (.t 122) (.t 123)), [114, 115, 116, 117, 118, 119, 120, 121, 125, 126, 127, 128, 129]⟩,
  ⟨11, q1 125 (.bin .sub (.t 121) (.t 124)), [114, 115, 116, 117, 118, 119, 120, 126, 127, 128, 129]⟩,
  ⟨12, q1 126 (.ia 120 (.t 125) 1), [114, 115, 116, 117, 118, 127, 128, 129]⟩,
  ⟨13, q1 127 (.ld 126 1 false), [114, 115, 116, 117, 118, 128, 129]⟩,
  ⟨14, q1 128 (.bin .add (.t 118) (.t 127)), [129]⟩,
  ⟨15, q1 129 (.ia 115 (.t 116) 1), []⟩]
  [(16, q0 (.st 129 (.t 128) 1))] [0, 4, 6, 11, 12, 13, 15, 69, 70, 71, 78, 79])))
 (.reg [q1 112 (.mv (.t 15)),q1 113 (.bin .add (.t 112) (.c (.int .i64 1))),q1 15 (.asg (.t 113))] [0, 4, 6, 11, 12, 13, 15, 69, 70, 71, 78, 79]))))))))))))
 (.reg [q1 130 (.bin .add (.t 79) (.c (.int .i64 1))),q1 79 (.mv (.t 130))] [0, 4, 6, 11, 12, 69, 70, 71, 78, 79]))))))))))
 (.reg [q1 131 (.bin .add (.t 71) (.c (.int .i64 1))),q1 71 (.mv (.t 131))] [0, 4, 6, 69, 70, 71]))))))))
 (.seq (.kp [4, 6] (.seq (.reg [q1 132 (.fa 6 1 1),q1 133 (.ld 132 1 false),q1 134 (.call 101 [(.t 133)]),q1 135 (.nt (.t 134))] [4, 6, 135])
 (.cond (.t 135) (.seq (.reg [q1 136 (.bld [.slice true [], .slice true []] []),q0 (.st 4 (.t 136) 2),q1 5 (.asg (.c (.bool false)))] [4, 5])
 (.ret)) (.skip))))
 (.seq (.reg [q1 137 (.ld 6 2 true),q0 (.st 4 (.t 137) 2),q1 5 (.asg (.c (.bool true)))] [4, 5])
 (.ret))))))))))
theorem con_impl_cubeOf {v0 : (List Int)} {v1 : (List Int)} {r : (XCube × Bool)} (h : sh_impl_cubeOf v0 v1 = some r) : Con Tryz.prog 77 [cc13.enc v0, cc13.enc v1] [] (rs_impl_cubeOf r) := by
 delta sh_impl_cubeOf at h
 refine top (out := none) (f := Tryz.f77) (m := m77) (rs := [.c 4 2 true, .t 5]) (by kernel_rfl) rfl (by kernel_rfl) (by kernel_rfl) (by kernel_rfl) (by kernel_rfl) (by kernel_rfl) ?_
 exact
  ini [q2 0 cc13 v0, q2 1 cc13 v1] rfl <| wpC_seq <| reg_s <| x_all cc7 (⟨([] : List Int), ([] : List Int)⟩ : XCube) rfl <| x_asg (sc cB false rfl) <| sq [q2 0 cc13 v0, q2 1 cc13 v1, q3 4 cc7 (⟨([] : List Int), ([] : List Int)⟩ : XCube)] <|
  xn <| wpC_seq <| reg_s <| st rfl <| mvd rfl rfl <| bnd h fun x7 e8 h => st rfl <| o_call (a1 (c := cc13) (tLs tK) rfl a0) (con_slices_Clone_int e8) (.inl (so1 (sLo sK) so0)) <| st rfl <| mvd rfl rfl <| bnd h fun x9 e10 h => st rfl <| o_call (a1 (c := cc13) (tLs tK) rfl a0) (con_impl_cubeCells e10) (.inl (so1 sK so0)) <| mkO_k h fun i11 l12 h => st rfl <| o_mk (c := cI) (a0 := (0 : Int)) rfl (k := .i64) rfl i11 l12 <| x_bld (cc7.enc (⟨x7, (List.replicate (x9).toNat (0 : Int))⟩ : XCube)) (t1 (so rfl rfl) rfl (t1 (so rfl rfl) rfl t0)) rfl rfl <| x_all cc7 (⟨([] : List Int), ([] : List Int)⟩ : XCube) rfl <| x_stb (so rfl rfl) rfl (Cd.h_sz _ _) rfl <| sq [q2 0 cc13 v0, q2 1 cc13 v1, q3 4 cc7 (⟨([] : List Int), ([] : List Int)⟩ : XCube), q3 6 cc7 (⟨x7, (List.replicate (x9).toNat (0 : Int))⟩ : XCube)] <|
  xn <| wpC_seq <| reg_s <| x_asg (sc cI (0 : Int) rfl) <| sq [q2 0 cc13 v0, q2 1 cc13 v1, q3 4 cc7 (⟨([] : List Int), ([] : List Int)⟩ : XCube), q3 6 cc7 (⟨x7, (List.replicate (x9).toNat (0 : Int))⟩ : XCube), q2 7 cI (0 : Int)] <|
  xn <| wpC_seq <| wpC_kp <| wpC_seq <| reg_s <| st rfl <| fab rfl rfl rfl rfl <| st rfl <| ldao rfl rfl rfl rfl rfl rfl <| stw rfl <| leno rfl fun l84 => st rfl <| mvc cI (0 : Int) rfl <| sq [q2 0 cc13 v0, q2 1 cc13 v1, q3 4 cc7 (⟨([] : List Int), ([] : List Int)⟩ : XCube), q3 6 cc7 (⟨x7, (List.replicate (x9).toNat (0 : Int))⟩ : XCube), q2 7 cI (0 : Int), q2 24 cI ((List.replicate (x9).toNat (0 : Int)).length : Int), q2 25 cI (0 : Int)] <|
  xn <| wpC_blk <| lpR (fun (k86 : Nat) (s85 : Int) => [q2 0 cc13 v0, q2 1 cc13 v1, q3 4 cc7 (⟨([] : List Int), ([] : List Int)⟩ : XCube), q3 6 cc7 (⟨x7, (List.replicate (x9).toNat (0 : Int))⟩ : XCube), q2 7 cI s85, q2 24 cI ((List.replicate (x9).toNat (0 : Int)).length : Int), q2 25 cI (k86 : Int)]) (0 : Int) rfl h
  (fun G132 s85 h => wpC_seq <| reg_s <| st rfl <| b_lss (k := .i64) rfl rfl <| sq [q2 0 cc13 v0, q2 1 cc13 v1, q3 4 cc7 (⟨([] : List Int), ([] : List Int)⟩ : XCube), q3 6 cc7 (⟨x7, (List.replicate (x9).toNat (0 : Int))⟩ : XCube), q2 7 cI s85, q2 24 cI ((List.replicate (x9).toNat (0 : Int)).length : Int), q2 25 cI ((List.replicate (x9).toNat (0 : Int)).length : Int), q2 26 cB (decide (((List.replicate (x9).toNat (0 : Int)).length : Int) < ((List.replicate (x9).toNat (0 : Int)).length : Int)))] <|
  xn <| wpC_seq <| wpC_kp <| cnd0 rfl (dlf _) <| wpC_exit <| xt <| xt <| xt <| xb <| kpN [q2 0 cc13 v0, q2 1 cc13 v1, q3 4 cc7 (⟨([] : List Int), ([] : List Int)⟩ : XCube), q3 6 cc7 (⟨x7, (List.replicate (x9).toNat (0 : Int))⟩ : XCube), q2 7 cI s85] (by kernel_rfl) <| xn <| wpC_seq <| wpC_kp <| wpC_seq <| reg_s <| st rfl <| mvd rfl rfl <| st rfl <| mvd rfl rfl <| stw rfl <| lens rfl fun l146 => st rfl <| b_neq (k := .i64) rfl rfl <| st rfl <| mvd rfl rfl <| ite_k h (fun b147 h => gf rfl b147 <| gf rfl b147 <| gf rfl b147 <| st rfl <| pick1 rfl b147 (cd := cB) (v := true) rfl rfl <| sq [q2 0 cc13 v0, q2 1 cc13 v1, q3 4 cc7 (⟨([] : List Int), ([] : List Int)⟩ : XCube), q3 6 cc7 (⟨x7, (List.replicate (x9).toNat (0 : Int))⟩ : XCube), q2 44 cB true] <|
  xn <| cnd1 rfl rfl <| wpC_seq <| reg_s <| x_bld (cc7.enc (⟨([] : List Int), ([] : List Int)⟩ : XCube)) t0 rfl rfl <| x_stb (so rfl rfl) rfl (Cd.h_sz _ _) rfl <| x_asg (sc cB false rfl) <| sq [q3 4 cc7 (⟨([] : List Int), ([] : List Int)⟩ : XCube), q2 5 cB false] <|
  xn <| wpC_ret <| rt <| rt <| re <| fin h (r2 rfl rfl rfl <| r1 (ss rfl rfl) <| r0) rfl)
  (fun b147 h => gt' rfl b147 <| st rfl <| mvd rfl rfl <| gt' rfl b147 <| bnd h fun x148 e149 h => st rfl <| o_call (a1 (c := cc13) (tLs tK) rfl a0) (con_impl_areCubeValues e149) (.inl (so1 sB so0)) <| gt' rfl b147 <| st rfl <| o_nt rfl <| st rfl <| pick0 rfl b147 (cd := cB) (v := (!x148)) rfl rfl <| sq [q2 0 cc13 v0, q2 1 cc13 v1, q3 4 cc7 (⟨([] : List Int), ([] : List Int)⟩ : XCube), q3 6 cc7 (⟨x7, (List.replicate (x9).toNat (0 : Int))⟩ : XCube), q2 44 cB (!x148)] <|
  xn <| cnd rfl h (fun b150 h => wpC_seq <| reg_s <| x_bld (cc7.enc (⟨([] : List Int), ([] : List Int)⟩ : XCube)) t0 rfl rfl <| x_stb (so rfl rfl) rfl (Cd.h_sz _ _) rfl <| x_asg (sc cB false rfl) <| sq [q3 4 cc7 (⟨([] : List Int), ([] : List Int)⟩ : XCube), q2 5 cB false] <|
  xn <| wpC_ret <| rt <| rt <| re <| fin h (r2 rfl rfl rfl <| r1 (ss rfl rfl) <| r0) rfl)
  (fun b150 h => wpC_skip <| kpN [q2 0 cc13 v0, q2 1 cc13 v1, q3 4 cc7 (⟨([] : List Int), ([] : List Int)⟩ : XCube), q3 6 cc7 (⟨x7, (List.replicate (x9).toNat (0 : Int))⟩ : XCube)] (by kernel_rfl) <| xn <| wpC_seq <| reg_s <| x_asg (sc cI (0 : Int) rfl) <| sq [q2 0 cc13 v0, q2 1 cc13 v1, q3 4 cc7 (⟨([] : List Int), ([] : List Int)⟩ : XCube), q3 6 cc7 (⟨x7, (List.replicate (x9).toNat (0 : Int))⟩ : XCube), q2 9 cI (0 : Int)] <|
  xn <| wpC_seq <| wpC_kp <| wpC_seq <| reg_s <| st rfl <| fab rfl rfl rfl rfl <| st rfl <| ldao rfl rfl rfl rfl rfl rfl <| stw rfl <| leno rfl fun l282 => st rfl <| mvc cI (0 : Int) rfl <| sq [q2 0 cc13 v0, q2 1 cc13 v1, q3 4 cc7 (⟨([] : List Int), ([] : List Int)⟩ : XCube), q3 6 cc7 (⟨x7, (List.replicate (x9).toNat (0 : Int))⟩ : XCube), q2 9 cI (0 : Int), q2 48 cI ((List.replicate (x9).toNat (0 : Int)).length : Int), q2 49 cI (0 : Int)] <|
  xn <| wpC_blk <| lpR (fun (k284 : Nat) (s283 : (XCube × Int)) => [q2 0 cc13 v0, q2 1 cc13 v1, q3 4 cc7 (⟨([] : List Int), ([] : List Int)⟩ : XCube), q3 6 cc7 s283.1, q2 9 cI s283.2, q2 48 cI ((List.replicate (x9).toNat (0 : Int)).length : Int), q2 49 cI (k284 : Int)]) ((⟨x7, (List.replicate (x9).toNat (0 : Int))⟩ : XCube), (0 : Int)) rfl h
  (fun G366 s283 h => wpC_seq <| reg_s <| st rfl <| b_lss (k := .i64) rfl rfl <| sq [q2 0 cc13 v0, q2 1 cc13 v1, q3 4 cc7 (⟨([] : List Int), ([] : List Int)⟩ : XCube), q3 6 cc7 s283.1, q2 9 cI s283.2, q2 48 cI ((List.replicate (x9).toNat (0 : Int)).length : Int), q2 49 cI ((List.replicate (x9).toNat (0 : Int)).length : Int), q2 50 cB (decide (((List.replicate (x9).toNat (0 : Int)).length : Int) < ((List.replicate (x9).toNat (0 : Int)).length : Int)))] <|
  xn <| wpC_seq <| wpC_kp <| cnd0 rfl (dlf _) <| wpC_exit <| xt <| xt <| xt <| xb <| kpN [q2 0 cc13 v0, q3 4 cc7 (⟨([] : List Int), ([] : List Int)⟩ : XCube), q3 6 cc7 s283.1] (by kernel_rfl) <| xn <| wpC_seq <| wpC_kp <| wpC_seq <| reg_s <| st rfl <| mvd rfl rfl <| bnd h fun x5016 e5017 h => st rfl <| o_call (a1 (c := cc13) (tLs tK) rfl a0) (con_impl_strides e5017) (.inl (so1 (sLo sK) so0)) <| stw rfl <| leno rfl fun l5018 => st rfl <| mvc cI (0 : Int) rfl <| sq [q2 0 cc13 v0, q3 4 cc7 (⟨([] : List Int), ([] : List Int)⟩ : XCube), q3 6 cc7 s283.1, q2 69 cc14 x5016, q2 70 cI (x5016.length : Int), q2 71 cI (0 : Int)] <|
  xn <| wpC_blk <| lpR (fun (k5020 : Nat) (s5019 : XCube) => [q2 0 cc13 v0, q3 4 cc7 (⟨([] : List Int), ([] : List Int)⟩ : XCube), q3 6 cc7 s5019, q2 69 cc14 x5016, q2 70 cI (x5016.length : Int), q2 71 cI (k5020 : Int)]) s283.1 rfl h
  (fun G8114 s5019 h => wpC_seq <| reg_s <| st rfl <| b_lss (k := .i64) rfl rfl <| sq [q2 0 cc13 v0, q3 4 cc7 (⟨([] : List Int), ([] : List Int)⟩ : XCube), q3 6 cc7 s5019, q2 69 cc14 x5016, q2 70 cI (x5016.length : Int), q2 71 cI (x5016.length : Int), q2 72 cB (decide ((x5016.length : Int) < (x5016.length : Int)))] <|
  xn <| wpC_seq <| wpC_kp <| cnd0 rfl (dlf _) <| wpC_exit <| xt <| xt <| xt <| xb <| kpN [q3 4 cc7 (⟨([] : List Int), ([] : List Int)⟩ : XCube), q3 6 cc7 s5019] (by kernel_rfl) <| xn <| wpC_seq <| wpC_kp <| wpC_seq <| reg_s <| st rfl <| fab rfl rfl rfl rfl <| st rfl <| ldao rfl rfl rfl rfl rfl rfl <| bnd h fun x8122 e8123 h => st rfl <| o_call (a1 (c := cc14) (tLo tK) rfl a0) (con_impl_areCubeValues e8123) (.inl (so1 sB so0)) <| st rfl <| o_nt rfl <| sq [q3 4 cc7 (⟨([] : List Int), ([] : List Int)⟩ : XCube), q3 6 cc7 s5019, q2 135 cB (!x8122)] <|
  xn <| cnd rfl h (fun b8124 h => wpC_seq <| reg_s <| x_bld (cc7.enc (⟨([] : List Int), ([] : List Int)⟩ : XCube)) t0 rfl rfl <| x_stb (so rfl rfl) rfl (Cd.h_sz _ _) rfl <| x_asg (sc cB false rfl) <| sq [q3 4 cc7 (⟨([] : List Int), ([] : List Int)⟩ : XCube), q2 5 cB false] <|
  xn <| wpC_ret <| rt <| rt <| re <| fin h (r2 rfl rfl rfl <| r1 (ss rfl rfl) <| r0) rfl)
  (fun b8124 h => wpC_skip <| kpN [q3 4 cc7 (⟨([] : List Int), ([] : List Int)⟩ : XCube), q3 6 cc7 s5019] (by kernel_rfl) <| xn <| wpC_seq <| reg_s <| st rfl <| ldbo rfl rfl rfl rfl <| x_stb (sb rfl rfl) rfl (Cd.h_sz _ _) rfl <| x_asg (sc cB true rfl) <| sq [q3 4 cc7 s5019, q2 5 cB true] <|
  xn <| wpC_ret <| re <| fin h (r2 rfl rfl rfl <| r1 (ss rfl rfl) <| r0) rfl))
  (fun G8114 nx8112 k5020 s5019 x5021 hk5022 hx5023 hn8113 h => wpC_seq <| reg_s <| st rfl <| b_lss (k := .i64) rfl rfl <| sq [q2 0 cc13 v0, q3 4 cc7 (⟨([] : List Int), ([] : List Int)⟩ : XCube), q3 6 cc7 s5019, q2 69 cc14 x5016, q2 70 cI (x5016.length : Int), q2 71 cI (k5020 : Int), q2 72 cB (decide ((k5020 : Int) < (x5016.length : Int)))] <|
  xn <| wpC_seq <| wpC_kp <| cnd1 rfl (dlt hk5022) <| wpC_skip <| kpN [q2 0 cc13 v0, q3 4 cc7 (⟨([] : List Int), ([] : List Int)⟩ : XCube), q3 6 cc7 s5019, q2 69 cc14 x5016, q2 70 cI (x5016.length : Int), q2 71 cI (k5020 : Int)] (by kernel_rfl) <| xn <| wpC_seq <| wpC_kp <| wpC_blk <| wpC_seq <| reg_s <| st rfl <| mvd rfl rfl <| st rfl <| iao rfl rfl (Int.natCast_nonneg _) hx5023 rfl <| st rfl <| lda rfl rfl (Gt.idx hx5023 Gt.nil) rfl rfl rfl <| x_asg (ss rfl rfl) <| x_asg (ss rfl rfl) <| sq [q2 0 cc13 v0, q3 4 cc7 (⟨([] : List Int), ([] : List Int)⟩ : XCube), q3 6 cc7 s5019, q2 11 cI (k5020 : Int), q2 12 cI x5021, q2 69 cc14 x5016, q2 70 cI (x5016.length : Int), q2 71 cI (k5020 : Int)] <|
  xn <| wpC_seq <| reg_s <| st rfl <| fab rfl rfl rfl rfl <| st rfl <| ldao rfl rfl rfl rfl rfl rfl <| stw rfl <| leno rfl fun l8898 => st rfl <| mvc cI (0 : Int) rfl <| sq [q2 0 cc13 v0, q3 4 cc7 (⟨([] : List Int), ([] : List Int)⟩ : XCube), q3 6 cc7 s5019, q2 11 cI (k5020 : Int), q2 12 cI x5021, q2 69 cc14 x5016, q2 70 cI (x5016.length : Int), q2 71 cI (k5020 : Int), q2 78 cI (s5019.Cells.length : Int), q2 79 cI (0 : Int)] <|
  xn <| wpC_blk <| lpR (fun (k8900 : Nat) (s8899 : XCube) => [q2 0 cc13 v0, q3 4 cc7 (⟨([] : List Int), ([] : List Int)⟩ : XCube), q3 6 cc7 s8899, q2 11 cI (k5020 : Int), q2 12 cI x5021, q2 69 cc14 x5016, q2 70 cI (x5016.length : Int), q2 71 cI (k5020 : Int), q2 78 cI (s5019.Cells.length : Int), q2 79 cI (k8900 : Int)]) s5019 rfl h
  (fun G9410 s8899 h => wpC_seq <| reg_s <| st rfl <| b_lss (k := .i64) rfl rfl <| sq [q2 0 cc13 v0, q3 4 cc7 (⟨([] : List Int), ([] : List Int)⟩ : XCube), q3 6 cc7 s8899, q2 11 cI (k5020 : Int), q2 12 cI x5021, q2 69 cc14 x5016, q2 70 cI (x5016.length : Int), q2 71 cI (k5020 : Int), q2 78 cI (s5019.Cells.length : Int), q2 79 cI (s5019.Cells.length : Int), q2 80 cB (decide ((s5019.Cells.length : Int) < (s5019.Cells.length : Int)))] <|
  xn <| wpC_seq <| wpC_kp <| cnd0 rfl (dlf _) <| wpC_exit <| xt <| xt <| xt <| xb <| xbb <| kpN [q2 0 cc13 v0, q3 4 cc7 (⟨([] : List Int), ([] : List Int)⟩ : XCube), q3 6 cc7 s8899, q2 69 cc14 x5016, q2 70 cI (x5016.length : Int), q2 71 cI (k5020 : Int)] (by kernel_rfl) <| xn <| reg_s <| st rfl <| b_inc rfl rfl l5018 hk5022 <| st rfl <| mvd rfl rfl <| sq [q2 0 cc13 v0, q3 4 cc7 (⟨([] : List Int), ([] : List Int)⟩ : XCube), q3 6 cc7 s8899, q2 69 cc14 x5016, q2 70 cI (x5016.length : Int), q2 71 cI ((k5020 + 1 : Nat) : Int)] <|
  xn <| hn8113 s8899 h)
  (fun G9410 nx9408 k8900 s8899 x8901 hk8902 hx8903 hn9409 h => wpC_seq <| reg_s <| st rfl <| b_lss (k := .i64) rfl rfl <| sq [q2 0 cc13 v0, q3 4 cc7 (⟨([] : List Int), ([] : List Int)⟩ : XCube), q3 6 cc7 s8899, q2 11 cI (k5020 : Int), q2 12 cI x5021, q2 69 cc14 x5016, q2 70 cI (x5016.length : Int), q2 71 cI (k5020 : Int), q2 78 cI (s5019.Cells.length : Int), q2 79 cI (k8900 : Int), q2 80 cB (decide ((k8900 : Int) < (s5019.Cells.length : Int)))] <|
  xn <| wpC_seq <| wpC_kp <| cnd1 rfl (dlt hk8902) <| wpC_skip <| kpN [q2 0 cc13 v0, q3 4 cc7 (⟨([] : List Int), ([] : List Int)⟩ : XCube), q3 6 cc7 s8899, q2 11 cI (k5020 : Int), q2 12 cI x5021, q2 69 cc14 x5016, q2 70 cI (x5016.length : Int), q2 71 cI (k5020 : Int), q2 78 cI (s5019.Cells.length : Int), q2 79 cI (k8900 : Int)] (by kernel_rfl) <| xn <| wpC_seq <| wpC_kp <| wpC_blk <| wpC_seq <| reg_s <| st rfl <| mvd rfl rfl <| x_asg (ss rfl rfl) <| sq [q2 0 cc13 v0, q3 4 cc7 (⟨([] : List Int), ([] : List Int)⟩ : XCube), q3 6 cc7 s8899, q2 11 cI (k5020 : Int), q2 12 cI x5021, q2 13 cI (k8900 : Int), q2 69 cc14 x5016, q2 70 cI (x5016.length : Int), q2 71 cI (k5020 : Int), q2 78 cI (s5019.Cells.length : Int), q2 79 cI (k8900 : Int)] <|
  xn <| wpC_seq <| reg_s <| st rfl <| mvd rfl rfl <| st rfl <| mvd rfl rfl <| bnd h fun x9542 e9543 h => st rfl <| o_call (a1 (c := cc13) (tLs tK) rfl (a1 (c := cI) tK rfl a0)) (con_impl_indexOf e9543) (.inl (so1 (sLo sK) so0)) <| x_asg (so rfl rfl) <| sq [q2 0 cc13 v0, q3 4 cc7 (⟨([] : List Int), ([] : List Int)⟩ : XCube), q3 6 cc7 s8899, q2 11 cI (k5020 : Int), q2 12 cI x5021, q2 13 cI (k8900 : Int), q2 14 cc14 x9542, q2 69 cc14 x5016, q2 70 cI (x5016.length : Int), q2 71 cI (k5020 : Int), q2 78 cI (s5019.Cells.length : Int), q2 79 cI (k8900 : Int)] <|
  xn <| fz_s (tLo tK) rfl <| wpC_seq <| wpC_kp <| wpC_seq <| drw_s <| pst rfl <| mvd rfl rfl ⟨rfl, pst rfl <| mvd rfl rfl ⟨rfl, getO_kp h fun x9584 i9585 g9586 h => pst rfl <| ias rfl rfl i9585 g9586 rfl ⟨rfl, pst rfl <| ldi rfl rfl rfl rfl ⟨rfl, pst rfl <| mvd rfl rfl ⟨rfl, pst rfl <| mvd rfl rfl ⟨rfl, getO_kp h fun x9587 i9588 g9589 h => pst rfl <| ias rfl rfl i9588 g9589 rfl ⟨rfl, pst rfl <| ldi rfl rfl rfl rfl ⟨rfl, pst rfl <| b_neq (k := .i64) rfl rfl ⟨rfl, pst rfl <| mvd rfl rfl ⟨rfl, ite_kp h (fun b9590 h => pgf rfl rfl b9590 <| pgf rfl rfl b9590 <| pgf rfl rfl b9590 <| pgf rfl rfl b9590 <| pgf rfl rfl b9590 <| pgf rfl rfl b9590 <| pgf rfl rfl b9590 <| pgf rfl rfl b9590 <| pgf rfl rfl b9590 <| pgf rfl rfl b9590 <| pst rfl <| pick1 rfl b9590 (cd := cB) (v := true) rfl rfl ⟨rfl, preN <| sq [q2 0 cc13 v0, q3 4 cc7 (⟨([] : List Int), ([] : List Int)⟩ : XCube), q3 6 cc7 s8899, q2 11 cI (k5020 : Int), q2 12 cI x5021, q2 13 cI (k8900 : Int), q2 69 cc14 x5016, q2 70 cI (x5016.length : Int), q2 71 cI (k5020 : Int), q2 78 cI (s5019.Cells.length : Int), q2 79 cI (k8900 : Int), q2 105 cB true] <|
  xn <| cnd1 rfl rfl <| wpC_exit <| xt <| xt <| xb <| kpN [q2 0 cc13 v0, q3 4 cc7 (⟨([] : List Int), ([] : List Int)⟩ : XCube), q3 6 cc7 s8899, q2 11 cI (k5020 : Int), q2 12 cI x5021, q2 69 cc14 x5016, q2 70 cI (x5016.length : Int), q2 71 cI (k5020 : Int), q2 78 cI (s5019.Cells.length : Int), q2 79 cI (k8900 : Int)] (by kernel_rfl) <| xn <| reg_s <| st rfl <| b_inc rfl rfl l8898 hk8902 <| st rfl <| mvd rfl rfl <| sq [q2 0 cc13 v0, q3 4 cc7 (⟨([] : List Int), ([] : List Int)⟩ : XCube), q3 6 cc7 s8899, q2 11 cI (k5020 : Int), q2 12 cI x5021, q2 69 cc14 x5016, q2 70 cI (x5016.length : Int), q2 71 cI (k5020 : Int), q2 78 cI (s5019.Cells.length : Int), q2 79 cI ((k8900 + 1 : Nat) : Int)] <|
  xn <| hn9409 s8899 h⟩)
  (fun b9590 h => pgt rfl b9590 <| pst rfl <| mvd rfl rfl ⟨rfl, pgt rfl b9590 <| pst rfl <| mvd rfl rfl ⟨rfl, pgt rfl b9590 <| ckI_kp h fun i9591 h => pst rfl <| b_add (k := .i64) rfl rfl i9591 ⟨rfl, pgt rfl b9590 <| ck_kp h fun i9592 h => pst rfl <| o_sl rfl rfl (lo1 (k := .i64) rfl i9592.1) hi0 i9592.2 ⟨rfl, pgt rfl b9590 <| pst rfl <| mvd rfl rfl ⟨rfl, pgt rfl b9590 <| pst rfl <| mvd rfl rfl ⟨rfl, pgt rfl b9590 <| ckI_kp h fun i9593 h => pst rfl <| b_add (k := .i64) rfl rfl i9593 ⟨rfl, pgt rfl b9590 <| ck_kp h fun i9594 h => pst rfl <| o_sl rfl rfl (lo1 (k := .i64) rfl i9594.1) hi0 i9594.2 ⟨rfl, pgt rfl b9590 <| bndp h fun x9595 e9596 h => pst rfl <| o_call (a1 (c := cc13) (tLs tK) rfl (a1 (c := cc13) (tLs tK) rfl a0)) (con_impl_isBase e9596) (.inl (so1 sB so0)) ⟨rfl, pgt rfl b9590 <| pst rfl <| o_nt rfl ⟨rfl, pst rfl <| pick0 rfl b9590 (cd := cB) (v := (!x9595)) rfl rfl ⟨rfl, preN <| sq [q2 0 cc13 v0, q3 4 cc7 (⟨([] : List Int), ([] : List Int)⟩ : XCube), q3 6 cc7 s8899, q2 11 cI (k5020 : Int), q2 12 cI x5021, q2 13 cI (k8900 : Int), q2 69 cc14 x5016, q2 70 cI (x5016.length : Int), q2 71 cI (k5020 : Int), q2 78 cI (s5019.Cells.length : Int), q2 79 cI (k8900 : Int), q2 105 cB (!x9595)] <|
  xn <| cnd rfl h (fun b9597 h => wpC_exit <| xt <| xt <| xb <| kpN [q2 0 cc13 v0, q3 4 cc7 (⟨([] : List Int), ([] : List Int)⟩ : XCube), q3 6 cc7 s8899, q2 11 cI (k5020 : Int), q2 12 cI x5021, q2 69 cc14 x5016, q2 70 cI (x5016.length : Int), q2 71 cI (k5020 : Int), q2 78 cI (s5019.Cells.length : Int), q2 79 cI (k8900 : Int)] (by kernel_rfl) <| xn <| reg_s <| st rfl <| b_inc rfl rfl l8898 hk8902 <| st rfl <| mvd rfl rfl <| sq [q2 0 cc13 v0, q3 4 cc7 (⟨([] : List Int), ([] : List Int)⟩ : XCube), q3 6 cc7 s8899, q2 11 cI (k5020 : Int), q2 12 cI x5021, q2 69 cc14 x5016, q2 70 cI (x5016.length : Int), q2 71 cI (k5020 : Int), q2 78 cI (s5019.Cells.length : Int), q2 79 cI ((k8900 + 1 : Nat) : Int)] <|
  xn <| hn9409 s8899 h)
  (fun b9597 h => wpC_skip <| kpN [q2 0 cc13 v0, q3 4 cc7 (⟨([] : List Int), ([] : List Int)⟩ : XCube), q3 6 cc7 s8899, q2 11 cI (k5020 : Int), q2 12 cI x5021, q2 13 cI (k8900 : Int), q2 69 cc14 x5016, q2 70 cI (x5016.length : Int), q2 71 cI (k5020 : Int), q2 78 cI (s5019.Cells.length : Int), q2 79 cI (k8900 : Int)] (by kernel_rfl) <| xn <| wpC_seq <| reg_s <| x_asg (sc cI (1 : Int) rfl) <| sq [q2 0 cc13 v0, q3 4 cc7 (⟨([] : List Int), ([] : List Int)⟩ : XCube), q3 6 cc7 s8899, q2 11 cI (k5020 : Int), q2 12 cI x5021, q2 13 cI (k8900 : Int), q2 15 cI (1 : Int), q2 69 cc14 x5016, q2 70 cI (x5016.length : Int), q2 71 cI (k5020 : Int), q2 78 cI (s5019.Cells.length : Int), q2 79 cI (k8900 : Int)] <|
  xn <| wpC_blk <| lpF (fun (s9598 : (XCube × Int)) => [q2 0 cc13 v0, q3 4 cc7 (⟨([] : List Int), ([] : List Int)⟩ : XCube), q3 6 cc7 s9598.1, q2 11 cI (k5020 : Int), q2 12 cI x5021, q2 13 cI (k8900 : Int), q2 15 cI s9598.2, q2 69 cc14 x5016, q2 70 cI (x5016.length : Int), q2 71 cI (k5020 : Int), q2 78 cI (s5019.Cells.length : Int), q2 79 cI (k8900 : Int)]) (s8899, (1 : Int)) rfl h
  fun G9647 nx9645 s9598 hn9646 h => wpC_seq <| wpC_kp <| wpC_seq <| reg_s <| st rfl <| mvd rfl rfl <| st rfl <| mvd rfl rfl <| st rfl <| mvd rfl rfl <| st rfl <| ias rfl rfl i9588 g9589 rfl <| st rfl <| ldi rfl rfl rfl rfl <| st rfl <| b_leq (k := .i64) rfl rfl <| sq [q2 0 cc13 v0, q3 4 cc7 (⟨([] : List Int), ([] : List Int)⟩ : XCube), q3 6 cc7 s9598.1, q2 11 cI (k5020 : Int), q2 12 cI x5021, q2 13 cI (k8900 : Int), q2 15 cI s9598.2, q2 69 cc14 x5016, q2 70 cI (x5016.length : Int), q2 71 cI (k5020 : Int), q2 78 cI (s5019.Cells.length : Int), q2 79 cI (k8900 : Int), q2 111 cB (decide (s9598.2 ≤ x9587))] <|
  xn <| cnd rfl h (fun b9649 h => wpC_skip <| kpN [q2 0 cc13 v0, q3 4 cc7 (⟨([] : List Int), ([] : List Int)⟩ : XCube), q3 6 cc7 s9598.1, q2 11 cI (k5020 : Int), q2 12 cI x5021, q2 13 cI (k8900 : Int), q2 15 cI s9598.2, q2 69 cc14 x5016, q2 70 cI (x5016.length : Int), q2 71 cI (k5020 : Int), q2 78 cI (s5019.Cells.length : Int), q2 79 cI (k8900 : Int)] (by kernel_rfl) <| xn <| wpC_seq <| wpC_kp <| wpC_blk <| drw_s <| pst rfl <| fab rfl rfl rfl rfl ⟨rfl, pst rfl <| ldao rfl rfl rfl rfl rfl rfl ⟨rfl, pst rfl <| mvd rfl rfl ⟨rfl, getO_kp h fun x9659 i9660 g9661 h => pst rfl <| iar rfl rfl rfl rfl i9660 g9661 rfl ⟨rfl, pst rfl <| lda rfl rfl (Gt.fld rfl rfl (Gt.idx g9661 Gt.nil)) rfl rfl rfl ⟨rfl, pst rfl <| fab rfl rfl rfl rfl ⟨rfl, pst rfl <| ldao rfl rfl rfl rfl rfl rfl ⟨rfl, pst rfl <| mvd rfl rfl ⟨rfl, pst rfl <| mvd rfl rfl ⟨rfl, pst rfl <| mvd rfl rfl ⟨rfl, ckI_kp h fun i9662 h => pst rfl <| b_mul (k := .i64) rfl rfl i9662 ⟨rfl, ckI_kp h fun i9663 h => pst rfl <| b_sub (k := .i64) rfl rfl i9663 ⟨rfl, getO_kp h fun x9664 i9665 g9666 h => pst rfl <| iar rfl rfl rfl rfl i9665 g9666 rfl ⟨rfl, pst rfl <| lda rfl rfl (Gt.fld rfl rfl (Gt.idx g9666 Gt.nil)) rfl rfl rfl ⟨rfl, ckI_kp h fun i9667 h => pst rfl <| b_add (k := .i64) rfl rfl i9667 ⟨rfl, pst rfl <| iar rfl rfl rfl rfl i9660 g9661 rfl ⟨rfl, preN <| x_sta (cc7.enc (⟨s9598.1.Sizes, (s9598.1.Cells.set ((k8900 : Int)).toNat (x9659 + x9664))⟩ : XCube)) (ss rfl rfl) rfl rfl (Ln.fld rfl rfl (Ln.idx g9661 Ln.nil) rfl) (Cd.h_sz cI _) rfl <| sq [q2 0 cc13 v0, q3 4 cc7 (⟨([] : List Int), ([] : List Int)⟩ : XCube), q3 6 cc7 (⟨s9598.1.Sizes, (s9598.1.Cells.set ((k8900 : Int)).toNat (x9659 + x9664))⟩ : XCube), q2 11 cI (k5020 : Int), q2 12 cI x5021, q2 13 cI (k8900 : Int), q2 15 cI s9598.2, q2 69 cc14 x5016, q2 70 cI (x5016.length : Int), q2 71 cI (k5020 : Int), q2 78 cI (s5019.Cells.length : Int), q2 79 cI (k8900 : Int)] <|
  xbb <| kpN [q2 0 cc13 v0, q3 4 cc7 (⟨([] : List Int), ([] : List Int)⟩ : XCube), q3 6 cc7 (⟨s9598.1.Sizes, (s9598.1.Cells.set ((k8900 : Int)).toNat (x9659 + x9664))⟩ : XCube), q2 11 cI (k5020 : Int), q2 12 cI x5021, q2 13 cI (k8900 : Int), q2 15 cI s9598.2, q2 69 cc14 x5016, q2 70 cI (x5016.length : Int), q2 71 cI (k5020 : Int), q2 78 cI (s5019.Cells.length : Int), q2 79 cI (k8900 : Int)] (by kernel_rfl) <| xn <| reg_s <| st rfl <| mvd rfl rfl <| ckI_k h fun i9668 h => st rfl <| b_add (k := .i64) rfl rfl i9668 <| x_asg (ss rfl rfl) <| sq [q2 0 cc13 v0, q3 4 cc7 (⟨([] : List Int), ([] : List Int)⟩ : XCube), q3 6 cc7 (⟨s9598.1.Sizes, (s9598.1.Cells.set ((k8900 : Int)).toNat (x9659 + x9664))⟩ : XCube), q2 11 cI (k5020 : Int), q2 12 cI x5021, q2 13 cI (k8900 : Int), q2 15 cI (s9598.2 + (1 : Int)), q2 69 cc14 x5016, q2 70 cI (x5016.length : Int), q2 71 cI (k5020 : Int), q2 78 cI (s5019.Cells.length : Int), q2 79 cI (k8900 : Int)] <|
  xn <| hn9646 ((⟨s9598.1.Sizes, (s9598.1.Cells.set ((k8900 : Int)).toNat (x9659 + x9664))⟩ : XCube), (s9598.2 + (1 : Int))) h⟩⟩⟩⟩⟩⟩⟩⟩⟩⟩⟩⟩⟩⟩⟩⟩)
  (fun b9649 h => wpC_exit <| xt <| xt <| xt <| xb <| xbb <| kpN [q2 0 cc13 v0, q3 4 cc7 (⟨([] : List Int), ([] : List Int)⟩ : XCube), q3 6 cc7 s9598.1, q2 11 cI (k5020 : Int), q2 12 cI x5021, q2 69 cc14 x5016, q2 70 cI (x5016.length : Int), q2 71 cI (k5020 : Int), q2 78 cI (s5019.Cells.length : Int), q2 79 cI (k8900 : Int)] (by kernel_rfl) <| xn <| reg_s <| st rfl <| b_inc rfl rfl l8898 hk8902 <| st rfl <| mvd rfl rfl <| sq [q2 0 cc13 v0, q3 4 cc7 (⟨([] : List Int), ([] : List Int)⟩ : XCube), q3 6 cc7 s9598.1, q2 11 cI (k5020 : Int), q2 12 cI x5021, q2 69 cc14 x5016, q2 70 cI (x5016.length : Int), q2 71 cI (k5020 : Int), q2 78 cI (s5019.Cells.length : Int), q2 79 cI ((k8900 + 1 : Nat) : Int)] <|
  xn <| hn9409 s9598.1 h))⟩⟩⟩⟩⟩⟩⟩⟩⟩⟩⟩)⟩⟩⟩⟩⟩⟩⟩⟩⟩⟩)))
  (fun G366 nx364 k284 s283 x285 hk286 hx287 hn365 h => wpC_seq <| reg_s <| st rfl <| b_lss (k := .i64) rfl rfl <| sq [q2 0 cc13 v0, q2 1 cc13 v1, q3 4 cc7 (⟨([] : List Int), ([] : List Int)⟩ : XCube), q3 6 cc7 s283.1, q2 9 cI s283.2, q2 48 cI ((List.replicate (x9).toNat (0 : Int)).length : Int), q2 49 cI (k284 : Int), q2 50 cB (decide ((k284 : Int) < ((List.replicate (x9).toNat (0 : Int)).length : Int)))] <|
  xn <| wpC_seq <| wpC_kp <| cnd1 rfl (dlt hk286) <| wpC_skip <| kpN [q2 0 cc13 v0, q2 1 cc13 v1, q3 4 cc7 (⟨([] : List Int), ([] : List Int)⟩ : XCube), q3 6 cc7 s283.1, q2 9 cI s283.2, q2 48 cI ((List.replicate (x9).toNat (0 : Int)).length : Int), q2 49 cI (k284 : Int)] (by kernel_rfl) <| xn <| wpC_seq <| wpC_kp <| wpC_blk <| wpC_seq <| reg_s <| st rfl <| mvd rfl rfl <| x_asg (ss rfl rfl) <| sq [q2 0 cc13 v0, q2 1 cc13 v1, q3 4 cc7 (⟨([] : List Int), ([] : List Int)⟩ : XCube), q3 6 cc7 s283.1, q2 9 cI s283.2, q2 10 cI (k284 : Int), q2 48 cI ((List.replicate (x9).toNat (0 : Int)).length : Int), q2 49 cI (k284 : Int)] <|
  xn <| wpC_seq <| reg_s <| st rfl <| mvd rfl rfl <| st rfl <| mvd rfl rfl <| st rfl <| mvd rfl rfl <| bnd h fun x9695 e9696 h => st rfl <| o_call (a1 (c := cc13) (tLs tK) rfl (a1 (c := cI) tK rfl a0)) (con_impl_indexOf e9696) (.inl (so1 (sLo sK) so0)) <| bnd h fun x9697 e9698 h => st rfl <| o_call (a1 (c := cc13) (tLs tK) rfl (a1 (c := cc14) (tLo tK) rfl a0)) (con_impl_isBase e9698) (.inl (so1 sB so0)) <| sq [q2 0 cc13 v0, q2 1 cc13 v1, q3 4 cc7 (⟨([] : List Int), ([] : List Int)⟩ : XCube), q3 6 cc7 s283.1, q2 9 cI s283.2, q2 10 cI (k284 : Int), q2 48 cI ((List.replicate (x9).toNat (0 : Int)).length : Int), q2 49 cI (k284 : Int), q2 56 cB x9697] <|
  xn <| cnd rfl h (fun b9699 h => wpC_seq <| drw_s <| pst rfl <| fab rfl rfl rfl rfl ⟨rfl, pst rfl <| ldao rfl rfl rfl rfl rfl rfl ⟨rfl, pst rfl <| mvd rfl rfl ⟨rfl, pst rfl <| mvd rfl rfl ⟨rfl, pst rfl <| mvd rfl rfl ⟨rfl, getO_kp h fun x9706 i9707 g9708 h => pst rfl <| ias rfl rfl i9707 g9708 rfl ⟨rfl, pst rfl <| ldi rfl rfl rfl rfl ⟨rfl, getO_kp h fun x9709 i9710 g9711 h => pst rfl <| iar rfl rfl rfl rfl i9710 g9711 rfl ⟨rfl, preN <| x_sta (cc7.enc (⟨s283.1.Sizes, (s283.1.Cells.set ((k284 : Int)).toNat x9706)⟩ : XCube)) (ss rfl rfl) rfl rfl (Ln.fld rfl rfl (Ln.idx g9711 Ln.nil) rfl) (Cd.h_sz cI _) rfl <| sq [q2 0 cc13 v0, q2 1 cc13 v1, q3 4 cc7 (⟨([] : List Int), ([] : List Int)⟩ : XCube), q3 6 cc7 (⟨s283.1.Sizes, (s283.1.Cells.set ((k284 : Int)).toNat x9706)⟩ : XCube), q2 9 cI s283.2, q2 48 cI ((List.replicate (x9).toNat (0 : Int)).length : Int), q2 49 cI (k284 : Int)] <|
  xn <| reg_s <| st rfl <| mvd rfl rfl <| ckI_k h fun i9712 h => st rfl <| b_add (k := .i64) rfl rfl i9712 <| x_asg (ss rfl rfl) <| sq [q2 0 cc13 v0, q2 1 cc13 v1, q3 4 cc7 (⟨([] : List Int), ([] : List Int)⟩ : XCube), q3 6 cc7 (⟨s283.1.Sizes, (s283.1.Cells.set ((k284 : Int)).toNat x9706)⟩ : XCube), q2 9 cI (s283.2 + (1 : Int)), q2 48 cI ((List.replicate (x9).toNat (0 : Int)).length : Int), q2 49 cI (k284 : Int)] <|
  xbb <| kpN [q2 0 cc13 v0, q2 1 cc13 v1, q3 4 cc7 (⟨([] : List Int), ([] : List Int)⟩ : XCube), q3 6 cc7 (⟨s283.1.Sizes, (s283.1.Cells.set ((k284 : Int)).toNat x9706)⟩ : XCube), q2 9 cI (s283.2 + (1 : Int)), q2 48 cI ((List.replicate (x9).toNat (0 : Int)).length : Int), q2 49 cI (k284 : Int)] (by kernel_rfl) <| xn <| reg_s <| st rfl <| b_inc rfl rfl l282 hk286 <| st rfl <| mvd rfl rfl <| sq [q2 0 cc13 v0, q2 1 cc13 v1, q3 4 cc7 (⟨([] : List Int), ([] : List Int)⟩ : XCube), q3 6 cc7 (⟨s283.1.Sizes, (s283.1.Cells.set ((k284 : Int)).toNat x9706)⟩ : XCube), q2 9 cI (s283.2 + (1 : Int)), q2 48 cI ((List.replicate (x9).toNat (0 : Int)).length : Int), q2 49 cI ((k284 + 1 : Nat) : Int)] <|
  xn <| hn365 ((⟨s283.1.Sizes, (s283.1.Cells.set ((k284 : Int)).toNat x9706)⟩ : XCube), (s283.2 + (1 : Int))) h⟩⟩⟩⟩⟩⟩⟩⟩)
  (fun b9699 h => wpC_skip <| xbb <| kpN [q2 0 cc13 v0, q2 1 cc13 v1, q3 4 cc7 (⟨([] : List Int), ([] : List Int)⟩ : XCube), q3 6 cc7 s283.1, q2 9 cI s283.2, q2 48 cI ((List.replicate (x9).toNat (0 : Int)).length : Int), q2 49 cI (k284 : Int)] (by kernel_rfl) <| xn <| reg_s <| st rfl <| b_inc rfl rfl l282 hk286 <| st rfl <| mvd rfl rfl <| sq [q2 0 cc13 v0, q2 1 cc13 v1, q3 4 cc7 (⟨([] : List Int), ([] : List Int)⟩ : XCube), q3 6 cc7 s283.1, q2 9 cI s283.2, q2 48 cI ((List.replicate (x9).toNat (0 : Int)).length : Int), q2 49 cI ((k284 + 1 : Nat) : Int)] <|
  xn <| hn365 (s283.1, s283.2) h)))))
  (fun G132 nx130 k86 s85 x87 hk88 hx89 hn131 h => wpC_seq <| reg_s <| st rfl <| b_lss (k := .i64) rfl rfl <| sq [q2 0 cc13 v0, q2 1 cc13 v1, q3 4 cc7 (⟨([] : List Int), ([] : List Int)⟩ : XCube), q3 6 cc7 (⟨x7, (List.replicate (x9).toNat (0 : Int))⟩ : XCube), q2 7 cI s85, q2 24 cI ((List.replicate (x9).toNat (0 : Int)).length : Int), q2 25 cI (k86 : Int), q2 26 cB (decide ((k86 : Int) < ((List.replicate (x9).toNat (0 : Int)).length : Int)))] <|
  xn <| wpC_seq <| wpC_kp <| cnd1 rfl (dlt hk88) <| wpC_skip <| kpN [q2 0 cc13 v0, q2 1 cc13 v1, q3 4 cc7 (⟨([] : List Int), ([] : List Int)⟩ : XCube), q3 6 cc7 (⟨x7, (List.replicate (x9).toNat (0 : Int))⟩ : XCube), q2 7 cI s85, q2 24 cI ((List.replicate (x9).toNat (0 : Int)).length : Int), q2 25 cI (k86 : Int)] (by kernel_rfl) <| xn <| wpC_seq <| wpC_kp <| wpC_blk <| wpC_seq <| reg_s <| st rfl <| mvd rfl rfl <| x_asg (ss rfl rfl) <| sq [q2 0 cc13 v0, q2 1 cc13 v1, q3 4 cc7 (⟨([] : List Int), ([] : List Int)⟩ : XCube), q3 6 cc7 (⟨x7, (List.replicate (x9).toNat (0 : Int))⟩ : XCube), q2 7 cI s85, q2 8 cI (k86 : Int), q2 24 cI ((List.replicate (x9).toNat (0 : Int)).length : Int), q2 25 cI (k86 : Int)] <|
  xn <| wpC_seq <| reg_s <| st rfl <| mvd rfl rfl <| st rfl <| mvd rfl rfl <| st rfl <| mvd rfl rfl <| bnd h fun x9727 e9728 h => st rfl <| o_call (a1 (c := cc13) (tLs tK) rfl (a1 (c := cI) tK rfl a0)) (con_impl_indexOf e9728) (.inl (so1 (sLo sK) so0)) <| bnd h fun x9729 e9730 h => st rfl <| o_call (a1 (c := cc13) (tLs tK) rfl (a1 (c := cc14) (tLo tK) rfl a0)) (con_impl_isBase e9730) (.inl (so1 sB so0)) <| sq [q2 0 cc13 v0, q2 1 cc13 v1, q3 4 cc7 (⟨([] : List Int), ([] : List Int)⟩ : XCube), q3 6 cc7 (⟨x7, (List.replicate (x9).toNat (0 : Int))⟩ : XCube), q2 7 cI s85, q2 24 cI ((List.replicate (x9).toNat (0 : Int)).length : Int), q2 25 cI (k86 : Int), q2 32 cB x9729] <|
  xn <| cnd rfl h (fun b9731 h => reg_s <| st rfl <| mvd rfl rfl <| ckI_k h fun i9732 h => st rfl <| b_add (k := .i64) rfl rfl i9732 <| x_asg (ss rfl rfl) <| sq [q2 0 cc13 v0, q2 1 cc13 v1, q3 4 cc7 (⟨([] : List Int), ([] : List Int)⟩ : XCube), q3 6 cc7 (⟨x7, (List.replicate (x9).toNat (0 : Int))⟩ : XCube), q2 7 cI (s85 + (1 : Int)), q2 24 cI ((List.replicate (x9).toNat (0 : Int)).length : Int), q2 25 cI (k86 : Int)] <|
  xbb <| kpN [q2 0 cc13 v0, q2 1 cc13 v1, q3 4 cc7 (⟨([] : List Int), ([] : List Int)⟩ : XCube), q3 6 cc7 (⟨x7, (List.replicate (x9).toNat (0 : Int))⟩ : XCube), q2 7 cI (s85 + (1 : Int)), q2 24 cI ((List.replicate (x9).toNat (0 : Int)).length : Int), q2 25 cI (k86 : Int)] (by kernel_rfl) <| xn <| reg_s <| st rfl <| b_inc rfl rfl l84 hk88 <| st rfl <| mvd rfl rfl <| sq [q2 0 cc13 v0, q2 1 cc13 v1, q3 4 cc7 (⟨([] : List Int), ([] : List Int)⟩ : XCube), q3 6 cc7 (⟨x7, (List.replicate (x9).toNat (0 : Int))⟩ : XCube), q2 7 cI (s85 + (1 : Int)), q2 24 cI ((List.replicate (x9).toNat (0 : Int)).length : Int), q2 25 cI ((k86 + 1 : Nat) : Int)] <|
  xn <| hn131 (s85 + (1 : Int)) h)
  (fun b9731 h => wpC_skip <| xbb <| kpN [q2 0 cc13 v0, q2 1 cc13 v1, q3 4 cc7 (⟨([] : List Int), ([] : List Int)⟩ : XCube), q3 6 cc7 (⟨x7, (List.replicate (x9).toNat (0 : Int))⟩ : XCube), q2 7 cI s85, q2 24 cI ((List.replicate (x9).toNat (0 : Int)).length : Int), q2 25 cI (k86 : Int)] (by kernel_rfl) <| xn <| reg_s <| st rfl <| b_inc rfl rfl l84 hk88 <| st rfl <| mvd rfl rfl <| sq [q2 0 cc13 v0, q2 1 cc13 v1, q3 4 cc7 (⟨([] : List Int), ([] : List Int)⟩ : XCube), q3 6 cc7 (⟨x7, (List.replicate (x9).toNat (0 : Int))⟩ : XCube), q2 7 cI s85, q2 24 cI ((List.replicate (x9).toNat (0 : Int)).length : Int), q2 25 cI ((k86 + 1 : Nat) : Int)] <|
  xn <| hn131 s85 h))

def rs_impl_CubeOf (r : (XCube × Bool)) : List D := [cc7.enc r.1, cB.enc r.2]
def m42 : MC := .seq (.reg [q1 4 (.alloc (.agg [.slice true [], .slice true []])),q1 5 (.asg (.c (.bool false)))] [0, 1, 4])
 (.seq (.kp [0, 1, 4] (.seq (.reg [q1 6 (.mv (.t 0)),q1 7 (.call 76 [(.t 6)]),q1 8 (.bin .eql (.t 7) (.c (.int .i64 0)))] [0, 1, 4, 8])
 (.cond (.t 8) (.seq (.reg [q1 9 (.bld [.slice true [], .slice true []] []),q0 (.st 4 (.t 9) 2),q1 5 (.asg (.c (.bool false)))] [4, 5])
 (.ret)) (.skip))))
 (.seq (.reg [q1 10 (.mv (.t 0)),q1 11 (.mv (.t 1)),q1 12 (.call 77 [(.t 10), (.t 11)]),q1 13 (.ext 12 0),q1 14 (.ext 12 1),q0 (.st 4 (.t 13) 2),q1 5 (.asg (.t 14))] [4, 5])
 (.ret)))
theorem con_impl_CubeOf {v0 : (List Int)} {v1 : (List Int)} {r : (XCube × Bool)} (h : sh_impl_CubeOf v0 v1 = some r) : Con Tryz.prog 42 [cc13.enc v0, cc13.enc v1] [] (rs_impl_CubeOf r) := by
 delta sh_impl_CubeOf at h
 refine top (out := none) (f := Tryz.f42) (m := m42) (rs := [.c 4 2 true, .t 5]) (by kernel_rfl) rfl (by kernel_rfl) (by kernel_rfl) (by kernel_rfl) (by kernel_rfl) (by kernel_rfl) ?_
 exact
  ini [q2 0 cc13 v0, q2 1 cc13 v1] rfl <| wpC_seq <| reg_s <| x_all cc7 (⟨([] : List Int), ([] : List Int)⟩ : XCube) rfl <| x_asg (sc cB false rfl) <| sq [q2 0 cc13 v0, q2 1 cc13 v1, q3 4 cc7 (⟨([] : List Int), ([] : List Int)⟩ : XCube)] <|
  xn <| wpC_seq <| wpC_kp <| wpC_seq <| reg_s <| st rfl <| mvd rfl rfl <| bnd h fun x8 e9 h => st rfl <| o_call (a1 (c := cc13) (tLs tK) rfl a0) (con_impl_cubeCells e9) (.inl (so1 sK so0)) <| st rfl <| b_eql (k := .i64) rfl rfl <| sq [q2 0 cc13 v0, q2 1 cc13 v1, q3 4 cc7 (⟨([] : List Int), ([] : List Int)⟩ : XCube), q2 8 cB (decide (x8 = (0 : Int)))] <|
  xn <| cnd rfl h (fun b10 h => wpC_seq <| reg_s <| x_bld (cc7.enc (⟨([] : List Int), ([] : List Int)⟩ : XCube)) t0 rfl rfl <| x_stb (so rfl rfl) rfl (Cd.h_sz _ _) rfl <| x_asg (sc cB false rfl) <| sq [q3 4 cc7 (⟨([] : List Int), ([] : List Int)⟩ : XCube), q2 5 cB false] <|
  xn <| wpC_ret <| rt <| rt <| re <| fin h (r2 rfl rfl rfl <| r1 (ss rfl rfl) <| r0) rfl)
  (fun b10 h => wpC_skip <| kpN [q2 0 cc13 v0, q2 1 cc13 v1, q3 4 cc7 (⟨([] : List Int), ([] : List Int)⟩ : XCube)] (by kernel_rfl) <| xn <| wpC_seq <| reg_s <| st rfl <| mvd rfl rfl <| st rfl <| mvd rfl rfl <| bnd h fun x13 e14 h => st rfl <| o_call (a1 (c := cc13) (tLs tK) rfl (a1 (c := cc13) (tLs tK) rfl a0)) (con_impl_cubeOf e14) (.inl (so1 (sXCube (sLo sK) (sLo sK)) (so1 sB so0))) <| x_ext rfl rfl <| x_ext rfl rfl <| x_stb (so rfl rfl) rfl (Cd.h_sz _ _) rfl <| x_asg (ss rfl rfl) <| sq [q3 4 cc7 x13.1, q2 5 cB x13.2] <|
  xn <| wpC_ret <| re <| fin h (r2 rfl rfl rfl <| r1 (ss rfl rfl) <| r0) rfl)
def rs_impl_CubeOfTable (r : (XCube × Bool)) : List D := [cc7.enc r.1, cB.enc r.2]
def m13 : MC := .seq (.reg [q1 4 (.box (.t 0)),q1 6 (.box (.t 2)),q1 8 (.alloc (.agg [.slice true [], .slice true []])),q1 9 (.asg (.c (.bool false)))] [1, 3, 4, 6, 8])
 (.seq (.kp [1, 3, 4, 6, 8] (.seq (.reg [q1 13 (.ld 4 1 true),q1 14 (.mv (.t 1)),q1 15 (.ld 6 4 true),q1 16 (.call 38 [(.t 13), (.t 14), (.t 15)]),q1 17 (.nt (.t 16)),q1 18 (.mv (.t 17)),
  ⟨some 19, .ld 4 1 true, some (18, false)⟩,
  ⟨some 20, .mv (.t 1), some (18, false)⟩,
  ⟨some 21, .mv (.t 3), some (18, false)⟩,
  ⟨some 22, .call 39 [(.t 19), (.t 20), (.t 21)], some (18, false)⟩,
  ⟨some 23, .nt (.t 22), some (18, false)⟩,q1 24 (.pick (.t 18) (.c (.bool true)) (.t 23))] [1, 3, 4, 6, 8, 24])
 (.cond (.t 24) (.seq (.reg [q1 25 (.bld [.slice true [], .slice true []] []),q0 (.st 8 (.t 25) 2),q1 9 (.asg (.c (.bool false)))] [8, 9])
 (.ret)) (.skip))))
 (.seq (.reg [q1 26 (.ld 4 1 true),q1 27 (.fa 6 0 0),q1 28 (.ld 27 1 false),q1 29 (.call 40 [(.t 26), (.t 28)]),q1 30 (.len false (.t 29)),q1 31 (.bsl [(.t 30)] 1),q1 10 (.asg (.t 31))] [1, 3, 4, 6, 8, 10])
 (.seq (.kp [1, 3, 4, 6, 8, 10] (.seq (.reg [q1 32 (.mv (.t 1)),q1 33 (.ld 6 4 true),q1 34 (.call 41 [(.t 32), (.t 33)]),q1 35 (.len false (.t 34)),q1 36 (.mv (.c (.int .i64 0)))] [1, 3, 4, 6, 8, 10, 34, 35, 36])
 (.blk 0 (.loop (.seq (.reg [q1 37 (.bin .lss (.t 36) (.t 35))] [1, 3, 4, 6, 8, 10, 34, 35, 36, 37])
 (.seq (.kp [1, 3, 4, 6, 8, 10, 34, 35, 36] (.cond (.t 37) (.skip) (.exit 0)))
 (.seq (.kp [1, 3, 4, 6, 8, 10, 34, 35, 36] (.blk 1 (.seq (.reg [q1 38 (.ia 34 (.t 36) 2),q1 39 (.ld 38 2 true),q1 12 (.alloc (.agg [.str [], .int .i64 0])),q0 (.st 12 (.t 39) 2)] [1, 3, 4, 6, 8, 10, 12, 34, 35, 36])
 (.reg [q1 40 (.mv (.t 10)),q1 41 (.fa 12 1 1),q1 42 (.ld 41 1 false),q1 43 (.bsl [(.t 42)] 1),q1 44 (.app (.t 40) (.t 43) 1),q1 10 (.asg (.t 44))] [1, 3, 4, 6, 8, 10, 34, 35, 36]))))
 (.reg [q1 45 (.bin .add (.t 36) (.c (.int .i64 1))),q1 36 (.mv (.t 45))] [1, 3, 4, 6, 8, 10, 34, 35, 36]))))))))
 (.seq (.reg [q1 46 (.mv (.t 10)),q1 47 (.ld 4 1 true),q1 48 (.mv (.t 1)),q1 49 (.ld 6 4 true),q1 50 (.mv (.t 3)),q1 51 (.call 43 [(.t 47), (.t 48), (.t 49), (.t 50)]),q1 52 (.call 42 [(.t 46), (.t 51)]),q1 53 (.ext 52 0),q1 54 (.ext 52 1),q0 (.st 8 (.t 53) 2),q1 9 (.asg (.t 54))] [8, 9])
 (.ret)))))
theorem con_impl_CubeOfTable {v0 : XGeo} {v1 : (List XVariable)} {v2 : XTable} {v3 : (List XRecord)} {r : (XCube × Bool)} (h : sh_impl_CubeOfTable v0 v1 v2 v3 = some r) : Con Tryz.prog 13 [cc10.enc v0, cc6.enc v1, cc0.enc v2, cc1.enc v3] [] (rs_impl_CubeOfTable r) := by
 delta sh_impl_CubeOfTable at h
 refine top (out := none) (f := Tryz.f13) (m := m13) (rs := [.c 8 2 true, .t 9]) (by kernel_rfl) rfl (by kernel_rfl) (by kernel_rfl) (by kernel_rfl) (by kernel_rfl) (by kernel_rfl) ?_
 exact
  ini [q2 0 cc10 v0, q2 1 cc6 v1, q2 2 cc0 v2, q2 3 cc1 v3] rfl <| wpC_seq <| reg_s <| x_box (ss rfl rfl) <| x_box (ss rfl rfl) <| x_all cc7 (⟨([] : List Int), ([] : List Int)⟩ : XCube) rfl <| x_asg (sc cB false rfl) <| sq [q2 1 cc6 v1, q2 3 cc1 v3, q3 4 cc10 v0, q3 6 cc0 v2, q3 8 cc7 (⟨([] : List Int), ([] : List Int)⟩ : XCube)] <|
  xn <| wpC_seq <| wpC_kp <| wpC_seq <| reg_s <| st rfl <| ldb rfl rfl rfl rfl <| st rfl <| mvd rfl rfl <| st rfl <| ldb rfl rfl rfl rfl <| bnd h fun x17 e18 h => st rfl <| o_call (a1 (c := cc10) (tXGeo (tLs tK)) rfl (a1 (c := cc6) (tLs (tXVariable tS tK)) rfl (a1 (c := cc0) (tXTable tK (tLs tK) (tLs tK) tK) rfl a0))) (con_impl_areTabled e18) (.inl (so1 sB so0)) <| st rfl <| o_nt rfl <| st rfl <| mvd rfl rfl <| ite_k h (fun b19 h => gf rfl b19 <| gf rfl b19 <| gf rfl b19 <| gf rfl b19 <| gf rfl b19 <| st rfl <| pick1 rfl b19 (cd := cB) (v := true) rfl rfl <| sq [q2 1 cc6 v1, q2 3 cc1 v3, q3 4 cc10 v0, q3 6 cc0 v2, q3 8 cc7 (⟨([] : List Int), ([] : List Int)⟩ : XCube), q2 24 cB true] <|
  xn <| cnd1 rfl rfl <| wpC_seq <| reg_s <| x_bld (cc7.enc (⟨([] : List Int), ([] : List Int)⟩ : XCube)) t0 rfl rfl <| x_stb (so rfl rfl) rfl (Cd.h_sz _ _) rfl <| x_asg (sc cB false rfl) <| sq [q3 8 cc7 (⟨([] : List Int), ([] : List Int)⟩ : XCube), q2 9 cB false] <|
  xn <| wpC_ret <| rt <| rt <| re <| fin h (r2 rfl rfl rfl <| r1 (ss rfl rfl) <| r0) rfl)
  (fun b19 h => gt' rfl b19 <| st rfl <| ldb rfl rfl rfl rfl <| gt' rfl b19 <| st rfl <| mvd rfl rfl <| gt' rfl b19 <| st rfl <| mvd rfl rfl <| gt' rfl b19 <| bnd h fun x20 e21 h => st rfl <| o_call (a1 (c := cc10) (tXGeo (tLs tK)) rfl (a1 (c := cc6) (tLs (tXVariable tS tK)) rfl (a1 (c := cc1) (tLs (tXRecord tK tK (tLs tK))) rfl a0))) (con_impl_isSurvey e21) (.inl (so1 sB so0)) <| gt' rfl b19 <| st rfl <| o_nt rfl <| st rfl <| pick0 rfl b19 (cd := cB) (v := (!x20)) rfl rfl <| sq [q2 1 cc6 v1, q2 3 cc1 v3, q3 4 cc10 v0, q3 6 cc0 v2, q3 8 cc7 (⟨([] : List Int), ([] : List Int)⟩ : XCube), q2 24 cB (!x20)] <|
  xn <| cnd rfl h (fun b22 h => wpC_seq <| reg_s <| x_bld (cc7.enc (⟨([] : List Int), ([] : List Int)⟩ : XCube)) t0 rfl rfl <| x_stb (so rfl rfl) rfl (Cd.h_sz _ _) rfl <| x_asg (sc cB false rfl) <| sq [q3 8 cc7 (⟨([] : List Int), ([] : List Int)⟩ : XCube), q2 9 cB false] <|
  xn <| wpC_ret <| rt <| rt <| re <| fin h (r2 rfl rfl rfl <| r1 (ss rfl rfl) <| r0) rfl)
  (fun b22 h => wpC_skip <| kpN [q2 1 cc6 v1, q2 3 cc1 v3, q3 4 cc10 v0, q3 6 cc0 v2, q3 8 cc7 (⟨([] : List Int), ([] : List Int)⟩ : XCube)] (by kernel_rfl) <| xn <| wpC_seq <| reg_s <| st rfl <| ldb rfl rfl rfl rfl <| st rfl <| fab rfl rfl rfl rfl <| st rfl <| lda rfl rfl rfl rfl rfl rfl <| bnd h fun x26 e27 h => st rfl <| o_call (a1 (c := cc10) (tXGeo (tLs tK)) rfl (a1 (c := cI) tK rfl a0)) (con_impl_areasAt e27) (.inl (so1 (sLo sK) so0)) <| stw rfl <| leno rfl fun l28 => x_bsl cI [(x26.length : Int)] (t1 (ss rfl rfl) rfl t0) rfl rfl <| x_asg (so rfl rfl) <| sq [q2 1 cc6 v1, q2 3 cc1 v3, q3 4 cc10 v0, q3 6 cc0 v2, q3 8 cc7 (⟨([] : List Int), ([] : List Int)⟩ : XCube), q2 10 cc14 [(x26.length : Int)]] <|
  xn <| wpC_seq <| wpC_kp <| wpC_seq <| reg_s <| st rfl <| mvd rfl rfl <| st rfl <| ldb rfl rfl rfl rfl <| bnd h fun x52 e53 h => st rfl <| o_call (a1 (c := cc6) (tLs (tXVariable tS tK)) rfl (a1 (c := cc0) (tXTable tK (tLs tK) (tLs tK) tK) rfl a0)) (con_impl_crossed e53) (.inl (so1 (sLo (sXVariable sS sK)) so0)) <| stw rfl <| leno rfl fun l54 => st rfl <| mvc cI (0 : Int) rfl <| sq [q2 1 cc6 v1, q2 3 cc1 v3, q3 4 cc10 v0, q3 6 cc0 v2, q3 8 cc7 (⟨([] : List Int), ([] : List Int)⟩ : XCube), q2 10 cc14 [(x26.length : Int)], q2 34 cc9 x52, q2 35 cI (x52.length : Int), q2 36 cI (0 : Int)] <|
  xn <| wpC_blk <| lpR (fun (k56 : Nat) (s55 : (List Int)) => [q2 1 cc6 v1, q2 3 cc1 v3, q3 4 cc10 v0, q3 6 cc0 v2, q3 8 cc7 (⟨([] : List Int), ([] : List Int)⟩ : XCube), q2 10 cc14 s55, q2 34 cc9 x52, q2 35 cI (x52.length : Int), q2 36 cI (k56 : Int)]) [(x26.length : Int)] rfl h
  (fun G66 s55 h => wpC_seq <| reg_s <| st rfl <| b_lss (k := .i64) rfl rfl <| sq [q2 1 cc6 v1, q2 3 cc1 v3, q3 4 cc10 v0, q3 6 cc0 v2, q3 8 cc7 (⟨([] : List Int), ([] : List Int)⟩ : XCube), q2 10 cc14 s55, q2 34 cc9 x52, q2 35 cI (x52.length : Int), q2 36 cI (x52.length : Int), q2 37 cB (decide ((x52.length : Int) < (x52.length : Int)))] <|
  xn <| wpC_seq <| wpC_kp <| cnd0 rfl (dlf _) <| wpC_exit <| xt <| xt <| xt <| xb <| kpN [q2 1 cc6 v1, q2 3 cc1 v3, q3 4 cc10 v0, q3 6 cc0 v2, q3 8 cc7 (⟨([] : List Int), ([] : List Int)⟩ : XCube), q2 10 cc14 s55] (by kernel_rfl) <| xn <| wpC_seq <| reg_s <| st rfl <| mvo rfl rfl <| st rfl <| ldb rfl rfl rfl rfl <| st rfl <| mvd rfl rfl <| st rfl <| ldb rfl rfl rfl rfl <| st rfl <| mvd rfl rfl <| bnd h fun x71 e72 h => st rfl <| o_call (a1 (c := cc10) (tXGeo (tLs tK)) rfl (a1 (c := cc6) (tLs (tXVariable tS tK)) rfl (a1 (c := cc0) (tXTable tK (tLs tK) (tLs tK) tK) rfl (a1 (c := cc1) (tLs (tXRecord tK tK (tLs tK))) rfl a0)))) (con_impl_tableOf e72) (.inl (so1 (sLo sK) so0)) <| bnd h fun x73 e74 h => st rfl <| o_call (a1 (c := cc14) (tLo tK) rfl (a1 (c := cc14) (tLo tK) rfl a0)) (con_impl_CubeOf e74) (.inl (so1 (sXCube (sLo sK) (sLo sK)) (so1 sB so0))) <| x_ext rfl rfl <| x_ext rfl rfl <| x_stb (so rfl rfl) rfl (Cd.h_sz _ _) rfl <| x_asg (ss rfl rfl) <| sq [q3 8 cc7 x73.1, q2 9 cB x73.2] <|
  xn <| wpC_ret <| re <| fin h (r2 rfl rfl rfl <| r1 (ss rfl rfl) <| r0) rfl)
  (fun G66 nx64 k56 s55 x57 hk58 hx59 hn65 h => wpC_seq <| reg_s <| st rfl <| b_lss (k := .i64) rfl rfl <| sq [q2 1 cc6 v1, q2 3 cc1 v3, q3 4 cc10 v0, q3 6 cc0 v2, q3 8 cc7 (⟨([] : List Int), ([] : List Int)⟩ : XCube), q2 10 cc14 s55, q2 34 cc9 x52, q2 35 cI (x52.length : Int), q2 36 cI (k56 : Int), q2 37 cB (decide ((k56 : Int) < (x52.length : Int)))] <|
  xn <| wpC_seq <| wpC_kp <| cnd1 rfl (dlt hk58) <| wpC_skip <| kpN [q2 1 cc6 v1, q2 3 cc1 v3, q3 4 cc10 v0, q3 6 cc0 v2, q3 8 cc7 (⟨([] : List Int), ([] : List Int)⟩ : XCube), q2 10 cc14 s55, q2 34 cc9 x52, q2 35 cI (x52.length : Int), q2 36 cI (k56 : Int)] (by kernel_rfl) <| xn <| wpC_seq <| wpC_kp <| wpC_blk <| wpC_seq <| reg_s <| st rfl <| iao rfl rfl (Int.natCast_nonneg _) hx59 rfl <| st rfl <| lda rfl rfl (Gt.idx hx59 Gt.nil) rfl rfl rfl <| x_all cc11 (⟨([] : List UInt8), (0 : Int)⟩ : XVariable) rfl <| x_stb (ss rfl rfl) rfl (Cd.h_sz _ _) rfl <| sq [q2 1 cc6 v1, q2 3 cc1 v3, q3 4 cc10 v0, q3 6 cc0 v2, q3 8 cc7 (⟨([] : List Int), ([] : List Int)⟩ : XCube), q2 10 cc14 s55, q3 12 cc11 x57, q2 34 cc9 x52, q2 35 cI (x52.length : Int), q2 36 cI (k56 : Int)] <|
  xn <| reg_s <| st rfl <| mvo rfl rfl <| st rfl <| fab rfl rfl rfl rfl <| st rfl <| lda rfl rfl rfl rfl rfl rfl <| x_bsl cI [x57.Levels] (t1 (ss rfl rfl) rfl t0) rfl rfl <| lnO_k h fun l76 h => x_app (sr rfl rfl) (to rfl rfl) l76 rfl <| x_asg (so rfl rfl) <| sq [q2 1 cc6 v1, q2 3 cc1 v3, q3 4 cc10 v0, q3 6 cc0 v2, q3 8 cc7 (⟨([] : List Int), ([] : List Int)⟩ : XCube), q2 10 cc14 (s55 ++ [x57.Levels]), q2 34 cc9 x52, q2 35 cI (x52.length : Int), q2 36 cI (k56 : Int)] <|
  xbb <| kpN [q2 1 cc6 v1, q2 3 cc1 v3, q3 4 cc10 v0, q3 6 cc0 v2, q3 8 cc7 (⟨([] : List Int), ([] : List Int)⟩ : XCube), q2 10 cc14 (s55 ++ [x57.Levels]), q2 34 cc9 x52, q2 35 cI (x52.length : Int), q2 36 cI (k56 : Int)] (by kernel_rfl) <| xn <| reg_s <| st rfl <| b_inc rfl rfl l54 hk58 <| st rfl <| mvd rfl rfl <| sq [q2 1 cc6 v1, q2 3 cc1 v3, q3 4 cc10 v0, q3 6 cc0 v2, q3 8 cc7 (⟨([] : List Int), ([] : List Int)⟩ : XCube), q2 10 cc14 (s55 ++ [x57.Levels]), q2 34 cc9 x52, q2 35 cI (x52.length : Int), q2 36 cI ((k56 + 1 : Nat) : Int)] <|
  xn <| hn65 (s55 ++ [x57.Levels]) h)))

def rs_laws_eqGeo (r : Bool) : List D := [cB.enc r]
def m15 : MC := .seq (.reg [q1 2 (.box (.t 0)),q1 3 (.box (.t 1)),q1 4 (.asg (.c (.bool false)))] [2, 3])
 (.seq (.kp [] (.seq (.reg [q1 5 (.fa 2 0 0),q1 6 (.ld 5 1 false),q1 7 (.fa 3 0 0),q1 8 (.ld 7 1 false),q1 9 (.call 44 [(.t 6), (.t 8)]),q1 10 (.nt (.t 9))] [10])
 (.cond (.t 10) (.seq (.reg [q1 4 (.asg (.c (.bool false)))] [4])
 (.ret)) (.skip))))
 (.seq (.reg [q1 4 (.asg (.c (.bool true)))] [4])
 (.ret)))
theorem con_laws_eqGeo {v0 : XGeo} {v1 : XGeo} {r : Bool} (h : sh_laws_eqGeo v0 v1 = some r) : Con Tryz.prog 15 [cc10.enc v0, cc10.enc v1] [] (rs_laws_eqGeo r) := by
 delta sh_laws_eqGeo at h
 refine top (out := none) (f := Tryz.f15) (m := m15) (rs := [.t 4]) (by kernel_rfl) rfl (by kernel_rfl) (by kernel_rfl) (by kernel_rfl) (by kernel_rfl) (by kernel_rfl) ?_
 exact
  ini [q2 0 cc10 v0, q2 1 cc10 v1] rfl <| wpC_seq <| reg_s <| x_box (ss rfl rfl) <| x_box (ss rfl rfl) <| x_asg (sc cB false rfl) <| sq [q3 2 cc10 v0, q3 3 cc10 v1] <|
  xn <| wpC_seq <| wpC_kp <| wpC_seq <| reg_s <| st rfl <| fab rfl rfl rfl rfl <| st rfl <| lda rfl rfl rfl rfl rfl rfl <| st rfl <| fab rfl rfl rfl rfl <| st rfl <| lda rfl rfl rfl rfl rfl rfl <| bnd h fun x8 e9 h => st rfl <| o_call (a1 (c := cc13) (tLs tK) rfl (a1 (c := cc13) (tLs tK) rfl a0)) (con_laws_eqIntS e9) (.inl (so1 sB so0)) <| st rfl <| o_nt rfl <| sq [q2 10 cB (!x8)] <|
  xn <| cnd rfl h (fun b10 h => wpC_seq <| reg_s <| x_asg (sc cB false rfl) <| sq [q2 4 cB false] <|
  xn <| wpC_ret <| rt <| rt <| re <| fin h (r1 (ss rfl rfl) <| r0) rfl)
  (fun b10 h => wpC_skip <| kpN [] (by kernel_rfl) <| xn <| wpC_seq <| reg_s <| x_asg (sc cB true rfl) <| sq [q2 4 cB true] <|
  xn <| wpC_ret <| re <| fin h (r1 (ss rfl rfl) <| r0) rfl)

def rs_laws_eqVariable (r : Bool) : List D := [cB.enc r]
def m45 : MC := .seq (.reg [q1 2 (.box (.t 0)),q1 3 (.box (.t 1)),q1 4 (.asg (.c (.bool false)))] [2, 3])
 (.seq (.kp [2, 3] (.seq (.reg [q1 5 (.fa 2 0 0),q1 6 (.ld 5 1 false),q1 7 (.fa 3 0 0),q1 8 (.ld 7 1 false),q1 9 (.bin .neq (.t 6) (.t 8))] [2, 3, 9])
 (.cond (.t 9) (.seq (.reg [q1 4 (.asg (.c (.bool false)))] [4])
 (.ret)) (.skip))))
 (.seq (.kp [] (.seq (.reg [q1 10 (.fa 2 1 1),q1 11 (.ld 10 1 false),q1 12 (.fa 3 1 1),q1 13 (.ld 12 1 false),q1 14 (.bin .neq (.t 11) (.t 13))] [14])
 (.cond (.t 14) (.seq (.reg [q1 4 (.asg (.c (.bool false)))] [4])
 (.ret)) (.skip))))
 (.seq (.reg [q1 4 (.asg (.c (.bool true)))] [4])
 (.ret))))
theorem con_laws_eqVariable {v0 : XVariable} {v1 : XVariable} {r : Bool} (h : sh_laws_eqVariable v0 v1 = some r) : Con Tryz.prog 45 [cc11.enc v0, cc11.enc v1] [] (rs_laws_eqVariable r) := by
 delta sh_laws_eqVariable at h
 refine top (out := none) (f := Tryz.f45) (m := m45) (rs := [.t 4]) (by kernel_rfl) rfl (by kernel_rfl) (by kernel_rfl) (by kernel_rfl) (by kernel_rfl) (by kernel_rfl) ?_
 exact
  ini [q2 0 cc11 v0, q2 1 cc11 v1] rfl <| wpC_seq <| reg_s <| x_box (ss rfl rfl) <| x_box (ss rfl rfl) <| x_asg (sc cB false rfl) <| sq [q3 2 cc11 v0, q3 3 cc11 v1] <|
  xn <| wpC_seq <| wpC_kp <| wpC_seq <| reg_s <| st rfl <| fab rfl rfl rfl rfl <| st rfl <| lda rfl rfl rfl rfl rfl rfl <| st rfl <| fab rfl rfl rfl rfl <| st rfl <| lda rfl rfl rfl rfl rfl rfl <| st rfl <| b_sne rfl rfl <| sq [q3 2 cc11 v0, q3 3 cc11 v1, q2 9 cB (decide (v0.Name ≠ v1.Name))] <|
  xn <| cnd rfl h (fun b2 h => wpC_seq <| reg_s <| x_asg (sc cB false rfl) <| sq [q2 4 cB false] <|
  xn <| wpC_ret <| rt <| rt <| re <| fin h (r1 (ss rfl rfl) <| r0) rfl)
  (fun b2 h => wpC_skip <| kpN [q3 2 cc11 v0, q3 3 cc11 v1] (by kernel_rfl) <| xn <| wpC_seq <| wpC_kp <| wpC_seq <| reg_s <| st rfl <| fab rfl rfl rfl rfl <| st rfl <| lda rfl rfl rfl rfl rfl rfl <| st rfl <| fab rfl rfl rfl rfl <| st rfl <| lda rfl rfl rfl rfl rfl rfl <| st rfl <| b_neq (k := .i64) rfl rfl <| sq [q2 14 cB (decide (v0.Levels ≠ v1.Levels))] <|
  xn <| cnd rfl h (fun b4 h => wpC_seq <| reg_s <| x_asg (sc cB false rfl) <| sq [q2 4 cB false] <|
  xn <| wpC_ret <| rt <| rt <| re <| fin h (r1 (ss rfl rfl) <| r0) rfl)
  (fun b4 h => wpC_skip <| kpN [] (by kernel_rfl) <| xn <| wpC_seq <| reg_s <| x_asg (sc cB true rfl) <| sq [q2 4 cB true] <|
  xn <| wpC_ret <| re <| fin h (r1 (ss rfl rfl) <| r0) rfl))

def rs_laws_eqVariableS (r : Bool) : List D := [cB.enc r]
def m16 : MC := .seq (.reg [q1 4 (.asg (.c (.bool false)))] [0, 1])
 (.seq (.kp [0, 1] (.seq (.reg [q1 6 (.mv (.t 0)),q1 7 (.len false (.t 6)),q1 8 (.mv (.t 1)),q1 9 (.len false (.t 8)),q1 10 (.bin .neq (.t 7) (.t 9))] [0, 1, 10])
 (.cond (.t 10) (.seq (.reg [q1 4 (.asg (.c (.bool false)))] [4])
 (.ret)) (.skip))))
 (.seq (.kp [] (.seq (.reg [q1 5 (.asg (.c (.int .i64 0)))] [0, 1, 5])
 (.blk 0 (.loop (.seq (.kp [0, 1, 5] (.seq (.reg [q1 11 (.mv (.t 5)),q1 12 (.mv (.t 0)),q1 13 (.len false (.t 12)),q1 14 (.bin .lss (.t 11) (.t 13))] [0, 1, 5, 14])
 (.cond (.t 14) (.skip) (.exit 0))))
 (.seq (.kp [0, 1, 5] (.blk 1 (.seq (.drw [⟨0, q1 17 (.mv (.t 0)), [18, 19, 20, 21, 22, 23, 24, 25, 26]⟩,
  ⟨1, q1 18 (.mv (.t 5)), [17, 19, 20, 21, 22, 23, 24, 25, 26]⟩,
  ⟨2, q1 19 (.ia 17 (.t 18) 2), [20, 21, 22, 23, 24, 25, 26]⟩,
  ⟨3, q1 20 (.ld 19 2 true), [21, 22, 23, 24, 25, 26]⟩,
  ⟨4, q1 21 (.mv (.t 1)), [17, 18, 19, 20, 22, 23, 24, 25, 26]⟩,
  ⟨5, q1 22 (.mv (.t 5)), [17, 18, 19, 20, 21, 23, 24, 25, 26]⟩,
  ⟨6, q1 23 (.ia 21 (.t 22) 2), [17, 18, 19, 20, 24, 25, 26]⟩,
  ⟨7, q1 24 (.ld 23 2 true), [17, 18, 19, 20, 25, 26]⟩,
  ⟨8, q1 25 (.call 45 [(.t 20), (.t 24)]), [26]⟩,
  ⟨9, q1 26 (.nt (.t 25)), []⟩]
  [] [0, 1, 5, 26])
 (.cond (.t 26) (.seq (.reg [q1 4 (.asg (.c (.bool false)))] [4])
 (.ret)) (.skip)))))
 (.reg [q1 15 (.mv (.t 5)),q1 16 (.bin .add (.t 15) (.c (.int .i64 1))),q1 5 (.asg (.t 16))] [0, 1, 5])))))))
 (.seq (.reg [q1 4 (.asg (.c (.bool true)))] [4])
 (.ret))))
theorem con_laws_eqVariableS {v0 : (List XVariable)} {v1 : (List XVariable)} {r : Bool} (h : sh_laws_eqVariableS v0 v1 = some r) : Con Tryz.prog 16 [cc6.enc v0, cc6.enc v1] [] (rs_laws_eqVariableS r) := by
 delta sh_laws_eqVariableS at h
 refine top (out := none) (f := Tryz.f16) (m := m16) (rs := [.t 4]) (by kernel_rfl) rfl (by kernel_rfl) (by kernel_rfl) (by kernel_rfl) (by kernel_rfl) (by kernel_rfl) ?_
 exact
  ini [q2 0 cc6 v0, q2 1 cc6 v1] rfl <| wpC_seq <| reg_s <| x_asg (sc cB false rfl) <| sq [q2 0 cc6 v0, q2 1 cc6 v1] <|
  xn <| wpC_seq <| wpC_kp <| wpC_seq <| reg_s <| st rfl <| mvd rfl rfl <| stw rfl <| lens rfl fun l8 => st rfl <| mvd rfl rfl <| stw rfl <| lens rfl fun l9 => st rfl <| b_neq (k := .i64) rfl rfl <| sq [q2 0 cc6 v0, q2 1 cc6 v1, q2 10 cB (decide ((v0.length : Int) ≠ (v1.length : Int)))] <|
  xn <| cnd rfl h (fun b10 h => wpC_seq <| reg_s <| x_asg (sc cB false rfl) <| sq [q2 4 cB false] <|
  xn <| wpC_ret <| rt <| rt <| re <| fin h (r1 (ss rfl rfl) <| r0) rfl)
  (fun b10 h => wpC_skip <| kpN [q2 0 cc6 v0, q2 1 cc6 v1] (by kernel_rfl) <| xn <| wpC_seq <| wpC_kp <| wpC_seq <| reg_s <| x_asg (sc cI (0 : Int) rfl) <| sq [q2 0 cc6 v0, q2 1 cc6 v1, q2 5 cI (0 : Int)] <|
  xn <| wpC_blk <| lpF (fun (s142 : Int) => [q2 0 cc6 v0, q2 1 cc6 v1, q2 5 cI s142]) (0 : Int) rfl h
  fun G231 nx229 s142 hn230 h => wpC_seq <| wpC_kp <| wpC_seq <| reg_s <| st rfl <| mvd rfl rfl <| st rfl <| mvd rfl rfl <| stw rfl <| lens rfl fun l236 => st rfl <| b_lss (k := .i64) rfl rfl <| sq [q2 0 cc6 v0, q2 1 cc6 v1, q2 5 cI s142, q2 14 cB (decide (s142 < (v0.length : Int)))] <|
  xn <| cnd rfl h (fun b237 h => wpC_skip <| kpN [q2 0 cc6 v0, q2 1 cc6 v1, q2 5 cI s142] (by kernel_rfl) <| xn <| wpC_seq <| wpC_kp <| wpC_blk <| wpC_seq <| drw_s <| pst rfl <| mvd rfl rfl ⟨rfl, pst rfl <| mvd rfl rfl ⟨rfl, getO_kp h fun x263 i264 g265 h => pst rfl <| ias rfl rfl i264 g265 rfl ⟨rfl, pst rfl <| ldi rfl rfl rfl rfl ⟨rfl, pst rfl <| mvd rfl rfl ⟨rfl, pst rfl <| mvd rfl rfl ⟨rfl, getO_kp h fun x266 i267 g268 h => pst rfl <| ias rfl rfl i267 g268 rfl ⟨rfl, pst rfl <| ldi rfl rfl rfl rfl ⟨rfl, bndp h fun x269 e270 h => pst rfl <| o_call (a1 (c := cc11) (tXVariable tS tK) rfl (a1 (c := cc11) (tXVariable tS tK) rfl a0)) (con_laws_eqVariable e270) (.inl (so1 sB so0)) ⟨rfl, pst rfl <| o_nt rfl ⟨rfl, preN <| sq [q2 0 cc6 v0, q2 1 cc6 v1, q2 5 cI s142, q2 26 cB (!x269)] <|
  xn <| cnd rfl h (fun b271 h => wpC_seq <| reg_s <| x_asg (sc cB false rfl) <| sq [q2 4 cB false] <|
  xn <| wpC_ret <| rb <| rt <| rt <| rt <| rb <| rt <| rt <| re <| fin h (r1 (ss rfl rfl) <| r0) rfl)
  (fun b271 h => wpC_skip <| xbb <| kpN [q2 0 cc6 v0, q2 1 cc6 v1, q2 5 cI s142] (by kernel_rfl) <| xn <| reg_s <| st rfl <| mvd rfl rfl <| ckI_k h fun i272 h => st rfl <| b_add (k := .i64) rfl rfl i272 <| x_asg (ss rfl rfl) <| sq [q2 0 cc6 v0, q2 1 cc6 v1, q2 5 cI (s142 + (1 : Int))] <|
  xn <| hn230 (s142 + (1 : Int)) h)⟩⟩⟩⟩⟩⟩⟩⟩⟩⟩)
  (fun b237 h => wpC_exit <| xt <| xt <| xt <| xb <| kpN [] (by kernel_rfl) <| xn <| wpC_seq <| reg_s <| x_asg (sc cB true rfl) <| sq [q2 4 cB true] <|
  xn <| wpC_ret <| re <| fin h (r1 (ss rfl rfl) <| r0) rfl))

def rs_laws_eqTable (r : Bool) : List D := [cB.enc r]
def m17 : MC := .seq (.reg [q1 2 (.box (.t 0)),q1 3 (.box (.t 1)),q1 4 (.asg (.c (.bool false)))] [2, 3])
 (.seq (.kp [2, 3] (.seq (.reg [q1 5 (.fa 2 0 0),q1 6 (.ld 5 1 false),q1 7 (.fa 3 0 0),q1 8 (.ld 7 1 false),q1 9 (.bin .neq (.t 6) (.t 8))] [2, 3, 9])
 (.cond (.t 9) (.seq (.reg [q1 4 (.asg (.c (.bool false)))] [4])
 (.ret)) (.skip))))
 (.seq (.kp [2, 3] (.seq (.reg [q1 10 (.fa 2 1 1),q1 11 (.ld 10 1 false),q1 12 (.fa 3 1 1),q1 13 (.ld 12 1 false),q1 14 (.call 44 [(.t 11), (.t 13)]),q1 15 (.nt (.t 14))] [2, 3, 15])
 (.cond (.t 15) (.seq (.reg [q1 4 (.asg (.c (.bool false)))] [4])
 (.ret)) (.skip))))
 (.seq (.kp [2, 3] (.seq (.reg [q1 16 (.fa 2 2 2),q1 17 (.ld 16 1 false),q1 18 (.fa 3 2 2),q1 19 (.ld 18 1 false),q1 20 (.call 44 [(.t 17), (.t 19)]),q1 21 (.nt (.t 20))] [2, 3, 21])
 (.cond (.t 21) (.seq (.reg [q1 4 (.asg (.c (.bool false)))] [4])
 (.ret)) (.skip))))
 (.seq (.kp [] (.seq (.reg [q1 22 (.fa 2 3 3),q1 23 (.ld 22 1 false),q1 24 (.fa 3 3 3),q1 25 (.ld 24 1 false),q1 26 (.bin .neq (.t 23) (.t 25))] [26])
 (.cond (.t 26) (.seq (.reg [q1 4 (.asg (.c (.bool false)))] [4])
 (.ret)) (.skip))))
 (.seq (.reg [q1 4 (.asg (.c (.bool true)))] [4])
 (.ret))))))
theorem con_laws_eqTable {v0 : XTable} {v1 : XTable} {r : Bool} (h : sh_laws_eqTable v0 v1 = some r) : Con Tryz.prog 17 [cc0.enc v0, cc0.enc v1] [] (rs_laws_eqTable r) := by
 delta sh_laws_eqTable at h
 refine top (out := none) (f := Tryz.f17) (m := m17) (rs := [.t 4]) (by kernel_rfl) rfl (by kernel_rfl) (by kernel_rfl) (by kernel_rfl) (by kernel_rfl) (by kernel_rfl) ?_
 exact
  ini [q2 0 cc0 v0, q2 1 cc0 v1] rfl <| wpC_seq <| reg_s <| x_box (ss rfl rfl) <| x_box (ss rfl rfl) <| x_asg (sc cB false rfl) <| sq [q3 2 cc0 v0, q3 3 cc0 v1] <|
  xn <| wpC_seq <| wpC_kp <| wpC_seq <| reg_s <| st rfl <| fab rfl rfl rfl rfl <| st rfl <| lda rfl rfl rfl rfl rfl rfl <| st rfl <| fab rfl rfl rfl rfl <| st rfl <| lda rfl rfl rfl rfl rfl rfl <| st rfl <| b_neq (k := .i64) rfl rfl <| sq [q3 2 cc0 v0, q3 3 cc0 v1, q2 9 cB (decide (v0.Level ≠ v1.Level))] <|
  xn <| cnd rfl h (fun b2 h => wpC_seq <| reg_s <| x_asg (sc cB false rfl) <| sq [q2 4 cB false] <|
  xn <| wpC_ret <| rt <| rt <| re <| fin h (r1 (ss rfl rfl) <| r0) rfl)
  (fun b2 h => wpC_skip <| kpN [q3 2 cc0 v0, q3 3 cc0 v1] (by kernel_rfl) <| xn <| wpC_seq <| wpC_kp <| wpC_seq <| reg_s <| st rfl <| fab rfl rfl rfl rfl <| st rfl <| lda rfl rfl rfl rfl rfl rfl <| st rfl <| fab rfl rfl rfl rfl <| st rfl <| lda rfl rfl rfl rfl rfl rfl <| bnd h fun x10 e11 h => st rfl <| o_call (a1 (c := cc13) (tLs tK) rfl (a1 (c := cc13) (tLs tK) rfl a0)) (con_laws_eqIntS e11) (.inl (so1 sB so0)) <| st rfl <| o_nt rfl <| sq [q3 2 cc0 v0, q3 3 cc0 v1, q2 15 cB (!x10)] <|
  xn <| cnd rfl h (fun b12 h => wpC_seq <| reg_s <| x_asg (sc cB false rfl) <| sq [q2 4 cB false] <|
  xn <| wpC_ret <| rt <| rt <| re <| fin h (r1 (ss rfl rfl) <| r0) rfl)
  (fun b12 h => wpC_skip <| kpN [q3 2 cc0 v0, q3 3 cc0 v1] (by kernel_rfl) <| xn <| wpC_seq <| wpC_kp <| wpC_seq <| reg_s <| st rfl <| fab rfl rfl rfl rfl <| st rfl <| lda rfl rfl rfl rfl rfl rfl <| st rfl <| fab rfl rfl rfl rfl <| st rfl <| lda rfl rfl rfl rfl rfl rfl <| bnd h fun x20 e21 h => st rfl <| o_call (a1 (c := cc13) (tLs tK) rfl (a1 (c := cc13) (tLs tK) rfl a0)) (con_laws_eqIntS e21) (.inl (so1 sB so0)) <| st rfl <| o_nt rfl <| sq [q3 2 cc0 v0, q3 3 cc0 v1, q2 21 cB (!x20)] <|
  xn <| cnd rfl h (fun b22 h => wpC_seq <| reg_s <| x_asg (sc cB false rfl) <| sq [q2 4 cB false] <|
  xn <| wpC_ret <| rt <| rt <| re <| fin h (r1 (ss rfl rfl) <| r0) rfl)
  (fun b22 h => wpC_skip <| kpN [q3 2 cc0 v0, q3 3 cc0 v1] (by kernel_rfl) <| xn <| wpC_seq <| wpC_kp <| wpC_seq <| reg_s <| st rfl <| fab rfl rfl rfl rfl <| st rfl <| lda rfl rfl rfl rfl rfl rfl <| st rfl <| fab rfl rfl rfl rfl <| st rfl <| lda rfl rfl rfl rfl rfl rfl <| st rfl <| b_neq (k := .i64) rfl rfl <| sq [q2 26 cB (decide (v0.Sum ≠ v1.Sum))] <|
  xn <| cnd rfl h (fun b24 h => wpC_seq <| reg_s <| x_asg (sc cB false rfl) <| sq [q2 4 cB false] <|
  xn <| wpC_ret <| rt <| rt <| re <| fin h (r1 (ss rfl rfl) <| r0) rfl)
  (fun b24 h => wpC_skip <| kpN [] (by kernel_rfl) <| xn <| wpC_seq <| reg_s <| x_asg (sc cB true rfl) <| sq [q2 4 cB true] <|
  xn <| wpC_ret <| re <| fin h (r1 (ss rfl rfl) <| r0) rfl))))

def rs_laws_eqRecord (r : Bool) : List D := [cB.enc r]
def m46 : MC := .seq (.reg [q1 2 (.box (.t 0)),q1 3 (.box (.t 1)),q1 4 (.asg (.c (.bool false)))] [2, 3])
 (.seq (.kp [2, 3] (.seq (.reg [q1 5 (.fa 2 0 0),q1 6 (.ld 5 1 false),q1 7 (.fa 3 0 0),q1 8 (.ld 7 1 false),q1 9 (.bin .neq (.t 6) (.t 8))] [2, 3, 9])
 (.cond (.t 9) (.seq (.reg [q1 4 (.asg (.c (.bool false)))] [4])
 (.ret)) (.skip))))
 (.seq (.kp [2, 3] (.seq (.reg [q1 10 (.fa 2 1 1),q1 11 (.ld 10 1 false),q1 12 (.fa 3 1 1),q1 13 (.ld 12 1 false),q1 14 (.bin .neq (.t 11) (.t 13))] [2, 3, 14])
 (.cond (.t 14) (.seq (.reg [q1 4 (.asg (.c (.bool false)))] [4])
 (.ret)) (.skip))))
 (.seq (.kp [] (.seq (.reg [q1 15 (.fa 2 2 2),q1 16 (.ld 15 1 false),q1 17 (.fa 3 2 2),q1 18 (.ld 17 1 false),q1 19 (.call 44 [(.t 16), (.t 18)]),q1 20 (.nt (.t 19))] [20])
 (.cond (.t 20) (.seq (.reg [q1 4 (.asg (.c (.bool false)))] [4])
 (.ret)) (.skip))))
 (.seq (.reg [q1 4 (.asg (.c (.bool true)))] [4])
 (.ret)))))
theorem con_laws_eqRecord {v0 : XRecord} {v1 : XRecord} {r : Bool} (h : sh_laws_eqRecord v0 v1 = some r) : Con Tryz.prog 46 [cc5.enc v0, cc5.enc v1] [] (rs_laws_eqRecord r) := by
 delta sh_laws_eqRecord at h
 refine top (out := none) (f := Tryz.f46) (m := m46) (rs := [.t 4]) (by kernel_rfl) rfl (by kernel_rfl) (by kernel_rfl) (by kernel_rfl) (by kernel_rfl) (by kernel_rfl) ?_
 exact
  ini [q2 0 cc5 v0, q2 1 cc5 v1] rfl <| wpC_seq <| reg_s <| x_box (ss rfl rfl) <| x_box (ss rfl rfl) <| x_asg (sc cB false rfl) <| sq [q3 2 cc5 v0, q3 3 cc5 v1] <|
  xn <| wpC_seq <| wpC_kp <| wpC_seq <| reg_s <| st rfl <| fab rfl rfl rfl rfl <| st rfl <| lda rfl rfl rfl rfl rfl rfl <| st rfl <| fab rfl rfl rfl rfl <| st rfl <| lda rfl rfl rfl rfl rfl rfl <| st rfl <| b_neq (k := .i64) rfl rfl <| sq [q3 2 cc5 v0, q3 3 cc5 v1, q2 9 cB (decide (v0.Area ≠ v1.Area))] <|
  xn <| cnd rfl h (fun b2 h => wpC_seq <| reg_s <| x_asg (sc cB false rfl) <| sq [q2 4 cB false] <|
  xn <| wpC_ret <| rt <| rt <| re <| fin h (r1 (ss rfl rfl) <| r0) rfl)
  (fun b2 h => wpC_skip <| kpN [q3 2 cc5 v0, q3 3 cc5 v1] (by kernel_rfl) <| xn <| wpC_seq <| wpC_kp <| wpC_seq <| reg_s <| st rfl <| fab rfl rfl rfl rfl <| st rfl <| lda rfl rfl rfl rfl rfl rfl <| st rfl <| fab rfl rfl rfl rfl <| st rfl <| lda rfl rfl rfl rfl rfl rfl <| st rfl <| b_neq (k := .i64) rfl rfl <| sq [q3 2 cc5 v0, q3 3 cc5 v1, q2 14 cB (decide (v0.House ≠ v1.House))] <|
  xn <| cnd rfl h (fun b4 h => wpC_seq <| reg_s <| x_asg (sc cB false rfl) <| sq [q2 4 cB false] <|
  xn <| wpC_ret <| rt <| rt <| re <| fin h (r1 (ss rfl rfl) <| r0) rfl)
  (fun b4 h => wpC_skip <| kpN [q3 2 cc5 v0, q3 3 cc5 v1] (by kernel_rfl) <| xn <| wpC_seq <| wpC_kp <| wpC_seq <| reg_s <| st rfl <| fab rfl rfl rfl rfl <| st rfl <| lda rfl rfl rfl rfl rfl rfl <| st rfl <| fab rfl rfl rfl rfl <| st rfl <| lda rfl rfl rfl rfl rfl rfl <| bnd h fun x12 e13 h => st rfl <| o_call (a1 (c := cc13) (tLs tK) rfl (a1 (c := cc13) (tLs tK) rfl a0)) (con_laws_eqIntS e13) (.inl (so1 sB so0)) <| st rfl <| o_nt rfl <| sq [q2 20 cB (!x12)] <|
  xn <| cnd rfl h (fun b14 h => wpC_seq <| reg_s <| x_asg (sc cB false rfl) <| sq [q2 4 cB false] <|
  xn <| wpC_ret <| rt <| rt <| re <| fin h (r1 (ss rfl rfl) <| r0) rfl)
  (fun b14 h => wpC_skip <| kpN [] (by kernel_rfl) <| xn <| wpC_seq <| reg_s <| x_asg (sc cB true rfl) <| sq [q2 4 cB true] <|
  xn <| wpC_ret <| re <| fin h (r1 (ss rfl rfl) <| r0) rfl)))

def rs_laws_eqRecordS (r : Bool) : List D := [cB.enc r]
def m18 : MC := .seq (.reg [q1 4 (.asg (.c (.bool false)))] [0, 1])
 (.seq (.kp [0, 1] (.seq (.reg [q1 6 (.mv (.t 0)),q1 7 (.len false (.t 6)),q1 8 (.mv (.t 1)),q1 9 (.len false (.t 8)),q1 10 (.bin .neq (.t 7) (.t 9))] [0, 1, 10])
 (.cond (.t 10) (.seq (.reg [q1 4 (.asg (.c (.bool false)))] [4])
 (.ret)) (.skip))))
 (.seq (.kp [] (.seq (.reg [q1 5 (.asg (.c (.int .i64 0)))] [0, 1, 5])
 (.blk 0 (.loop (.seq (.kp [0, 1, 5] (.seq (.reg [q1 11 (.mv (.t 5)),q1 12 (.mv (.t 0)),q1 13 (.len false (.t 12)),q1 14 (.bin .lss (.t 11) (.t 13))] [0, 1, 5, 14])
 (.cond (.t 14) (.skip) (.exit 0))))
 (.seq (.kp [0, 1, 5] (.blk 1 (.seq (.drw [⟨0, q1 17 (.mv (.t 0)), [18, 19, 20, 21, 22, 23, 24, 25, 26]⟩,
  ⟨1, q1 18 (.mv (.t 5)), [17, 19, 20, 21, 22, 23, 24, 25, 26]⟩,
  ⟨2, q1 19 (.ia 17 (.t 18) 3), [20, 21, 22, 23, 24, 25, 26]⟩,
  ⟨3, q1 20 (.ld 19 3 true), [21, 22, 23, 24, 25, 26]⟩,
  ⟨4, q1 21 (.mv (.t 1)), [17, 18, 19, 20, 22, 23, 24, 25, 26]⟩,
  ⟨5, q1 22 (.mv (.t 5)), [17, 18, 19, 20, 21, 23, 24, 25, 26]⟩,
  ⟨6, q1 23 (.ia 21 (.t 22) 3), [17, 18, 19, 20, 24, 25, 26]⟩,
  ⟨7, q1 24 (.ld 23 3 true), [17, 18, 19, 20, 25, 26]⟩,
  ⟨8, q1 25 (.call 46 [(.t 20), (.t 24)]), [26]⟩,
  ⟨9, q1 26 (.nt (.t 25)), []⟩]
  [] [0, 1, 5, 26])
 (.cond (.t 26) (.seq (.reg [q1 4 (.asg (.c (.bool false)))] [4])
 (.ret)) (.skip)))))
 (.reg [q1 15 (.mv (.t 5)),q1 16 (.bin .add (.t 15) (.c (.int .i64 1))),q1 5 (.asg (.t 16))] [0, 1, 5])))))))
 (.seq (.reg [q1 4 (.asg (.c (.bool true)))] [4])
 (.ret))))
theorem con_laws_eqRecordS {v0 : (List XRecord)} {v1 : (List XRecord)} {r : Bool} (h : sh_laws_eqRecordS v0 v1 = some r) : Con Tryz.prog 18 [cc1.enc v0, cc1.enc v1] [] (rs_laws_eqRecordS r) := by
 delta sh_laws_eqRecordS at h
 refine top (out := none) (f := Tryz.f18) (m := m18) (rs := [.t 4]) (by kernel_rfl) rfl (by kernel_rfl) (by kernel_rfl) (by kernel_rfl) (by kernel_rfl) (by kernel_rfl) ?_
 exact
  ini [q2 0 cc1 v0, q2 1 cc1 v1] rfl <| wpC_seq <| reg_s <| x_asg (sc cB false rfl) <| sq [q2 0 cc1 v0, q2 1 cc1 v1] <|
  xn <| wpC_seq <| wpC_kp <| wpC_seq <| reg_s <| st rfl <| mvd rfl rfl <| stw rfl <| lens rfl fun l8 => st rfl <| mvd rfl rfl <| stw rfl <| lens rfl fun l9 => st rfl <| b_neq (k := .i64) rfl rfl <| sq [q2 0 cc1 v0, q2 1 cc1 v1, q2 10 cB (decide ((v0.length : Int) ≠ (v1.length : Int)))] <|
  xn <| cnd rfl h (fun b10 h => wpC_seq <| reg_s <| x_asg (sc cB false rfl) <| sq [q2 4 cB false] <|
  xn <| wpC_ret <| rt <| rt <| re <| fin h (r1 (ss rfl rfl) <| r0) rfl)
  (fun b10 h => wpC_skip <| kpN [q2 0 cc1 v0, q2 1 cc1 v1] (by kernel_rfl) <| xn <| wpC_seq <| wpC_kp <| wpC_seq <| reg_s <| x_asg (sc cI (0 : Int) rfl) <| sq [q2 0 cc1 v0, q2 1 cc1 v1, q2 5 cI (0 : Int)] <|
  xn <| wpC_blk <| lpF (fun (s142 : Int) => [q2 0 cc1 v0, q2 1 cc1 v1, q2 5 cI s142]) (0 : Int) rfl h
  fun G231 nx229 s142 hn230 h => wpC_seq <| wpC_kp <| wpC_seq <| reg_s <| st rfl <| mvd rfl rfl <| st rfl <| mvd rfl rfl <| stw rfl <| lens rfl fun l236 => st rfl <| b_lss (k := .i64) rfl rfl <| sq [q2 0 cc1 v0, q2 1 cc1 v1, q2 5 cI s142, q2 14 cB (decide (s142 < (v0.length : Int)))] <|
  xn <| cnd rfl h (fun b237 h => wpC_skip <| kpN [q2 0 cc1 v0, q2 1 cc1 v1, q2 5 cI s142] (by kernel_rfl) <| xn <| wpC_seq <| wpC_kp <| wpC_blk <| wpC_seq <| drw_s <| pst rfl <| mvd rfl rfl ⟨rfl, pst rfl <| mvd rfl rfl ⟨rfl, getO_kp h fun x263 i264 g265 h => pst rfl <| ias rfl rfl i264 g265 rfl ⟨rfl, pst rfl <| ldi rfl rfl rfl rfl ⟨rfl, pst rfl <| mvd rfl rfl ⟨rfl, pst rfl <| mvd rfl rfl ⟨rfl, getO_kp h fun x266 i267 g268 h => pst rfl <| ias rfl rfl i267 g268 rfl ⟨rfl, pst rfl <| ldi rfl rfl rfl rfl ⟨rfl, bndp h fun x269 e270 h => pst rfl <| o_call (a1 (c := cc5) (tXRecord tK tK (tLs tK)) rfl (a1 (c := cc5) (tXRecord tK tK (tLs tK)) rfl a0)) (con_laws_eqRecord e270) (.inl (so1 sB so0)) ⟨rfl, pst rfl <| o_nt rfl ⟨rfl, preN <| sq [q2 0 cc1 v0, q2 1 cc1 v1, q2 5 cI s142, q2 26 cB (!x269)] <|
  xn <| cnd rfl h (fun b271 h => wpC_seq <| reg_s <| x_asg (sc cB false rfl) <| sq [q2 4 cB false] <|
  xn <| wpC_ret <| rb <| rt <| rt <| rt <| rb <| rt <| rt <| re <| fin h (r1 (ss rfl rfl) <| r0) rfl)
  (fun b271 h => wpC_skip <| xbb <| kpN [q2 0 cc1 v0, q2 1 cc1 v1, q2 5 cI s142] (by kernel_rfl) <| xn <| reg_s <| st rfl <| mvd rfl rfl <| ckI_k h fun i272 h => st rfl <| b_add (k := .i64) rfl rfl i272 <| x_asg (ss rfl rfl) <| sq [q2 0 cc1 v0, q2 1 cc1 v1, q2 5 cI (s142 + (1 : Int))] <|
  xn <| hn230 (s142 + (1 : Int)) h)⟩⟩⟩⟩⟩⟩⟩⟩⟩⟩)
  (fun b237 h => wpC_exit <| xt <| xt <| xt <| xb <| kpN [] (by kernel_rfl) <| xn <| wpC_seq <| reg_s <| x_asg (sc cB true rfl) <| sq [q2 4 cB true] <|
  xn <| wpC_ret <| re <| fin h (r1 (ss rfl rfl) <| r0) rfl))

end AS.W
