/- The program computes the plain functions. No condition. -/
import Derived.Test.YtahffpadaffmdaaQCellIndexS
import Derived.Test.YtahffpadaffmdaaProg
import Derived.Test.YtahffpadaffmdaaQCellIndexL1
set_option maxRecDepth 100000
set_option linter.unusedVariables false
set_option linter.unusedSimpArgs false
namespace AS.W
open Go Go.Proofs
def rs_impl_cellIndex (r : Int) : List D := [cI.enc r]
def m101 : MC := .seq (.reg [⟨some 5, .box (.t 0), none⟩,
    ⟨some 7, .box (.t 2), none⟩,
    ⟨some 10, .asg (.c (.int .i64 0)), none⟩] [1, 3, 4, 5, 7])
  (.seq (.reg [⟨some 15, .ld 5 1 true, none⟩,
    ⟨some 16, .fa 7 0 0, none⟩,
    ⟨some 17, .ld 16 1 false, none⟩,
    ⟨some 18, .call 116 [(.t 15), (.t 17)], none⟩,
    ⟨some 19, .mv (.t 3), none⟩,
    ⟨some 20, .call 128 [(.t 18), (.t 19)], none⟩,
    ⟨some 14, .mvt 20, none⟩,
    ⟨some 21, .ext 14 0, none⟩,
    ⟨some 22, .ext 14 1, none⟩,
    ⟨some 11, .asg (.t 21), none⟩,
    ⟨some 12, .asg (.t 22), none⟩] [1, 4, 7, 11, 12])
  (.seq (.kp [1, 4, 7, 11] (.seq (.reg [⟨some 23, .mv (.t 12), none⟩,
    ⟨some 24, .nt (.t 23), none⟩] [1, 4, 7, 11, 24])
  (.cond (.t 24) (.seq (.reg [⟨some 10, .asg (.c (.int .i64 (-1))), none⟩] [10])
  (.ret)) (.skip))))
  (.seq (.reg [⟨some 25, .mv (.t 1), none⟩,
    ⟨some 26, .ld 7 4 true, none⟩,
    ⟨some 27, .call 100 [(.t 25), (.t 26)], none⟩,
    ⟨some 13, .asg (.t 27), none⟩] [4, 11, 13])
  (.seq (.reg [⟨some 28, .mv (.t 11), none⟩,
    ⟨some 29, .mv (.t 13), none⟩,
    ⟨some 30, .call 117 [(.t 29)], none⟩,
    ⟨some 31, .bin .mul (.t 28) (.t 30), none⟩,
    ⟨some 32, .mv (.t 13), none⟩,
    ⟨some 33, .mv (.t 4), none⟩,
    ⟨some 34, .call 129 [(.t 32), (.t 33)], none⟩,
    ⟨some 35, .bin .add (.t 31) (.t 34), none⟩,
    ⟨some 10, .asg (.t 35), none⟩] [10])
  (.ret)))))
theorem con_impl_cellIndex {v0 : XGeo} {v1 : (List XVariable)} {v2 : XTable} {v3 : Int} {v4 : (List Int)} {r : Int} (h : sh_impl_cellIndex v0 v1 v2 v3 v4 = some r) : Con Try.prog 101 [(cXGeo (cLs cI rfl)).enc v0, (cLs (cXVariable cS cI) rfl).enc v1, (cXTable cI (cLs cI rfl) (cLs cI rfl) cI).enc v2, cI.enc v3, (cLs cI rfl).enc v4] [] (rs_impl_cellIndex r) := by
  delta sh_impl_cellIndex at h
  refine top (out := none) (f := Try.f101) (m := m101) (rs := [.t 10]) (by kernel_rfl) rfl (by kernel_rfl) (by kernel_rfl) (by kernel_rfl) (by kernel_rfl) (by kernel_rfl) ?_
  exact
   ini [(0, .d ((cXGeo (cLs cI rfl)).enc v0)), (1, .d ((cLs (cXVariable cS cI) rfl).enc v1)), (2, .d ((cXTable cI (cLs cI rfl) (cLs cI rfl) cI).enc v2)), (3, .d (cI.enc v3)), (4, .d ((cLs cI rfl).enc v4))] rfl <| wpC_seq <| reg_s <| x_box (ss rfl rfl) <| x_box (ss rfl rfl) <| x_asg (sc cI (0 : Int) rfl) <| seqN [(1, .d ((cLs (cXVariable cS cI) rfl).enc v1)), (3, .d (cI.enc v3)), (4, .d ((cLs cI rfl).enc v4)), (5, .box ((cXGeo (cLs cI rfl)).enc v0)), (7, .box ((cXTable cI (cLs cI rfl) (cLs cI rfl) cI).enc v2))] (by kernel_rfl) <|
    xn <| wpC_seq <| reg_s <| st rfl <| ldb rfl rfl rfl rfl <| st rfl <| fab rfl rfl rfl rfl <| st rfl <| lda rfl rfl rfl rfl rfl rfl <| bnd h fun x5 e6 h => st rfl <| o_call (a1 (c := (cXGeo (cLs cI rfl))) (tXGeo (tLs tK)) rfl (a1 (c := cI) tK rfl a0)) (con_impl_areasAt e6) (.inl (so1 (sLo sK) so0)) <| st rfl <| mvd rfl rfl <| bnd h fun x7 e8 h => st rfl <| o_call (a1 (c := (cLo cI)) (tLo tK) rfl (a1 (c := cI) tK rfl a0)) (con_slices_BinarySearch_int e8) (.inl (so1 sK (so1 sB so0))) <| x_mvt rfl <| x_ext rfl rfl <| x_ext rfl rfl <| x_asg (ss rfl rfl) <| x_asg (ss rfl rfl) <| seqN [(1, .d ((cLs (cXVariable cS cI) rfl).enc v1)), (4, .d ((cLs cI rfl).enc v4)), (7, .box ((cXTable cI (cLs cI rfl) (cLs cI rfl) cI).enc v2)), (11, .d (cI.enc x7.1)), (12, .d (cB.enc x7.2))] (by kernel_rfl) <|
    xn <| wpC_seq <| wpC_kp <| wpC_seq <| reg_s <| st rfl <| mvd rfl rfl <| st rfl <| o_nt rfl <| seqN [(1, .d ((cLs (cXVariable cS cI) rfl).enc v1)), (4, .d ((cLs cI rfl).enc v4)), (7, .box ((cXTable cI (cLs cI rfl) (cLs cI rfl) cI).enc v2)), (11, .d (cI.enc x7.1)), (24, .d (cB.enc (!x7.2)))] (by kernel_rfl) <|
    xn <| cnd rfl h (fun b10 h => wpC_seq <| reg_s <| x_asg (sc cI (-1 : Int) rfl) <| seqN [(10, .d (cI.enc (-1 : Int)))] (by kernel_rfl) <|
    xn <| wpC_ret <| rt <| rt <| re <| fin h (r1 (ss rfl rfl) <| r0) rfl)
    (fun b10 h => wpC_skip <| kpN [(1, .d ((cLs (cXVariable cS cI) rfl).enc v1)), (4, .d ((cLs cI rfl).enc v4)), (7, .box ((cXTable cI (cLs cI rfl) (cLs cI rfl) cI).enc v2)), (11, .d (cI.enc x7.1))] (by kernel_rfl) <| xn <| wpC_seq <| reg_s <| st rfl <| mvd rfl rfl <| st rfl <| ldb rfl rfl rfl rfl <| bnd h fun x13 e14 h => st rfl <| o_call (a1 (c := (cLs (cXVariable cS cI) rfl)) (tLs (tXVariable tS tK)) rfl (a1 (c := (cXTable cI (cLs cI rfl) (cLs cI rfl) cI)) (tXTable tK (tLs tK) (tLs tK) tK) rfl a0)) (con_impl_crossed e14) (.inl (so1 (sLo (sXVariable sS sK)) so0)) <| x_asg (so rfl rfl) <| seqN [(4, .d ((cLs cI rfl).enc v4)), (11, .d (cI.enc x7.1)), (13, .d ((cLo (cXVariable cS cI)).enc x13))] (by kernel_rfl) <|
    xn <| wpC_seq <| reg_s <| st rfl <| mvd rfl rfl <| st rfl <| mvo rfl rfl <| bnd h fun x21 e22 h => st rfl <| o_call (a1 (c := (cLo (cXVariable cS cI))) (tLo (tXVariable tS tK)) rfl a0) (con_impl_combinations e22) (.inl (so1 sK so0)) <| ckI_k h fun i23 h => st rfl <| b_mul (k := .i64) rfl rfl i23 <| st rfl <| mvo rfl rfl <| st rfl <| mvd rfl rfl <| bnd h fun x24 e25 h => st rfl <| o_call (a1 (c := (cLo (cXVariable cS cI))) (tLo (tXVariable tS tK)) rfl (a1 (c := (cLs cI rfl)) (tLs tK) rfl a0)) (con_impl_indexOfValues e25) (.inl (so1 sK so0)) <| ckI_k h fun i26 h => st rfl <| b_add (k := .i64) rfl rfl i26 <| x_asg (ss rfl rfl) <| seqN [(10, .d (cI.enc ((x7.1 * x21) + x24)))] (by kernel_rfl) <|
    xn <| wpC_ret <| re <| fin h (r1 (ss rfl rfl) <| r0) rfl)

def rs_impl_CellIndex (r : (Int × Bool)) : List D := [cI.enc r.1, cB.enc r.2]
def m50 : MC := .seq (.reg [⟨some 5, .box (.t 0), none⟩,
    ⟨some 7, .box (.t 2), none⟩,
    ⟨some 10, .asg (.c (.int .i64 0)), none⟩,
    ⟨some 11, .asg (.c (.bool false)), none⟩] [1, 3, 4, 5, 7])
  (.seq (.kp [1, 3, 4, 5, 7] (.seq (.reg [⟨some 13, .ld 5 1 true, none⟩,
    ⟨some 14, .mv (.t 1), none⟩,
    ⟨some 15, .ld 7 4 true, none⟩,
    ⟨some 16, .call 83 [(.t 13), (.t 14), (.t 15)], none⟩,
    ⟨some 17, .nt (.t 16), none⟩,
    ⟨some 18, .mv (.t 17), none⟩,
    ⟨some 19, .mv (.t 1), some (18, false)⟩,
    ⟨some 20, .ld 7 4 true, some (18, false)⟩,
    ⟨some 21, .call 100 [(.t 19), (.t 20)], some (18, false)⟩,
    ⟨some 22, .mv (.t 4), some (18, false)⟩,
    ⟨some 23, .call 99 [(.t 21), (.t 22)], some (18, false)⟩,
    ⟨some 24, .nt (.t 23), some (18, false)⟩,
    ⟨some 25, .pick (.t 18) (.c (.bool true)) (.t 24), none⟩] [1, 3, 4, 5, 7, 25])
  (.cond (.t 25) (.seq (.reg [⟨some 10, .asg (.c (.int .i64 0)), none⟩,
    ⟨some 11, .asg (.c (.bool false)), none⟩] [10, 11])
  (.ret)) (.skip))))
  (.seq (.reg [⟨some 26, .ld 5 1 true, none⟩,
    ⟨some 27, .mv (.t 1), none⟩,
    ⟨some 28, .ld 7 4 true, none⟩,
    ⟨some 29, .mv (.t 3), none⟩,
    ⟨some 30, .mv (.t 4), none⟩,
    ⟨some 31, .call 101 [(.t 26), (.t 27), (.t 28), (.t 29), (.t 30)], none⟩,
    ⟨some 12, .asg (.t 31), none⟩] [12])
  (.seq (.kp [12] (.seq (.reg [⟨some 32, .mv (.t 12), none⟩,
    ⟨some 33, .bin .lss (.t 32) (.c (.int .i64 0)), none⟩] [12, 33])
  (.cond (.t 33) (.seq (.reg [⟨some 10, .asg (.c (.int .i64 0)), none⟩,
    ⟨some 11, .asg (.c (.bool false)), none⟩] [10, 11])
  (.ret)) (.skip))))
  (.seq (.reg [⟨some 34, .mv (.t 12), none⟩,
    ⟨some 10, .asg (.t 34), none⟩,
    ⟨some 11, .asg (.c (.bool true)), none⟩] [10, 11])
  (.ret)))))
theorem con_impl_CellIndex {v0 : XGeo} {v1 : (List XVariable)} {v2 : XTable} {v3 : Int} {v4 : (List Int)} {r : (Int × Bool)} (h : sh_impl_CellIndex v0 v1 v2 v3 v4 = some r) : Con Try.prog 50 [(cXGeo (cLs cI rfl)).enc v0, (cLs (cXVariable cS cI) rfl).enc v1, (cXTable cI (cLs cI rfl) (cLs cI rfl) cI).enc v2, cI.enc v3, (cLs cI rfl).enc v4] [] (rs_impl_CellIndex r) := by
  delta sh_impl_CellIndex at h
  refine top (out := none) (f := Try.f50) (m := m50) (rs := [.t 10, .t 11]) (by kernel_rfl) rfl (by kernel_rfl) (by kernel_rfl) (by kernel_rfl) (by kernel_rfl) (by kernel_rfl) ?_
  exact
   ini [(0, .d ((cXGeo (cLs cI rfl)).enc v0)), (1, .d ((cLs (cXVariable cS cI) rfl).enc v1)), (2, .d ((cXTable cI (cLs cI rfl) (cLs cI rfl) cI).enc v2)), (3, .d (cI.enc v3)), (4, .d ((cLs cI rfl).enc v4))] rfl <| wpC_seq <| reg_s <| x_box (ss rfl rfl) <| x_box (ss rfl rfl) <| x_asg (sc cI (0 : Int) rfl) <| x_asg (sc cB false rfl) <| seqN [(1, .d ((cLs (cXVariable cS cI) rfl).enc v1)), (3, .d (cI.enc v3)), (4, .d ((cLs cI rfl).enc v4)), (5, .box ((cXGeo (cLs cI rfl)).enc v0)), (7, .box ((cXTable cI (cLs cI rfl) (cLs cI rfl) cI).enc v2))] (by kernel_rfl) <|
    xn <| wpC_seq <| wpC_kp <| wpC_seq <| reg_s <| st rfl <| ldb rfl rfl rfl rfl <| st rfl <| mvd rfl rfl <| st rfl <| ldb rfl rfl rfl rfl <| bnd h fun x23 e24 h => st rfl <| o_call (a1 (c := (cXGeo (cLs cI rfl))) (tXGeo (tLs tK)) rfl (a1 (c := (cLs (cXVariable cS cI) rfl)) (tLs (tXVariable tS tK)) rfl (a1 (c := (cXTable cI (cLs cI rfl) (cLs cI rfl) cI)) (tXTable tK (tLs tK) (tLs tK) tK) rfl a0))) (con_impl_areTabled e24) (.inl (so1 sB so0)) <| st rfl <| o_nt rfl <| st rfl <| mvd rfl rfl <| ite_k h (fun b25 h => gf rfl b25 <| gf rfl b25 <| gf rfl b25 <| gf rfl b25 <| gf rfl b25 <| gf rfl b25 <| st rfl <| pick1 rfl b25 (cd := cB) (v := true) rfl rfl <| seqN [(1, .d ((cLs (cXVariable cS cI) rfl).enc v1)), (3, .d (cI.enc v3)), (4, .d ((cLs cI rfl).enc v4)), (5, .box ((cXGeo (cLs cI rfl)).enc v0)), (7, .box ((cXTable cI (cLs cI rfl) (cLs cI rfl) cI).enc v2)), (25, .d (cB.enc true))] (by kernel_rfl) <|
    xn <| cnd1 rfl rfl <| wpC_seq <| reg_s <| x_asg (sc cI (0 : Int) rfl) <| x_asg (sc cB false rfl) <| seqN [(10, .d (cI.enc (0 : Int))), (11, .d (cB.enc false))] (by kernel_rfl) <|
    xn <| wpC_ret <| rt <| rt <| re <| fin h (r1 (ss rfl rfl) <| r1 (ss rfl rfl) <| r0) rfl)
    (fun b25 h => gt' rfl b25 <| st rfl <| mvd rfl rfl <| gt' rfl b25 <| st rfl <| ldb rfl rfl rfl rfl <| gt' rfl b25 <| bnd h fun x26 e27 h => st rfl <| o_call (a1 (c := (cLs (cXVariable cS cI) rfl)) (tLs (tXVariable tS tK)) rfl (a1 (c := (cXTable cI (cLs cI rfl) (cLs cI rfl) cI)) (tXTable tK (tLs tK) (tLs tK) tK) rfl a0)) (con_impl_crossed e27) (.inl (so1 (sLo (sXVariable sS sK)) so0)) <| gt' rfl b25 <| st rfl <| mvd rfl rfl <| gt' rfl b25 <| bnd h fun x28 e29 h => st rfl <| o_call (a1 (c := (cLo (cXVariable cS cI))) (tLo (tXVariable tS tK)) rfl (a1 (c := (cLs cI rfl)) (tLs tK) rfl a0)) (con_impl_areValues e29) (.inl (so1 sB so0)) <| gt' rfl b25 <| st rfl <| o_nt rfl <| st rfl <| pick0 rfl b25 (cd := cB) (v := (!x28)) rfl rfl <| seqN [(1, .d ((cLs (cXVariable cS cI) rfl).enc v1)), (3, .d (cI.enc v3)), (4, .d ((cLs cI rfl).enc v4)), (5, .box ((cXGeo (cLs cI rfl)).enc v0)), (7, .box ((cXTable cI (cLs cI rfl) (cLs cI rfl) cI).enc v2)), (25, .d (cB.enc (!x28)))] (by kernel_rfl) <|
    xn <| cnd rfl h (fun b30 h => wpC_seq <| reg_s <| x_asg (sc cI (0 : Int) rfl) <| x_asg (sc cB false rfl) <| seqN [(10, .d (cI.enc (0 : Int))), (11, .d (cB.enc false))] (by kernel_rfl) <|
    xn <| wpC_ret <| rt <| rt <| re <| fin h (r1 (ss rfl rfl) <| r1 (ss rfl rfl) <| r0) rfl)
    (fun b30 h => wpC_skip <| kpN [(1, .d ((cLs (cXVariable cS cI) rfl).enc v1)), (3, .d (cI.enc v3)), (4, .d ((cLs cI rfl).enc v4)), (5, .box ((cXGeo (cLs cI rfl)).enc v0)), (7, .box ((cXTable cI (cLs cI rfl) (cLs cI rfl) cI).enc v2))] (by kernel_rfl) <| xn <| wpC_seq <| reg_s <| st rfl <| ldb rfl rfl rfl rfl <| st rfl <| mvd rfl rfl <| st rfl <| ldb rfl rfl rfl rfl <| st rfl <| mvd rfl rfl <| st rfl <| mvd rfl rfl <| bnd h fun x33 e34 h => st rfl <| o_call (a1 (c := (cXGeo (cLs cI rfl))) (tXGeo (tLs tK)) rfl (a1 (c := (cLs (cXVariable cS cI) rfl)) (tLs (tXVariable tS tK)) rfl (a1 (c := (cXTable cI (cLs cI rfl) (cLs cI rfl) cI)) (tXTable tK (tLs tK) (tLs tK) tK) rfl (a1 (c := cI) tK rfl (a1 (c := (cLs cI rfl)) (tLs tK) rfl a0))))) (con_impl_cellIndex e34) (.inl (so1 sK so0)) <| x_asg (ss rfl rfl) <| seqN [(12, .d (cI.enc x33))] (by kernel_rfl) <|
    xn <| wpC_seq <| wpC_kp <| wpC_seq <| reg_s <| st rfl <| mvd rfl rfl <| st rfl <| b_lss (k := .i64) rfl rfl <| seqN [(12, .d (cI.enc x33)), (33, .d (cB.enc (decide (x33 < (0 : Int)))))] (by kernel_rfl) <|
    xn <| cnd rfl h (fun b36 h => wpC_seq <| reg_s <| x_asg (sc cI (0 : Int) rfl) <| x_asg (sc cB false rfl) <| seqN [(10, .d (cI.enc (0 : Int))), (11, .d (cB.enc false))] (by kernel_rfl) <|
    xn <| wpC_ret <| rt <| rt <| re <| fin h (r1 (ss rfl rfl) <| r1 (ss rfl rfl) <| r0) rfl)
    (fun b36 h => wpC_skip <| kpN [(12, .d (cI.enc x33))] (by kernel_rfl) <| xn <| wpC_seq <| reg_s <| st rfl <| mvd rfl rfl <| x_asg (ss rfl rfl) <| x_asg (sc cB true rfl) <| seqN [(10, .d (cI.enc x33)), (11, .d (cB.enc true))] (by kernel_rfl) <|
    xn <| wpC_ret <| re <| fin h (r1 (ss rfl rfl) <| r1 (ss rfl rfl) <| r0) rfl)))

def rs_laws_FnExactCellIndex (r : Bool) : List D := [cB.enc r]
def m9 : MC := .seq (.reg [⟨some 5, .box (.t 0), none⟩,
    ⟨some 7, .box (.t 2), none⟩,
    ⟨some 10, .asg (.c (.bool false)), none⟩] [1, 3, 4, 5, 7])
  (.seq (.kp [1, 3, 4, 5, 7] (.seq (.reg [⟨some 20, .mv (.t 4), none⟩,
    ⟨some 21, .len false (.t 20), none⟩,
    ⟨some 22, .bin .gtr (.t 21) (.c (.int .i64 1048576)), none⟩] [1, 3, 4, 5, 7, 22])
  (.cond (.t 22) (.seq (.reg [⟨some 10, .asg (.c (.bool true)), none⟩] [10])
  (.ret)) (.skip))))
  (.seq (.reg [⟨some 11, .asg (.c (.int .i64 1048576)), none⟩] [1, 3, 4, 5, 7, 11])
  (.seq (.reg [⟨some 23, .ld 5 1 true, none⟩,
    ⟨some 24, .mv (.t 11), none⟩,
    ⟨some 25, .call 26 [(.t 23), (.t 24)], none⟩,
    ⟨some 11, .asg (.t 25), none⟩] [1, 3, 4, 5, 7, 11])
  (.seq (.kp [1, 3, 4, 5, 7, 11] (.seq (.reg [⟨some 26, .mv (.t 11), none⟩,
    ⟨some 27, .bin .lss (.t 26) (.c (.int .i64 0)), none⟩] [1, 3, 4, 5, 7, 11, 27])
  (.cond (.t 27) (.seq (.reg [⟨some 10, .asg (.c (.bool true)), none⟩] [10])
  (.ret)) (.skip))))
  (.seq (.reg [⟨some 28, .mv (.t 1), none⟩,
    ⟨some 29, .mv (.t 11), none⟩,
    ⟨some 30, .call 15 [(.t 28), (.t 29)], none⟩,
    ⟨some 11, .asg (.t 30), none⟩] [1, 3, 4, 5, 7, 11])
  (.seq (.kp [1, 3, 4, 5, 7, 11] (.seq (.reg [⟨some 31, .mv (.t 11), none⟩,
    ⟨some 32, .bin .lss (.t 31) (.c (.int .i64 0)), none⟩] [1, 3, 4, 5, 7, 11, 32])
  (.cond (.t 32) (.seq (.reg [⟨some 10, .asg (.c (.bool true)), none⟩] [10])
  (.ret)) (.skip))))
  (.seq (.reg [⟨some 33, .ld 7 4 true, none⟩,
    ⟨some 34, .mv (.t 11), none⟩,
    ⟨some 35, .call 16 [(.t 33), (.t 34)], none⟩,
    ⟨some 11, .asg (.t 35), none⟩] [1, 3, 4, 5, 7, 11])
  (.seq (.kp [1, 3, 4, 5, 7] (.seq (.reg [⟨some 36, .mv (.t 11), none⟩,
    ⟨some 37, .bin .lss (.t 36) (.c (.int .i64 0)), none⟩] [1, 3, 4, 5, 7, 37])
  (.cond (.t 37) (.seq (.reg [⟨some 10, .asg (.c (.bool true)), none⟩] [10])
  (.ret)) (.skip))))
  (.seq (.drg [⟨0, ⟨some 39, .ld 5 1 true, none⟩, [40, 41, 42, 43, 44, 45, 46, 47, 48]⟩,
    ⟨1, ⟨some 40, .call 28 [(.t 39)], none⟩, [41, 42, 43, 44, 45, 46, 47, 48]⟩,
    ⟨2, ⟨some 41, .mv (.t 1), none⟩, [39, 40, 42, 43, 44, 45, 46, 47, 48]⟩,
    ⟨3, ⟨some 42, .call 19 [(.t 41)], none⟩, [43, 44, 45, 46, 47, 48]⟩,
    ⟨4, ⟨some 43, .ld 7 4 true, none⟩, [39, 40, 41, 42, 44, 45, 46, 47, 48]⟩,
    ⟨5, ⟨some 44, .call 20 [(.t 43)], none⟩, [45, 46, 47, 48]⟩,
    ⟨6, ⟨some 45, .mv (.t 3), none⟩, [39, 40, 41, 42, 43, 44, 46, 47, 48]⟩,
    ⟨7, ⟨some 46, .mv (.t 4), none⟩, [39, 40, 41, 42, 43, 44, 45, 47, 48]⟩,
    ⟨8, ⟨some 47, .call 49 [(.t 46)], none⟩, [45, 48]⟩,
    ⟨9, ⟨some 48, .call 48 [(.t 40), (.t 42), (.t 44), (.t 45), (.t 47)], none⟩, []⟩]
    [(10, ⟨some 38, .mvt 48, none⟩),
    (11, ⟨some 49, .ext 38 0, none⟩),
    (12, ⟨some 50, .ext 38 1, none⟩),
    (13, ⟨some 12, .asg (.t 49), none⟩),
    (14, ⟨some 13, .asg (.t 50), none⟩)] [1, 3, 4, 5, 7, 12, 13] [12, 13, 38, 48, 49, 50, 1, 3, 4, 5, 7] [([false, false, false, false, false], 0), ([true, false, false, false, false], 1), ([true, false, false, false, false], 2), ([true, true, false, false, false], 2), ([true, true, false, false, false], 3), ([true, false, true, false, false], 1), ([true, true, true, false, false], 3), ([true, true, false, true, false], 2), ([true, true, true, true, false], 4)])
  (.seq (.reg [⟨some 51, .ld 5 1 true, none⟩,
    ⟨some 52, .call 28 [(.t 51)], none⟩,
    ⟨some 14, .alloc (.agg [.slice true []]), none⟩,
    ⟨none, .st 14 (.t 52) 1, none⟩] [1, 3, 4, 5, 7, 12, 13, 14])
  (.seq (.reg [⟨some 53, .mv (.t 1), none⟩,
    ⟨some 54, .call 19 [(.t 53)], none⟩,
    ⟨some 15, .asg (.t 54), none⟩] [1, 3, 4, 5, 7, 12, 13, 14, 15])
  (.seq (.reg [⟨some 55, .ld 7 4 true, none⟩,
    ⟨some 56, .call 20 [(.t 55)], none⟩,
    ⟨some 16, .alloc (.agg [.int .i64 0, .slice true [], .slice true [], .int .i64 0]), none⟩,
    ⟨none, .st 16 (.t 56) 4, none⟩] [1, 3, 4, 5, 7, 12, 13, 14, 15, 16])
  (.seq (.reg [⟨some 57, .mv (.t 4), none⟩,
    ⟨some 58, .call 49 [(.t 57)], none⟩,
    ⟨some 17, .asg (.t 58), none⟩] [1, 3, 4, 5, 7, 12, 13, 14, 15, 16, 17])
  (.seq (.reg [⟨some 60, .ld 14 1 true, none⟩,
    ⟨some 61, .mv (.t 15), none⟩,
    ⟨some 62, .ld 16 4 true, none⟩,
    ⟨some 63, .mv (.t 3), none⟩,
    ⟨some 64, .mv (.t 17), none⟩,
    ⟨some 65, .call 50 [(.t 60), (.t 61), (.t 62), (.t 63), (.t 64)], none⟩,
    ⟨some 59, .mvt 65, none⟩,
    ⟨some 66, .ext 59 0, none⟩,
    ⟨some 67, .ext 59 1, none⟩,
    ⟨some 18, .asg (.t 66), none⟩,
    ⟨some 19, .asg (.t 67), none⟩] [1, 4, 5, 7, 12, 13, 14, 15, 16, 17, 18, 19])
  (.seq (.kp [1, 4, 5, 7, 14, 15, 16, 17] (.seq (.reg [⟨some 68, .mv (.t 18), none⟩,
    ⟨some 69, .mv (.t 12), none⟩,
    ⟨some 70, .bin .neq (.t 68) (.t 69), none⟩,
    ⟨some 71, .mv (.t 70), none⟩,
    ⟨some 72, .mv (.t 19), some (71, false)⟩,
    ⟨some 73, .mv (.t 13), some (71, false)⟩,
    ⟨some 74, .eqb true (.t 72) (.t 73), some (71, false)⟩,
    ⟨some 75, .pick (.t 71) (.c (.bool true)) (.t 74), none⟩] [1, 4, 5, 7, 14, 15, 16, 17, 75])
  (.cond (.t 75) (.seq (.reg [⟨some 10, .asg (.c (.bool false)), none⟩] [10])
  (.ret)) (.skip))))
  (.seq (.kp [1, 4, 7, 15, 16, 17] (.seq (.drw [⟨0, ⟨some 76, .ld 14 1 true, none⟩, [77, 78, 79, 80]⟩,
    ⟨1, ⟨some 77, .ld 5 1 true, none⟩, [76, 78, 79, 80]⟩,
    ⟨2, ⟨some 78, .call 28 [(.t 77)], none⟩, [76, 79, 80]⟩,
    ⟨3, ⟨some 79, .call 30 [(.t 76), (.t 78)], none⟩, [80]⟩,
    ⟨4, ⟨some 80, .nt (.t 79), none⟩, []⟩]
    [] [1, 4, 7, 15, 16, 17, 80])
  (.cond (.t 80) (.seq (.reg [⟨some 10, .asg (.c (.bool false)), none⟩] [10])
  (.ret)) (.skip))))
  (.seq (.kp [4, 7, 16, 17] (.seq (.reg [⟨some 81, .mv (.t 15), none⟩,
    ⟨some 82, .mv (.t 1), none⟩,
    ⟨some 83, .call 19 [(.t 82)], none⟩,
    ⟨some 84, .call 23 [(.t 81), (.t 83)], none⟩,
    ⟨some 85, .nt (.t 84), none⟩] [4, 7, 16, 17, 85])
  (.cond (.t 85) (.seq (.reg [⟨some 10, .asg (.c (.bool false)), none⟩] [10])
  (.ret)) (.skip))))
  (.seq (.kp [4, 17] (.seq (.drw [⟨0, ⟨some 86, .ld 16 4 true, none⟩, [87, 88, 89, 90]⟩,
    ⟨1, ⟨some 87, .ld 7 4 true, none⟩, [86, 88, 89, 90]⟩,
    ⟨2, ⟨some 88, .call 20 [(.t 87)], none⟩, [86, 89, 90]⟩,
    ⟨3, ⟨some 89, .call 24 [(.t 86), (.t 88)], none⟩, [90]⟩,
    ⟨4, ⟨some 90, .nt (.t 89), none⟩, []⟩]
    [] [4, 17, 90])
  (.cond (.t 90) (.seq (.reg [⟨some 10, .asg (.c (.bool false)), none⟩] [10])
  (.ret)) (.skip))))
  (.seq (.kp [] (.seq (.reg [⟨some 91, .mv (.t 17), none⟩,
    ⟨some 92, .mv (.t 4), none⟩,
    ⟨some 93, .call 49 [(.t 92)], none⟩,
    ⟨some 94, .call 42 [(.t 91), (.t 93)], none⟩,
    ⟨some 95, .nt (.t 94), none⟩] [95])
  (.cond (.t 95) (.seq (.reg [⟨some 10, .asg (.c (.bool false)), none⟩] [10])
  (.ret)) (.skip))))
  (.seq (.reg [⟨some 10, .asg (.c (.bool true)), none⟩] [10])
  (.ret)))))))))))))))))))))
theorem con_laws_FnExactCellIndex {v0 : XGeo} {v1 : (List XVariable)} {v2 : XTable} {v3 : Int} {v4 : (List Int)} {r : Bool} (h : sh_laws_FnExactCellIndex v0 v1 v2 v3 v4 = some r) : Con Try.prog 9 [(cXGeo (cLs cI rfl)).enc v0, (cLs (cXVariable cS cI) rfl).enc v1, (cXTable cI (cLs cI rfl) (cLs cI rfl) cI).enc v2, cI.enc v3, (cLs cI rfl).enc v4] [] (rs_laws_FnExactCellIndex r) := by
  delta sh_laws_FnExactCellIndex at h
  refine top (out := none) (f := Try.f9) (m := m9) (rs := [.t 10]) (by kernel_rfl) rfl (by kernel_rfl) (by kernel_rfl) (by kernel_rfl) (by kernel_rfl) (by kernel_rfl) ?_
  exact
   ini [(0, .d ((cXGeo (cLs cI rfl)).enc v0)), (1, .d ((cLs (cXVariable cS cI) rfl).enc v1)), (2, .d ((cXTable cI (cLs cI rfl) (cLs cI rfl) cI).enc v2)), (3, .d (cI.enc v3)), (4, .d ((cLs cI rfl).enc v4))] rfl <| wpC_seq <| reg_s <| x_box (ss rfl rfl) <| x_box (ss rfl rfl) <| x_asg (sc cB false rfl) <| seqN [(1, .d ((cLs (cXVariable cS cI) rfl).enc v1)), (3, .d (cI.enc v3)), (4, .d ((cLs cI rfl).enc v4)), (5, .box ((cXGeo (cLs cI rfl)).enc v0)), (7, .box ((cXTable cI (cLs cI rfl) (cLs cI rfl) cI).enc v2))] (by kernel_rfl) <|
    xn <| wpC_seq <| wpC_kp <| wpC_seq <| reg_s <| st rfl <| mvd rfl rfl <| stw rfl <| lens rfl fun l5 => st rfl <| b_gtr (k := .i64) rfl rfl <| seqN [(1, .d ((cLs (cXVariable cS cI) rfl).enc v1)), (3, .d (cI.enc v3)), (4, .d ((cLs cI rfl).enc v4)), (5, .box ((cXGeo (cLs cI rfl)).enc v0)), (7, .box ((cXTable cI (cLs cI rfl) (cLs cI rfl) cI).enc v2)), (22, .d (cB.enc (decide ((1048576 : Int) < (v4.length : Int)))))] (by kernel_rfl) <|
    xn <| cnd rfl h (fun b6 h => wpC_seq <| reg_s <| x_asg (sc cB true rfl) <| seqN [(10, .d (cB.enc true))] (by kernel_rfl) <|
    xn <| wpC_ret <| rt <| rt <| re <| fin h (r1 (ss rfl rfl) <| r0) rfl)
    (fun b6 h => wpC_skip <| kpN [(1, .d ((cLs (cXVariable cS cI) rfl).enc v1)), (3, .d (cI.enc v3)), (4, .d ((cLs cI rfl).enc v4)), (5, .box ((cXGeo (cLs cI rfl)).enc v0)), (7, .box ((cXTable cI (cLs cI rfl) (cLs cI rfl) cI).enc v2))] (by kernel_rfl) <| xn <| wpC_seq <| reg_s <| x_asg (sc cI (1048576 : Int) rfl) <| seqN [(1, .d ((cLs (cXVariable cS cI) rfl).enc v1)), (3, .d (cI.enc v3)), (4, .d ((cLs cI rfl).enc v4)), (5, .box ((cXGeo (cLs cI rfl)).enc v0)), (7, .box ((cXTable cI (cLs cI rfl) (cLs cI rfl) cI).enc v2)), (11, .d (cI.enc (1048576 : Int)))] (by kernel_rfl) <|
    xn <| wpC_seq <| reg_s <| st rfl <| ldb rfl rfl rfl rfl <| st rfl <| mvd rfl rfl <| bnd h fun x9 e10 h => st rfl <| o_call (a1 (c := (cXGeo (cLs cI rfl))) (tXGeo (tLs tK)) rfl (a1 (c := cI) tK rfl a0)) (con_laws_szGeo e10) (.inl (so1 sK so0)) <| x_asg (ss rfl rfl) <| seqN [(1, .d ((cLs (cXVariable cS cI) rfl).enc v1)), (3, .d (cI.enc v3)), (4, .d ((cLs cI rfl).enc v4)), (5, .box ((cXGeo (cLs cI rfl)).enc v0)), (7, .box ((cXTable cI (cLs cI rfl) (cLs cI rfl) cI).enc v2)), (11, .d (cI.enc x9))] (by kernel_rfl) <|
    xn <| wpC_seq <| wpC_kp <| wpC_seq <| reg_s <| st rfl <| mvd rfl rfl <| st rfl <| b_lss (k := .i64) rfl rfl <| seqN [(1, .d ((cLs (cXVariable cS cI) rfl).enc v1)), (3, .d (cI.enc v3)), (4, .d ((cLs cI rfl).enc v4)), (5, .box ((cXGeo (cLs cI rfl)).enc v0)), (7, .box ((cXTable cI (cLs cI rfl) (cLs cI rfl) cI).enc v2)), (11, .d (cI.enc x9)), (27, .d (cB.enc (decide (x9 < (0 : Int)))))] (by kernel_rfl) <|
    xn <| cnd rfl h (fun b12 h => wpC_seq <| reg_s <| x_asg (sc cB true rfl) <| seqN [(10, .d (cB.enc true))] (by kernel_rfl) <|
    xn <| wpC_ret <| rt <| rt <| re <| fin h (r1 (ss rfl rfl) <| r0) rfl)
    (fun b12 h => wpC_skip <| kpN [(1, .d ((cLs (cXVariable cS cI) rfl).enc v1)), (3, .d (cI.enc v3)), (4, .d ((cLs cI rfl).enc v4)), (5, .box ((cXGeo (cLs cI rfl)).enc v0)), (7, .box ((cXTable cI (cLs cI rfl) (cLs cI rfl) cI).enc v2)), (11, .d (cI.enc x9))] (by kernel_rfl) <| xn <| wpC_seq <| reg_s <| st rfl <| mvd rfl rfl <| st rfl <| mvd rfl rfl <| bnd h fun x15 e16 h => st rfl <| o_call (a1 (c := (cLs (cXVariable cS cI) rfl)) (tLs (tXVariable tS tK)) rfl (a1 (c := cI) tK rfl a0)) (con_laws_szVariableS e16) (.inl (so1 sK so0)) <| x_asg (ss rfl rfl) <| seqN [(1, .d ((cLs (cXVariable cS cI) rfl).enc v1)), (3, .d (cI.enc v3)), (4, .d ((cLs cI rfl).enc v4)), (5, .box ((cXGeo (cLs cI rfl)).enc v0)), (7, .box ((cXTable cI (cLs cI rfl) (cLs cI rfl) cI).enc v2)), (11, .d (cI.enc x15))] (by kernel_rfl) <|
    xn <| wpC_seq <| wpC_kp <| wpC_seq <| reg_s <| st rfl <| mvd rfl rfl <| st rfl <| b_lss (k := .i64) rfl rfl <| seqN [(1, .d ((cLs (cXVariable cS cI) rfl).enc v1)), (3, .d (cI.enc v3)), (4, .d ((cLs cI rfl).enc v4)), (5, .box ((cXGeo (cLs cI rfl)).enc v0)), (7, .box ((cXTable cI (cLs cI rfl) (cLs cI rfl) cI).enc v2)), (11, .d (cI.enc x15)), (32, .d (cB.enc (decide (x15 < (0 : Int)))))] (by kernel_rfl) <|
    xn <| cnd rfl h (fun b18 h => wpC_seq <| reg_s <| x_asg (sc cB true rfl) <| seqN [(10, .d (cB.enc true))] (by kernel_rfl) <|
    xn <| wpC_ret <| rt <| rt <| re <| fin h (r1 (ss rfl rfl) <| r0) rfl)
    (fun b18 h => wpC_skip <| kpN [(1, .d ((cLs (cXVariable cS cI) rfl).enc v1)), (3, .d (cI.enc v3)), (4, .d ((cLs cI rfl).enc v4)), (5, .box ((cXGeo (cLs cI rfl)).enc v0)), (7, .box ((cXTable cI (cLs cI rfl) (cLs cI rfl) cI).enc v2)), (11, .d (cI.enc x15))] (by kernel_rfl) <| xn <| wpC_seq <| reg_s <| st rfl <| ldb rfl rfl rfl rfl <| st rfl <| mvd rfl rfl <| bnd h fun x21 e22 h => st rfl <| o_call (a1 (c := (cXTable cI (cLs cI rfl) (cLs cI rfl) cI)) (tXTable tK (tLs tK) (tLs tK) tK) rfl (a1 (c := cI) tK rfl a0)) (con_laws_szTable e22) (.inl (so1 sK so0)) <| x_asg (ss rfl rfl) <| seqN [(1, .d ((cLs (cXVariable cS cI) rfl).enc v1)), (3, .d (cI.enc v3)), (4, .d ((cLs cI rfl).enc v4)), (5, .box ((cXGeo (cLs cI rfl)).enc v0)), (7, .box ((cXTable cI (cLs cI rfl) (cLs cI rfl) cI).enc v2)), (11, .d (cI.enc x21))] (by kernel_rfl) <|
    xn <| wpC_seq <| wpC_kp <| wpC_seq <| reg_s <| st rfl <| mvd rfl rfl <| st rfl <| b_lss (k := .i64) rfl rfl <| seqN [(1, .d ((cLs (cXVariable cS cI) rfl).enc v1)), (3, .d (cI.enc v3)), (4, .d ((cLs cI rfl).enc v4)), (5, .box ((cXGeo (cLs cI rfl)).enc v0)), (7, .box ((cXTable cI (cLs cI rfl) (cLs cI rfl) cI).enc v2)), (37, .d (cB.enc (decide (x21 < (0 : Int)))))] (by kernel_rfl) <|
    xn <| cnd rfl h (fun b24 h => wpC_seq <| reg_s <| x_asg (sc cB true rfl) <| seqN [(10, .d (cB.enc true))] (by kernel_rfl) <|
    xn <| wpC_ret <| rt <| rt <| re <| fin h (r1 (ss rfl rfl) <| r0) rfl)
    (fun b24 h => wpC_skip <| kpN [(1, .d ((cLs (cXVariable cS cI) rfl).enc v1)), (3, .d (cI.enc v3)), (4, .d ((cLs cI rfl).enc v4)), (5, .box ((cXGeo (cLs cI rfl)).enc v0)), (7, .box ((cXTable cI (cLs cI rfl) (cLs cI rfl) cI).enc v2))] (by kernel_rfl) <| xn <| wpC_seq <| drg_s <| pst rfl <| ldb rfl rfl rfl rfl ⟨rfl, bndp h fun x35 e36 h => pst rfl <| o_call (a1 (c := (cXGeo (cLs cI rfl))) (tXGeo (tLs tK)) rfl a0) (con_laws_toGeo e36) (.inl (so1 (sXGeo (sLo sK)) so0)) ⟨rfl, pst rfl <| mvd rfl rfl ⟨rfl, bndp h fun x37 e38 h => pst rfl <| o_call (a1 (c := (cLs (cXVariable cS cI) rfl)) (tLs (tXVariable tS tK)) rfl a0) (con_laws_toVariableS e38) (.inl (so1 (sLo (sXVariable sS sK)) so0)) ⟨rfl, pst rfl <| ldb rfl rfl rfl rfl ⟨rfl, bndp h fun x39 e40 h => pst rfl <| o_call (a1 (c := (cXTable cI (cLs cI rfl) (cLs cI rfl) cI)) (tXTable tK (tLs tK) (tLs tK) tK) rfl a0) (con_laws_toTable e40) (.inl (so1 (sXTable sK (sLo sK) (sLo sK) sK) so0)) ⟨rfl, pst rfl <| mvd rfl rfl ⟨rfl, pst rfl <| mvd rfl rfl ⟨rfl, bndp h fun x41 e42 h => pst rfl <| o_call (a1 (c := (cLs cI rfl)) (tLs tK) rfl a0) (con_laws_toIntS e42) (.inl (so1 (sLo sK) so0)) ⟨rfl, bndp h fun x43 e44 h => pst rfl <| o_call (a1 (c := (cXGeo (cLo cI))) (tXGeo (tLo tK)) rfl (a1 (c := (cLo (cXVariable cS cI))) (tLo (tXVariable tS tK)) rfl (a1 (c := (cXTable cI (cLo cI) (cLo cI) cI)) (tXTable tK (tLo tK) (tLo tK) tK) rfl (a1 (c := cI) tK rfl (a1 (c := (cLo cI)) (tLo tK) rfl a0))))) (con_spec_CellIndex e44) (.inl (so1 sK (so1 sB so0))) ⟨rfl, preN <| gr_s [(1, .d ((cLs (cXVariable cS cI) rfl).enc v1)), (3, .d (cI.enc v3)), (4, .d ((cLs cI rfl).enc v4)), (5, .box ((cXGeo (cLs cI rfl)).enc v0)), (7, .box ((cXTable cI (cLs cI rfl) (cLs cI rfl) cI).enc v2))] [([false, false, false, false, false], [(12, .un), (13, .un), (38, .un), (48, .tup [some (cI.enc x43.1), some (cB.enc x43.2)]), (49, .un), (50, .un)]),
     ([true, false, false, false, false], [(12, .un), (13, .un), (38, .tup [some (cI.enc x43.1), some (cB.enc x43.2)]), (48, .un), (49, .un), (50, .un)]),
     ([true, true, false, false, false], [(12, .un), (13, .un), (38, .tup [none, some (cB.enc x43.2)]), (48, .un), (49, .d (cI.enc x43.1)), (50, .un)]),
     ([true, false, true, false, false], [(12, .un), (13, .un), (38, .tup [some (cI.enc x43.1), none]), (48, .un), (49, .un), (50, .d (cB.enc x43.2))]),
     ([true, true, true, false, false], [(12, .un), (13, .un), (38, .tup [none, none]), (48, .un), (49, .d (cI.enc x43.1)), (50, .d (cB.enc x43.2))]),
     ([true, true, false, true, false], [(12, .d (cI.enc x43.1)), (13, .un), (38, .tup [none, some (cB.enc x43.2)]), (48, .un), (49, .d (cI.enc x43.1)), (50, .un)]),
     ([true, true, true, true, false], [(12, .d (cI.enc x43.1)), (13, .un), (38, .tup [none, none]), (48, .un), (49, .d (cI.enc x43.1)), (50, .d (cB.enc x43.2))]),
     ([true, true, true, true, true], [(12, .d (cI.enc x43.1)), (13, .d (cB.enc x43.2)), (38, .tup [none, none]), (48, .un), (49, .d (cI.enc x43.1)), (50, .d (cB.enc x43.2))])] [(1, .d ((cLs (cXVariable cS cI) rfl).enc v1)), (3, .d (cI.enc v3)), (4, .d ((cLs cI rfl).enc v4)), (5, .box ((cXGeo (cLs cI rfl)).enc v0)), (7, .box ((cXTable cI (cLs cI rfl) (cLs cI rfl) cI).enc v2)), (12, .d (cI.enc x43.1)), (13, .d (cB.enc x43.2))] [([false, false, false, false, false], [])] (by kernel_rfl) (sa1 rfl (by kernel_rfl) <| sa0) rfl
    (ob1 rfl rfl rfl (x_mvt rfl <| obN (by kernel_rfl)) <|
    ob1 rfl rfl rfl (x_ext rfl rfl <| obN (by kernel_rfl)) <|
    ob1 rfl rfl rfl (x_ext rfl rfl <| obN (by kernel_rfl)) <|
    ob1 rfl rfl rfl (x_ext rfl rfl <| obN (by kernel_rfl)) <|
    ob1 rfl rfl rfl (x_asg (ss rfl rfl) <| obN (by kernel_rfl)) <|
    ob1 rfl rfl rfl (x_ext rfl rfl <| obN (by kernel_rfl)) <|
    ob1 rfl rfl rfl (x_asg (ss rfl rfl) <| obN (by kernel_rfl)) <|
    ob1 rfl rfl rfl (x_ext rfl rfl <| obN (by kernel_rfl)) <|
    ob1 rfl rfl rfl (x_asg (ss rfl rfl) <| obN (by kernel_rfl)) <|
    ob0)
    (by kernel_rfl) <|
    xn <| wpC_seq <| reg_s <| st rfl <| ldb rfl rfl rfl rfl <| bnd h fun x47 e48 h => st rfl <| o_call (a1 (c := (cXGeo (cLs cI rfl))) (tXGeo (tLs tK)) rfl a0) (con_laws_toGeo e48) (.inl (so1 (sXGeo (sLo sK)) so0)) <| x_all (cXGeo (cLo cI)) (⟨([] : List Int)⟩ : XGeo) rfl <| x_stb (so rfl rfl) rfl (Cd.h_sz _ _) rfl <| seqN [(1, .d ((cLs (cXVariable cS cI) rfl).enc v1)), (3, .d (cI.enc v3)), (4, .d ((cLs cI rfl).enc v4)), (5, .box ((cXGeo (cLs cI rfl)).enc v0)), (7, .box ((cXTable cI (cLs cI rfl) (cLs cI rfl) cI).enc v2)), (12, .d (cI.enc x43.1)), (13, .d (cB.enc x43.2)), (14, .box ((cXGeo (cLo cI)).enc x47))] (by kernel_rfl) <|
    xn <| wpC_seq <| reg_s <| st rfl <| mvd rfl rfl <| bnd h fun x51 e52 h => st rfl <| o_call (a1 (c := (cLs (cXVariable cS cI) rfl)) (tLs (tXVariable tS tK)) rfl a0) (con_laws_toVariableS e52) (.inl (so1 (sLo (sXVariable sS sK)) so0)) <| x_asg (so rfl rfl) <| seqN [(1, .d ((cLs (cXVariable cS cI) rfl).enc v1)), (3, .d (cI.enc v3)), (4, .d ((cLs cI rfl).enc v4)), (5, .box ((cXGeo (cLs cI rfl)).enc v0)), (7, .box ((cXTable cI (cLs cI rfl) (cLs cI rfl) cI).enc v2)), (12, .d (cI.enc x43.1)), (13, .d (cB.enc x43.2)), (14, .box ((cXGeo (cLo cI)).enc x47)), (15, .d ((cLo (cXVariable cS cI)).enc x51))] (by kernel_rfl) <|
    xn <| wpC_seq <| reg_s <| st rfl <| ldb rfl rfl rfl rfl <| bnd h fun x55 e56 h => st rfl <| o_call (a1 (c := (cXTable cI (cLs cI rfl) (cLs cI rfl) cI)) (tXTable tK (tLs tK) (tLs tK) tK) rfl a0) (con_laws_toTable e56) (.inl (so1 (sXTable sK (sLo sK) (sLo sK) sK) so0)) <| x_all (cXTable cI (cLo cI) (cLo cI) cI) (⟨(0 : Int), ([] : List Int), ([] : List Int), (0 : Int)⟩ : XTable) rfl <| x_stb (so rfl rfl) rfl (Cd.h_sz _ _) rfl <| seqN [(1, .d ((cLs (cXVariable cS cI) rfl).enc v1)), (3, .d (cI.enc v3)), (4, .d ((cLs cI rfl).enc v4)), (5, .box ((cXGeo (cLs cI rfl)).enc v0)), (7, .box ((cXTable cI (cLs cI rfl) (cLs cI rfl) cI).enc v2)), (12, .d (cI.enc x43.1)), (13, .d (cB.enc x43.2)), (14, .box ((cXGeo (cLo cI)).enc x47)), (15, .d ((cLo (cXVariable cS cI)).enc x51)), (16, .box ((cXTable cI (cLo cI) (cLo cI) cI).enc x55))] (by kernel_rfl) <|
    xn <| wpC_seq <| reg_s <| st rfl <| mvd rfl rfl <| bnd h fun x59 e60 h => st rfl <| o_call (a1 (c := (cLs cI rfl)) (tLs tK) rfl a0) (con_laws_toIntS e60) (.inl (so1 (sLo sK) so0)) <| x_asg (so rfl rfl) <| seqN [(1, .d ((cLs (cXVariable cS cI) rfl).enc v1)), (3, .d (cI.enc v3)), (4, .d ((cLs cI rfl).enc v4)), (5, .box ((cXGeo (cLs cI rfl)).enc v0)), (7, .box ((cXTable cI (cLs cI rfl) (cLs cI rfl) cI).enc v2)), (12, .d (cI.enc x43.1)), (13, .d (cB.enc x43.2)), (14, .box ((cXGeo (cLo cI)).enc x47)), (15, .d ((cLo (cXVariable cS cI)).enc x51)), (16, .box ((cXTable cI (cLo cI) (cLo cI) cI).enc x55)), (17, .d ((cLo cI).enc x59))] (by kernel_rfl) <|
    xn <| wpC_seq <| reg_s <| st rfl <| ldbo rfl rfl rfl rfl <| st rfl <| mvo rfl rfl <| st rfl <| ldbo rfl rfl rfl rfl <| st rfl <| mvd rfl rfl <| st rfl <| mvo rfl rfl <| bnd h fun x63 e64 h => st rfl <| o_call (a1 (c := (cXGeo (cLo cI))) (tXGeo (tLo tK)) rfl (a1 (c := (cLo (cXVariable cS cI))) (tLo (tXVariable tS tK)) rfl (a1 (c := (cXTable cI (cLo cI) (cLo cI) cI)) (tXTable tK (tLo tK) (tLo tK) tK) rfl (a1 (c := cI) tK rfl (a1 (c := (cLo cI)) (tLo tK) rfl a0))))) (con_impl_CellIndex e64) (.inl (so1 sK (so1 sB so0))) <| x_mvt rfl <| x_ext rfl rfl <| x_ext rfl rfl <| x_asg (ss rfl rfl) <| x_asg (ss rfl rfl) <| seqN [(1, .d ((cLs (cXVariable cS cI) rfl).enc v1)), (4, .d ((cLs cI rfl).enc v4)), (5, .box ((cXGeo (cLs cI rfl)).enc v0)), (7, .box ((cXTable cI (cLs cI rfl) (cLs cI rfl) cI).enc v2)), (12, .d (cI.enc x43.1)), (13, .d (cB.enc x43.2)), (14, .box ((cXGeo (cLo cI)).enc x47)), (15, .d ((cLo (cXVariable cS cI)).enc x51)), (16, .box ((cXTable cI (cLo cI) (cLo cI) cI).enc x55)), (17, .d ((cLo cI).enc x59)), (18, .d (cI.enc x63.1)), (19, .d (cB.enc x63.2))] (by kernel_rfl) <|
    xn <| wpC_seq <| wpC_kp <| wpC_seq <| reg_s <| st rfl <| mvd rfl rfl <| st rfl <| mvd rfl rfl <| st rfl <| b_neq (k := .i64) rfl rfl <| st rfl <| mvd rfl rfl <| ite_k h (fun b69 h => gf rfl b69 <| gf rfl b69 <| gf rfl b69 <| st rfl <| pick1 rfl b69 (cd := cB) (v := true) rfl rfl <| seqN [(1, .d ((cLs (cXVariable cS cI) rfl).enc v1)), (4, .d ((cLs cI rfl).enc v4)), (5, .box ((cXGeo (cLs cI rfl)).enc v0)), (7, .box ((cXTable cI (cLs cI rfl) (cLs cI rfl) cI).enc v2)), (14, .box ((cXGeo (cLo cI)).enc x47)), (15, .d ((cLo (cXVariable cS cI)).enc x51)), (16, .box ((cXTable cI (cLo cI) (cLo cI) cI).enc x55)), (17, .d ((cLo cI).enc x59)), (75, .d (cB.enc true))] (by kernel_rfl) <|
    xn <| cnd1 rfl rfl <| wpC_seq <| reg_s <| x_asg (sc cB false rfl) <| seqN [(10, .d (cB.enc false))] (by kernel_rfl) <|
    xn <| wpC_ret <| rt <| rt <| re <| fin h (r1 (ss rfl rfl) <| r0) rfl)
    (fun b69 h => gt' rfl b69 <| st rfl <| mvd rfl rfl <| gt' rfl b69 <| st rfl <| mvd rfl rfl <| gt' rfl b69 <| st rfl <| eqb1 rfl rfl <| st rfl <| pick0 rfl b69 (cd := cB) (v := (x63.2 != x43.2)) rfl rfl <| seqN [(1, .d ((cLs (cXVariable cS cI) rfl).enc v1)), (4, .d ((cLs cI rfl).enc v4)), (5, .box ((cXGeo (cLs cI rfl)).enc v0)), (7, .box ((cXTable cI (cLs cI rfl) (cLs cI rfl) cI).enc v2)), (14, .box ((cXGeo (cLo cI)).enc x47)), (15, .d ((cLo (cXVariable cS cI)).enc x51)), (16, .box ((cXTable cI (cLo cI) (cLo cI) cI).enc x55)), (17, .d ((cLo cI).enc x59)), (75, .d (cB.enc (x63.2 != x43.2)))] (by kernel_rfl) <|
    xn <| cnd rfl h (fun b70 h => wpC_seq <| reg_s <| x_asg (sc cB false rfl) <| seqN [(10, .d (cB.enc false))] (by kernel_rfl) <|
    xn <| wpC_ret <| rt <| rt <| re <| fin h (r1 (ss rfl rfl) <| r0) rfl)
    (fun b70 h => wpC_skip <| kpN [(1, .d ((cLs (cXVariable cS cI) rfl).enc v1)), (4, .d ((cLs cI rfl).enc v4)), (5, .box ((cXGeo (cLs cI rfl)).enc v0)), (7, .box ((cXTable cI (cLs cI rfl) (cLs cI rfl) cI).enc v2)), (14, .box ((cXGeo (cLo cI)).enc x47)), (15, .d ((cLo (cXVariable cS cI)).enc x51)), (16, .box ((cXTable cI (cLo cI) (cLo cI) cI).enc x55)), (17, .d ((cLo cI).enc x59))] (by kernel_rfl) <| xn <| wpC_seq <| wpC_kp <| wpC_seq <| drw_s <| pst rfl <| ldbo rfl rfl rfl rfl ⟨rfl, pst rfl <| ldb rfl rfl rfl rfl ⟨rfl, bndp h fun x84 e85 h => pst rfl <| o_call (a1 (c := (cXGeo (cLs cI rfl))) (tXGeo (tLs tK)) rfl a0) (con_laws_toGeo e85) (.inl (so1 (sXGeo (sLo sK)) so0)) ⟨rfl, bndp h fun x86 e87 h => pst rfl <| o_call (a1 (c := (cXGeo (cLo cI))) (tXGeo (tLo tK)) rfl (a1 (c := (cXGeo (cLo cI))) (tXGeo (tLo tK)) rfl a0)) (con_laws_eqGeo e87) (.inl (so1 sB so0)) ⟨rfl, pst rfl <| o_nt rfl ⟨rfl, preN <| seqN [(1, .d ((cLs (cXVariable cS cI) rfl).enc v1)), (4, .d ((cLs cI rfl).enc v4)), (7, .box ((cXTable cI (cLs cI rfl) (cLs cI rfl) cI).enc v2)), (15, .d ((cLo (cXVariable cS cI)).enc x51)), (16, .box ((cXTable cI (cLo cI) (cLo cI) cI).enc x55)), (17, .d ((cLo cI).enc x59)), (80, .d (cB.enc (!x86)))] (by kernel_rfl) <|
    xn <| cnd rfl h (fun b88 h => wpC_seq <| reg_s <| x_asg (sc cB false rfl) <| seqN [(10, .d (cB.enc false))] (by kernel_rfl) <|
    xn <| wpC_ret <| rt <| rt <| re <| fin h (r1 (ss rfl rfl) <| r0) rfl)
    (fun b88 h => wpC_skip <| kpN [(1, .d ((cLs (cXVariable cS cI) rfl).enc v1)), (4, .d ((cLs cI rfl).enc v4)), (7, .box ((cXTable cI (cLs cI rfl) (cLs cI rfl) cI).enc v2)), (15, .d ((cLo (cXVariable cS cI)).enc x51)), (16, .box ((cXTable cI (cLo cI) (cLo cI) cI).enc x55)), (17, .d ((cLo cI).enc x59))] (by kernel_rfl) <| xn <| wpC_seq <| wpC_kp <| wpC_seq <| reg_s <| st rfl <| mvo rfl rfl <| st rfl <| mvd rfl rfl <| bnd h fun x102 e103 h => st rfl <| o_call (a1 (c := (cLs (cXVariable cS cI) rfl)) (tLs (tXVariable tS tK)) rfl a0) (con_laws_toVariableS e103) (.inl (so1 (sLo (sXVariable sS sK)) so0)) <| bnd h fun x104 e105 h => st rfl <| o_call (a1 (c := (cLo (cXVariable cS cI))) (tLo (tXVariable tS tK)) rfl (a1 (c := (cLo (cXVariable cS cI))) (tLo (tXVariable tS tK)) rfl a0)) (con_laws_eqVariableS e105) (.inl (so1 sB so0)) <| st rfl <| o_nt rfl <| seqN [(4, .d ((cLs cI rfl).enc v4)), (7, .box ((cXTable cI (cLs cI rfl) (cLs cI rfl) cI).enc v2)), (16, .box ((cXTable cI (cLo cI) (cLo cI) cI).enc x55)), (17, .d ((cLo cI).enc x59)), (85, .d (cB.enc (!x104)))] (by kernel_rfl) <|
    xn <| cnd rfl h (fun b106 h => wpC_seq <| reg_s <| x_asg (sc cB false rfl) <| seqN [(10, .d (cB.enc false))] (by kernel_rfl) <|
    xn <| wpC_ret <| rt <| rt <| re <| fin h (r1 (ss rfl rfl) <| r0) rfl)
    (fun b106 h => wpC_skip <| kpN [(4, .d ((cLs cI rfl).enc v4)), (7, .box ((cXTable cI (cLs cI rfl) (cLs cI rfl) cI).enc v2)), (16, .box ((cXTable cI (cLo cI) (cLo cI) cI).enc x55)), (17, .d ((cLo cI).enc x59))] (by kernel_rfl) <| xn <| wpC_seq <| wpC_kp <| wpC_seq <| drw_s <| pst rfl <| ldbo rfl rfl rfl rfl ⟨rfl, pst rfl <| ldb rfl rfl rfl rfl ⟨rfl, bndp h fun x120 e121 h => pst rfl <| o_call (a1 (c := (cXTable cI (cLs cI rfl) (cLs cI rfl) cI)) (tXTable tK (tLs tK) (tLs tK) tK) rfl a0) (con_laws_toTable e121) (.inl (so1 (sXTable sK (sLo sK) (sLo sK) sK) so0)) ⟨rfl, bndp h fun x122 e123 h => pst rfl <| o_call (a1 (c := (cXTable cI (cLo cI) (cLo cI) cI)) (tXTable tK (tLo tK) (tLo tK) tK) rfl (a1 (c := (cXTable cI (cLo cI) (cLo cI) cI)) (tXTable tK (tLo tK) (tLo tK) tK) rfl a0)) (con_laws_eqTable e123) (.inl (so1 sB so0)) ⟨rfl, pst rfl <| o_nt rfl ⟨rfl, preN <| seqN [(4, .d ((cLs cI rfl).enc v4)), (17, .d ((cLo cI).enc x59)), (90, .d (cB.enc (!x122)))] (by kernel_rfl) <|
    xn <| cnd rfl h (fun b124 h => wpC_seq <| reg_s <| x_asg (sc cB false rfl) <| seqN [(10, .d (cB.enc false))] (by kernel_rfl) <|
    xn <| wpC_ret <| rt <| rt <| re <| fin h (r1 (ss rfl rfl) <| r0) rfl)
    (fun b124 h => wpC_skip <| kpN [(4, .d ((cLs cI rfl).enc v4)), (17, .d ((cLo cI).enc x59))] (by kernel_rfl) <| xn <| wpC_seq <| wpC_kp <| wpC_seq <| reg_s <| st rfl <| mvo rfl rfl <| st rfl <| mvd rfl rfl <| bnd h fun x138 e139 h => st rfl <| o_call (a1 (c := (cLs cI rfl)) (tLs tK) rfl a0) (con_laws_toIntS e139) (.inl (so1 (sLo sK) so0)) <| bnd h fun x140 e141 h => st rfl <| o_call (a1 (c := (cLo cI)) (tLo tK) rfl (a1 (c := (cLo cI)) (tLo tK) rfl a0)) (con_laws_eqIntS e141) (.inl (so1 sB so0)) <| st rfl <| o_nt rfl <| seqN [(95, .d (cB.enc (!x140)))] (by kernel_rfl) <|
    xn <| cnd rfl h (fun b142 h => wpC_seq <| reg_s <| x_asg (sc cB false rfl) <| seqN [(10, .d (cB.enc false))] (by kernel_rfl) <|
    xn <| wpC_ret <| rt <| rt <| re <| fin h (r1 (ss rfl rfl) <| r0) rfl)
    (fun b142 h => wpC_skip <| kpN [] (by kernel_rfl) <| xn <| wpC_seq <| reg_s <| x_asg (sc cB true rfl) <| seqN [(10, .d (cB.enc true))] (by kernel_rfl) <|
    xn <| wpC_ret <| re <| fin h (r1 (ss rfl rfl) <| r0) rfl))⟩⟩⟩⟩⟩))⟩⟩⟩⟩⟩))⟩⟩⟩⟩⟩⟩⟩⟩⟩⟩))))
end AS.W
