/- The program computes the plain functions. No condition. -/
import Derived.Test.YtahffpadaffmdaaQSensitivityOfS
import Derived.Test.YtahffpadaffmdaaProg
import Derived.Test.YtahffpadaffmdaaQSensitivityOfL1
set_option maxRecDepth 100000
set_option linter.unusedVariables false
set_option linter.unusedSimpArgs false
namespace AS.W
open Go Go.Proofs
def rs_impl_sensitivityOf (r : Int) : List D := [cI.enc r]
def m105 : MC := .seq (.reg [⟨some 3, .box (.t 1), none⟩,
    ⟨some 4, .asg (.c (.int .i64 0)), none⟩] [0, 3])
  (.seq (.kp [0, 3] (.seq (.reg [⟨some 5, .fa 3 3 3, none⟩,
    ⟨some 6, .ld 5 1 false, none⟩,
    ⟨some 7, .bin .lss (.t 6) (.c (.int .i64 0)), none⟩] [0, 3, 7])
  (.cond (.t 7) (.seq (.reg [⟨some 4, .asg (.c (.int .i64 1)), none⟩] [4])
  (.ret)) (.skip))))
  (.seq (.reg [⟨some 8, .mv (.t 0), none⟩,
    ⟨some 9, .ld 3 4 true, none⟩,
    ⟨some 10, .fa 3 3 3, none⟩,
    ⟨some 11, .ld 10 1 false, none⟩,
    ⟨some 12, .call 135 [(.t 8), (.t 9), (.t 11)], none⟩,
    ⟨some 13, .cvi .u64 (.t 12), none⟩,
    ⟨some 14, .call 134 [(.t 13)], none⟩,
    ⟨some 15, .bin .sub (.t 14) (.c (.int .i64 1)), none⟩,
    ⟨some 4, .asg (.t 15), none⟩] [4])
  (.ret)))
theorem con_impl_sensitivityOf {v0 : (List XVariable)} {v1 : XTable} {r : Int} (h : sh_impl_sensitivityOf v0 v1 = some r) : Con Try.prog 105 [(cLs (cXVariable cS cI) rfl).enc v0, (cXTable cI (cLs cI rfl) (cLs cI rfl) cI).enc v1] [] (rs_impl_sensitivityOf r) := by
  delta sh_impl_sensitivityOf at h
  refine top (out := none) (f := Try.f105) (m := m105) (rs := [.t 4]) (by kernel_rfl) rfl (by kernel_rfl) (by kernel_rfl) (by kernel_rfl) (by kernel_rfl) (by kernel_rfl) ?_
  exact
   ini [(0, .d ((cLs (cXVariable cS cI) rfl).enc v0)), (1, .d ((cXTable cI (cLs cI rfl) (cLs cI rfl) cI).enc v1))] rfl <| wpC_seq <| reg_s <| x_box (ss rfl rfl) <| x_asg (sc cI (0 : Int) rfl) <| seqN [(0, .d ((cLs (cXVariable cS cI) rfl).enc v0)), (3, .box ((cXTable cI (cLs cI rfl) (cLs cI rfl) cI).enc v1))] (by kernel_rfl) <|
    xn <| wpC_seq <| wpC_kp <| wpC_seq <| reg_s <| st rfl <| fab rfl rfl rfl rfl <| st rfl <| lda rfl rfl rfl rfl rfl rfl <| st rfl <| b_lss (k := .i64) rfl rfl <| seqN [(0, .d ((cLs (cXVariable cS cI) rfl).enc v0)), (3, .box ((cXTable cI (cLs cI rfl) (cLs cI rfl) cI).enc v1)), (7, .d (cB.enc (decide (v1.Sum < (0 : Int)))))] (by kernel_rfl) <|
    xn <| cnd rfl h (fun b2 h => wpC_seq <| reg_s <| x_asg (sc cI (1 : Int) rfl) <| seqN [(4, .d (cI.enc (1 : Int)))] (by kernel_rfl) <|
    xn <| wpC_ret <| rt <| rt <| re <| fin h (r1 (ss rfl rfl) <| r0) rfl)
    (fun b2 h => wpC_skip <| kpN [(0, .d ((cLs (cXVariable cS cI) rfl).enc v0)), (3, .box ((cXTable cI (cLs cI rfl) (cLs cI rfl) cI).enc v1))] (by kernel_rfl) <| xn <| wpC_seq <| reg_s <| st rfl <| mvd rfl rfl <| st rfl <| ldb rfl rfl rfl rfl <| st rfl <| fab rfl rfl rfl rfl <| st rfl <| lda rfl rfl rfl rfl rfl rfl <| bnd h fun x9 e10 h => st rfl <| o_call (a1 (c := (cLs (cXVariable cS cI) rfl)) (tLs (tXVariable tS tK)) rfl (a1 (c := (cXTable cI (cLs cI rfl) (cLs cI rfl) cI)) (tXTable tK (tLs tK) (tLs tK) tK) rfl (a1 (c := cI) tK rfl a0))) (con_impl_conditionOf e10) (.inl (so1 sK so0)) <| ckK_k h fun i11 h => st rfl <| o_cvi (k := .i64) (k' := .u64) rfl i11 <| bnd h fun x12 e13 h => st rfl <| o_call (a1 (c := (cK .u64)) tK rfl a0) (con_bits_Len e13) (.inl (so1 sK so0)) <| ckI_k h fun i14 h => st rfl <| b_sub (k := .i64) rfl rfl i14 <| x_asg (ss rfl rfl) <| seqN [(4, .d (cI.enc (x12 - (1 : Int))))] (by kernel_rfl) <|
    xn <| wpC_ret <| re <| fin h (r1 (ss rfl rfl) <| r0) rfl)

def rs_impl_SensitivityOf (r : (Int × Bool)) : List D := [cI.enc r.1, cB.enc r.2]
def m55 : MC := .seq (.reg [⟨some 3, .box (.t 0), none⟩,
    ⟨some 5, .box (.t 2), none⟩,
    ⟨some 6, .asg (.c (.int .i64 0)), none⟩,
    ⟨some 7, .asg (.c (.bool false)), none⟩] [1, 3, 5])
  (.seq (.kp [1, 5] (.seq (.reg [⟨some 8, .ld 3 1 true, none⟩,
    ⟨some 9, .mv (.t 1), none⟩,
    ⟨some 10, .ld 5 4 true, none⟩,
    ⟨some 11, .call 83 [(.t 8), (.t 9), (.t 10)], none⟩,
    ⟨some 12, .nt (.t 11), none⟩] [1, 5, 12])
  (.cond (.t 12) (.seq (.reg [⟨some 6, .asg (.c (.int .i64 0)), none⟩,
    ⟨some 7, .asg (.c (.bool false)), none⟩] [6, 7])
  (.ret)) (.skip))))
  (.seq (.reg [⟨some 13, .mv (.t 1), none⟩,
    ⟨some 14, .ld 5 4 true, none⟩,
    ⟨some 15, .call 105 [(.t 13), (.t 14)], none⟩,
    ⟨some 6, .asg (.t 15), none⟩,
    ⟨some 7, .asg (.c (.bool true)), none⟩] [6, 7])
  (.ret)))
theorem con_impl_SensitivityOf {v0 : XGeo} {v1 : (List XVariable)} {v2 : XTable} {r : (Int × Bool)} (h : sh_impl_SensitivityOf v0 v1 v2 = some r) : Con Try.prog 55 [(cXGeo (cLs cI rfl)).enc v0, (cLs (cXVariable cS cI) rfl).enc v1, (cXTable cI (cLs cI rfl) (cLs cI rfl) cI).enc v2] [] (rs_impl_SensitivityOf r) := by
  delta sh_impl_SensitivityOf at h
  refine top (out := none) (f := Try.f55) (m := m55) (rs := [.t 6, .t 7]) (by kernel_rfl) rfl (by kernel_rfl) (by kernel_rfl) (by kernel_rfl) (by kernel_rfl) (by kernel_rfl) ?_
  exact
   ini [(0, .d ((cXGeo (cLs cI rfl)).enc v0)), (1, .d ((cLs (cXVariable cS cI) rfl).enc v1)), (2, .d ((cXTable cI (cLs cI rfl) (cLs cI rfl) cI).enc v2))] rfl <| wpC_seq <| reg_s <| x_box (ss rfl rfl) <| x_box (ss rfl rfl) <| x_asg (sc cI (0 : Int) rfl) <| x_asg (sc cB false rfl) <| seqN [(1, .d ((cLs (cXVariable cS cI) rfl).enc v1)), (3, .box ((cXGeo (cLs cI rfl)).enc v0)), (5, .box ((cXTable cI (cLs cI rfl) (cLs cI rfl) cI).enc v2))] (by kernel_rfl) <|
    xn <| wpC_seq <| wpC_kp <| wpC_seq <| reg_s <| st rfl <| ldb rfl rfl rfl rfl <| st rfl <| mvd rfl rfl <| st rfl <| ldb rfl rfl rfl rfl <| bnd h fun x8 e9 h => st rfl <| o_call (a1 (c := (cXGeo (cLs cI rfl))) (tXGeo (tLs tK)) rfl (a1 (c := (cLs (cXVariable cS cI) rfl)) (tLs (tXVariable tS tK)) rfl (a1 (c := (cXTable cI (cLs cI rfl) (cLs cI rfl) cI)) (tXTable tK (tLs tK) (tLs tK) tK) rfl a0))) (con_impl_areTabled e9) (.inl (so1 sB so0)) <| st rfl <| o_nt rfl <| seqN [(1, .d ((cLs (cXVariable cS cI) rfl).enc v1)), (5, .box ((cXTable cI (cLs cI rfl) (cLs cI rfl) cI).enc v2)), (12, .d (cB.enc (!x8)))] (by kernel_rfl) <|
    xn <| cnd rfl h (fun b10 h => wpC_seq <| reg_s <| x_asg (sc cI (0 : Int) rfl) <| x_asg (sc cB false rfl) <| seqN [(6, .d (cI.enc (0 : Int))), (7, .d (cB.enc false))] (by kernel_rfl) <|
    xn <| wpC_ret <| rt <| rt <| re <| fin h (r1 (ss rfl rfl) <| r1 (ss rfl rfl) <| r0) rfl)
    (fun b10 h => wpC_skip <| kpN [(1, .d ((cLs (cXVariable cS cI) rfl).enc v1)), (5, .box ((cXTable cI (cLs cI rfl) (cLs cI rfl) cI).enc v2))] (by kernel_rfl) <| xn <| wpC_seq <| reg_s <| st rfl <| mvd rfl rfl <| st rfl <| ldb rfl rfl rfl rfl <| bnd h fun x13 e14 h => st rfl <| o_call (a1 (c := (cLs (cXVariable cS cI) rfl)) (tLs (tXVariable tS tK)) rfl (a1 (c := (cXTable cI (cLs cI rfl) (cLs cI rfl) cI)) (tXTable tK (tLs tK) (tLs tK) tK) rfl a0)) (con_impl_sensitivityOf e14) (.inl (so1 sK so0)) <| x_asg (ss rfl rfl) <| x_asg (sc cB true rfl) <| seqN [(6, .d (cI.enc x13)), (7, .d (cB.enc true))] (by kernel_rfl) <|
    xn <| wpC_ret <| re <| fin h (r1 (ss rfl rfl) <| r1 (ss rfl rfl) <| r0) rfl)

def rs_laws_FnExactSensitivityOf (r : Bool) : List D := [cB.enc r]
def m11 : MC := .seq (.reg [⟨some 3, .box (.t 0), none⟩,
    ⟨some 5, .box (.t 2), none⟩,
    ⟨some 6, .asg (.c (.bool false)), none⟩] [1, 3, 5])
  (.seq (.reg [⟨some 7, .asg (.c (.int .i64 1048576)), none⟩] [1, 3, 5, 7])
  (.seq (.reg [⟨some 15, .ld 3 1 true, none⟩,
    ⟨some 16, .mv (.t 7), none⟩,
    ⟨some 17, .call 26 [(.t 15), (.t 16)], none⟩,
    ⟨some 7, .asg (.t 17), none⟩] [1, 3, 5, 7])
  (.seq (.kp [1, 3, 5, 7] (.seq (.reg [⟨some 18, .mv (.t 7), none⟩,
    ⟨some 19, .bin .lss (.t 18) (.c (.int .i64 0)), none⟩] [1, 3, 5, 7, 19])
  (.cond (.t 19) (.seq (.reg [⟨some 6, .asg (.c (.bool true)), none⟩] [6])
  (.ret)) (.skip))))
  (.seq (.reg [⟨some 20, .mv (.t 1), none⟩,
    ⟨some 21, .mv (.t 7), none⟩,
    ⟨some 22, .call 15 [(.t 20), (.t 21)], none⟩,
    ⟨some 7, .asg (.t 22), none⟩] [1, 3, 5, 7])
  (.seq (.kp [1, 3, 5, 7] (.seq (.reg [⟨some 23, .mv (.t 7), none⟩,
    ⟨some 24, .bin .lss (.t 23) (.c (.int .i64 0)), none⟩] [1, 3, 5, 7, 24])
  (.cond (.t 24) (.seq (.reg [⟨some 6, .asg (.c (.bool true)), none⟩] [6])
  (.ret)) (.skip))))
  (.seq (.reg [⟨some 25, .ld 5 4 true, none⟩,
    ⟨some 26, .mv (.t 7), none⟩,
    ⟨some 27, .call 16 [(.t 25), (.t 26)], none⟩,
    ⟨some 7, .asg (.t 27), none⟩] [1, 3, 5, 7])
  (.seq (.kp [1, 3, 5] (.seq (.reg [⟨some 28, .mv (.t 7), none⟩,
    ⟨some 29, .bin .lss (.t 28) (.c (.int .i64 0)), none⟩] [1, 3, 5, 29])
  (.cond (.t 29) (.seq (.reg [⟨some 6, .asg (.c (.bool true)), none⟩] [6])
  (.ret)) (.skip))))
  (.seq (.drg [⟨0, ⟨some 31, .ld 3 1 true, none⟩, [32, 33, 34, 35, 36, 37]⟩,
    ⟨1, ⟨some 32, .call 28 [(.t 31)], none⟩, [33, 34, 35, 36, 37]⟩,
    ⟨2, ⟨some 33, .mv (.t 1), none⟩, [31, 32, 34, 35, 36, 37]⟩,
    ⟨3, ⟨some 34, .call 19 [(.t 33)], none⟩, [35, 36, 37]⟩,
    ⟨4, ⟨some 35, .ld 5 4 true, none⟩, [31, 32, 33, 34, 36, 37]⟩,
    ⟨5, ⟨some 36, .call 20 [(.t 35)], none⟩, [37]⟩,
    ⟨6, ⟨some 37, .call 54 [(.t 32), (.t 34), (.t 36)], none⟩, []⟩]
    [(7, ⟨some 30, .mvt 37, none⟩),
    (8, ⟨some 38, .ext 30 0, none⟩),
    (9, ⟨some 39, .ext 30 1, none⟩),
    (10, ⟨some 8, .asg (.t 38), none⟩),
    (11, ⟨some 9, .asg (.t 39), none⟩)] [1, 3, 5, 8, 9] [8, 9, 30, 37, 38, 39, 1, 3, 5] [([false, false, false, false, false], 0), ([true, false, false, false, false], 1), ([true, false, false, false, false], 2), ([true, true, false, false, false], 2), ([true, true, false, false, false], 3), ([true, false, true, false, false], 1), ([true, true, true, false, false], 3), ([true, true, false, true, false], 2), ([true, true, true, true, false], 4)])
  (.seq (.reg [⟨some 40, .ld 3 1 true, none⟩,
    ⟨some 41, .call 28 [(.t 40)], none⟩,
    ⟨some 10, .alloc (.agg [.slice true []]), none⟩,
    ⟨none, .st 10 (.t 41) 1, none⟩] [1, 3, 5, 8, 9, 10])
  (.seq (.reg [⟨some 42, .mv (.t 1), none⟩,
    ⟨some 43, .call 19 [(.t 42)], none⟩,
    ⟨some 11, .asg (.t 43), none⟩] [1, 3, 5, 8, 9, 10, 11])
  (.seq (.reg [⟨some 44, .ld 5 4 true, none⟩,
    ⟨some 45, .call 20 [(.t 44)], none⟩,
    ⟨some 12, .alloc (.agg [.int .i64 0, .slice true [], .slice true [], .int .i64 0]), none⟩,
    ⟨none, .st 12 (.t 45) 4, none⟩] [1, 3, 5, 8, 9, 10, 11, 12])
  (.seq (.reg [⟨some 47, .ld 10 1 true, none⟩,
    ⟨some 48, .mv (.t 11), none⟩,
    ⟨some 49, .ld 12 4 true, none⟩,
    ⟨some 50, .call 55 [(.t 47), (.t 48), (.t 49)], none⟩,
    ⟨some 46, .mvt 50, none⟩,
    ⟨some 51, .ext 46 0, none⟩,
    ⟨some 52, .ext 46 1, none⟩,
    ⟨some 13, .asg (.t 51), none⟩,
    ⟨some 14, .asg (.t 52), none⟩] [1, 3, 5, 8, 9, 10, 11, 12, 13, 14])
  (.seq (.kp [1, 3, 5, 10, 11, 12] (.seq (.reg [⟨some 53, .mv (.t 13), none⟩,
    ⟨some 54, .mv (.t 8), none⟩,
    ⟨some 55, .bin .neq (.t 53) (.t 54), none⟩,
    ⟨some 56, .mv (.t 55), none⟩,
    ⟨some 57, .mv (.t 14), some (56, false)⟩,
    ⟨some 58, .mv (.t 9), some (56, false)⟩,
    ⟨some 59, .eqb true (.t 57) (.t 58), some (56, false)⟩,
    ⟨some 60, .pick (.t 56) (.c (.bool true)) (.t 59), none⟩] [1, 3, 5, 10, 11, 12, 60])
  (.cond (.t 60) (.seq (.reg [⟨some 6, .asg (.c (.bool false)), none⟩] [6])
  (.ret)) (.skip))))
  (.seq (.kp [1, 5, 11, 12] (.seq (.drw [⟨0, ⟨some 61, .ld 10 1 true, none⟩, [62, 63, 64, 65]⟩,
    ⟨1, ⟨some 62, .ld 3 1 true, none⟩, [61, 63, 64, 65]⟩,
    ⟨2, ⟨some 63, .call 28 [(.t 62)], none⟩, [61, 64, 65]⟩,
    ⟨3, ⟨some 64, .call 30 [(.t 61), (.t 63)], none⟩, [65]⟩,
    ⟨4, ⟨some 65, .nt (.t 64), none⟩, []⟩]
    [] [1, 5, 11, 12, 65])
  (.cond (.t 65) (.seq (.reg [⟨some 6, .asg (.c (.bool false)), none⟩] [6])
  (.ret)) (.skip))))
  (.seq (.kp [5, 12] (.seq (.reg [⟨some 66, .mv (.t 11), none⟩,
    ⟨some 67, .mv (.t 1), none⟩,
    ⟨some 68, .call 19 [(.t 67)], none⟩,
    ⟨some 69, .call 23 [(.t 66), (.t 68)], none⟩,
    ⟨some 70, .nt (.t 69), none⟩] [5, 12, 70])
  (.cond (.t 70) (.seq (.reg [⟨some 6, .asg (.c (.bool false)), none⟩] [6])
  (.ret)) (.skip))))
  (.seq (.kp [] (.seq (.drw [⟨0, ⟨some 71, .ld 12 4 true, none⟩, [72, 73, 74, 75]⟩,
    ⟨1, ⟨some 72, .ld 5 4 true, none⟩, [71, 73, 74, 75]⟩,
    ⟨2, ⟨some 73, .call 20 [(.t 72)], none⟩, [71, 74, 75]⟩,
    ⟨3, ⟨some 74, .call 24 [(.t 71), (.t 73)], none⟩, [75]⟩,
    ⟨4, ⟨some 75, .nt (.t 74), none⟩, []⟩]
    [] [75])
  (.cond (.t 75) (.seq (.reg [⟨some 6, .asg (.c (.bool false)), none⟩] [6])
  (.ret)) (.skip))))
  (.seq (.reg [⟨some 6, .asg (.c (.bool true)), none⟩] [6])
  (.ret))))))))))))))))))
theorem con_laws_FnExactSensitivityOf {v0 : XGeo} {v1 : (List XVariable)} {v2 : XTable} {r : Bool} (h : sh_laws_FnExactSensitivityOf v0 v1 v2 = some r) : Con Try.prog 11 [(cXGeo (cLs cI rfl)).enc v0, (cLs (cXVariable cS cI) rfl).enc v1, (cXTable cI (cLs cI rfl) (cLs cI rfl) cI).enc v2] [] (rs_laws_FnExactSensitivityOf r) := by
  delta sh_laws_FnExactSensitivityOf at h
  refine top (out := none) (f := Try.f11) (m := m11) (rs := [.t 6]) (by kernel_rfl) rfl (by kernel_rfl) (by kernel_rfl) (by kernel_rfl) (by kernel_rfl) (by kernel_rfl) ?_
  exact
   ini [(0, .d ((cXGeo (cLs cI rfl)).enc v0)), (1, .d ((cLs (cXVariable cS cI) rfl).enc v1)), (2, .d ((cXTable cI (cLs cI rfl) (cLs cI rfl) cI).enc v2))] rfl <| wpC_seq <| reg_s <| x_box (ss rfl rfl) <| x_box (ss rfl rfl) <| x_asg (sc cB false rfl) <| seqN [(1, .d ((cLs (cXVariable cS cI) rfl).enc v1)), (3, .box ((cXGeo (cLs cI rfl)).enc v0)), (5, .box ((cXTable cI (cLs cI rfl) (cLs cI rfl) cI).enc v2))] (by kernel_rfl) <|
    xn <| wpC_seq <| reg_s <| x_asg (sc cI (1048576 : Int) rfl) <| seqN [(1, .d ((cLs (cXVariable cS cI) rfl).enc v1)), (3, .box ((cXGeo (cLs cI rfl)).enc v0)), (5, .box ((cXTable cI (cLs cI rfl) (cLs cI rfl) cI).enc v2)), (7, .d (cI.enc (1048576 : Int)))] (by kernel_rfl) <|
    xn <| wpC_seq <| reg_s <| st rfl <| ldb rfl rfl rfl rfl <| st rfl <| mvd rfl rfl <| bnd h fun x3 e4 h => st rfl <| o_call (a1 (c := (cXGeo (cLs cI rfl))) (tXGeo (tLs tK)) rfl (a1 (c := cI) tK rfl a0)) (con_laws_szGeo e4) (.inl (so1 sK so0)) <| x_asg (ss rfl rfl) <| seqN [(1, .d ((cLs (cXVariable cS cI) rfl).enc v1)), (3, .box ((cXGeo (cLs cI rfl)).enc v0)), (5, .box ((cXTable cI (cLs cI rfl) (cLs cI rfl) cI).enc v2)), (7, .d (cI.enc x3))] (by kernel_rfl) <|
    xn <| wpC_seq <| wpC_kp <| wpC_seq <| reg_s <| st rfl <| mvd rfl rfl <| st rfl <| b_lss (k := .i64) rfl rfl <| seqN [(1, .d ((cLs (cXVariable cS cI) rfl).enc v1)), (3, .box ((cXGeo (cLs cI rfl)).enc v0)), (5, .box ((cXTable cI (cLs cI rfl) (cLs cI rfl) cI).enc v2)), (7, .d (cI.enc x3)), (19, .d (cB.enc (decide (x3 < (0 : Int)))))] (by kernel_rfl) <|
    xn <| cnd rfl h (fun b6 h => wpC_seq <| reg_s <| x_asg (sc cB true rfl) <| seqN [(6, .d (cB.enc true))] (by kernel_rfl) <|
    xn <| wpC_ret <| rt <| rt <| re <| fin h (r1 (ss rfl rfl) <| r0) rfl)
    (fun b6 h => wpC_skip <| kpN [(1, .d ((cLs (cXVariable cS cI) rfl).enc v1)), (3, .box ((cXGeo (cLs cI rfl)).enc v0)), (5, .box ((cXTable cI (cLs cI rfl) (cLs cI rfl) cI).enc v2)), (7, .d (cI.enc x3))] (by kernel_rfl) <| xn <| wpC_seq <| reg_s <| st rfl <| mvd rfl rfl <| st rfl <| mvd rfl rfl <| bnd h fun x9 e10 h => st rfl <| o_call (a1 (c := (cLs (cXVariable cS cI) rfl)) (tLs (tXVariable tS tK)) rfl (a1 (c := cI) tK rfl a0)) (con_laws_szVariableS e10) (.inl (so1 sK so0)) <| x_asg (ss rfl rfl) <| seqN [(1, .d ((cLs (cXVariable cS cI) rfl).enc v1)), (3, .box ((cXGeo (cLs cI rfl)).enc v0)), (5, .box ((cXTable cI (cLs cI rfl) (cLs cI rfl) cI).enc v2)), (7, .d (cI.enc x9))] (by kernel_rfl) <|
    xn <| wpC_seq <| wpC_kp <| wpC_seq <| reg_s <| st rfl <| mvd rfl rfl <| st rfl <| b_lss (k := .i64) rfl rfl <| seqN [(1, .d ((cLs (cXVariable cS cI) rfl).enc v1)), (3, .box ((cXGeo (cLs cI rfl)).enc v0)), (5, .box ((cXTable cI (cLs cI rfl) (cLs cI rfl) cI).enc v2)), (7, .d (cI.enc x9)), (24, .d (cB.enc (decide (x9 < (0 : Int)))))] (by kernel_rfl) <|
    xn <| cnd rfl h (fun b12 h => wpC_seq <| reg_s <| x_asg (sc cB true rfl) <| seqN [(6, .d (cB.enc true))] (by kernel_rfl) <|
    xn <| wpC_ret <| rt <| rt <| re <| fin h (r1 (ss rfl rfl) <| r0) rfl)
    (fun b12 h => wpC_skip <| kpN [(1, .d ((cLs (cXVariable cS cI) rfl).enc v1)), (3, .box ((cXGeo (cLs cI rfl)).enc v0)), (5, .box ((cXTable cI (cLs cI rfl) (cLs cI rfl) cI).enc v2)), (7, .d (cI.enc x9))] (by kernel_rfl) <| xn <| wpC_seq <| reg_s <| st rfl <| ldb rfl rfl rfl rfl <| st rfl <| mvd rfl rfl <| bnd h fun x15 e16 h => st rfl <| o_call (a1 (c := (cXTable cI (cLs cI rfl) (cLs cI rfl) cI)) (tXTable tK (tLs tK) (tLs tK) tK) rfl (a1 (c := cI) tK rfl a0)) (con_laws_szTable e16) (.inl (so1 sK so0)) <| x_asg (ss rfl rfl) <| seqN [(1, .d ((cLs (cXVariable cS cI) rfl).enc v1)), (3, .box ((cXGeo (cLs cI rfl)).enc v0)), (5, .box ((cXTable cI (cLs cI rfl) (cLs cI rfl) cI).enc v2)), (7, .d (cI.enc x15))] (by kernel_rfl) <|
    xn <| wpC_seq <| wpC_kp <| wpC_seq <| reg_s <| st rfl <| mvd rfl rfl <| st rfl <| b_lss (k := .i64) rfl rfl <| seqN [(1, .d ((cLs (cXVariable cS cI) rfl).enc v1)), (3, .box ((cXGeo (cLs cI rfl)).enc v0)), (5, .box ((cXTable cI (cLs cI rfl) (cLs cI rfl) cI).enc v2)), (29, .d (cB.enc (decide (x15 < (0 : Int)))))] (by kernel_rfl) <|
    xn <| cnd rfl h (fun b18 h => wpC_seq <| reg_s <| x_asg (sc cB true rfl) <| seqN [(6, .d (cB.enc true))] (by kernel_rfl) <|
    xn <| wpC_ret <| rt <| rt <| re <| fin h (r1 (ss rfl rfl) <| r0) rfl)
    (fun b18 h => wpC_skip <| kpN [(1, .d ((cLs (cXVariable cS cI) rfl).enc v1)), (3, .box ((cXGeo (cLs cI rfl)).enc v0)), (5, .box ((cXTable cI (cLs cI rfl) (cLs cI rfl) cI).enc v2))] (by kernel_rfl) <| xn <| wpC_seq <| drg_s <| pst rfl <| ldb rfl rfl rfl rfl ⟨rfl, bndp h fun x27 e28 h => pst rfl <| o_call (a1 (c := (cXGeo (cLs cI rfl))) (tXGeo (tLs tK)) rfl a0) (con_laws_toGeo e28) (.inl (so1 (sXGeo (sLo sK)) so0)) ⟨rfl, pst rfl <| mvd rfl rfl ⟨rfl, bndp h fun x29 e30 h => pst rfl <| o_call (a1 (c := (cLs (cXVariable cS cI) rfl)) (tLs (tXVariable tS tK)) rfl a0) (con_laws_toVariableS e30) (.inl (so1 (sLo (sXVariable sS sK)) so0)) ⟨rfl, pst rfl <| ldb rfl rfl rfl rfl ⟨rfl, bndp h fun x31 e32 h => pst rfl <| o_call (a1 (c := (cXTable cI (cLs cI rfl) (cLs cI rfl) cI)) (tXTable tK (tLs tK) (tLs tK) tK) rfl a0) (con_laws_toTable e32) (.inl (so1 (sXTable sK (sLo sK) (sLo sK) sK) so0)) ⟨rfl, bndp h fun x33 e34 h => pst rfl <| o_call (a1 (c := (cXGeo (cLo cI))) (tXGeo (tLo tK)) rfl (a1 (c := (cLo (cXVariable cS cI))) (tLo (tXVariable tS tK)) rfl (a1 (c := (cXTable cI (cLo cI) (cLo cI) cI)) (tXTable tK (tLo tK) (tLo tK) tK) rfl a0))) (con_spec_SensitivityOf e34) (.inl (so1 sK (so1 sB so0))) ⟨rfl, preN <| gr_s [(1, .d ((cLs (cXVariable cS cI) rfl).enc v1)), (3, .box ((cXGeo (cLs cI rfl)).enc v0)), (5, .box ((cXTable cI (cLs cI rfl) (cLs cI rfl) cI).enc v2))] [([false, false, false, false, false], [(8, .un), (9, .un), (30, .un), (37, .tup [some (cI.enc x33.1), some (cB.enc x33.2)]), (38, .un), (39, .un)]),
     ([true, false, false, false, false], [(8, .un), (9, .un), (30, .tup [some (cI.enc x33.1), some (cB.enc x33.2)]), (37, .un), (38, .un), (39, .un)]),
     ([true, true, false, false, false], [(8, .un), (9, .un), (30, .tup [none, some (cB.enc x33.2)]), (37, .un), (38, .d (cI.enc x33.1)), (39, .un)]),
     ([true, false, true, false, false], [(8, .un), (9, .un), (30, .tup [some (cI.enc x33.1), none]), (37, .un), (38, .un), (39, .d (cB.enc x33.2))]),
     ([true, true, true, false, false], [(8, .un), (9, .un), (30, .tup [none, none]), (37, .un), (38, .d (cI.enc x33.1)), (39, .d (cB.enc x33.2))]),
     ([true, true, false, true, false], [(8, .d (cI.enc x33.1)), (9, .un), (30, .tup [none, some (cB.enc x33.2)]), (37, .un), (38, .d (cI.enc x33.1)), (39, .un)]),
     ([true, true, true, true, false], [(8, .d (cI.enc x33.1)), (9, .un), (30, .tup [none, none]), (37, .un), (38, .d (cI.enc x33.1)), (39, .d (cB.enc x33.2))]),
     ([true, true, true, true, true], [(8, .d (cI.enc x33.1)), (9, .d (cB.enc x33.2)), (30, .tup [none, none]), (37, .un), (38, .d (cI.enc x33.1)), (39, .d (cB.enc x33.2))])] [(1, .d ((cLs (cXVariable cS cI) rfl).enc v1)), (3, .box ((cXGeo (cLs cI rfl)).enc v0)), (5, .box ((cXTable cI (cLs cI rfl) (cLs cI rfl) cI).enc v2)), (8, .d (cI.enc x33.1)), (9, .d (cB.enc x33.2))] [([false, false, false, false, false], [])] (by kernel_rfl) (sa1 rfl (by kernel_rfl) <| sa0) rfl
    (ob1 rfl rfl rfl (x_mvt rfl <| obN (by kernel_rfl)) <|
    ob1 rfl rfl rfl (x_ext rfl rfl <| obN (by kernel_rfl)) <|
    ob1 rfl rfl rfl (x_ext rfl rfl <| obN (by kernel_rfl)) <|
    ob1 rfl rfl rfl (x_ext rfl rfl <| obN (by kernel_rfl)) <|
    ob1 rfl rfl rfl (x_asg (ss rfl rfl) <| obN (by kernel_rfl)) <|
    ob1 rfl rfl rfl (x_ext rfl rfl <| obN (by kernel_rfl)) <|
    ob1 rfl rfl rfl (x_asg (ss rfl rfl) <| obN (by kernel_rfl)) <|
    ob1 rfl rfl rfl (x_ext rfl rfl <| obN (by kernel_rfl)) <|
    ob1 rfl rfl rfl (x_asg (ss rfl rfl) <| obN (by kernel_rfl)) <|
    ob0)
    (by kernel_rfl) <|
    xn <| wpC_seq <| reg_s <| st rfl <| ldb rfl rfl rfl rfl <| bnd h fun x37 e38 h => st rfl <| o_call (a1 (c := (cXGeo (cLs cI rfl))) (tXGeo (tLs tK)) rfl a0) (con_laws_toGeo e38) (.inl (so1 (sXGeo (sLo sK)) so0)) <| x_all (cXGeo (cLo cI)) (⟨([] : List Int)⟩ : XGeo) rfl <| x_stb (so rfl rfl) rfl (Cd.h_sz _ _) rfl <| seqN [(1, .d ((cLs (cXVariable cS cI) rfl).enc v1)), (3, .box ((cXGeo (cLs cI rfl)).enc v0)), (5, .box ((cXTable cI (cLs cI rfl) (cLs cI rfl) cI).enc v2)), (8, .d (cI.enc x33.1)), (9, .d (cB.enc x33.2)), (10, .box ((cXGeo (cLo cI)).enc x37))] (by kernel_rfl) <|
    xn <| wpC_seq <| reg_s <| st rfl <| mvd rfl rfl <| bnd h fun x41 e42 h => st rfl <| o_call (a1 (c := (cLs (cXVariable cS cI) rfl)) (tLs (tXVariable tS tK)) rfl a0) (con_laws_toVariableS e42) (.inl (so1 (sLo (sXVariable sS sK)) so0)) <| x_asg (so rfl rfl) <| seqN [(1, .d ((cLs (cXVariable cS cI) rfl).enc v1)), (3, .box ((cXGeo (cLs cI rfl)).enc v0)), (5, .box ((cXTable cI (cLs cI rfl) (cLs cI rfl) cI).enc v2)), (8, .d (cI.enc x33.1)), (9, .d (cB.enc x33.2)), (10, .box ((cXGeo (cLo cI)).enc x37)), (11, .d ((cLo (cXVariable cS cI)).enc x41))] (by kernel_rfl) <|
    xn <| wpC_seq <| reg_s <| st rfl <| ldb rfl rfl rfl rfl <| bnd h fun x45 e46 h => st rfl <| o_call (a1 (c := (cXTable cI (cLs cI rfl) (cLs cI rfl) cI)) (tXTable tK (tLs tK) (tLs tK) tK) rfl a0) (con_laws_toTable e46) (.inl (so1 (sXTable sK (sLo sK) (sLo sK) sK) so0)) <| x_all (cXTable cI (cLo cI) (cLo cI) cI) (⟨(0 : Int), ([] : List Int), ([] : List Int), (0 : Int)⟩ : XTable) rfl <| x_stb (so rfl rfl) rfl (Cd.h_sz _ _) rfl <| seqN [(1, .d ((cLs (cXVariable cS cI) rfl).enc v1)), (3, .box ((cXGeo (cLs cI rfl)).enc v0)), (5, .box ((cXTable cI (cLs cI rfl) (cLs cI rfl) cI).enc v2)), (8, .d (cI.enc x33.1)), (9, .d (cB.enc x33.2)), (10, .box ((cXGeo (cLo cI)).enc x37)), (11, .d ((cLo (cXVariable cS cI)).enc x41)), (12, .box ((cXTable cI (cLo cI) (cLo cI) cI).enc x45))] (by kernel_rfl) <|
    xn <| wpC_seq <| reg_s <| st rfl <| ldbo rfl rfl rfl rfl <| st rfl <| mvo rfl rfl <| st rfl <| ldbo rfl rfl rfl rfl <| bnd h fun x49 e50 h => st rfl <| o_call (a1 (c := (cXGeo (cLo cI))) (tXGeo (tLo tK)) rfl (a1 (c := (cLo (cXVariable cS cI))) (tLo (tXVariable tS tK)) rfl (a1 (c := (cXTable cI (cLo cI) (cLo cI) cI)) (tXTable tK (tLo tK) (tLo tK) tK) rfl a0))) (con_impl_SensitivityOf e50) (.inl (so1 sK (so1 sB so0))) <| x_mvt rfl <| x_ext rfl rfl <| x_ext rfl rfl <| x_asg (ss rfl rfl) <| x_asg (ss rfl rfl) <| seqN [(1, .d ((cLs (cXVariable cS cI) rfl).enc v1)), (3, .box ((cXGeo (cLs cI rfl)).enc v0)), (5, .box ((cXTable cI (cLs cI rfl) (cLs cI rfl) cI).enc v2)), (8, .d (cI.enc x33.1)), (9, .d (cB.enc x33.2)), (10, .box ((cXGeo (cLo cI)).enc x37)), (11, .d ((cLo (cXVariable cS cI)).enc x41)), (12, .box ((cXTable cI (cLo cI) (cLo cI) cI).enc x45)), (13, .d (cI.enc x49.1)), (14, .d (cB.enc x49.2))] (by kernel_rfl) <|
    xn <| wpC_seq <| wpC_kp <| wpC_seq <| reg_s <| st rfl <| mvd rfl rfl <| st rfl <| mvd rfl rfl <| st rfl <| b_neq (k := .i64) rfl rfl <| st rfl <| mvd rfl rfl <| ite_k h (fun b55 h => gf rfl b55 <| gf rfl b55 <| gf rfl b55 <| st rfl <| pick1 rfl b55 (cd := cB) (v := true) rfl rfl <| seqN [(1, .d ((cLs (cXVariable cS cI) rfl).enc v1)), (3, .box ((cXGeo (cLs cI rfl)).enc v0)), (5, .box ((cXTable cI (cLs cI rfl) (cLs cI rfl) cI).enc v2)), (10, .box ((cXGeo (cLo cI)).enc x37)), (11, .d ((cLo (cXVariable cS cI)).enc x41)), (12, .box ((cXTable cI (cLo cI) (cLo cI) cI).enc x45)), (60, .d (cB.enc true))] (by kernel_rfl) <|
    xn <| cnd1 rfl rfl <| wpC_seq <| reg_s <| x_asg (sc cB false rfl) <| seqN [(6, .d (cB.enc false))] (by kernel_rfl) <|
    xn <| wpC_ret <| rt <| rt <| re <| fin h (r1 (ss rfl rfl) <| r0) rfl)
    (fun b55 h => gt' rfl b55 <| st rfl <| mvd rfl rfl <| gt' rfl b55 <| st rfl <| mvd rfl rfl <| gt' rfl b55 <| st rfl <| eqb1 rfl rfl <| st rfl <| pick0 rfl b55 (cd := cB) (v := (x49.2 != x33.2)) rfl rfl <| seqN [(1, .d ((cLs (cXVariable cS cI) rfl).enc v1)), (3, .box ((cXGeo (cLs cI rfl)).enc v0)), (5, .box ((cXTable cI (cLs cI rfl) (cLs cI rfl) cI).enc v2)), (10, .box ((cXGeo (cLo cI)).enc x37)), (11, .d ((cLo (cXVariable cS cI)).enc x41)), (12, .box ((cXTable cI (cLo cI) (cLo cI) cI).enc x45)), (60, .d (cB.enc (x49.2 != x33.2)))] (by kernel_rfl) <|
    xn <| cnd rfl h (fun b56 h => wpC_seq <| reg_s <| x_asg (sc cB false rfl) <| seqN [(6, .d (cB.enc false))] (by kernel_rfl) <|
    xn <| wpC_ret <| rt <| rt <| re <| fin h (r1 (ss rfl rfl) <| r0) rfl)
    (fun b56 h => wpC_skip <| kpN [(1, .d ((cLs (cXVariable cS cI) rfl).enc v1)), (3, .box ((cXGeo (cLs cI rfl)).enc v0)), (5, .box ((cXTable cI (cLs cI rfl) (cLs cI rfl) cI).enc v2)), (10, .box ((cXGeo (cLo cI)).enc x37)), (11, .d ((cLo (cXVariable cS cI)).enc x41)), (12, .box ((cXTable cI (cLo cI) (cLo cI) cI).enc x45))] (by kernel_rfl) <| xn <| wpC_seq <| wpC_kp <| wpC_seq <| drw_s <| pst rfl <| ldbo rfl rfl rfl rfl ⟨rfl, pst rfl <| ldb rfl rfl rfl rfl ⟨rfl, bndp h fun x70 e71 h => pst rfl <| o_call (a1 (c := (cXGeo (cLs cI rfl))) (tXGeo (tLs tK)) rfl a0) (con_laws_toGeo e71) (.inl (so1 (sXGeo (sLo sK)) so0)) ⟨rfl, bndp h fun x72 e73 h => pst rfl <| o_call (a1 (c := (cXGeo (cLo cI))) (tXGeo (tLo tK)) rfl (a1 (c := (cXGeo (cLo cI))) (tXGeo (tLo tK)) rfl a0)) (con_laws_eqGeo e73) (.inl (so1 sB so0)) ⟨rfl, pst rfl <| o_nt rfl ⟨rfl, preN <| seqN [(1, .d ((cLs (cXVariable cS cI) rfl).enc v1)), (5, .box ((cXTable cI (cLs cI rfl) (cLs cI rfl) cI).enc v2)), (11, .d ((cLo (cXVariable cS cI)).enc x41)), (12, .box ((cXTable cI (cLo cI) (cLo cI) cI).enc x45)), (65, .d (cB.enc (!x72)))] (by kernel_rfl) <|
    xn <| cnd rfl h (fun b74 h => wpC_seq <| reg_s <| x_asg (sc cB false rfl) <| seqN [(6, .d (cB.enc false))] (by kernel_rfl) <|
    xn <| wpC_ret <| rt <| rt <| re <| fin h (r1 (ss rfl rfl) <| r0) rfl)
    (fun b74 h => wpC_skip <| kpN [(1, .d ((cLs (cXVariable cS cI) rfl).enc v1)), (5, .box ((cXTable cI (cLs cI rfl) (cLs cI rfl) cI).enc v2)), (11, .d ((cLo (cXVariable cS cI)).enc x41)), (12, .box ((cXTable cI (cLo cI) (cLo cI) cI).enc x45))] (by kernel_rfl) <| xn <| wpC_seq <| wpC_kp <| wpC_seq <| reg_s <| st rfl <| mvo rfl rfl <| st rfl <| mvd rfl rfl <| bnd h fun x88 e89 h => st rfl <| o_call (a1 (c := (cLs (cXVariable cS cI) rfl)) (tLs (tXVariable tS tK)) rfl a0) (con_laws_toVariableS e89) (.inl (so1 (sLo (sXVariable sS sK)) so0)) <| bnd h fun x90 e91 h => st rfl <| o_call (a1 (c := (cLo (cXVariable cS cI))) (tLo (tXVariable tS tK)) rfl (a1 (c := (cLo (cXVariable cS cI))) (tLo (tXVariable tS tK)) rfl a0)) (con_laws_eqVariableS e91) (.inl (so1 sB so0)) <| st rfl <| o_nt rfl <| seqN [(5, .box ((cXTable cI (cLs cI rfl) (cLs cI rfl) cI).enc v2)), (12, .box ((cXTable cI (cLo cI) (cLo cI) cI).enc x45)), (70, .d (cB.enc (!x90)))] (by kernel_rfl) <|
    xn <| cnd rfl h (fun b92 h => wpC_seq <| reg_s <| x_asg (sc cB false rfl) <| seqN [(6, .d (cB.enc false))] (by kernel_rfl) <|
    xn <| wpC_ret <| rt <| rt <| re <| fin h (r1 (ss rfl rfl) <| r0) rfl)
    (fun b92 h => wpC_skip <| kpN [(5, .box ((cXTable cI (cLs cI rfl) (cLs cI rfl) cI).enc v2)), (12, .box ((cXTable cI (cLo cI) (cLo cI) cI).enc x45))] (by kernel_rfl) <| xn <| wpC_seq <| wpC_kp <| wpC_seq <| drw_s <| pst rfl <| ldbo rfl rfl rfl rfl ⟨rfl, pst rfl <| ldb rfl rfl rfl rfl ⟨rfl, bndp h fun x106 e107 h => pst rfl <| o_call (a1 (c := (cXTable cI (cLs cI rfl) (cLs cI rfl) cI)) (tXTable tK (tLs tK) (tLs tK) tK) rfl a0) (con_laws_toTable e107) (.inl (so1 (sXTable sK (sLo sK) (sLo sK) sK) so0)) ⟨rfl, bndp h fun x108 e109 h => pst rfl <| o_call (a1 (c := (cXTable cI (cLo cI) (cLo cI) cI)) (tXTable tK (tLo tK) (tLo tK) tK) rfl (a1 (c := (cXTable cI (cLo cI) (cLo cI) cI)) (tXTable tK (tLo tK) (tLo tK) tK) rfl a0)) (con_laws_eqTable e109) (.inl (so1 sB so0)) ⟨rfl, pst rfl <| o_nt rfl ⟨rfl, preN <| seqN [(75, .d (cB.enc (!x108)))] (by kernel_rfl) <|
    xn <| cnd rfl h (fun b110 h => wpC_seq <| reg_s <| x_asg (sc cB false rfl) <| seqN [(6, .d (cB.enc false))] (by kernel_rfl) <|
    xn <| wpC_ret <| rt <| rt <| re <| fin h (r1 (ss rfl rfl) <| r0) rfl)
    (fun b110 h => wpC_skip <| kpN [] (by kernel_rfl) <| xn <| wpC_seq <| reg_s <| x_asg (sc cB true rfl) <| seqN [(6, .d (cB.enc true))] (by kernel_rfl) <|
    xn <| wpC_ret <| re <| fin h (r1 (ss rfl rfl) <| r0) rfl)⟩⟩⟩⟩⟩))⟩⟩⟩⟩⟩))⟩⟩⟩⟩⟩⟩⟩)))
end AS.W
