/- The program computes the plain functions. No condition. -/
import Derived.Test.YtahffpadaffmdaaQCheapestSourceS
import Derived.Test.YtahffpadaffmdaaProg
import Derived.Test.YtahffpadaffmdaaQCheapestSourceL2
set_option maxRecDepth 100000
set_option linter.unusedVariables false
set_option linter.unusedSimpArgs false
namespace AS.W
open Go Go.Proofs
def rs_laws_FnExactCheapestSource (r : Bool) : List D := [cB.enc r]
def m14 : MC := .seq (.reg [⟨some 4, .box (.t 0), none⟩,
    ⟨some 7, .box (.t 3), none⟩,
    ⟨some 8, .asg (.c (.bool false)), none⟩] [1, 2, 4, 7])
  (.seq (.reg [⟨some 9, .asg (.c (.int .i64 1048576)), none⟩] [1, 2, 4, 7, 9])
  (.seq (.reg [⟨some 18, .ld 4 1 true, none⟩,
    ⟨some 19, .mv (.t 9), none⟩,
    ⟨some 20, .call 26 [(.t 18), (.t 19)], none⟩,
    ⟨some 9, .asg (.t 20), none⟩] [1, 2, 4, 7, 9])
  (.seq (.kp [1, 2, 4, 7, 9] (.seq (.reg [⟨some 21, .mv (.t 9), none⟩,
    ⟨some 22, .bin .lss (.t 21) (.c (.int .i64 0)), none⟩] [1, 2, 4, 7, 9, 22])
  (.cond (.t 22) (.seq (.reg [⟨some 8, .asg (.c (.bool true)), none⟩] [8])
  (.ret)) (.skip))))
  (.seq (.reg [⟨some 23, .mv (.t 1), none⟩,
    ⟨some 24, .mv (.t 9), none⟩,
    ⟨some 25, .call 15 [(.t 23), (.t 24)], none⟩,
    ⟨some 9, .asg (.t 25), none⟩] [1, 2, 4, 7, 9])
  (.seq (.kp [1, 2, 4, 7, 9] (.seq (.reg [⟨some 26, .mv (.t 9), none⟩,
    ⟨some 27, .bin .lss (.t 26) (.c (.int .i64 0)), none⟩] [1, 2, 4, 7, 9, 27])
  (.cond (.t 27) (.seq (.reg [⟨some 8, .asg (.c (.bool true)), none⟩] [8])
  (.ret)) (.skip))))
  (.seq (.reg [⟨some 28, .mv (.t 2), none⟩,
    ⟨some 29, .mv (.t 9), none⟩,
    ⟨some 30, .call 56 [(.t 28), (.t 29)], none⟩,
    ⟨some 9, .asg (.t 30), none⟩] [1, 2, 4, 7, 9])
  (.seq (.kp [1, 2, 4, 7, 9] (.seq (.reg [⟨some 31, .mv (.t 9), none⟩,
    ⟨some 32, .bin .lss (.t 31) (.c (.int .i64 0)), none⟩] [1, 2, 4, 7, 9, 32])
  (.cond (.t 32) (.seq (.reg [⟨some 8, .asg (.c (.bool true)), none⟩] [8])
  (.ret)) (.skip))))
  (.seq (.reg [⟨some 33, .ld 7 4 true, none⟩,
    ⟨some 34, .mv (.t 9), none⟩,
    ⟨some 35, .call 16 [(.t 33), (.t 34)], none⟩,
    ⟨some 9, .asg (.t 35), none⟩] [1, 2, 4, 7, 9])
  (.seq (.kp [1, 2, 4, 7] (.seq (.reg [⟨some 36, .mv (.t 9), none⟩,
    ⟨some 37, .bin .lss (.t 36) (.c (.int .i64 0)), none⟩] [1, 2, 4, 7, 37])
  (.cond (.t 37) (.seq (.reg [⟨some 8, .asg (.c (.bool true)), none⟩] [8])
  (.ret)) (.skip))))
  (.seq (.drg [⟨0, ⟨some 39, .ld 4 1 true, none⟩, [40, 41, 42, 43, 44, 45, 46, 47]⟩,
    ⟨1, ⟨some 40, .call 28 [(.t 39)], none⟩, [41, 42, 43, 44, 45, 46, 47]⟩,
    ⟨2, ⟨some 41, .mv (.t 1), none⟩, [39, 40, 42, 43, 44, 45, 46, 47]⟩,
    ⟨3, ⟨some 42, .call 19 [(.t 41)], none⟩, [43, 44, 45, 46, 47]⟩,
    ⟨4, ⟨some 43, .mv (.t 2), none⟩, [39, 40, 41, 42, 44, 45, 46, 47]⟩,
    ⟨5, ⟨some 44, .call 58 [(.t 43)], none⟩, [45, 46, 47]⟩,
    ⟨6, ⟨some 45, .ld 7 4 true, none⟩, [39, 40, 41, 42, 43, 44, 46, 47]⟩,
    ⟨7, ⟨some 46, .call 20 [(.t 45)], none⟩, [47]⟩,
    ⟨8, ⟨some 47, .call 64 [(.t 40), (.t 42), (.t 44), (.t 46)], none⟩, []⟩]
    [(9, ⟨some 38, .mvt 47, none⟩),
    (10, ⟨some 48, .ext 38 0, none⟩),
    (11, ⟨some 49, .ext 38 1, none⟩),
    (12, ⟨some 10, .asg (.t 48), none⟩),
    (13, ⟨some 11, .asg (.t 49), none⟩)] [1, 2, 4, 7, 10, 11] [10, 11, 38, 47, 48, 49, 1, 2, 4, 7] [([false, false, false, false, false], 0), ([true, false, false, false, false], 1), ([true, false, false, false, false], 2), ([true, true, false, false, false], 2), ([true, true, false, false, false], 3), ([true, false, true, false, false], 1), ([true, true, true, false, false], 3), ([true, true, false, true, false], 2), ([true, true, true, true, false], 4)])
  (.seq (.reg [⟨some 50, .ld 4 1 true, none⟩,
    ⟨some 51, .call 28 [(.t 50)], none⟩,
    ⟨some 12, .alloc (.agg [.slice true []]), none⟩,
    ⟨none, .st 12 (.t 51) 1, none⟩] [1, 2, 4, 7, 10, 11, 12])
  (.seq (.reg [⟨some 52, .mv (.t 1), none⟩,
    ⟨some 53, .call 19 [(.t 52)], none⟩,
    ⟨some 13, .asg (.t 53), none⟩] [1, 2, 4, 7, 10, 11, 12, 13])
  (.seq (.reg [⟨some 54, .mv (.t 2), none⟩,
    ⟨some 55, .call 58 [(.t 54)], none⟩,
    ⟨some 14, .asg (.t 55), none⟩] [1, 2, 4, 7, 10, 11, 12, 13, 14])
  (.seq (.reg [⟨some 56, .ld 7 4 true, none⟩,
    ⟨some 57, .call 20 [(.t 56)], none⟩,
    ⟨some 15, .alloc (.agg [.int .i64 0, .slice true [], .slice true [], .int .i64 0]), none⟩,
    ⟨none, .st 15 (.t 57) 4, none⟩] [1, 2, 4, 7, 10, 11, 12, 13, 14, 15])
  (.seq (.reg [⟨some 59, .ld 12 1 true, none⟩,
    ⟨some 60, .mv (.t 13), none⟩,
    ⟨some 61, .mv (.t 14), none⟩,
    ⟨some 62, .ld 15 4 true, none⟩,
    ⟨some 63, .call 65 [(.t 59), (.t 60), (.t 61), (.t 62)], none⟩,
    ⟨some 58, .mvt 63, none⟩,
    ⟨some 64, .ext 58 0, none⟩,
    ⟨some 65, .ext 58 1, none⟩,
    ⟨some 16, .asg (.t 64), none⟩,
    ⟨some 17, .asg (.t 65), none⟩] [1, 2, 4, 7, 10, 11, 12, 13, 14, 15, 16, 17])
  (.seq (.kp [1, 2, 4, 7, 12, 13, 14, 15] (.seq (.reg [⟨some 66, .mv (.t 16), none⟩,
    ⟨some 67, .mv (.t 10), none⟩,
    ⟨some 68, .bin .neq (.t 66) (.t 67), none⟩,
    ⟨some 69, .mv (.t 68), none⟩,
    ⟨some 70, .mv (.t 17), some (69, false)⟩,
    ⟨some 71, .mv (.t 11), some (69, false)⟩,
    ⟨some 72, .eqb true (.t 70) (.t 71), some (69, false)⟩,
    ⟨some 73, .pick (.t 69) (.c (.bool true)) (.t 72), none⟩] [1, 2, 4, 7, 12, 13, 14, 15, 73])
  (.cond (.t 73) (.seq (.reg [⟨some 8, .asg (.c (.bool false)), none⟩] [8])
  (.ret)) (.skip))))
  (.seq (.kp [1, 2, 7, 13, 14, 15] (.seq (.drw [⟨0, ⟨some 74, .ld 12 1 true, none⟩, [75, 76, 77, 78]⟩,
    ⟨1, ⟨some 75, .ld 4 1 true, none⟩, [74, 76, 77, 78]⟩,
    ⟨2, ⟨some 76, .call 28 [(.t 75)], none⟩, [74, 77, 78]⟩,
    ⟨3, ⟨some 77, .call 30 [(.t 74), (.t 76)], none⟩, [78]⟩,
    ⟨4, ⟨some 78, .nt (.t 77), none⟩, []⟩]
    [] [1, 2, 7, 13, 14, 15, 78])
  (.cond (.t 78) (.seq (.reg [⟨some 8, .asg (.c (.bool false)), none⟩] [8])
  (.ret)) (.skip))))
  (.seq (.kp [2, 7, 14, 15] (.seq (.reg [⟨some 79, .mv (.t 13), none⟩,
    ⟨some 80, .mv (.t 1), none⟩,
    ⟨some 81, .call 19 [(.t 80)], none⟩,
    ⟨some 82, .call 23 [(.t 79), (.t 81)], none⟩,
    ⟨some 83, .nt (.t 82), none⟩] [2, 7, 14, 15, 83])
  (.cond (.t 83) (.seq (.reg [⟨some 8, .asg (.c (.bool false)), none⟩] [8])
  (.ret)) (.skip))))
  (.seq (.kp [7, 15] (.seq (.reg [⟨some 84, .mv (.t 14), none⟩,
    ⟨some 85, .mv (.t 2), none⟩,
    ⟨some 86, .call 58 [(.t 85)], none⟩,
    ⟨some 87, .call 60 [(.t 84), (.t 86)], none⟩,
    ⟨some 88, .nt (.t 87), none⟩] [7, 15, 88])
  (.cond (.t 88) (.seq (.reg [⟨some 8, .asg (.c (.bool false)), none⟩] [8])
  (.ret)) (.skip))))
  (.seq (.kp [] (.seq (.drw [⟨0, ⟨some 89, .ld 15 4 true, none⟩, [90, 91, 92, 93]⟩,
    ⟨1, ⟨some 90, .ld 7 4 true, none⟩, [89, 91, 92, 93]⟩,
    ⟨2, ⟨some 91, .call 20 [(.t 90)], none⟩, [89, 92, 93]⟩,
    ⟨3, ⟨some 92, .call 24 [(.t 89), (.t 91)], none⟩, [93]⟩,
    ⟨4, ⟨some 93, .nt (.t 92), none⟩, []⟩]
    [] [93])
  (.cond (.t 93) (.seq (.reg [⟨some 8, .asg (.c (.bool false)), none⟩] [8])
  (.ret)) (.skip))))
  (.seq (.reg [⟨some 8, .asg (.c (.bool true)), none⟩] [8])
  (.ret))))))))))))))))))))))
theorem con_laws_FnExactCheapestSource {v0 : XGeo} {v1 : (List XVariable)} {v2 : (List XTable)} {v3 : XTable} {r : Bool} (h : sh_laws_FnExactCheapestSource v0 v1 v2 v3 = some r) : Con Try.prog 14 [(cXGeo (cLs cI rfl)).enc v0, (cLs (cXVariable cS cI) rfl).enc v1, (cLs (cXTable cI (cLs cI rfl) (cLs cI rfl) cI) rfl).enc v2, (cXTable cI (cLs cI rfl) (cLs cI rfl) cI).enc v3] [] (rs_laws_FnExactCheapestSource r) := by
  delta sh_laws_FnExactCheapestSource at h
  refine top (out := none) (f := Try.f14) (m := m14) (rs := [.t 8]) (by kernel_rfl) rfl (by kernel_rfl) (by kernel_rfl) (by kernel_rfl) (by kernel_rfl) (by kernel_rfl) ?_
  exact
   ini [(0, .d ((cXGeo (cLs cI rfl)).enc v0)), (1, .d ((cLs (cXVariable cS cI) rfl).enc v1)), (2, .d ((cLs (cXTable cI (cLs cI rfl) (cLs cI rfl) cI) rfl).enc v2)), (3, .d ((cXTable cI (cLs cI rfl) (cLs cI rfl) cI).enc v3))] rfl <| wpC_seq <| reg_s <| x_box (ss rfl rfl) <| x_box (ss rfl rfl) <| x_asg (sc cB false rfl) <| seqN [(1, .d ((cLs (cXVariable cS cI) rfl).enc v1)), (2, .d ((cLs (cXTable cI (cLs cI rfl) (cLs cI rfl) cI) rfl).enc v2)), (4, .box ((cXGeo (cLs cI rfl)).enc v0)), (7, .box ((cXTable cI (cLs cI rfl) (cLs cI rfl) cI).enc v3))] (by kernel_rfl) <|
    xn <| wpC_seq <| reg_s <| x_asg (sc cI (1048576 : Int) rfl) <| seqN [(1, .d ((cLs (cXVariable cS cI) rfl).enc v1)), (2, .d ((cLs (cXTable cI (cLs cI rfl) (cLs cI rfl) cI) rfl).enc v2)), (4, .box ((cXGeo (cLs cI rfl)).enc v0)), (7, .box ((cXTable cI (cLs cI rfl) (cLs cI rfl) cI).enc v3)), (9, .d (cI.enc (1048576 : Int)))] (by kernel_rfl) <|
    xn <| wpC_seq <| reg_s <| st rfl <| ldb rfl rfl rfl rfl <| st rfl <| mvd rfl rfl <| bnd h fun x3 e4 h => st rfl <| o_call (a1 (c := (cXGeo (cLs cI rfl))) (tXGeo (tLs tK)) rfl (a1 (c := cI) tK rfl a0)) (con_laws_szGeo e4) (.inl (so1 sK so0)) <| x_asg (ss rfl rfl) <| seqN [(1, .d ((cLs (cXVariable cS cI) rfl).enc v1)), (2, .d ((cLs (cXTable cI (cLs cI rfl) (cLs cI rfl) cI) rfl).enc v2)), (4, .box ((cXGeo (cLs cI rfl)).enc v0)), (7, .box ((cXTable cI (cLs cI rfl) (cLs cI rfl) cI).enc v3)), (9, .d (cI.enc x3))] (by kernel_rfl) <|
    xn <| wpC_seq <| wpC_kp <| wpC_seq <| reg_s <| st rfl <| mvd rfl rfl <| st rfl <| b_lss (k := .i64) rfl rfl <| seqN [(1, .d ((cLs (cXVariable cS cI) rfl).enc v1)), (2, .d ((cLs (cXTable cI (cLs cI rfl) (cLs cI rfl) cI) rfl).enc v2)), (4, .box ((cXGeo (cLs cI rfl)).enc v0)), (7, .box ((cXTable cI (cLs cI rfl) (cLs cI rfl) cI).enc v3)), (9, .d (cI.enc x3)), (22, .d (cB.enc (decide (x3 < (0 : Int)))))] (by kernel_rfl) <|
    xn <| cnd rfl h (fun b6 h => wpC_seq <| reg_s <| x_asg (sc cB true rfl) <| seqN [(8, .d (cB.enc true))] (by kernel_rfl) <|
    xn <| wpC_ret <| rt <| rt <| re <| fin h (r1 (ss rfl rfl) <| r0) rfl)
    (fun b6 h => wpC_skip <| kpN [(1, .d ((cLs (cXVariable cS cI) rfl).enc v1)), (2, .d ((cLs (cXTable cI (cLs cI rfl) (cLs cI rfl) cI) rfl).enc v2)), (4, .box ((cXGeo (cLs cI rfl)).enc v0)), (7, .box ((cXTable cI (cLs cI rfl) (cLs cI rfl) cI).enc v3)), (9, .d (cI.enc x3))] (by kernel_rfl) <| xn <| wpC_seq <| reg_s <| st rfl <| mvd rfl rfl <| st rfl <| mvd rfl rfl <| bnd h fun x9 e10 h => st rfl <| o_call (a1 (c := (cLs (cXVariable cS cI) rfl)) (tLs (tXVariable tS tK)) rfl (a1 (c := cI) tK rfl a0)) (con_laws_szVariableS e10) (.inl (so1 sK so0)) <| x_asg (ss rfl rfl) <| seqN [(1, .d ((cLs (cXVariable cS cI) rfl).enc v1)), (2, .d ((cLs (cXTable cI (cLs cI rfl) (cLs cI rfl) cI) rfl).enc v2)), (4, .box ((cXGeo (cLs cI rfl)).enc v0)), (7, .box ((cXTable cI (cLs cI rfl) (cLs cI rfl) cI).enc v3)), (9, .d (cI.enc x9))] (by kernel_rfl) <|
    xn <| wpC_seq <| wpC_kp <| wpC_seq <| reg_s <| st rfl <| mvd rfl rfl <| st rfl <| b_lss (k := .i64) rfl rfl <| seqN [(1, .d ((cLs (cXVariable cS cI) rfl).enc v1)), (2, .d ((cLs (cXTable cI (cLs cI rfl) (cLs cI rfl) cI) rfl).enc v2)), (4, .box ((cXGeo (cLs cI rfl)).enc v0)), (7, .box ((cXTable cI (cLs cI rfl) (cLs cI rfl) cI).enc v3)), (9, .d (cI.enc x9)), (27, .d (cB.enc (decide (x9 < (0 : Int)))))] (by kernel_rfl) <|
    xn <| cnd rfl h (fun b12 h => wpC_seq <| reg_s <| x_asg (sc cB true rfl) <| seqN [(8, .d (cB.enc true))] (by kernel_rfl) <|
    xn <| wpC_ret <| rt <| rt <| re <| fin h (r1 (ss rfl rfl) <| r0) rfl)
    (fun b12 h => wpC_skip <| kpN [(1, .d ((cLs (cXVariable cS cI) rfl).enc v1)), (2, .d ((cLs (cXTable cI (cLs cI rfl) (cLs cI rfl) cI) rfl).enc v2)), (4, .box ((cXGeo (cLs cI rfl)).enc v0)), (7, .box ((cXTable cI (cLs cI rfl) (cLs cI rfl) cI).enc v3)), (9, .d (cI.enc x9))] (by kernel_rfl) <| xn <| wpC_seq <| reg_s <| st rfl <| mvd rfl rfl <| st rfl <| mvd rfl rfl <| bnd h fun x15 e16 h => st rfl <| o_call (a1 (c := (cLs (cXTable cI (cLs cI rfl) (cLs cI rfl) cI) rfl)) (tLs (tXTable tK (tLs tK) (tLs tK) tK)) rfl (a1 (c := cI) tK rfl a0)) (con_laws_szTableS e16) (.inl (so1 sK so0)) <| x_asg (ss rfl rfl) <| seqN [(1, .d ((cLs (cXVariable cS cI) rfl).enc v1)), (2, .d ((cLs (cXTable cI (cLs cI rfl) (cLs cI rfl) cI) rfl).enc v2)), (4, .box ((cXGeo (cLs cI rfl)).enc v0)), (7, .box ((cXTable cI (cLs cI rfl) (cLs cI rfl) cI).enc v3)), (9, .d (cI.enc x15))] (by kernel_rfl) <|
    xn <| wpC_seq <| wpC_kp <| wpC_seq <| reg_s <| st rfl <| mvd rfl rfl <| st rfl <| b_lss (k := .i64) rfl rfl <| seqN [(1, .d ((cLs (cXVariable cS cI) rfl).enc v1)), (2, .d ((cLs (cXTable cI (cLs cI rfl) (cLs cI rfl) cI) rfl).enc v2)), (4, .box ((cXGeo (cLs cI rfl)).enc v0)), (7, .box ((cXTable cI (cLs cI rfl) (cLs cI rfl) cI).enc v3)), (9, .d (cI.enc x15)), (32, .d (cB.enc (decide (x15 < (0 : Int)))))] (by kernel_rfl) <|
    xn <| cnd rfl h (fun b18 h => wpC_seq <| reg_s <| x_asg (sc cB true rfl) <| seqN [(8, .d (cB.enc true))] (by kernel_rfl) <|
    xn <| wpC_ret <| rt <| rt <| re <| fin h (r1 (ss rfl rfl) <| r0) rfl)
    (fun b18 h => wpC_skip <| kpN [(1, .d ((cLs (cXVariable cS cI) rfl).enc v1)), (2, .d ((cLs (cXTable cI (cLs cI rfl) (cLs cI rfl) cI) rfl).enc v2)), (4, .box ((cXGeo (cLs cI rfl)).enc v0)), (7, .box ((cXTable cI (cLs cI rfl) (cLs cI rfl) cI).enc v3)), (9, .d (cI.enc x15))] (by kernel_rfl) <| xn <| wpC_seq <| reg_s <| st rfl <| ldb rfl rfl rfl rfl <| st rfl <| mvd rfl rfl <| bnd h fun x21 e22 h => st rfl <| o_call (a1 (c := (cXTable cI (cLs cI rfl) (cLs cI rfl) cI)) (tXTable tK (tLs tK) (tLs tK) tK) rfl (a1 (c := cI) tK rfl a0)) (con_laws_szTable e22) (.inl (so1 sK so0)) <| x_asg (ss rfl rfl) <| seqN [(1, .d ((cLs (cXVariable cS cI) rfl).enc v1)), (2, .d ((cLs (cXTable cI (cLs cI rfl) (cLs cI rfl) cI) rfl).enc v2)), (4, .box ((cXGeo (cLs cI rfl)).enc v0)), (7, .box ((cXTable cI (cLs cI rfl) (cLs cI rfl) cI).enc v3)), (9, .d (cI.enc x21))] (by kernel_rfl) <|
    xn <| wpC_seq <| wpC_kp <| wpC_seq <| reg_s <| st rfl <| mvd rfl rfl <| st rfl <| b_lss (k := .i64) rfl rfl <| seqN [(1, .d ((cLs (cXVariable cS cI) rfl).enc v1)), (2, .d ((cLs (cXTable cI (cLs cI rfl) (cLs cI rfl) cI) rfl).enc v2)), (4, .box ((cXGeo (cLs cI rfl)).enc v0)), (7, .box ((cXTable cI (cLs cI rfl) (cLs cI rfl) cI).enc v3)), (37, .d (cB.enc (decide (x21 < (0 : Int)))))] (by kernel_rfl) <|
    xn <| cnd rfl h (fun b24 h => wpC_seq <| reg_s <| x_asg (sc cB true rfl) <| seqN [(8, .d (cB.enc true))] (by kernel_rfl) <|
    xn <| wpC_ret <| rt <| rt <| re <| fin h (r1 (ss rfl rfl) <| r0) rfl)
    (fun b24 h => wpC_skip <| kpN [(1, .d ((cLs (cXVariable cS cI) rfl).enc v1)), (2, .d ((cLs (cXTable cI (cLs cI rfl) (cLs cI rfl) cI) rfl).enc v2)), (4, .box ((cXGeo (cLs cI rfl)).enc v0)), (7, .box ((cXTable cI (cLs cI rfl) (cLs cI rfl) cI).enc v3))] (by kernel_rfl) <| xn <| wpC_seq <| drg_s <| pst rfl <| ldb rfl rfl rfl rfl ⟨rfl, bndp h fun x35 e36 h => pst rfl <| o_call (a1 (c := (cXGeo (cLs cI rfl))) (tXGeo (tLs tK)) rfl a0) (con_laws_toGeo e36) (.inl (so1 (sXGeo (sLo sK)) so0)) ⟨rfl, pst rfl <| mvd rfl rfl ⟨rfl, bndp h fun x37 e38 h => pst rfl <| o_call (a1 (c := (cLs (cXVariable cS cI) rfl)) (tLs (tXVariable tS tK)) rfl a0) (con_laws_toVariableS e38) (.inl (so1 (sLo (sXVariable sS sK)) so0)) ⟨rfl, pst rfl <| mvd rfl rfl ⟨rfl, bndp h fun x39 e40 h => pst rfl <| o_call (a1 (c := (cLs (cXTable cI (cLs cI rfl) (cLs cI rfl) cI) rfl)) (tLs (tXTable tK (tLs tK) (tLs tK) tK)) rfl a0) (con_laws_toTableS e40) (.inl (so1 (sLo (sXTable sK (sLo sK) (sLo sK) sK)) so0)) ⟨rfl, pst rfl <| ldb rfl rfl rfl rfl ⟨rfl, bndp h fun x41 e42 h => pst rfl <| o_call (a1 (c := (cXTable cI (cLs cI rfl) (cLs cI rfl) cI)) (tXTable tK (tLs tK) (tLs tK) tK) rfl a0) (con_laws_toTable e42) (.inl (so1 (sXTable sK (sLo sK) (sLo sK) sK) so0)) ⟨rfl, bndp h fun x43 e44 h => pst rfl <| o_call (a1 (c := (cXGeo (cLo cI))) (tXGeo (tLo tK)) rfl (a1 (c := (cLo (cXVariable cS cI))) (tLo (tXVariable tS tK)) rfl (a1 (c := (cLo (cXTable cI (cLo cI) (cLo cI) cI))) (tLo (tXTable tK (tLo tK) (tLo tK) tK)) rfl (a1 (c := (cXTable cI (cLo cI) (cLo cI) cI)) (tXTable tK (tLo tK) (tLo tK) tK) rfl a0)))) (con_spec_CheapestSource e44) (.inl (so1 sK (so1 sB so0))) ⟨rfl, preN <| gr_s [(1, .d ((cLs (cXVariable cS cI) rfl).enc v1)), (2, .d ((cLs (cXTable cI (cLs cI rfl) (cLs cI rfl) cI) rfl).enc v2)), (4, .box ((cXGeo (cLs cI rfl)).enc v0)), (7, .box ((cXTable cI (cLs cI rfl) (cLs cI rfl) cI).enc v3))] [([false, false, false, false, false], [(10, .un), (11, .un), (38, .un), (47, .tup [some (cI.enc x43.1), some (cB.enc x43.2)]), (48, .un), (49, .un)]),
     ([true, false, false, false, false], [(10, .un), (11, .un), (38, .tup [some (cI.enc x43.1), some (cB.enc x43.2)]), (47, .un), (48, .un), (49, .un)]),
     ([true, true, false, false, false], [(10, .un), (11, .un), (38, .tup [none, some (cB.enc x43.2)]), (47, .un), (48, .d (cI.enc x43.1)), (49, .un)]),
     ([true, false, true, false, false], [(10, .un), (11, .un), (38, .tup [some (cI.enc x43.1), none]), (47, .un), (48, .un), (49, .d (cB.enc x43.2))]),
     ([true, true, true, false, false], [(10, .un), (11, .un), (38, .tup [none, none]), (47, .un), (48, .d (cI.enc x43.1)), (49, .d (cB.enc x43.2))]),
     ([true, true, false, true, false], [(10, .d (cI.enc x43.1)), (11, .un), (38, .tup [none, some (cB.enc x43.2)]), (47, .un), (48, .d (cI.enc x43.1)), (49, .un)]),
     ([true, true, true, true, false], [(10, .d (cI.enc x43.1)), (11, .un), (38, .tup [none, none]), (47, .un), (48, .d (cI.enc x43.1)), (49, .d (cB.enc x43.2))]),
     ([true, true, true, true, true], [(10, .d (cI.enc x43.1)), (11, .d (cB.enc x43.2)), (38, .tup [none, none]), (47, .un), (48, .d (cI.enc x43.1)), (49, .d (cB.enc x43.2))])] [(1, .d ((cLs (cXVariable cS cI) rfl).enc v1)), (2, .d ((cLs (cXTable cI (cLs cI rfl) (cLs cI rfl) cI) rfl).enc v2)), (4, .box ((cXGeo (cLs cI rfl)).enc v0)), (7, .box ((cXTable cI (cLs cI rfl) (cLs cI rfl) cI).enc v3)), (10, .d (cI.enc x43.1)), (11, .d (cB.enc x43.2))] [([false, false, false, false, false], [])] (by kernel_rfl) (sa1 rfl (by kernel_rfl) <| sa0) rfl
    (ob1 rfl rfl rfl (x_mvt rfl <| obN (by kernel_rfl)) <|
    ob1 rfl rfl rfl (x_ext rfl rfl <| obN (by kernel_rfl)) <|
    ob1 rfl rfl rfl (x_ext rfl rfl <| obN (by kernel_rfl)) <|
    ob1 rfl rfl rfl (x_ext rfl rfl <| obN (by kernel_rfl)) <|
    ob1 rfl rfl rfl (x_asg (ss rfl rfl) <| obN (by kernel_rfl)) <|
    ob1 rfl rfl rfl (x_ext rfl rfl <| obN (by kernel_rfl)) <|
    ob1 rfl rfl rfl (x_asg (ss rfl rfl) <| obN (by kernel_rfl)) <|
    ob1 rfl rfl rfl (x_ext rfl rfl <| obN (by kernel_rfl)) <|
    ob1 rfl rfl rfl (x_asg (ss rfl rfl) <| obN (by kernel_rfl)) <|
    ob0)
    (by kernel_rfl) <|
    xn <| wpC_seq <| reg_s <| st rfl <| ldb rfl rfl rfl rfl <| bnd h fun x47 e48 h => st rfl <| o_call (a1 (c := (cXGeo (cLs cI rfl))) (tXGeo (tLs tK)) rfl a0) (con_laws_toGeo e48) (.inl (so1 (sXGeo (sLo sK)) so0)) <| x_all (cXGeo (cLo cI)) (⟨([] : List Int)⟩ : XGeo) rfl <| x_stb (so rfl rfl) rfl (Cd.h_sz _ _) rfl <| seqN [(1, .d ((cLs (cXVariable cS cI) rfl).enc v1)), (2, .d ((cLs (cXTable cI (cLs cI rfl) (cLs cI rfl) cI) rfl).enc v2)), (4, .box ((cXGeo (cLs cI rfl)).enc v0)), (7, .box ((cXTable cI (cLs cI rfl) (cLs cI rfl) cI).enc v3)), (10, .d (cI.enc x43.1)), (11, .d (cB.enc x43.2)), (12, .box ((cXGeo (cLo cI)).enc x47))] (by kernel_rfl) <|
    xn <| wpC_seq <| reg_s <| st rfl <| mvd rfl rfl <| bnd h fun x51 e52 h => st rfl <| o_call (a1 (c := (cLs (cXVariable cS cI) rfl)) (tLs (tXVariable tS tK)) rfl a0) (con_laws_toVariableS e52) (.inl (so1 (sLo (sXVariable sS sK)) so0)) <| x_asg (so rfl rfl) <| seqN [(1, .d ((cLs (cXVariable cS cI) rfl).enc v1)), (2, .d ((cLs (cXTable cI (cLs cI rfl) (cLs cI rfl) cI) rfl).enc v2)), (4, .box ((cXGeo (cLs cI rfl)).enc v0)), (7, .box ((cXTable cI (cLs cI rfl) (cLs cI rfl) cI).enc v3)), (10, .d (cI.enc x43.1)), (11, .d (cB.enc x43.2)), (12, .box ((cXGeo (cLo cI)).enc x47)), (13, .d ((cLo (cXVariable cS cI)).enc x51))] (by kernel_rfl) <|
    xn <| wpC_seq <| reg_s <| st rfl <| mvd rfl rfl <| bnd h fun x55 e56 h => st rfl <| o_call (a1 (c := (cLs (cXTable cI (cLs cI rfl) (cLs cI rfl) cI) rfl)) (tLs (tXTable tK (tLs tK) (tLs tK) tK)) rfl a0) (con_laws_toTableS e56) (.inl (so1 (sLo (sXTable sK (sLo sK) (sLo sK) sK)) so0)) <| x_asg (so rfl rfl) <| seqN [(1, .d ((cLs (cXVariable cS cI) rfl).enc v1)), (2, .d ((cLs (cXTable cI (cLs cI rfl) (cLs cI rfl) cI) rfl).enc v2)), (4, .box ((cXGeo (cLs cI rfl)).enc v0)), (7, .box ((cXTable cI (cLs cI rfl) (cLs cI rfl) cI).enc v3)), (10, .d (cI.enc x43.1)), (11, .d (cB.enc x43.2)), (12, .box ((cXGeo (cLo cI)).enc x47)), (13, .d ((cLo (cXVariable cS cI)).enc x51)), (14, .d ((cLo (cXTable cI (cLo cI) (cLo cI) cI)).enc x55))] (by kernel_rfl) <|
    xn <| wpC_seq <| reg_s <| st rfl <| ldb rfl rfl rfl rfl <| bnd h fun x59 e60 h => st rfl <| o_call (a1 (c := (cXTable cI (cLs cI rfl) (cLs cI rfl) cI)) (tXTable tK (tLs tK) (tLs tK) tK) rfl a0) (con_laws_toTable e60) (.inl (so1 (sXTable sK (sLo sK) (sLo sK) sK) so0)) <| x_all (cXTable cI (cLo cI) (cLo cI) cI) (⟨(0 : Int), ([] : List Int), ([] : List Int), (0 : Int)⟩ : XTable) rfl <| x_stb (so rfl rfl) rfl (Cd.h_sz _ _) rfl <| seqN [(1, .d ((cLs (cXVariable cS cI) rfl).enc v1)), (2, .d ((cLs (cXTable cI (cLs cI rfl) (cLs cI rfl) cI) rfl).enc v2)), (4, .box ((cXGeo (cLs cI rfl)).enc v0)), (7, .box ((cXTable cI (cLs cI rfl) (cLs cI rfl) cI).enc v3)), (10, .d (cI.enc x43.1)), (11, .d (cB.enc x43.2)), (12, .box ((cXGeo (cLo cI)).enc x47)), (13, .d ((cLo (cXVariable cS cI)).enc x51)), (14, .d ((cLo (cXTable cI (cLo cI) (cLo cI) cI)).enc x55)), (15, .box ((cXTable cI (cLo cI) (cLo cI) cI).enc x59))] (by kernel_rfl) <|
    xn <| wpC_seq <| reg_s <| st rfl <| ldbo rfl rfl rfl rfl <| st rfl <| mvo rfl rfl <| st rfl <| mvo rfl rfl <| st rfl <| ldbo rfl rfl rfl rfl <| bnd h fun x63 e64 h => st rfl <| o_call (a1 (c := (cXGeo (cLo cI))) (tXGeo (tLo tK)) rfl (a1 (c := (cLo (cXVariable cS cI))) (tLo (tXVariable tS tK)) rfl (a1 (c := (cLo (cXTable cI (cLo cI) (cLo cI) cI))) (tLo (tXTable tK (tLo tK) (tLo tK) tK)) rfl (a1 (c := (cXTable cI (cLo cI) (cLo cI) cI)) (tXTable tK (tLo tK) (tLo tK) tK) rfl a0)))) (con_impl_CheapestSource e64) (.inl (so1 sK (so1 sB so0))) <| x_mvt rfl <| x_ext rfl rfl <| x_ext rfl rfl <| x_asg (ss rfl rfl) <| x_asg (ss rfl rfl) <| seqN [(1, .d ((cLs (cXVariable cS cI) rfl).enc v1)), (2, .d ((cLs (cXTable cI (cLs cI rfl) (cLs cI rfl) cI) rfl).enc v2)), (4, .box ((cXGeo (cLs cI rfl)).enc v0)), (7, .box ((cXTable cI (cLs cI rfl) (cLs cI rfl) cI).enc v3)), (10, .d (cI.enc x43.1)), (11, .d (cB.enc x43.2)), (12, .box ((cXGeo (cLo cI)).enc x47)), (13, .d ((cLo (cXVariable cS cI)).enc x51)), (14, .d ((cLo (cXTable cI (cLo cI) (cLo cI) cI)).enc x55)), (15, .box ((cXTable cI (cLo cI) (cLo cI) cI).enc x59)), (16, .d (cI.enc x63.1)), (17, .d (cB.enc x63.2))] (by kernel_rfl) <|
    xn <| wpC_seq <| wpC_kp <| wpC_seq <| reg_s <| st rfl <| mvd rfl rfl <| st rfl <| mvd rfl rfl <| st rfl <| b_neq (k := .i64) rfl rfl <| st rfl <| mvd rfl rfl <| ite_k h (fun b69 h => gf rfl b69 <| gf rfl b69 <| gf rfl b69 <| st rfl <| pick1 rfl b69 (cd := cB) (v := true) rfl rfl <| seqN [(1, .d ((cLs (cXVariable cS cI) rfl).enc v1)), (2, .d ((cLs (cXTable cI (cLs cI rfl) (cLs cI rfl) cI) rfl).enc v2)), (4, .box ((cXGeo (cLs cI rfl)).enc v0)), (7, .box ((cXTable cI (cLs cI rfl) (cLs cI rfl) cI).enc v3)), (12, .box ((cXGeo (cLo cI)).enc x47)), (13, .d ((cLo (cXVariable cS cI)).enc x51)), (14, .d ((cLo (cXTable cI (cLo cI) (cLo cI) cI)).enc x55)), (15, .box ((cXTable cI (cLo cI) (cLo cI) cI).enc x59)), (73, .d (cB.enc true))] (by kernel_rfl) <|
    xn <| cnd1 rfl rfl <| wpC_seq <| reg_s <| x_asg (sc cB false rfl) <| seqN [(8, .d (cB.enc false))] (by kernel_rfl) <|
    xn <| wpC_ret <| rt <| rt <| re <| fin h (r1 (ss rfl rfl) <| r0) rfl)
    (fun b69 h => gt' rfl b69 <| st rfl <| mvd rfl rfl <| gt' rfl b69 <| st rfl <| mvd rfl rfl <| gt' rfl b69 <| st rfl <| eqb1 rfl rfl <| st rfl <| pick0 rfl b69 (cd := cB) (v := (x63.2 != x43.2)) rfl rfl <| seqN [(1, .d ((cLs (cXVariable cS cI) rfl).enc v1)), (2, .d ((cLs (cXTable cI (cLs cI rfl) (cLs cI rfl) cI) rfl).enc v2)), (4, .box ((cXGeo (cLs cI rfl)).enc v0)), (7, .box ((cXTable cI (cLs cI rfl) (cLs cI rfl) cI).enc v3)), (12, .box ((cXGeo (cLo cI)).enc x47)), (13, .d ((cLo (cXVariable cS cI)).enc x51)), (14, .d ((cLo (cXTable cI (cLo cI) (cLo cI) cI)).enc x55)), (15, .box ((cXTable cI (cLo cI) (cLo cI) cI).enc x59)), (73, .d (cB.enc (x63.2 != x43.2)))] (by kernel_rfl) <|
    xn <| cnd rfl h (fun b70 h => wpC_seq <| reg_s <| x_asg (sc cB false rfl) <| seqN [(8, .d (cB.enc false))] (by kernel_rfl) <|
    xn <| wpC_ret <| rt <| rt <| re <| fin h (r1 (ss rfl rfl) <| r0) rfl)
    (fun b70 h => wpC_skip <| kpN [(1, .d ((cLs (cXVariable cS cI) rfl).enc v1)), (2, .d ((cLs (cXTable cI (cLs cI rfl) (cLs cI rfl) cI) rfl).enc v2)), (4, .box ((cXGeo (cLs cI rfl)).enc v0)), (7, .box ((cXTable cI (cLs cI rfl) (cLs cI rfl) cI).enc v3)), (12, .box ((cXGeo (cLo cI)).enc x47)), (13, .d ((cLo (cXVariable cS cI)).enc x51)), (14, .d ((cLo (cXTable cI (cLo cI) (cLo cI) cI)).enc x55)), (15, .box ((cXTable cI (cLo cI) (cLo cI) cI).enc x59))] (by kernel_rfl) <| xn <| wpC_seq <| wpC_kp <| wpC_seq <| drw_s <| pst rfl <| ldbo rfl rfl rfl rfl ⟨rfl, pst rfl <| ldb rfl rfl rfl rfl ⟨rfl, bndp h fun x84 e85 h => pst rfl <| o_call (a1 (c := (cXGeo (cLs cI rfl))) (tXGeo (tLs tK)) rfl a0) (con_laws_toGeo e85) (.inl (so1 (sXGeo (sLo sK)) so0)) ⟨rfl, bndp h fun x86 e87 h => pst rfl <| o_call (a1 (c := (cXGeo (cLo cI))) (tXGeo (tLo tK)) rfl (a1 (c := (cXGeo (cLo cI))) (tXGeo (tLo tK)) rfl a0)) (con_laws_eqGeo e87) (.inl (so1 sB so0)) ⟨rfl, pst rfl <| o_nt rfl ⟨rfl, preN <| seqN [(1, .d ((cLs (cXVariable cS cI) rfl).enc v1)), (2, .d ((cLs (cXTable cI (cLs cI rfl) (cLs cI rfl) cI) rfl).enc v2)), (7, .box ((cXTable cI (cLs cI rfl) (cLs cI rfl) cI).enc v3)), (13, .d ((cLo (cXVariable cS cI)).enc x51)), (14, .d ((cLo (cXTable cI (cLo cI) (cLo cI) cI)).enc x55)), (15, .box ((cXTable cI (cLo cI) (cLo cI) cI).enc x59)), (78, .d (cB.enc (!x86)))] (by kernel_rfl) <|
    xn <| cnd rfl h (fun b88 h => wpC_seq <| reg_s <| x_asg (sc cB false rfl) <| seqN [(8, .d (cB.enc false))] (by kernel_rfl) <|
    xn <| wpC_ret <| rt <| rt <| re <| fin h (r1 (ss rfl rfl) <| r0) rfl)
    (fun b88 h => wpC_skip <| kpN [(1, .d ((cLs (cXVariable cS cI) rfl).enc v1)), (2, .d ((cLs (cXTable cI (cLs cI rfl) (cLs cI rfl) cI) rfl).enc v2)), (7, .box ((cXTable cI (cLs cI rfl) (cLs cI rfl) cI).enc v3)), (13, .d ((cLo (cXVariable cS cI)).enc x51)), (14, .d ((cLo (cXTable cI (cLo cI) (cLo cI) cI)).enc x55)), (15, .box ((cXTable cI (cLo cI) (cLo cI) cI).enc x59))] (by kernel_rfl) <| xn <| wpC_seq <| wpC_kp <| wpC_seq <| reg_s <| st rfl <| mvo rfl rfl <| st rfl <| mvd rfl rfl <| bnd h fun x102 e103 h => st rfl <| o_call (a1 (c := (cLs (cXVariable cS cI) rfl)) (tLs (tXVariable tS tK)) rfl a0) (con_laws_toVariableS e103) (.inl (so1 (sLo (sXVariable sS sK)) so0)) <| bnd h fun x104 e105 h => st rfl <| o_call (a1 (c := (cLo (cXVariable cS cI))) (tLo (tXVariable tS tK)) rfl (a1 (c := (cLo (cXVariable cS cI))) (tLo (tXVariable tS tK)) rfl a0)) (con_laws_eqVariableS e105) (.inl (so1 sB so0)) <| st rfl <| o_nt rfl <| seqN [(2, .d ((cLs (cXTable cI (cLs cI rfl) (cLs cI rfl) cI) rfl).enc v2)), (7, .box ((cXTable cI (cLs cI rfl) (cLs cI rfl) cI).enc v3)), (14, .d ((cLo (cXTable cI (cLo cI) (cLo cI) cI)).enc x55)), (15, .box ((cXTable cI (cLo cI) (cLo cI) cI).enc x59)), (83, .d (cB.enc (!x104)))] (by kernel_rfl) <|
    xn <| cnd rfl h (fun b106 h => wpC_seq <| reg_s <| x_asg (sc cB false rfl) <| seqN [(8, .d (cB.enc false))] (by kernel_rfl) <|
    xn <| wpC_ret <| rt <| rt <| re <| fin h (r1 (ss rfl rfl) <| r0) rfl)
    (fun b106 h => wpC_skip <| kpN [(2, .d ((cLs (cXTable cI (cLs cI rfl) (cLs cI rfl) cI) rfl).enc v2)), (7, .box ((cXTable cI (cLs cI rfl) (cLs cI rfl) cI).enc v3)), (14, .d ((cLo (cXTable cI (cLo cI) (cLo cI) cI)).enc x55)), (15, .box ((cXTable cI (cLo cI) (cLo cI) cI).enc x59))] (by kernel_rfl) <| xn <| wpC_seq <| wpC_kp <| wpC_seq <| reg_s <| st rfl <| mvo rfl rfl <| st rfl <| mvd rfl rfl <| bnd h fun x120 e121 h => st rfl <| o_call (a1 (c := (cLs (cXTable cI (cLs cI rfl) (cLs cI rfl) cI) rfl)) (tLs (tXTable tK (tLs tK) (tLs tK) tK)) rfl a0) (con_laws_toTableS e121) (.inl (so1 (sLo (sXTable sK (sLo sK) (sLo sK) sK)) so0)) <| bnd h fun x122 e123 h => st rfl <| o_call (a1 (c := (cLo (cXTable cI (cLo cI) (cLo cI) cI))) (tLo (tXTable tK (tLo tK) (tLo tK) tK)) rfl (a1 (c := (cLo (cXTable cI (cLo cI) (cLo cI) cI))) (tLo (tXTable tK (tLo tK) (tLo tK) tK)) rfl a0)) (con_laws_eqTableS e123) (.inl (so1 sB so0)) <| st rfl <| o_nt rfl <| seqN [(7, .box ((cXTable cI (cLs cI rfl) (cLs cI rfl) cI).enc v3)), (15, .box ((cXTable cI (cLo cI) (cLo cI) cI).enc x59)), (88, .d (cB.enc (!x122)))] (by kernel_rfl) <|
    xn <| cnd rfl h (fun b124 h => wpC_seq <| reg_s <| x_asg (sc cB false rfl) <| seqN [(8, .d (cB.enc false))] (by kernel_rfl) <|
    xn <| wpC_ret <| rt <| rt <| re <| fin h (r1 (ss rfl rfl) <| r0) rfl)
    (fun b124 h => wpC_skip <| kpN [(7, .box ((cXTable cI (cLs cI rfl) (cLs cI rfl) cI).enc v3)), (15, .box ((cXTable cI (cLo cI) (cLo cI) cI).enc x59))] (by kernel_rfl) <| xn <| wpC_seq <| wpC_kp <| wpC_seq <| drw_s <| pst rfl <| ldbo rfl rfl rfl rfl ⟨rfl, pst rfl <| ldb rfl rfl rfl rfl ⟨rfl, bndp h fun x138 e139 h => pst rfl <| o_call (a1 (c := (cXTable cI (cLs cI rfl) (cLs cI rfl) cI)) (tXTable tK (tLs tK) (tLs tK) tK) rfl a0) (con_laws_toTable e139) (.inl (so1 (sXTable sK (sLo sK) (sLo sK) sK) so0)) ⟨rfl, bndp h fun x140 e141 h => pst rfl <| o_call (a1 (c := (cXTable cI (cLo cI) (cLo cI) cI)) (tXTable tK (tLo tK) (tLo tK) tK) rfl (a1 (c := (cXTable cI (cLo cI) (cLo cI) cI)) (tXTable tK (tLo tK) (tLo tK) tK) rfl a0)) (con_laws_eqTable e141) (.inl (so1 sB so0)) ⟨rfl, pst rfl <| o_nt rfl ⟨rfl, preN <| seqN [(93, .d (cB.enc (!x140)))] (by kernel_rfl) <|
    xn <| cnd rfl h (fun b142 h => wpC_seq <| reg_s <| x_asg (sc cB false rfl) <| seqN [(8, .d (cB.enc false))] (by kernel_rfl) <|
    xn <| wpC_ret <| rt <| rt <| re <| fin h (r1 (ss rfl rfl) <| r0) rfl)
    (fun b142 h => wpC_skip <| kpN [] (by kernel_rfl) <| xn <| wpC_seq <| reg_s <| x_asg (sc cB true rfl) <| seqN [(8, .d (cB.enc true))] (by kernel_rfl) <|
    xn <| wpC_ret <| re <| fin h (r1 (ss rfl rfl) <| r0) rfl)⟩⟩⟩⟩⟩)))⟩⟩⟩⟩⟩))⟩⟩⟩⟩⟩⟩⟩⟩⟩))))
end AS.W
