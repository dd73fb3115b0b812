/- The program computes the plain functions. No condition. -/
import Derived.Test.YtiohllblkcjafaaQContributionOfS
import Derived.Test.YtiohllblkcjafaaProg
import Derived.Test.YtiohllblkcjafaaQContributionOfL2
set_option maxRecDepth 100000
set_option linter.unusedVariables false
set_option linter.unusedSimpArgs false
namespace AS.W
open Go Go.Proofs
def rs_laws_FnExactContributionOf (r : Bool) : List D := [cB.enc r]
def m4 : MC := .seq (.reg [⟨some 4, .box (.t 0), none⟩,
    ⟨some 6, .box (.t 2), none⟩,
    ⟨some 7, .box (.t 3), none⟩,
    ⟨some 8, .asg (.c (.bool false)), none⟩] [1, 4, 6, 7])
  (.seq (.reg [⟨some 9, .asg (.c (.int .i64 1048576)), none⟩] [1, 4, 6, 7, 9])
  (.seq (.reg [⟨some 20, .ld 4 1 true, none⟩,
    ⟨some 21, .mv (.t 9), none⟩,
    ⟨some 22, .call 10 [(.t 20), (.t 21)], none⟩,
    ⟨some 9, .asg (.t 22), none⟩] [1, 4, 6, 7, 9])
  (.seq (.kp [1, 4, 6, 7, 9] (.seq (.reg [⟨some 23, .mv (.t 9), none⟩,
    ⟨some 24, .bin .lss (.t 23) (.c (.int .i64 0)), none⟩] [1, 4, 6, 7, 9, 24])
  (.cond (.t 24) (.seq (.reg [⟨some 8, .asg (.c (.bool true)), none⟩] [8])
  (.ret)) (.skip))))
  (.seq (.reg [⟨some 25, .mv (.t 1), none⟩,
    ⟨some 26, .mv (.t 9), none⟩,
    ⟨some 27, .call 11 [(.t 25), (.t 26)], none⟩,
    ⟨some 9, .asg (.t 27), none⟩] [1, 4, 6, 7, 9])
  (.seq (.kp [1, 4, 6, 7, 9] (.seq (.reg [⟨some 28, .mv (.t 9), none⟩,
    ⟨some 29, .bin .lss (.t 28) (.c (.int .i64 0)), none⟩] [1, 4, 6, 7, 9, 29])
  (.cond (.t 29) (.seq (.reg [⟨some 8, .asg (.c (.bool true)), none⟩] [8])
  (.ret)) (.skip))))
  (.seq (.reg [⟨some 30, .ld 6 4 true, none⟩,
    ⟨some 31, .mv (.t 9), none⟩,
    ⟨some 32, .call 21 [(.t 30), (.t 31)], none⟩,
    ⟨some 9, .asg (.t 32), none⟩] [1, 4, 6, 7, 9])
  (.seq (.kp [1, 4, 6, 7, 9] (.seq (.reg [⟨some 33, .mv (.t 9), none⟩,
    ⟨some 34, .bin .lss (.t 33) (.c (.int .i64 0)), none⟩] [1, 4, 6, 7, 9, 34])
  (.cond (.t 34) (.seq (.reg [⟨some 8, .asg (.c (.bool true)), none⟩] [8])
  (.ret)) (.skip))))
  (.seq (.reg [⟨some 35, .ld 7 3 true, none⟩,
    ⟨some 36, .mv (.t 9), none⟩,
    ⟨some 37, .call 22 [(.t 35), (.t 36)], none⟩,
    ⟨some 9, .asg (.t 37), none⟩] [1, 4, 6, 7, 9])
  (.seq (.kp [1, 4, 6, 7] (.seq (.reg [⟨some 38, .mv (.t 9), none⟩,
    ⟨some 39, .bin .lss (.t 38) (.c (.int .i64 0)), none⟩] [1, 4, 6, 7, 39])
  (.cond (.t 39) (.seq (.reg [⟨some 8, .asg (.c (.bool true)), none⟩] [8])
  (.ret)) (.skip))))
  (.seq (.drg [⟨0, ⟨some 41, .ld 4 1 true, none⟩, [42, 43, 44, 45, 46, 47, 48, 49]⟩,
    ⟨1, ⟨some 42, .call 14 [(.t 41)], none⟩, [43, 44, 45, 46, 47, 48, 49]⟩,
    ⟨2, ⟨some 43, .mv (.t 1), none⟩, [41, 42, 44, 45, 46, 47, 48, 49]⟩,
    ⟨3, ⟨some 44, .call 15 [(.t 43)], none⟩, [45, 46, 47, 48, 49]⟩,
    ⟨4, ⟨some 45, .ld 6 4 true, none⟩, [41, 42, 43, 44, 46, 47, 48, 49]⟩,
    ⟨5, ⟨some 46, .call 24 [(.t 45)], none⟩, [47, 48, 49]⟩,
    ⟨6, ⟨some 47, .ld 7 3 true, none⟩, [41, 42, 43, 44, 45, 46, 48, 49]⟩,
    ⟨7, ⟨some 48, .call 25 [(.t 47)], none⟩, [49]⟩,
    ⟨8, ⟨some 49, .call 23 [(.t 42), (.t 44), (.t 46), (.t 48)], none⟩, []⟩]
    [(9, ⟨some 40, .mvt 49, none⟩),
    (10, ⟨some 50, .ext 40 0, none⟩),
    (11, ⟨some 51, .ext 40 1, none⟩),
    (12, ⟨some 52, .ext 40 2, none⟩),
    (13, ⟨some 10, .asg (.t 50), none⟩),
    (14, ⟨some 11, .asg (.t 51), none⟩),
    (15, ⟨some 12, .asg (.t 52), none⟩)] [1, 4, 6, 7, 10, 11, 12] [10, 11, 12, 40, 49, 50, 51, 52, 1, 4, 6, 7] [([false, false, false, false, false, false, false], 0), ([true, false, false, false, false, false, false], 1), ([true, false, false, false, false, false, false], 2), ([true, false, false, false, false, false, false], 3), ([true, true, false, false, false, false, false], 2), ([true, true, false, false, false, false, false], 3), ([true, true, false, false, false, false, false], 4), ([true, false, true, false, false, false, false], 1), ([true, false, true, false, false, false, false], 3), ([true, false, false, true, false, false, false], 1), ([true, false, false, true, false, false, false], 2), ([true, true, true, false, false, false, false], 3), ([true, true, true, false, false, false, false], 4), ([true, true, false, true, false, false, false], 2), ([true, true, false, true, false, false, false], 4), ([true, true, false, false, true, false, false], 2), ([true, true, false, false, true, false, false], 3), ([true, false, true, true, false, false, false], 1), ([true, true, true, true, false, false, false], 4), ([true, true, true, false, true, false, false], 3), ([true, true, true, false, true, false, false], 5), ([true, true, false, true, true, false, false], 2), ([true, true, true, true, true, false, false], 5), ([true, true, true, false, true, true, false], 3), ([true, true, true, true, true, true, false], 6)])
  (.seq (.reg [⟨some 53, .ld 4 1 true, none⟩,
    ⟨some 54, .call 14 [(.t 53)], none⟩,
    ⟨some 13, .alloc (.agg [.slice true []]), none⟩,
    ⟨none, .st 13 (.t 54) 1, none⟩] [1, 4, 6, 7, 10, 11, 12, 13])
  (.seq (.reg [⟨some 55, .mv (.t 1), none⟩,
    ⟨some 56, .call 15 [(.t 55)], none⟩,
    ⟨some 14, .asg (.t 56), none⟩] [1, 4, 6, 7, 10, 11, 12, 13, 14])
  (.seq (.reg [⟨some 57, .ld 6 4 true, none⟩,
    ⟨some 58, .call 24 [(.t 57)], none⟩,
    ⟨some 15, .alloc (.agg [.int .i64 0, .slice true [], .slice true [], .int .i64 0]), none⟩,
    ⟨none, .st 15 (.t 58) 4, none⟩] [1, 4, 6, 7, 10, 11, 12, 13, 14, 15])
  (.seq (.reg [⟨some 59, .ld 7 3 true, none⟩,
    ⟨some 60, .call 25 [(.t 59)], none⟩,
    ⟨some 16, .alloc (.agg [.int .i64 0, .int .i64 0, .slice true []]), none⟩,
    ⟨none, .st 16 (.t 60) 3, none⟩] [1, 4, 6, 7, 10, 11, 12, 13, 14, 15, 16])
  (.seq (.reg [⟨some 62, .ld 13 1 true, none⟩,
    ⟨some 63, .mv (.t 14), none⟩,
    ⟨some 64, .ld 15 4 true, none⟩,
    ⟨some 65, .ld 16 3 true, none⟩,
    ⟨some 66, .call 26 [(.t 62), (.t 63), (.t 64), (.t 65)], none⟩,
    ⟨some 61, .mvt 66, none⟩,
    ⟨some 67, .ext 61 0, none⟩,
    ⟨some 68, .ext 61 1, none⟩,
    ⟨some 69, .ext 61 2, none⟩,
    ⟨some 17, .asg (.t 67), none⟩,
    ⟨some 18, .asg (.t 68), none⟩,
    ⟨some 19, .asg (.t 69), none⟩] [1, 4, 6, 7, 10, 11, 12, 13, 14, 15, 16, 17, 18, 19])
  (.seq (.kp [1, 4, 6, 7, 13, 14, 15, 16] (.seq (.reg [⟨some 70, .mv (.t 17), none⟩,
    ⟨some 71, .mv (.t 10), none⟩,
    ⟨some 72, .bin .neq (.t 70) (.t 71), none⟩,
    ⟨some 73, .mv (.t 72), none⟩,
    ⟨some 74, .mv (.t 18), some (73, false)⟩,
    ⟨some 75, .mv (.t 11), some (73, false)⟩,
    ⟨some 76, .bin .neq (.t 74) (.t 75), some (73, false)⟩,
    ⟨some 77, .pick (.t 73) (.c (.bool true)) (.t 76), none⟩,
    ⟨some 78, .mv (.t 77), none⟩,
    ⟨some 79, .mv (.t 19), some (78, false)⟩,
    ⟨some 80, .mv (.t 12), some (78, false)⟩,
    ⟨some 81, .eqb true (.t 79) (.t 80), some (78, false)⟩,
    ⟨some 82, .pick (.t 78) (.c (.bool true)) (.t 81), none⟩] [1, 4, 6, 7, 13, 14, 15, 16, 82])
  (.cond (.t 82) (.seq (.reg [⟨some 8, .asg (.c (.bool false)), none⟩] [8])
  (.ret)) (.skip))))
  (.seq (.kp [1, 6, 7, 14, 15, 16] (.seq (.drw [⟨0, ⟨some 83, .ld 13 1 true, none⟩, [84, 85, 86, 87]⟩,
    ⟨1, ⟨some 84, .ld 4 1 true, none⟩, [83, 85, 86, 87]⟩,
    ⟨2, ⟨some 85, .call 14 [(.t 84)], none⟩, [83, 86, 87]⟩,
    ⟨3, ⟨some 86, .call 18 [(.t 83), (.t 85)], none⟩, [87]⟩,
    ⟨4, ⟨some 87, .nt (.t 86), none⟩, []⟩]
    [] [1, 6, 7, 14, 15, 16, 87])
  (.cond (.t 87) (.seq (.reg [⟨some 8, .asg (.c (.bool false)), none⟩] [8])
  (.ret)) (.skip))))
  (.seq (.kp [6, 7, 15, 16] (.seq (.reg [⟨some 88, .mv (.t 14), none⟩,
    ⟨some 89, .mv (.t 1), none⟩,
    ⟨some 90, .call 15 [(.t 89)], none⟩,
    ⟨some 91, .call 19 [(.t 88), (.t 90)], none⟩,
    ⟨some 92, .nt (.t 91), none⟩] [6, 7, 15, 16, 92])
  (.cond (.t 92) (.seq (.reg [⟨some 8, .asg (.c (.bool false)), none⟩] [8])
  (.ret)) (.skip))))
  (.seq (.kp [7, 16] (.seq (.drw [⟨0, ⟨some 93, .ld 15 4 true, none⟩, [94, 95, 96, 97]⟩,
    ⟨1, ⟨some 94, .ld 6 4 true, none⟩, [93, 95, 96, 97]⟩,
    ⟨2, ⟨some 95, .call 24 [(.t 94)], none⟩, [93, 96, 97]⟩,
    ⟨3, ⟨some 96, .call 27 [(.t 93), (.t 95)], none⟩, [97]⟩,
    ⟨4, ⟨some 97, .nt (.t 96), none⟩, []⟩]
    [] [7, 16, 97])
  (.cond (.t 97) (.seq (.reg [⟨some 8, .asg (.c (.bool false)), none⟩] [8])
  (.ret)) (.skip))))
  (.seq (.kp [] (.seq (.drw [⟨0, ⟨some 98, .ld 16 3 true, none⟩, [99, 100, 101, 102]⟩,
    ⟨1, ⟨some 99, .ld 7 3 true, none⟩, [98, 100, 101, 102]⟩,
    ⟨2, ⟨some 100, .call 25 [(.t 99)], none⟩, [98, 101, 102]⟩,
    ⟨3, ⟨some 101, .call 28 [(.t 98), (.t 100)], none⟩, [102]⟩,
    ⟨4, ⟨some 102, .nt (.t 101), none⟩, []⟩]
    [] [102])
  (.cond (.t 102) (.seq (.reg [⟨some 8, .asg (.c (.bool false)), none⟩] [8])
  (.ret)) (.skip))))
  (.seq (.reg [⟨some 8, .asg (.c (.bool true)), none⟩] [8])
  (.ret))))))))))))))))))))))
theorem con_laws_FnExactContributionOf {v0 : XGeo} {v1 : (List XVariable)} {v2 : XTable} {v3 : XRecord} {r : Bool} (h : sh_laws_FnExactContributionOf v0 v1 v2 v3 = some r) : Con Try.prog 4 [(cXGeo (cLs cI rfl)).enc v0, (cLs (cXVariable cS cI) rfl).enc v1, (cXTable cI (cLs cI rfl) (cLs cI rfl) cI).enc v2, (cXRecord cI cI (cLs cI rfl)).enc v3] [] (rs_laws_FnExactContributionOf r) := by
  delta sh_laws_FnExactContributionOf at h
  refine top (out := none) (f := Try.f4) (m := m4) (rs := [.t 8]) (by kernel_rfl) rfl (by kernel_rfl) (by kernel_rfl) (by kernel_rfl) (by kernel_rfl) (by kernel_rfl) ?_
  exact
   ini [(0, .d ((cXGeo (cLs cI rfl)).enc v0)), (1, .d ((cLs (cXVariable cS cI) rfl).enc v1)), (2, .d ((cXTable cI (cLs cI rfl) (cLs cI rfl) cI).enc v2)), (3, .d ((cXRecord cI cI (cLs cI rfl)).enc v3))] rfl <| wpC_seq <| reg_s <| x_box (ss rfl rfl) <| x_box (ss rfl rfl) <| x_box (ss rfl rfl) <| x_asg (sc cB false rfl) <| seqN [(1, .d ((cLs (cXVariable cS cI) rfl).enc v1)), (4, .box ((cXGeo (cLs cI rfl)).enc v0)), (6, .box ((cXTable cI (cLs cI rfl) (cLs cI rfl) cI).enc v2)), (7, .box ((cXRecord cI cI (cLs cI rfl)).enc v3))] (by kernel_rfl) <|
    xn <| wpC_seq <| reg_s <| x_asg (sc cI (1048576 : Int) rfl) <| seqN [(1, .d ((cLs (cXVariable cS cI) rfl).enc v1)), (4, .box ((cXGeo (cLs cI rfl)).enc v0)), (6, .box ((cXTable cI (cLs cI rfl) (cLs cI rfl) cI).enc v2)), (7, .box ((cXRecord cI cI (cLs cI rfl)).enc v3)), (9, .d (cI.enc (1048576 : Int)))] (by kernel_rfl) <|
    xn <| wpC_seq <| reg_s <| st rfl <| ldb rfl rfl rfl rfl <| st rfl <| mvd rfl rfl <| bnd h fun x3 e4 h => st rfl <| o_call (a1 (c := (cXGeo (cLs cI rfl))) (tXGeo (tLs tK)) rfl (a1 (c := cI) tK rfl a0)) (con_laws_szGeo e4) (.inl (so1 sK so0)) <| x_asg (ss rfl rfl) <| seqN [(1, .d ((cLs (cXVariable cS cI) rfl).enc v1)), (4, .box ((cXGeo (cLs cI rfl)).enc v0)), (6, .box ((cXTable cI (cLs cI rfl) (cLs cI rfl) cI).enc v2)), (7, .box ((cXRecord cI cI (cLs cI rfl)).enc v3)), (9, .d (cI.enc x3))] (by kernel_rfl) <|
    xn <| wpC_seq <| wpC_kp <| wpC_seq <| reg_s <| st rfl <| mvd rfl rfl <| st rfl <| b_lss (k := .i64) rfl rfl <| seqN [(1, .d ((cLs (cXVariable cS cI) rfl).enc v1)), (4, .box ((cXGeo (cLs cI rfl)).enc v0)), (6, .box ((cXTable cI (cLs cI rfl) (cLs cI rfl) cI).enc v2)), (7, .box ((cXRecord cI cI (cLs cI rfl)).enc v3)), (9, .d (cI.enc x3)), (24, .d (cB.enc (decide (x3 < (0 : Int)))))] (by kernel_rfl) <|
    xn <| cnd rfl h (fun b6 h => wpC_seq <| reg_s <| x_asg (sc cB true rfl) <| seqN [(8, .d (cB.enc true))] (by kernel_rfl) <|
    xn <| wpC_ret <| rt <| rt <| re <| fin h (r1 (ss rfl rfl) <| r0) rfl)
    (fun b6 h => wpC_skip <| kpN [(1, .d ((cLs (cXVariable cS cI) rfl).enc v1)), (4, .box ((cXGeo (cLs cI rfl)).enc v0)), (6, .box ((cXTable cI (cLs cI rfl) (cLs cI rfl) cI).enc v2)), (7, .box ((cXRecord cI cI (cLs cI rfl)).enc v3)), (9, .d (cI.enc x3))] (by kernel_rfl) <| xn <| wpC_seq <| reg_s <| st rfl <| mvd rfl rfl <| st rfl <| mvd rfl rfl <| bnd h fun x9 e10 h => st rfl <| o_call (a1 (c := (cLs (cXVariable cS cI) rfl)) (tLs (tXVariable tS tK)) rfl (a1 (c := cI) tK rfl a0)) (con_laws_szVariableS e10) (.inl (so1 sK so0)) <| x_asg (ss rfl rfl) <| seqN [(1, .d ((cLs (cXVariable cS cI) rfl).enc v1)), (4, .box ((cXGeo (cLs cI rfl)).enc v0)), (6, .box ((cXTable cI (cLs cI rfl) (cLs cI rfl) cI).enc v2)), (7, .box ((cXRecord cI cI (cLs cI rfl)).enc v3)), (9, .d (cI.enc x9))] (by kernel_rfl) <|
    xn <| wpC_seq <| wpC_kp <| wpC_seq <| reg_s <| st rfl <| mvd rfl rfl <| st rfl <| b_lss (k := .i64) rfl rfl <| seqN [(1, .d ((cLs (cXVariable cS cI) rfl).enc v1)), (4, .box ((cXGeo (cLs cI rfl)).enc v0)), (6, .box ((cXTable cI (cLs cI rfl) (cLs cI rfl) cI).enc v2)), (7, .box ((cXRecord cI cI (cLs cI rfl)).enc v3)), (9, .d (cI.enc x9)), (29, .d (cB.enc (decide (x9 < (0 : Int)))))] (by kernel_rfl) <|
    xn <| cnd rfl h (fun b12 h => wpC_seq <| reg_s <| x_asg (sc cB true rfl) <| seqN [(8, .d (cB.enc true))] (by kernel_rfl) <|
    xn <| wpC_ret <| rt <| rt <| re <| fin h (r1 (ss rfl rfl) <| r0) rfl)
    (fun b12 h => wpC_skip <| kpN [(1, .d ((cLs (cXVariable cS cI) rfl).enc v1)), (4, .box ((cXGeo (cLs cI rfl)).enc v0)), (6, .box ((cXTable cI (cLs cI rfl) (cLs cI rfl) cI).enc v2)), (7, .box ((cXRecord cI cI (cLs cI rfl)).enc v3)), (9, .d (cI.enc x9))] (by kernel_rfl) <| xn <| wpC_seq <| reg_s <| st rfl <| ldb rfl rfl rfl rfl <| st rfl <| mvd rfl rfl <| bnd h fun x15 e16 h => st rfl <| o_call (a1 (c := (cXTable cI (cLs cI rfl) (cLs cI rfl) cI)) (tXTable tK (tLs tK) (tLs tK) tK) rfl (a1 (c := cI) tK rfl a0)) (con_laws_szTable e16) (.inl (so1 sK so0)) <| x_asg (ss rfl rfl) <| seqN [(1, .d ((cLs (cXVariable cS cI) rfl).enc v1)), (4, .box ((cXGeo (cLs cI rfl)).enc v0)), (6, .box ((cXTable cI (cLs cI rfl) (cLs cI rfl) cI).enc v2)), (7, .box ((cXRecord cI cI (cLs cI rfl)).enc v3)), (9, .d (cI.enc x15))] (by kernel_rfl) <|
    xn <| wpC_seq <| wpC_kp <| wpC_seq <| reg_s <| st rfl <| mvd rfl rfl <| st rfl <| b_lss (k := .i64) rfl rfl <| seqN [(1, .d ((cLs (cXVariable cS cI) rfl).enc v1)), (4, .box ((cXGeo (cLs cI rfl)).enc v0)), (6, .box ((cXTable cI (cLs cI rfl) (cLs cI rfl) cI).enc v2)), (7, .box ((cXRecord cI cI (cLs cI rfl)).enc v3)), (9, .d (cI.enc x15)), (34, .d (cB.enc (decide (x15 < (0 : Int)))))] (by kernel_rfl) <|
    xn <| cnd rfl h (fun b18 h => wpC_seq <| reg_s <| x_asg (sc cB true rfl) <| seqN [(8, .d (cB.enc true))] (by kernel_rfl) <|
    xn <| wpC_ret <| rt <| rt <| re <| fin h (r1 (ss rfl rfl) <| r0) rfl)
    (fun b18 h => wpC_skip <| kpN [(1, .d ((cLs (cXVariable cS cI) rfl).enc v1)), (4, .box ((cXGeo (cLs cI rfl)).enc v0)), (6, .box ((cXTable cI (cLs cI rfl) (cLs cI rfl) cI).enc v2)), (7, .box ((cXRecord cI cI (cLs cI rfl)).enc v3)), (9, .d (cI.enc x15))] (by kernel_rfl) <| xn <| wpC_seq <| reg_s <| st rfl <| ldb rfl rfl rfl rfl <| st rfl <| mvd rfl rfl <| bnd h fun x21 e22 h => st rfl <| o_call (a1 (c := (cXRecord cI cI (cLs cI rfl))) (tXRecord tK tK (tLs tK)) rfl (a1 (c := cI) tK rfl a0)) (con_laws_szRecord e22) (.inl (so1 sK so0)) <| x_asg (ss rfl rfl) <| seqN [(1, .d ((cLs (cXVariable cS cI) rfl).enc v1)), (4, .box ((cXGeo (cLs cI rfl)).enc v0)), (6, .box ((cXTable cI (cLs cI rfl) (cLs cI rfl) cI).enc v2)), (7, .box ((cXRecord cI cI (cLs cI rfl)).enc v3)), (9, .d (cI.enc x21))] (by kernel_rfl) <|
    xn <| wpC_seq <| wpC_kp <| wpC_seq <| reg_s <| st rfl <| mvd rfl rfl <| st rfl <| b_lss (k := .i64) rfl rfl <| seqN [(1, .d ((cLs (cXVariable cS cI) rfl).enc v1)), (4, .box ((cXGeo (cLs cI rfl)).enc v0)), (6, .box ((cXTable cI (cLs cI rfl) (cLs cI rfl) cI).enc v2)), (7, .box ((cXRecord cI cI (cLs cI rfl)).enc v3)), (39, .d (cB.enc (decide (x21 < (0 : Int)))))] (by kernel_rfl) <|
    xn <| cnd rfl h (fun b24 h => wpC_seq <| reg_s <| x_asg (sc cB true rfl) <| seqN [(8, .d (cB.enc true))] (by kernel_rfl) <|
    xn <| wpC_ret <| rt <| rt <| re <| fin h (r1 (ss rfl rfl) <| r0) rfl)
    (fun b24 h => wpC_skip <| kpN [(1, .d ((cLs (cXVariable cS cI) rfl).enc v1)), (4, .box ((cXGeo (cLs cI rfl)).enc v0)), (6, .box ((cXTable cI (cLs cI rfl) (cLs cI rfl) cI).enc v2)), (7, .box ((cXRecord cI cI (cLs cI rfl)).enc v3))] (by kernel_rfl) <| xn <| wpC_seq <| drg_s <| pst rfl <| ldb rfl rfl rfl rfl ⟨rfl, bndp h fun x35 e36 h => pst rfl <| o_call (a1 (c := (cXGeo (cLs cI rfl))) (tXGeo (tLs tK)) rfl a0) (con_laws_toGeo e36) (.inl (so1 (sXGeo (sLo sK)) so0)) ⟨rfl, pst rfl <| mvd rfl rfl ⟨rfl, bndp h fun x37 e38 h => pst rfl <| o_call (a1 (c := (cLs (cXVariable cS cI) rfl)) (tLs (tXVariable tS tK)) rfl a0) (con_laws_toVariableS e38) (.inl (so1 (sLo (sXVariable sS sK)) so0)) ⟨rfl, pst rfl <| ldb rfl rfl rfl rfl ⟨rfl, bndp h fun x39 e40 h => pst rfl <| o_call (a1 (c := (cXTable cI (cLs cI rfl) (cLs cI rfl) cI)) (tXTable tK (tLs tK) (tLs tK) tK) rfl a0) (con_laws_toTable e40) (.inl (so1 (sXTable sK (sLo sK) (sLo sK) sK) so0)) ⟨rfl, pst rfl <| ldb rfl rfl rfl rfl ⟨rfl, bndp h fun x41 e42 h => pst rfl <| o_call (a1 (c := (cXRecord cI cI (cLs cI rfl))) (tXRecord tK tK (tLs tK)) rfl a0) (con_laws_toRecord e42) (.inl (so1 (sXRecord sK sK (sLo sK)) so0)) ⟨rfl, bndp h fun x43 e44 h => pst rfl <| o_call (a1 (c := (cXGeo (cLo cI))) (tXGeo (tLo tK)) rfl (a1 (c := (cLo (cXVariable cS cI))) (tLo (tXVariable tS tK)) rfl (a1 (c := (cXTable cI (cLo cI) (cLo cI) cI)) (tXTable tK (tLo tK) (tLo tK) tK) rfl (a1 (c := (cXRecord cI cI (cLo cI))) (tXRecord tK tK (tLo tK)) rfl a0)))) (con_spec_ContributionOf e44) (.inl (so1 sK (so1 sK (so1 sB so0)))) ⟨rfl, preN <| gr_s [(1, .d ((cLs (cXVariable cS cI) rfl).enc v1)), (4, .box ((cXGeo (cLs cI rfl)).enc v0)), (6, .box ((cXTable cI (cLs cI rfl) (cLs cI rfl) cI).enc v2)), (7, .box ((cXRecord cI cI (cLs cI rfl)).enc v3))] [([false, false, false, false, false, false, false], [(10, .un), (11, .un), (12, .un), (40, .un), (49, .tup [some (cI.enc x43.1), some (cI.enc x43.2.1), some (cB.enc x43.2.2)]), (50, .un), (51, .un), (52, .un)]),
     ([true, false, false, false, false, false, false], [(10, .un), (11, .un), (12, .un), (40, .tup [some (cI.enc x43.1), some (cI.enc x43.2.1), some (cB.enc x43.2.2)]), (49, .un), (50, .un), (51, .un), (52, .un)]),
     ([true, true, false, false, false, false, false], [(10, .un), (11, .un), (12, .un), (40, .tup [none, some (cI.enc x43.2.1), some (cB.enc x43.2.2)]), (49, .un), (50, .d (cI.enc x43.1)), (51, .un), (52, .un)]),
     ([true, false, true, false, false, false, false], [(10, .un), (11, .un), (12, .un), (40, .tup [some (cI.enc x43.1), none, some (cB.enc x43.2.2)]), (49, .un), (50, .un), (51, .d (cI.enc x43.2.1)), (52, .un)]),
     ([true, false, false, true, false, false, false], [(10, .un), (11, .un), (12, .un), (40, .tup [some (cI.enc x43.1), some (cI.enc x43.2.1), none]), (49, .un), (50, .un), (51, .un), (52, .d (cB.enc x43.2.2))]),
     ([true, true, true, false, false, false, false], [(10, .un), (11, .un), (12, .un), (40, .tup [none, none, some (cB.enc x43.2.2)]), (49, .un), (50, .d (cI.enc x43.1)), (51, .d (cI.enc x43.2.1)), (52, .un)]),
     ([true, true, false, true, false, false, false], [(10, .un), (11, .un), (12, .un), (40, .tup [none, some (cI.enc x43.2.1), none]), (49, .un), (50, .d (cI.enc x43.1)), (51, .un), (52, .d (cB.enc x43.2.2))]),
     ([true, true, false, false, true, false, false], [(10, .d (cI.enc x43.1)), (11, .un), (12, .un), (40, .tup [none, some (cI.enc x43.2.1), some (cB.enc x43.2.2)]), (49, .un), (50, .d (cI.enc x43.1)), (51, .un), (52, .un)]),
     ([true, false, true, true, false, false, false], [(10, .un), (11, .un), (12, .un), (40, .tup [some (cI.enc x43.1), none, none]), (49, .un), (50, .un), (51, .d (cI.enc x43.2.1)), (52, .d (cB.enc x43.2.2))]),
     ([true, true, true, true, false, false, false], [(10, .un), (11, .un), (12, .un), (40, .tup [none, none, none]), (49, .un), (50, .d (cI.enc x43.1)), (51, .d (cI.enc x43.2.1)), (52, .d (cB.enc x43.2.2))]),
     ([true, true, true, false, true, false, false], [(10, .d (cI.enc x43.1)), (11, .un), (12, .un), (40, .tup [none, none, some (cB.enc x43.2.2)]), (49, .un), (50, .d (cI.enc x43.1)), (51, .d (cI.enc x43.2.1)), (52, .un)]),
     ([true, true, false, true, true, false, false], [(10, .d (cI.enc x43.1)), (11, .un), (12, .un), (40, .tup [none, some (cI.enc x43.2.1), none]), (49, .un), (50, .d (cI.enc x43.1)), (51, .un), (52, .d (cB.enc x43.2.2))]),
     ([true, true, true, true, true, false, false], [(10, .d (cI.enc x43.1)), (11, .un), (12, .un), (40, .tup [none, none, none]), (49, .un), (50, .d (cI.enc x43.1)), (51, .d (cI.enc x43.2.1)), (52, .d (cB.enc x43.2.2))]),
     ([true, true, true, false, true, true, false], [(10, .d (cI.enc x43.1)), (11, .d (cI.enc x43.2.1)), (12, .un), (40, .tup [none, none, some (cB.enc x43.2.2)]), (49, .un), (50, .d (cI.enc x43.1)), (51, .d (cI.enc x43.2.1)), (52, .un)]),
     ([true, true, true, true, true, true, false], [(10, .d (cI.enc x43.1)), (11, .d (cI.enc x43.2.1)), (12, .un), (40, .tup [none, none, none]), (49, .un), (50, .d (cI.enc x43.1)), (51, .d (cI.enc x43.2.1)), (52, .d (cB.enc x43.2.2))]),
     ([true, true, true, true, true, true, true], [(10, .d (cI.enc x43.1)), (11, .d (cI.enc x43.2.1)), (12, .d (cB.enc x43.2.2)), (40, .tup [none, none, none]), (49, .un), (50, .d (cI.enc x43.1)), (51, .d (cI.enc x43.2.1)), (52, .d (cB.enc x43.2.2))])] [(1, .d ((cLs (cXVariable cS cI) rfl).enc v1)), (4, .box ((cXGeo (cLs cI rfl)).enc v0)), (6, .box ((cXTable cI (cLs cI rfl) (cLs cI rfl) cI).enc v2)), (7, .box ((cXRecord cI cI (cLs cI rfl)).enc v3)), (10, .d (cI.enc x43.1)), (11, .d (cI.enc x43.2.1)), (12, .d (cB.enc x43.2.2))] [([false, false, false, false, false, false, false], [])] (by kernel_rfl) (sa1 rfl (by kernel_rfl) <| sa0) rfl
    (ob1 rfl rfl rfl (x_mvt rfl <| obN (by kernel_rfl)) <|
    ob1 rfl rfl rfl (x_ext rfl rfl <| obN (by kernel_rfl)) <|
    ob1 rfl rfl rfl (x_ext rfl rfl <| obN (by kernel_rfl)) <|
    ob1 rfl rfl rfl (x_ext rfl rfl <| obN (by kernel_rfl)) <|
    ob1 rfl rfl rfl (x_ext rfl rfl <| obN (by kernel_rfl)) <|
    ob1 rfl rfl rfl (x_ext rfl rfl <| obN (by kernel_rfl)) <|
    ob1 rfl rfl rfl (x_asg (ss rfl rfl) <| obN (by kernel_rfl)) <|
    ob1 rfl rfl rfl (x_ext rfl rfl <| obN (by kernel_rfl)) <|
    ob1 rfl rfl rfl (x_ext rfl rfl <| obN (by kernel_rfl)) <|
    ob1 rfl rfl rfl (x_ext rfl rfl <| obN (by kernel_rfl)) <|
    ob1 rfl rfl rfl (x_ext rfl rfl <| obN (by kernel_rfl)) <|
    ob1 rfl rfl rfl (x_ext rfl rfl <| obN (by kernel_rfl)) <|
    ob1 rfl rfl rfl (x_asg (ss rfl rfl) <| obN (by kernel_rfl)) <|
    ob1 rfl rfl rfl (x_ext rfl rfl <| obN (by kernel_rfl)) <|
    ob1 rfl rfl rfl (x_asg (ss rfl rfl) <| obN (by kernel_rfl)) <|
    ob1 rfl rfl rfl (x_ext rfl rfl <| obN (by kernel_rfl)) <|
    ob1 rfl rfl rfl (x_ext rfl rfl <| obN (by kernel_rfl)) <|
    ob1 rfl rfl rfl (x_ext rfl rfl <| obN (by kernel_rfl)) <|
    ob1 rfl rfl rfl (x_asg (ss rfl rfl) <| obN (by kernel_rfl)) <|
    ob1 rfl rfl rfl (x_ext rfl rfl <| obN (by kernel_rfl)) <|
    ob1 rfl rfl rfl (x_asg (ss rfl rfl) <| obN (by kernel_rfl)) <|
    ob1 rfl rfl rfl (x_ext rfl rfl <| obN (by kernel_rfl)) <|
    ob1 rfl rfl rfl (x_asg (ss rfl rfl) <| obN (by kernel_rfl)) <|
    ob1 rfl rfl rfl (x_ext rfl rfl <| obN (by kernel_rfl)) <|
    ob1 rfl rfl rfl (x_asg (ss rfl rfl) <| obN (by kernel_rfl)) <|
    ob0)
    (by kernel_rfl) <|
    xn <| wpC_seq <| reg_s <| st rfl <| ldb rfl rfl rfl rfl <| bnd h fun x47 e48 h => st rfl <| o_call (a1 (c := (cXGeo (cLs cI rfl))) (tXGeo (tLs tK)) rfl a0) (con_laws_toGeo e48) (.inl (so1 (sXGeo (sLo sK)) so0)) <| x_all (cXGeo (cLo cI)) (⟨([] : List Int)⟩ : XGeo) rfl <| x_stb (so rfl rfl) rfl (Cd.h_sz _ _) rfl <| seqN [(1, .d ((cLs (cXVariable cS cI) rfl).enc v1)), (4, .box ((cXGeo (cLs cI rfl)).enc v0)), (6, .box ((cXTable cI (cLs cI rfl) (cLs cI rfl) cI).enc v2)), (7, .box ((cXRecord cI cI (cLs cI rfl)).enc v3)), (10, .d (cI.enc x43.1)), (11, .d (cI.enc x43.2.1)), (12, .d (cB.enc x43.2.2)), (13, .box ((cXGeo (cLo cI)).enc x47))] (by kernel_rfl) <|
    xn <| wpC_seq <| reg_s <| st rfl <| mvd rfl rfl <| bnd h fun x51 e52 h => st rfl <| o_call (a1 (c := (cLs (cXVariable cS cI) rfl)) (tLs (tXVariable tS tK)) rfl a0) (con_laws_toVariableS e52) (.inl (so1 (sLo (sXVariable sS sK)) so0)) <| x_asg (so rfl rfl) <| seqN [(1, .d ((cLs (cXVariable cS cI) rfl).enc v1)), (4, .box ((cXGeo (cLs cI rfl)).enc v0)), (6, .box ((cXTable cI (cLs cI rfl) (cLs cI rfl) cI).enc v2)), (7, .box ((cXRecord cI cI (cLs cI rfl)).enc v3)), (10, .d (cI.enc x43.1)), (11, .d (cI.enc x43.2.1)), (12, .d (cB.enc x43.2.2)), (13, .box ((cXGeo (cLo cI)).enc x47)), (14, .d ((cLo (cXVariable cS cI)).enc x51))] (by kernel_rfl) <|
    xn <| wpC_seq <| reg_s <| st rfl <| ldb rfl rfl rfl rfl <| bnd h fun x55 e56 h => st rfl <| o_call (a1 (c := (cXTable cI (cLs cI rfl) (cLs cI rfl) cI)) (tXTable tK (tLs tK) (tLs tK) tK) rfl a0) (con_laws_toTable e56) (.inl (so1 (sXTable sK (sLo sK) (sLo sK) sK) so0)) <| x_all (cXTable cI (cLo cI) (cLo cI) cI) (⟨(0 : Int), ([] : List Int), ([] : List Int), (0 : Int)⟩ : XTable) rfl <| x_stb (so rfl rfl) rfl (Cd.h_sz _ _) rfl <| seqN [(1, .d ((cLs (cXVariable cS cI) rfl).enc v1)), (4, .box ((cXGeo (cLs cI rfl)).enc v0)), (6, .box ((cXTable cI (cLs cI rfl) (cLs cI rfl) cI).enc v2)), (7, .box ((cXRecord cI cI (cLs cI rfl)).enc v3)), (10, .d (cI.enc x43.1)), (11, .d (cI.enc x43.2.1)), (12, .d (cB.enc x43.2.2)), (13, .box ((cXGeo (cLo cI)).enc x47)), (14, .d ((cLo (cXVariable cS cI)).enc x51)), (15, .box ((cXTable cI (cLo cI) (cLo cI) cI).enc x55))] (by kernel_rfl) <|
    xn <| wpC_seq <| reg_s <| st rfl <| ldb rfl rfl rfl rfl <| bnd h fun x59 e60 h => st rfl <| o_call (a1 (c := (cXRecord cI cI (cLs cI rfl))) (tXRecord tK tK (tLs tK)) rfl a0) (con_laws_toRecord e60) (.inl (so1 (sXRecord sK sK (sLo sK)) so0)) <| x_all (cXRecord cI cI (cLo cI)) (⟨(0 : Int), (0 : Int), ([] : List Int)⟩ : XRecord) rfl <| x_stb (so rfl rfl) rfl (Cd.h_sz _ _) rfl <| seqN [(1, .d ((cLs (cXVariable cS cI) rfl).enc v1)), (4, .box ((cXGeo (cLs cI rfl)).enc v0)), (6, .box ((cXTable cI (cLs cI rfl) (cLs cI rfl) cI).enc v2)), (7, .box ((cXRecord cI cI (cLs cI rfl)).enc v3)), (10, .d (cI.enc x43.1)), (11, .d (cI.enc x43.2.1)), (12, .d (cB.enc x43.2.2)), (13, .box ((cXGeo (cLo cI)).enc x47)), (14, .d ((cLo (cXVariable cS cI)).enc x51)), (15, .box ((cXTable cI (cLo cI) (cLo cI) cI).enc x55)), (16, .box ((cXRecord cI cI (cLo cI)).enc x59))] (by kernel_rfl) <|
    xn <| wpC_seq <| reg_s <| st rfl <| ldbo rfl rfl rfl rfl <| st rfl <| mvo rfl rfl <| st rfl <| ldbo rfl rfl rfl rfl <| st rfl <| ldbo rfl rfl rfl rfl <| bnd h fun x63 e64 h => st rfl <| o_call (a1 (c := (cXGeo (cLo cI))) (tXGeo (tLo tK)) rfl (a1 (c := (cLo (cXVariable cS cI))) (tLo (tXVariable tS tK)) rfl (a1 (c := (cXTable cI (cLo cI) (cLo cI) cI)) (tXTable tK (tLo tK) (tLo tK) tK) rfl (a1 (c := (cXRecord cI cI (cLo cI))) (tXRecord tK tK (tLo tK)) rfl a0)))) (con_impl_ContributionOf e64) (.inl (so1 sK (so1 sK (so1 sB so0)))) <| x_mvt rfl <| x_ext rfl rfl <| x_ext rfl rfl <| x_ext rfl rfl <| x_asg (ss rfl rfl) <| x_asg (ss rfl rfl) <| x_asg (ss rfl rfl) <| seqN [(1, .d ((cLs (cXVariable cS cI) rfl).enc v1)), (4, .box ((cXGeo (cLs cI rfl)).enc v0)), (6, .box ((cXTable cI (cLs cI rfl) (cLs cI rfl) cI).enc v2)), (7, .box ((cXRecord cI cI (cLs cI rfl)).enc v3)), (10, .d (cI.enc x43.1)), (11, .d (cI.enc x43.2.1)), (12, .d (cB.enc x43.2.2)), (13, .box ((cXGeo (cLo cI)).enc x47)), (14, .d ((cLo (cXVariable cS cI)).enc x51)), (15, .box ((cXTable cI (cLo cI) (cLo cI) cI).enc x55)), (16, .box ((cXRecord cI cI (cLo cI)).enc x59)), (17, .d (cI.enc x63.1)), (18, .d (cI.enc x63.2.1)), (19, .d (cB.enc x63.2.2))] (by kernel_rfl) <|
    xn <| wpC_seq <| wpC_kp <| wpC_seq <| reg_s <| st rfl <| mvd rfl rfl <| st rfl <| mvd rfl rfl <| st rfl <| b_neq (k := .i64) rfl rfl <| st rfl <| mvd rfl rfl <| ite_k h (fun b72 h => gf rfl b72 <| gf rfl b72 <| gf rfl b72 <| st rfl <| pick1 rfl b72 (cd := cB) (v := true) rfl rfl <| st rfl <| mvd rfl rfl <| gf rfl rfl <| gf rfl rfl <| gf rfl rfl <| st rfl <| pick1 rfl rfl (cd := cB) (v := true) rfl rfl <| seqN [(1, .d ((cLs (cXVariable cS cI) rfl).enc v1)), (4, .box ((cXGeo (cLs cI rfl)).enc v0)), (6, .box ((cXTable cI (cLs cI rfl) (cLs cI rfl) cI).enc v2)), (7, .box ((cXRecord cI cI (cLs cI rfl)).enc v3)), (13, .box ((cXGeo (cLo cI)).enc x47)), (14, .d ((cLo (cXVariable cS cI)).enc x51)), (15, .box ((cXTable cI (cLo cI) (cLo cI) cI).enc x55)), (16, .box ((cXRecord cI cI (cLo cI)).enc x59)), (82, .d (cB.enc true))] (by kernel_rfl) <|
    xn <| cnd1 rfl rfl <| wpC_seq <| reg_s <| x_asg (sc cB false rfl) <| seqN [(8, .d (cB.enc false))] (by kernel_rfl) <|
    xn <| wpC_ret <| rt <| rt <| re <| fin h (r1 (ss rfl rfl) <| r0) rfl)
    (fun b72 h => gt' rfl b72 <| st rfl <| mvd rfl rfl <| gt' rfl b72 <| st rfl <| mvd rfl rfl <| gt' rfl b72 <| st rfl <| b_neq (k := .i64) rfl rfl <| st rfl <| pick0 rfl b72 (cd := cB) (v := (decide (x63.2.1 ≠ x43.2.1))) rfl rfl <| st rfl <| mvd rfl rfl <| ite_k h (fun b73 h => gf rfl b73 <| gf rfl b73 <| gf rfl b73 <| st rfl <| pick1 rfl b73 (cd := cB) (v := true) rfl rfl <| seqN [(1, .d ((cLs (cXVariable cS cI) rfl).enc v1)), (4, .box ((cXGeo (cLs cI rfl)).enc v0)), (6, .box ((cXTable cI (cLs cI rfl) (cLs cI rfl) cI).enc v2)), (7, .box ((cXRecord cI cI (cLs cI rfl)).enc v3)), (13, .box ((cXGeo (cLo cI)).enc x47)), (14, .d ((cLo (cXVariable cS cI)).enc x51)), (15, .box ((cXTable cI (cLo cI) (cLo cI) cI).enc x55)), (16, .box ((cXRecord cI cI (cLo cI)).enc x59)), (82, .d (cB.enc true))] (by kernel_rfl) <|
    xn <| cnd1 rfl rfl <| wpC_seq <| reg_s <| x_asg (sc cB false rfl) <| seqN [(8, .d (cB.enc false))] (by kernel_rfl) <|
    xn <| wpC_ret <| rt <| rt <| re <| fin h (r1 (ss rfl rfl) <| r0) rfl)
    (fun b73 h => gt' rfl b73 <| st rfl <| mvd rfl rfl <| gt' rfl b73 <| st rfl <| mvd rfl rfl <| gt' rfl b73 <| st rfl <| eqb1 rfl rfl <| st rfl <| pick0 rfl b73 (cd := cB) (v := (x63.2.2 != x43.2.2)) rfl rfl <| seqN [(1, .d ((cLs (cXVariable cS cI) rfl).enc v1)), (4, .box ((cXGeo (cLs cI rfl)).enc v0)), (6, .box ((cXTable cI (cLs cI rfl) (cLs cI rfl) cI).enc v2)), (7, .box ((cXRecord cI cI (cLs cI rfl)).enc v3)), (13, .box ((cXGeo (cLo cI)).enc x47)), (14, .d ((cLo (cXVariable cS cI)).enc x51)), (15, .box ((cXTable cI (cLo cI) (cLo cI) cI).enc x55)), (16, .box ((cXRecord cI cI (cLo cI)).enc x59)), (82, .d (cB.enc (x63.2.2 != x43.2.2)))] (by kernel_rfl) <|
    xn <| cnd rfl h (fun b74 h => wpC_seq <| reg_s <| x_asg (sc cB false rfl) <| seqN [(8, .d (cB.enc false))] (by kernel_rfl) <|
    xn <| wpC_ret <| rt <| rt <| re <| fin h (r1 (ss rfl rfl) <| r0) rfl)
    (fun b74 h => wpC_skip <| kpN [(1, .d ((cLs (cXVariable cS cI) rfl).enc v1)), (4, .box ((cXGeo (cLs cI rfl)).enc v0)), (6, .box ((cXTable cI (cLs cI rfl) (cLs cI rfl) cI).enc v2)), (7, .box ((cXRecord cI cI (cLs cI rfl)).enc v3)), (13, .box ((cXGeo (cLo cI)).enc x47)), (14, .d ((cLo (cXVariable cS cI)).enc x51)), (15, .box ((cXTable cI (cLo cI) (cLo cI) cI).enc x55)), (16, .box ((cXRecord cI cI (cLo cI)).enc x59))] (by kernel_rfl) <| xn <| wpC_seq <| wpC_kp <| wpC_seq <| drw_s <| pst rfl <| ldbo rfl rfl rfl rfl ⟨rfl, pst rfl <| ldb rfl rfl rfl rfl ⟨rfl, bndp h fun x88 e89 h => pst rfl <| o_call (a1 (c := (cXGeo (cLs cI rfl))) (tXGeo (tLs tK)) rfl a0) (con_laws_toGeo e89) (.inl (so1 (sXGeo (sLo sK)) so0)) ⟨rfl, bndp h fun x90 e91 h => pst rfl <| o_call (a1 (c := (cXGeo (cLo cI))) (tXGeo (tLo tK)) rfl (a1 (c := (cXGeo (cLo cI))) (tXGeo (tLo tK)) rfl a0)) (con_laws_eqGeo e91) (.inl (so1 sB so0)) ⟨rfl, pst rfl <| o_nt rfl ⟨rfl, preN <| seqN [(1, .d ((cLs (cXVariable cS cI) rfl).enc v1)), (6, .box ((cXTable cI (cLs cI rfl) (cLs cI rfl) cI).enc v2)), (7, .box ((cXRecord cI cI (cLs cI rfl)).enc v3)), (14, .d ((cLo (cXVariable cS cI)).enc x51)), (15, .box ((cXTable cI (cLo cI) (cLo cI) cI).enc x55)), (16, .box ((cXRecord cI cI (cLo cI)).enc x59)), (87, .d (cB.enc (!x90)))] (by kernel_rfl) <|
    xn <| cnd rfl h (fun b92 h => wpC_seq <| reg_s <| x_asg (sc cB false rfl) <| seqN [(8, .d (cB.enc false))] (by kernel_rfl) <|
    xn <| wpC_ret <| rt <| rt <| re <| fin h (r1 (ss rfl rfl) <| r0) rfl)
    (fun b92 h => wpC_skip <| kpN [(1, .d ((cLs (cXVariable cS cI) rfl).enc v1)), (6, .box ((cXTable cI (cLs cI rfl) (cLs cI rfl) cI).enc v2)), (7, .box ((cXRecord cI cI (cLs cI rfl)).enc v3)), (14, .d ((cLo (cXVariable cS cI)).enc x51)), (15, .box ((cXTable cI (cLo cI) (cLo cI) cI).enc x55)), (16, .box ((cXRecord cI cI (cLo cI)).enc x59))] (by kernel_rfl) <| xn <| wpC_seq <| wpC_kp <| wpC_seq <| reg_s <| st rfl <| mvo rfl rfl <| st rfl <| mvd rfl rfl <| bnd h fun x106 e107 h => st rfl <| o_call (a1 (c := (cLs (cXVariable cS cI) rfl)) (tLs (tXVariable tS tK)) rfl a0) (con_laws_toVariableS e107) (.inl (so1 (sLo (sXVariable sS sK)) so0)) <| bnd h fun x108 e109 h => st rfl <| o_call (a1 (c := (cLo (cXVariable cS cI))) (tLo (tXVariable tS tK)) rfl (a1 (c := (cLo (cXVariable cS cI))) (tLo (tXVariable tS tK)) rfl a0)) (con_laws_eqVariableS e109) (.inl (so1 sB so0)) <| st rfl <| o_nt rfl <| seqN [(6, .box ((cXTable cI (cLs cI rfl) (cLs cI rfl) cI).enc v2)), (7, .box ((cXRecord cI cI (cLs cI rfl)).enc v3)), (15, .box ((cXTable cI (cLo cI) (cLo cI) cI).enc x55)), (16, .box ((cXRecord cI cI (cLo cI)).enc x59)), (92, .d (cB.enc (!x108)))] (by kernel_rfl) <|
    xn <| cnd rfl h (fun b110 h => wpC_seq <| reg_s <| x_asg (sc cB false rfl) <| seqN [(8, .d (cB.enc false))] (by kernel_rfl) <|
    xn <| wpC_ret <| rt <| rt <| re <| fin h (r1 (ss rfl rfl) <| r0) rfl)
    (fun b110 h => wpC_skip <| kpN [(6, .box ((cXTable cI (cLs cI rfl) (cLs cI rfl) cI).enc v2)), (7, .box ((cXRecord cI cI (cLs cI rfl)).enc v3)), (15, .box ((cXTable cI (cLo cI) (cLo cI) cI).enc x55)), (16, .box ((cXRecord cI cI (cLo cI)).enc x59))] (by kernel_rfl) <| xn <| wpC_seq <| wpC_kp <| wpC_seq <| drw_s <| pst rfl <| ldbo rfl rfl rfl rfl ⟨rfl, pst rfl <| ldb rfl rfl rfl rfl ⟨rfl, bndp h fun x124 e125 h => pst rfl <| o_call (a1 (c := (cXTable cI (cLs cI rfl) (cLs cI rfl) cI)) (tXTable tK (tLs tK) (tLs tK) tK) rfl a0) (con_laws_toTable e125) (.inl (so1 (sXTable sK (sLo sK) (sLo sK) sK) so0)) ⟨rfl, bndp h fun x126 e127 h => pst rfl <| o_call (a1 (c := (cXTable cI (cLo cI) (cLo cI) cI)) (tXTable tK (tLo tK) (tLo tK) tK) rfl (a1 (c := (cXTable cI (cLo cI) (cLo cI) cI)) (tXTable tK (tLo tK) (tLo tK) tK) rfl a0)) (con_laws_eqTable e127) (.inl (so1 sB so0)) ⟨rfl, pst rfl <| o_nt rfl ⟨rfl, preN <| seqN [(7, .box ((cXRecord cI cI (cLs cI rfl)).enc v3)), (16, .box ((cXRecord cI cI (cLo cI)).enc x59)), (97, .d (cB.enc (!x126)))] (by kernel_rfl) <|
    xn <| cnd rfl h (fun b128 h => wpC_seq <| reg_s <| x_asg (sc cB false rfl) <| seqN [(8, .d (cB.enc false))] (by kernel_rfl) <|
    xn <| wpC_ret <| rt <| rt <| re <| fin h (r1 (ss rfl rfl) <| r0) rfl)
    (fun b128 h => wpC_skip <| kpN [(7, .box ((cXRecord cI cI (cLs cI rfl)).enc v3)), (16, .box ((cXRecord cI cI (cLo cI)).enc x59))] (by kernel_rfl) <| xn <| wpC_seq <| wpC_kp <| wpC_seq <| drw_s <| pst rfl <| ldbo rfl rfl rfl rfl ⟨rfl, pst rfl <| ldb rfl rfl rfl rfl ⟨rfl, bndp h fun x142 e143 h => pst rfl <| o_call (a1 (c := (cXRecord cI cI (cLs cI rfl))) (tXRecord tK tK (tLs tK)) rfl a0) (con_laws_toRecord e143) (.inl (so1 (sXRecord sK sK (sLo sK)) so0)) ⟨rfl, bndp h fun x144 e145 h => pst rfl <| o_call (a1 (c := (cXRecord cI cI (cLo cI))) (tXRecord tK tK (tLo tK)) rfl (a1 (c := (cXRecord cI cI (cLo cI))) (tXRecord tK tK (tLo tK)) rfl a0)) (con_laws_eqRecord e145) (.inl (so1 sB so0)) ⟨rfl, pst rfl <| o_nt rfl ⟨rfl, preN <| seqN [(102, .d (cB.enc (!x144)))] (by kernel_rfl) <|
    xn <| cnd rfl h (fun b146 h => wpC_seq <| reg_s <| x_asg (sc cB false rfl) <| seqN [(8, .d (cB.enc false))] (by kernel_rfl) <|
    xn <| wpC_ret <| rt <| rt <| re <| fin h (r1 (ss rfl rfl) <| r0) rfl)
    (fun b146 h => wpC_skip <| kpN [] (by kernel_rfl) <| xn <| wpC_seq <| reg_s <| x_asg (sc cB true rfl) <| seqN [(8, .d (cB.enc true))] (by kernel_rfl) <|
    xn <| wpC_ret <| re <| fin h (r1 (ss rfl rfl) <| r0) rfl)⟩⟩⟩⟩⟩)⟩⟩⟩⟩⟩))⟩⟩⟩⟩⟩)))⟩⟩⟩⟩⟩⟩⟩⟩⟩))))
end AS.W
