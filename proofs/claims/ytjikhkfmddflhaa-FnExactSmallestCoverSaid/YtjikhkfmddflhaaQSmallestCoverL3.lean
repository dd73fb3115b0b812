/- The program computes the plain functions. No condition. -/
import Derived.Test.YtjikhkfmddflhaaQSmallestCoverS
import Derived.Test.YtjikhkfmddflhaaProg
import Derived.Test.YtjikhkfmddflhaaQSmallestCoverL2
set_option maxRecDepth 100000
set_option linter.unusedVariables false
set_option linter.unusedSimpArgs false
namespace AS.W
open Go Go.Proofs
def rs_laws_FnExactSmallestCover (r : Bool) : List D := [cB.enc r]
def m6 : MC := .seq (.reg [⟨some 6, .asg (.c (.bool false)), none⟩] [0, 1, 2])
  (.seq (.kp [0, 1, 2] (.seq (.reg [⟨some 20, .mv (.t 2), none⟩,
    ⟨some 21, .len false (.t 20), none⟩,
    ⟨some 22, .bin .gtr (.t 21) (.c (.int .i64 1048576)), none⟩] [0, 1, 2, 22])
  (.cond (.t 22) (.seq (.reg [⟨some 6, .asg (.c (.bool true)), none⟩] [6])
  (.ret)) (.skip))))
  (.seq (.reg [⟨some 7, .asg (.c (.int .i64 1048576)), none⟩] [0, 1, 2, 7])
  (.seq (.reg [⟨some 23, .mv (.t 0), none⟩,
    ⟨some 24, .mv (.t 7), none⟩,
    ⟨some 25, .call 13 [(.t 23), (.t 24)], none⟩,
    ⟨some 7, .asg (.t 25), none⟩] [0, 1, 2, 7])
  (.seq (.kp [0, 1, 2, 7] (.seq (.reg [⟨some 26, .mv (.t 7), none⟩,
    ⟨some 27, .bin .lss (.t 26) (.c (.int .i64 0)), none⟩] [0, 1, 2, 7, 27])
  (.cond (.t 27) (.seq (.reg [⟨some 6, .asg (.c (.bool true)), none⟩] [6])
  (.ret)) (.skip))))
  (.seq (.reg [⟨some 28, .mv (.t 1), none⟩,
    ⟨some 29, .mv (.t 7), none⟩,
    ⟨some 30, .call 14 [(.t 28), (.t 29)], none⟩,
    ⟨some 7, .asg (.t 30), none⟩] [0, 1, 2, 7])
  (.seq (.kp [0, 1, 2] (.seq (.reg [⟨some 31, .mv (.t 7), none⟩,
    ⟨some 32, .bin .lss (.t 31) (.c (.int .i64 0)), none⟩] [0, 1, 2, 32])
  (.cond (.t 32) (.seq (.reg [⟨some 6, .asg (.c (.bool true)), none⟩] [6])
  (.ret)) (.skip))))
  (.seq (.reg [⟨some 34, .mv (.t 0), none⟩,
    ⟨some 35, .call 16 [(.t 34)], none⟩,
    ⟨some 36, .mv (.t 1), none⟩,
    ⟨some 37, .call 17 [(.t 36)], none⟩,
    ⟨some 38, .mv (.t 2), none⟩,
    ⟨some 39, .call 27 [(.t 38)], none⟩,
    ⟨some 40, .call 31 [(.t 35), (.t 37), (.t 39)], none⟩,
    ⟨some 33, .mvt 40, none⟩,
    ⟨some 41, .ext 33 0, none⟩,
    ⟨some 42, .ext 33 1, none⟩,
    ⟨some 8, .asg (.t 41), none⟩,
    ⟨some 9, .asg (.t 42), none⟩] [0, 1, 2, 8, 9])
  (.seq (.reg [⟨some 43, .mv (.t 0), none⟩,
    ⟨some 44, .call 16 [(.t 43)], none⟩,
    ⟨some 10, .asg (.t 44), none⟩] [0, 1, 2, 8, 9, 10])
  (.seq (.reg [⟨some 45, .mv (.t 1), none⟩,
    ⟨some 46, .call 17 [(.t 45)], none⟩,
    ⟨some 11, .asg (.t 46), none⟩] [0, 1, 2, 8, 9, 10, 11])
  (.seq (.reg [⟨some 47, .mv (.t 2), none⟩,
    ⟨some 48, .call 27 [(.t 47)], none⟩,
    ⟨some 12, .asg (.t 48), none⟩] [0, 1, 2, 8, 9, 10, 11, 12])
  (.seq (.reg [⟨some 50, .mv (.t 10), none⟩,
    ⟨some 51, .mv (.t 11), none⟩,
    ⟨some 52, .mv (.t 12), none⟩,
    ⟨some 53, .call 32 [(.t 50), (.t 51), (.t 52)], none⟩,
    ⟨some 49, .mvt 53, none⟩,
    ⟨some 54, .ext 49 0, none⟩,
    ⟨some 55, .ext 49 1, none⟩,
    ⟨some 13, .asg (.t 54), none⟩,
    ⟨some 14, .asg (.t 55), none⟩] [0, 1, 2, 8, 9, 10, 11, 12, 13, 14])
  (.seq (.kp [0, 1, 2, 8, 9, 10, 11, 12, 13, 14] (.seq (.reg [⟨some 56, .mv (.t 13), none⟩,
    ⟨some 57, .mv (.t 8), none⟩,
    ⟨some 58, .call 19 [(.t 56), (.t 57)], none⟩,
    ⟨some 59, .nt (.t 58), none⟩,
    ⟨some 60, .mv (.t 59), none⟩,
    ⟨some 61, .mv (.t 14), some (60, false)⟩,
    ⟨some 62, .mv (.t 9), some (60, false)⟩,
    ⟨some 63, .eqb true (.t 61) (.t 62), some (60, false)⟩,
    ⟨some 64, .pick (.t 60) (.c (.bool true)) (.t 63), none⟩] [0, 1, 2, 8, 9, 10, 11, 12, 13, 14, 64])
  (.cond (.t 64) (.seq (.reg [⟨some 6, .asg (.c (.bool false)), none⟩] [6])
  (.ret)) (.skip))))
  (.seq (.kp [0, 1, 2, 8, 9, 10, 11, 12, 13, 14] (.seq (.reg [⟨some 65, .mv (.t 10), none⟩,
    ⟨some 66, .mv (.t 0), none⟩,
    ⟨some 67, .call 16 [(.t 66)], none⟩,
    ⟨some 68, .call 20 [(.t 65), (.t 67)], none⟩,
    ⟨some 69, .nt (.t 68), none⟩] [0, 1, 2, 8, 9, 10, 11, 12, 13, 14, 69])
  (.cond (.t 69) (.seq (.reg [⟨some 6, .asg (.c (.bool false)), none⟩] [6])
  (.ret)) (.skip))))
  (.seq (.kp [0, 1, 2, 8, 9, 10, 11, 12, 13, 14] (.seq (.reg [⟨some 70, .mv (.t 11), none⟩,
    ⟨some 71, .mv (.t 1), none⟩,
    ⟨some 72, .call 17 [(.t 71)], none⟩,
    ⟨some 73, .call 21 [(.t 70), (.t 72)], none⟩,
    ⟨some 74, .nt (.t 73), none⟩] [0, 1, 2, 8, 9, 10, 11, 12, 13, 14, 74])
  (.cond (.t 74) (.seq (.reg [⟨some 6, .asg (.c (.bool false)), none⟩] [6])
  (.ret)) (.skip))))
  (.seq (.kp [0, 1, 2, 8, 9, 10, 11, 12, 13, 14] (.seq (.reg [⟨some 75, .mv (.t 12), none⟩,
    ⟨some 76, .mv (.t 2), none⟩,
    ⟨some 77, .call 27 [(.t 76)], none⟩,
    ⟨some 78, .call 19 [(.t 75), (.t 77)], none⟩,
    ⟨some 79, .nt (.t 78), none⟩] [0, 1, 2, 8, 9, 10, 11, 12, 13, 14, 79])
  (.cond (.t 79) (.seq (.reg [⟨some 6, .asg (.c (.bool false)), none⟩] [6])
  (.ret)) (.skip))))
  (.seq (.reg [⟨some 15, .asg (.c (.int .i64 1)), none⟩] [0, 1, 2, 8, 9, 10, 11, 12, 13, 14, 15])
  (.seq (.reg [⟨some 80, .mv (.t 10), none⟩,
    ⟨some 81, .mv (.t 15), none⟩,
    ⟨some 82, .callO 22 [(.t 80), (.t 81)], none⟩,
    ⟨some 15, .asg (.t 82), none⟩] [0, 1, 2, 8, 9, 11, 12, 13, 14, 15])
  (.seq (.reg [⟨some 83, .mv (.t 11), none⟩,
    ⟨some 84, .mv (.t 15), none⟩,
    ⟨some 85, .callO 23 [(.t 83), (.t 84)], none⟩,
    ⟨some 15, .asg (.t 85), none⟩] [0, 1, 2, 8, 9, 12, 13, 14, 15])
  (.seq (.reg [⟨some 86, .mv (.t 12), none⟩,
    ⟨some 87, .mv (.t 15), none⟩,
    ⟨some 88, .callO 24 [(.t 86), (.t 87)], none⟩,
    ⟨some 15, .asg (.t 88), none⟩] [0, 1, 2, 8, 9, 13, 14, 15])
  (.seq (.kp [0, 1, 2, 8, 9, 13] (.seq (.reg [⟨some 89, .mv (.t 15), none⟩,
    ⟨some 90, .bin .lss (.t 89) (.c (.int .i64 0)), none⟩,
    ⟨some 91, .mv (.t 90), none⟩,
    ⟨some 92, .mv (.t 13), some (91, false)⟩,
    ⟨some 93, .mv (.t 8), some (91, false)⟩,
    ⟨some 94, .call 19 [(.t 92), (.t 93)], some (91, false)⟩,
    ⟨some 95, .nt (.t 94), some (91, false)⟩,
    ⟨some 96, .pick (.t 91) (.c (.bool true)) (.t 95), none⟩,
    ⟨some 97, .mv (.t 96), none⟩,
    ⟨some 98, .mv (.t 14), some (97, false)⟩,
    ⟨some 99, .mv (.t 9), some (97, false)⟩,
    ⟨some 100, .eqb true (.t 98) (.t 99), some (97, false)⟩,
    ⟨some 101, .pick (.t 97) (.c (.bool true)) (.t 100), none⟩] [0, 1, 2, 8, 9, 13, 101])
  (.cond (.t 101) (.seq (.reg [⟨some 6, .asg (.c (.bool false)), none⟩] [6])
  (.ret)) (.skip))))
  (.seq (.reg [⟨some 16, .asg (.c (.int .i64 1)), none⟩] [0, 1, 2, 8, 9, 13, 16])
  (.seq (.reg [⟨some 102, .mv (.t 13), none⟩,
    ⟨some 103, .mv (.t 16), none⟩,
    ⟨some 104, .callO 24 [(.t 102), (.t 103)], none⟩,
    ⟨some 16, .asg (.t 104), none⟩] [0, 1, 2, 8, 9, 13, 16])
  (.seq (.reg [⟨some 17, .asg (.c (.int .i64 1)), none⟩] [0, 1, 2, 8, 9, 13, 16, 17])
  (.seq (.reg [⟨some 105, .mv (.t 13), none⟩,
    ⟨some 106, .mv (.t 17), none⟩,
    ⟨some 107, .call 25 [(.t 105), (.t 106)], none⟩,
    ⟨some 17, .asg (.t 107), none⟩] [0, 1, 2, 8, 9, 13, 16, 17])
  (.seq (.kp [0, 1, 2, 8, 9, 13, 16, 17] (.seq (.reg [⟨some 108, .mv (.t 17), none⟩,
    ⟨some 109, .bin .lss (.t 108) (.c (.int .i64 0)), none⟩] [0, 1, 2, 8, 9, 13, 16, 17, 109])
  (.cond (.t 109) (.seq (.reg [⟨some 6, .asg (.c (.bool false)), none⟩] [6])
  (.ret)) (.skip))))
  (.seq (.kp [0, 1, 2, 8, 9, 13, 16] (.seq (.reg [⟨some 110, .mv (.t 17), none⟩,
    ⟨some 111, .mv (.t 16), none⟩,
    ⟨some 112, .bin .neq (.t 110) (.t 111), none⟩] [0, 1, 2, 8, 9, 13, 16, 112])
  (.cond (.t 112) (.seq (.reg [⟨some 6, .asg (.c (.bool false)), none⟩] [6])
  (.ret)) (.skip))))
  (.seq (.reg [⟨some 114, .mv (.t 0), none⟩,
    ⟨some 115, .call 16 [(.t 114)], none⟩,
    ⟨some 116, .mv (.t 1), none⟩,
    ⟨some 117, .call 17 [(.t 116)], none⟩,
    ⟨some 118, .mv (.t 2), none⟩,
    ⟨some 119, .call 27 [(.t 118)], none⟩,
    ⟨some 120, .call 32 [(.t 115), (.t 117), (.t 119)], none⟩,
    ⟨some 113, .mvt 120, none⟩,
    ⟨some 121, .ext 113 0, none⟩,
    ⟨some 122, .ext 113 1, none⟩,
    ⟨some 18, .asg (.t 121), none⟩,
    ⟨some 19, .asg (.t 122), none⟩] [8, 9, 13, 16, 18, 19])
  (.seq (.kp [13, 16] (.seq (.reg [⟨some 123, .mv (.t 18), none⟩,
    ⟨some 124, .mv (.t 8), none⟩,
    ⟨some 125, .call 19 [(.t 123), (.t 124)], none⟩,
    ⟨some 126, .nt (.t 125), none⟩,
    ⟨some 127, .mv (.t 126), none⟩,
    ⟨some 128, .mv (.t 19), some (127, false)⟩,
    ⟨some 129, .mv (.t 9), some (127, false)⟩,
    ⟨some 130, .eqb true (.t 128) (.t 129), some (127, false)⟩,
    ⟨some 131, .pick (.t 127) (.c (.bool true)) (.t 130), none⟩] [13, 16, 131])
  (.cond (.t 131) (.seq (.reg [⟨some 6, .asg (.c (.bool false)), none⟩] [6])
  (.ret)) (.skip))))
  (.seq (.reg [⟨some 17, .asg (.c (.int .i64 1)), none⟩] [13, 16, 17])
  (.seq (.reg [⟨some 132, .mv (.t 13), none⟩,
    ⟨some 133, .mv (.t 17), none⟩,
    ⟨some 134, .call 25 [(.t 132), (.t 133)], none⟩,
    ⟨some 17, .asg (.t 134), none⟩] [16, 17])
  (.seq (.kp [16, 17] (.seq (.reg [⟨some 135, .mv (.t 17), none⟩,
    ⟨some 136, .bin .lss (.t 135) (.c (.int .i64 0)), none⟩] [16, 17, 136])
  (.cond (.t 136) (.seq (.reg [⟨some 6, .asg (.c (.bool false)), none⟩] [6])
  (.ret)) (.skip))))
  (.seq (.kp [] (.seq (.reg [⟨some 137, .mv (.t 17), none⟩,
    ⟨some 138, .mv (.t 16), none⟩,
    ⟨some 139, .bin .neq (.t 137) (.t 138), none⟩] [139])
  (.cond (.t 139) (.seq (.reg [⟨some 6, .asg (.c (.bool false)), none⟩] [6])
  (.ret)) (.skip))))
  (.seq (.reg [⟨some 6, .asg (.c (.bool true)), none⟩] [6])
  (.ret))))))))))))))))))))))))))))))))))
theorem con_laws_FnExactSmallestCover {v0 : (List XVariable)} {v1 : (List XEdit)} {v2 : (List Int)} {r : Bool} (h : sh_laws_FnExactSmallestCover v0 v1 v2 = some r) : Con Try.prog 6 [(cLs (cXVariable cS cI) rfl).enc v0, (cLs (cXEdit (cLs cI rfl)) rfl).enc v1, (cLs cI rfl).enc v2] [] (rs_laws_FnExactSmallestCover r) := by
  delta sh_laws_FnExactSmallestCover at h
  refine top (out := none) (f := Try.f6) (m := m6) (rs := [.t 6]) (by kernel_rfl) rfl (by kernel_rfl) (by kernel_rfl) (by kernel_rfl) (by kernel_rfl) (by kernel_rfl) ?_
  exact
   ini [(0, .d ((cLs (cXVariable cS cI) rfl).enc v0)), (1, .d ((cLs (cXEdit (cLs cI rfl)) rfl).enc v1)), (2, .d ((cLs cI rfl).enc v2))] rfl <| wpC_seq <| reg_s <| x_asg (sc cB false rfl) <| seqN [(0, .d ((cLs (cXVariable cS cI) rfl).enc v0)), (1, .d ((cLs (cXEdit (cLs cI rfl)) rfl).enc v1)), (2, .d ((cLs cI rfl).enc v2))] (by kernel_rfl) <|
    xn <| wpC_seq <| wpC_kp <| wpC_seq <| reg_s <| st rfl <| mvd rfl rfl <| stw rfl <| lens rfl fun l5 => st rfl <| b_gtr (k := .i64) rfl rfl <| seqN [(0, .d ((cLs (cXVariable cS cI) rfl).enc v0)), (1, .d ((cLs (cXEdit (cLs cI rfl)) rfl).enc v1)), (2, .d ((cLs cI rfl).enc v2)), (22, .d (cB.enc (decide ((1048576 : Int) < (v2.length : Int)))))] (by kernel_rfl) <|
    xn <| cnd rfl h (fun b6 h => wpC_seq <| reg_s <| x_asg (sc cB true rfl) <| seqN [(6, .d (cB.enc true))] (by kernel_rfl) <|
    xn <| wpC_ret <| rt <| rt <| re <| fin h (r1 (ss rfl rfl) <| r0) rfl)
    (fun b6 h => wpC_skip <| kpN [(0, .d ((cLs (cXVariable cS cI) rfl).enc v0)), (1, .d ((cLs (cXEdit (cLs cI rfl)) rfl).enc v1)), (2, .d ((cLs cI rfl).enc v2))] (by kernel_rfl) <| xn <| wpC_seq <| reg_s <| x_asg (sc cI (1048576 : Int) rfl) <| seqN [(0, .d ((cLs (cXVariable cS cI) rfl).enc v0)), (1, .d ((cLs (cXEdit (cLs cI rfl)) rfl).enc v1)), (2, .d ((cLs cI rfl).enc v2)), (7, .d (cI.enc (1048576 : Int)))] (by kernel_rfl) <|
    xn <| wpC_seq <| reg_s <| st rfl <| mvd rfl rfl <| st rfl <| mvd rfl rfl <| bnd h fun x9 e10 h => st rfl <| o_call (a1 (c := (cLs (cXVariable cS cI) rfl)) (tLs (tXVariable tS tK)) rfl (a1 (c := cI) tK rfl a0)) (con_laws_szVariableS e10) (.inl (so1 sK so0)) <| x_asg (ss rfl rfl) <| seqN [(0, .d ((cLs (cXVariable cS cI) rfl).enc v0)), (1, .d ((cLs (cXEdit (cLs cI rfl)) rfl).enc v1)), (2, .d ((cLs cI rfl).enc v2)), (7, .d (cI.enc x9))] (by kernel_rfl) <|
    xn <| wpC_seq <| wpC_kp <| wpC_seq <| reg_s <| st rfl <| mvd rfl rfl <| st rfl <| b_lss (k := .i64) rfl rfl <| seqN [(0, .d ((cLs (cXVariable cS cI) rfl).enc v0)), (1, .d ((cLs (cXEdit (cLs cI rfl)) rfl).enc v1)), (2, .d ((cLs cI rfl).enc v2)), (7, .d (cI.enc x9)), (27, .d (cB.enc (decide (x9 < (0 : Int)))))] (by kernel_rfl) <|
    xn <| cnd rfl h (fun b12 h => wpC_seq <| reg_s <| x_asg (sc cB true rfl) <| seqN [(6, .d (cB.enc true))] (by kernel_rfl) <|
    xn <| wpC_ret <| rt <| rt <| re <| fin h (r1 (ss rfl rfl) <| r0) rfl)
    (fun b12 h => wpC_skip <| kpN [(0, .d ((cLs (cXVariable cS cI) rfl).enc v0)), (1, .d ((cLs (cXEdit (cLs cI rfl)) rfl).enc v1)), (2, .d ((cLs cI rfl).enc v2)), (7, .d (cI.enc x9))] (by kernel_rfl) <| xn <| wpC_seq <| reg_s <| st rfl <| mvd rfl rfl <| st rfl <| mvd rfl rfl <| bnd h fun x15 e16 h => st rfl <| o_call (a1 (c := (cLs (cXEdit (cLs cI rfl)) rfl)) (tLs (tXEdit (tLs tK))) rfl (a1 (c := cI) tK rfl a0)) (con_laws_szEditS e16) (.inl (so1 sK so0)) <| x_asg (ss rfl rfl) <| seqN [(0, .d ((cLs (cXVariable cS cI) rfl).enc v0)), (1, .d ((cLs (cXEdit (cLs cI rfl)) rfl).enc v1)), (2, .d ((cLs cI rfl).enc v2)), (7, .d (cI.enc x15))] (by kernel_rfl) <|
    xn <| wpC_seq <| wpC_kp <| wpC_seq <| reg_s <| st rfl <| mvd rfl rfl <| st rfl <| b_lss (k := .i64) rfl rfl <| seqN [(0, .d ((cLs (cXVariable cS cI) rfl).enc v0)), (1, .d ((cLs (cXEdit (cLs cI rfl)) rfl).enc v1)), (2, .d ((cLs cI rfl).enc v2)), (32, .d (cB.enc (decide (x15 < (0 : Int)))))] (by kernel_rfl) <|
    xn <| cnd rfl h (fun b18 h => wpC_seq <| reg_s <| x_asg (sc cB true rfl) <| seqN [(6, .d (cB.enc true))] (by kernel_rfl) <|
    xn <| wpC_ret <| rt <| rt <| re <| fin h (r1 (ss rfl rfl) <| r0) rfl)
    (fun b18 h => wpC_skip <| kpN [(0, .d ((cLs (cXVariable cS cI) rfl).enc v0)), (1, .d ((cLs (cXEdit (cLs cI rfl)) rfl).enc v1)), (2, .d ((cLs cI rfl).enc v2))] (by kernel_rfl) <| xn <| wpC_seq <| reg_s <| st rfl <| mvd rfl rfl <| bnd h fun x27 e28 h => st rfl <| o_call (a1 (c := (cLs (cXVariable cS cI) rfl)) (tLs (tXVariable tS tK)) rfl a0) (con_laws_toVariableS e28) (.inl (so1 (sLo (sXVariable sS sK)) so0)) <| st rfl <| mvd rfl rfl <| bnd h fun x29 e30 h => st rfl <| o_call (a1 (c := (cLs (cXEdit (cLs cI rfl)) rfl)) (tLs (tXEdit (tLs tK))) rfl a0) (con_laws_toEditS e30) (.inl (so1 (sLo (sXEdit (sLo sK))) so0)) <| st rfl <| mvd rfl rfl <| bnd h fun x31 e32 h => st rfl <| o_call (a1 (c := (cLs cI rfl)) (tLs tK) rfl a0) (con_laws_toIntS e32) (.inl (so1 (sLo sK) so0)) <| bnd h fun x33 e34 h => st rfl <| o_call (a1 (c := (cLo (cXVariable cS cI))) (tLo (tXVariable tS tK)) rfl (a1 (c := (cLo (cXEdit (cLo cI)))) (tLo (tXEdit (tLo tK))) rfl (a1 (c := (cLo cI)) (tLo tK) rfl a0))) (con_spec_SmallestCover e34) (.inl (so1 (sLo sK) (so1 sB so0))) <| x_mvt rfl <| x_ext rfl rfl <| x_ext rfl rfl <| x_asg (so rfl rfl) <| x_asg (ss rfl rfl) <| seqN [(0, .d ((cLs (cXVariable cS cI) rfl).enc v0)), (1, .d ((cLs (cXEdit (cLs cI rfl)) rfl).enc v1)), (2, .d ((cLs cI rfl).enc v2)), (8, .d ((cLo cI).enc x33.1)), (9, .d (cB.enc x33.2))] (by kernel_rfl) <|
    xn <| wpC_seq <| reg_s <| st rfl <| mvd rfl rfl <| bnd h fun x37 e38 h => st rfl <| o_call (a1 (c := (cLs (cXVariable cS cI) rfl)) (tLs (tXVariable tS tK)) rfl a0) (con_laws_toVariableS e38) (.inl (so1 (sLo (sXVariable sS sK)) so0)) <| x_asg (so rfl rfl) <| seqN [(0, .d ((cLs (cXVariable cS cI) rfl).enc v0)), (1, .d ((cLs (cXEdit (cLs cI rfl)) rfl).enc v1)), (2, .d ((cLs cI rfl).enc v2)), (8, .d ((cLo cI).enc x33.1)), (9, .d (cB.enc x33.2)), (10, .d ((cLo (cXVariable cS cI)).enc x37))] (by kernel_rfl) <|
    xn <| wpC_seq <| reg_s <| st rfl <| mvd rfl rfl <| bnd h fun x41 e42 h => st rfl <| o_call (a1 (c := (cLs (cXEdit (cLs cI rfl)) rfl)) (tLs (tXEdit (tLs tK))) rfl a0) (con_laws_toEditS e42) (.inl (so1 (sLo (sXEdit (sLo sK))) so0)) <| x_asg (so rfl rfl) <| seqN [(0, .d ((cLs (cXVariable cS cI) rfl).enc v0)), (1, .d ((cLs (cXEdit (cLs cI rfl)) rfl).enc v1)), (2, .d ((cLs cI rfl).enc v2)), (8, .d ((cLo cI).enc x33.1)), (9, .d (cB.enc x33.2)), (10, .d ((cLo (cXVariable cS cI)).enc x37)), (11, .d ((cLo (cXEdit (cLo cI))).enc x41))] (by kernel_rfl) <|
    xn <| wpC_seq <| reg_s <| st rfl <| mvd rfl rfl <| bnd h fun x45 e46 h => st rfl <| o_call (a1 (c := (cLs cI rfl)) (tLs tK) rfl a0) (con_laws_toIntS e46) (.inl (so1 (sLo sK) so0)) <| x_asg (so rfl rfl) <| seqN [(0, .d ((cLs (cXVariable cS cI) rfl).enc v0)), (1, .d ((cLs (cXEdit (cLs cI rfl)) rfl).enc v1)), (2, .d ((cLs cI rfl).enc v2)), (8, .d ((cLo cI).enc x33.1)), (9, .d (cB.enc x33.2)), (10, .d ((cLo (cXVariable cS cI)).enc x37)), (11, .d ((cLo (cXEdit (cLo cI))).enc x41)), (12, .d ((cLo cI).enc x45))] (by kernel_rfl) <|
    xn <| wpC_seq <| reg_s <| st rfl <| mvo rfl rfl <| st rfl <| mvo rfl rfl <| st rfl <| mvo rfl rfl <| bnd h fun x49 e50 h => st rfl <| o_call (a1 (c := (cLo (cXVariable cS cI))) (tLo (tXVariable tS tK)) rfl (a1 (c := (cLo (cXEdit (cLo cI)))) (tLo (tXEdit (tLo tK))) rfl (a1 (c := (cLo cI)) (tLo tK) rfl a0))) (con_impl_SmallestCover e50) (.inl (so1 (sLo sK) (so1 sB so0))) <| x_mvt rfl <| x_ext rfl rfl <| x_ext rfl rfl <| x_asg (so rfl rfl) <| x_asg (ss rfl rfl) <| seqN [(0, .d ((cLs (cXVariable cS cI) rfl).enc v0)), (1, .d ((cLs (cXEdit (cLs cI rfl)) rfl).enc v1)), (2, .d ((cLs cI rfl).enc v2)), (8, .d ((cLo cI).enc x33.1)), (9, .d (cB.enc x33.2)), (10, .d ((cLo (cXVariable cS cI)).enc x37)), (11, .d ((cLo (cXEdit (cLo cI))).enc x41)), (12, .d ((cLo cI).enc x45)), (13, .d ((cLo cI).enc x49.1)), (14, .d (cB.enc x49.2))] (by kernel_rfl) <|
    xn <| wpC_seq <| wpC_kp <| wpC_seq <| reg_s <| st rfl <| mvo rfl rfl <| st rfl <| mvo rfl rfl <| bnd h fun x61 e62 h => st rfl <| o_call (a1 (c := (cLo cI)) (tLo tK) rfl (a1 (c := (cLo cI)) (tLo tK) rfl a0)) (con_laws_eqIntS e62) (.inl (so1 sB so0)) <| st rfl <| o_nt rfl <| st rfl <| mvd rfl rfl <| ite_k h (fun b63 h => gf rfl b63 <| gf rfl b63 <| gf rfl b63 <| st rfl <| pick1 rfl b63 (cd := cB) (v := true) rfl rfl <| seqN [(0, .d ((cLs (cXVariable cS cI) rfl).enc v0)), (1, .d ((cLs (cXEdit (cLs cI rfl)) rfl).enc v1)), (2, .d ((cLs cI rfl).enc v2)), (8, .d ((cLo cI).enc x33.1)), (9, .d (cB.enc x33.2)), (10, .d ((cLo (cXVariable cS cI)).enc x37)), (11, .d ((cLo (cXEdit (cLo cI))).enc x41)), (12, .d ((cLo cI).enc x45)), (13, .d ((cLo cI).enc x49.1)), (14, .d (cB.enc x49.2)), (64, .d (cB.enc true))] (by kernel_rfl) <|
    xn <| cnd1 rfl rfl <| wpC_seq <| reg_s <| x_asg (sc cB false rfl) <| seqN [(6, .d (cB.enc false))] (by kernel_rfl) <|
    xn <| wpC_ret <| rt <| rt <| re <| fin h (r1 (ss rfl rfl) <| r0) rfl)
    (fun b63 h => gt' rfl b63 <| st rfl <| mvd rfl rfl <| gt' rfl b63 <| st rfl <| mvd rfl rfl <| gt' rfl b63 <| st rfl <| eqb1 rfl rfl <| st rfl <| pick0 rfl b63 (cd := cB) (v := (x49.2 != x33.2)) rfl rfl <| seqN [(0, .d ((cLs (cXVariable cS cI) rfl).enc v0)), (1, .d ((cLs (cXEdit (cLs cI rfl)) rfl).enc v1)), (2, .d ((cLs cI rfl).enc v2)), (8, .d ((cLo cI).enc x33.1)), (9, .d (cB.enc x33.2)), (10, .d ((cLo (cXVariable cS cI)).enc x37)), (11, .d ((cLo (cXEdit (cLo cI))).enc x41)), (12, .d ((cLo cI).enc x45)), (13, .d ((cLo cI).enc x49.1)), (14, .d (cB.enc x49.2)), (64, .d (cB.enc (x49.2 != x33.2)))] (by kernel_rfl) <|
    xn <| cnd rfl h (fun b64 h => wpC_seq <| reg_s <| x_asg (sc cB false rfl) <| seqN [(6, .d (cB.enc false))] (by kernel_rfl) <|
    xn <| wpC_ret <| rt <| rt <| re <| fin h (r1 (ss rfl rfl) <| r0) rfl)
    (fun b64 h => wpC_skip <| kpN [(0, .d ((cLs (cXVariable cS cI) rfl).enc v0)), (1, .d ((cLs (cXEdit (cLs cI rfl)) rfl).enc v1)), (2, .d ((cLs cI rfl).enc v2)), (8, .d ((cLo cI).enc x33.1)), (9, .d (cB.enc x33.2)), (10, .d ((cLo (cXVariable cS cI)).enc x37)), (11, .d ((cLo (cXEdit (cLo cI))).enc x41)), (12, .d ((cLo cI).enc x45)), (13, .d ((cLo cI).enc x49.1)), (14, .d (cB.enc x49.2))] (by kernel_rfl) <| xn <| wpC_seq <| wpC_kp <| wpC_seq <| reg_s <| st rfl <| mvo rfl rfl <| st rfl <| mvd rfl rfl <| bnd h fun x78 e79 h => st rfl <| o_call (a1 (c := (cLs (cXVariable cS cI) rfl)) (tLs (tXVariable tS tK)) rfl a0) (con_laws_toVariableS e79) (.inl (so1 (sLo (sXVariable sS sK)) so0)) <| bnd h fun x80 e81 h => st rfl <| o_call (a1 (c := (cLo (cXVariable cS cI))) (tLo (tXVariable tS tK)) rfl (a1 (c := (cLo (cXVariable cS cI))) (tLo (tXVariable tS tK)) rfl a0)) (con_laws_eqVariableS e81) (.inl (so1 sB so0)) <| st rfl <| o_nt rfl <| seqN [(0, .d ((cLs (cXVariable cS cI) rfl).enc v0)), (1, .d ((cLs (cXEdit (cLs cI rfl)) rfl).enc v1)), (2, .d ((cLs cI rfl).enc v2)), (8, .d ((cLo cI).enc x33.1)), (9, .d (cB.enc x33.2)), (10, .d ((cLo (cXVariable cS cI)).enc x37)), (11, .d ((cLo (cXEdit (cLo cI))).enc x41)), (12, .d ((cLo cI).enc x45)), (13, .d ((cLo cI).enc x49.1)), (14, .d (cB.enc x49.2)), (69, .d (cB.enc (!x80)))] (by kernel_rfl) <|
    xn <| cnd rfl h (fun b82 h => wpC_seq <| reg_s <| x_asg (sc cB false rfl) <| seqN [(6, .d (cB.enc false))] (by kernel_rfl) <|
    xn <| wpC_ret <| rt <| rt <| re <| fin h (r1 (ss rfl rfl) <| r0) rfl)
    (fun b82 h => wpC_skip <| kpN [(0, .d ((cLs (cXVariable cS cI) rfl).enc v0)), (1, .d ((cLs (cXEdit (cLs cI rfl)) rfl).enc v1)), (2, .d ((cLs cI rfl).enc v2)), (8, .d ((cLo cI).enc x33.1)), (9, .d (cB.enc x33.2)), (10, .d ((cLo (cXVariable cS cI)).enc x37)), (11, .d ((cLo (cXEdit (cLo cI))).enc x41)), (12, .d ((cLo cI).enc x45)), (13, .d ((cLo cI).enc x49.1)), (14, .d (cB.enc x49.2))] (by kernel_rfl) <| xn <| wpC_seq <| wpC_kp <| wpC_seq <| reg_s <| st rfl <| mvo rfl rfl <| st rfl <| mvd rfl rfl <| bnd h fun x96 e97 h => st rfl <| o_call (a1 (c := (cLs (cXEdit (cLs cI rfl)) rfl)) (tLs (tXEdit (tLs tK))) rfl a0) (con_laws_toEditS e97) (.inl (so1 (sLo (sXEdit (sLo sK))) so0)) <| bnd h fun x98 e99 h => st rfl <| o_call (a1 (c := (cLo (cXEdit (cLo cI)))) (tLo (tXEdit (tLo tK))) rfl (a1 (c := (cLo (cXEdit (cLo cI)))) (tLo (tXEdit (tLo tK))) rfl a0)) (con_laws_eqEditS e99) (.inl (so1 sB so0)) <| st rfl <| o_nt rfl <| seqN [(0, .d ((cLs (cXVariable cS cI) rfl).enc v0)), (1, .d ((cLs (cXEdit (cLs cI rfl)) rfl).enc v1)), (2, .d ((cLs cI rfl).enc v2)), (8, .d ((cLo cI).enc x33.1)), (9, .d (cB.enc x33.2)), (10, .d ((cLo (cXVariable cS cI)).enc x37)), (11, .d ((cLo (cXEdit (cLo cI))).enc x41)), (12, .d ((cLo cI).enc x45)), (13, .d ((cLo cI).enc x49.1)), (14, .d (cB.enc x49.2)), (74, .d (cB.enc (!x98)))] (by kernel_rfl) <|
    xn <| cnd rfl h (fun b100 h => wpC_seq <| reg_s <| x_asg (sc cB false rfl) <| seqN [(6, .d (cB.enc false))] (by kernel_rfl) <|
    xn <| wpC_ret <| rt <| rt <| re <| fin h (r1 (ss rfl rfl) <| r0) rfl)
    (fun b100 h => wpC_skip <| kpN [(0, .d ((cLs (cXVariable cS cI) rfl).enc v0)), (1, .d ((cLs (cXEdit (cLs cI rfl)) rfl).enc v1)), (2, .d ((cLs cI rfl).enc v2)), (8, .d ((cLo cI).enc x33.1)), (9, .d (cB.enc x33.2)), (10, .d ((cLo (cXVariable cS cI)).enc x37)), (11, .d ((cLo (cXEdit (cLo cI))).enc x41)), (12, .d ((cLo cI).enc x45)), (13, .d ((cLo cI).enc x49.1)), (14, .d (cB.enc x49.2))] (by kernel_rfl) <| xn <| wpC_seq <| wpC_kp <| wpC_seq <| reg_s <| st rfl <| mvo rfl rfl <| st rfl <| mvd rfl rfl <| bnd h fun x114 e115 h => st rfl <| o_call (a1 (c := (cLs cI rfl)) (tLs tK) rfl a0) (con_laws_toIntS e115) (.inl (so1 (sLo sK) so0)) <| bnd h fun x116 e117 h => st rfl <| o_call (a1 (c := (cLo cI)) (tLo tK) rfl (a1 (c := (cLo cI)) (tLo tK) rfl a0)) (con_laws_eqIntS e117) (.inl (so1 sB so0)) <| st rfl <| o_nt rfl <| seqN [(0, .d ((cLs (cXVariable cS cI) rfl).enc v0)), (1, .d ((cLs (cXEdit (cLs cI rfl)) rfl).enc v1)), (2, .d ((cLs cI rfl).enc v2)), (8, .d ((cLo cI).enc x33.1)), (9, .d (cB.enc x33.2)), (10, .d ((cLo (cXVariable cS cI)).enc x37)), (11, .d ((cLo (cXEdit (cLo cI))).enc x41)), (12, .d ((cLo cI).enc x45)), (13, .d ((cLo cI).enc x49.1)), (14, .d (cB.enc x49.2)), (79, .d (cB.enc (!x116)))] (by kernel_rfl) <|
    xn <| cnd rfl h (fun b118 h => wpC_seq <| reg_s <| x_asg (sc cB false rfl) <| seqN [(6, .d (cB.enc false))] (by kernel_rfl) <|
    xn <| wpC_ret <| rt <| rt <| re <| fin h (r1 (ss rfl rfl) <| r0) rfl)
    (fun b118 h => wpC_skip <| kpN [(0, .d ((cLs (cXVariable cS cI) rfl).enc v0)), (1, .d ((cLs (cXEdit (cLs cI rfl)) rfl).enc v1)), (2, .d ((cLs cI rfl).enc v2)), (8, .d ((cLo cI).enc x33.1)), (9, .d (cB.enc x33.2)), (10, .d ((cLo (cXVariable cS cI)).enc x37)), (11, .d ((cLo (cXEdit (cLo cI))).enc x41)), (12, .d ((cLo cI).enc x45)), (13, .d ((cLo cI).enc x49.1)), (14, .d (cB.enc x49.2))] (by kernel_rfl) <| xn <| wpC_seq <| reg_s <| x_asg (sc cI (1 : Int) rfl) <| seqN [(0, .d ((cLs (cXVariable cS cI) rfl).enc v0)), (1, .d ((cLs (cXEdit (cLs cI rfl)) rfl).enc v1)), (2, .d ((cLs cI rfl).enc v2)), (8, .d ((cLo cI).enc x33.1)), (9, .d (cB.enc x33.2)), (10, .d ((cLo (cXVariable cS cI)).enc x37)), (11, .d ((cLo (cXEdit (cLo cI))).enc x41)), (12, .d ((cLo cI).enc x45)), (13, .d ((cLo cI).enc x49.1)), (14, .d (cB.enc x49.2)), (15, .d (cI.enc (1 : Int)))] (by kernel_rfl) <|
    xn <| wpC_seq <| reg_s <| st rfl <| mvo rfl rfl <| st rfl <| mvd rfl rfl <| bnd h fun x121 e122 h => x_clr (c := (cLo (cXVariable cS cI))) (c' := (cLo (cXVariable cS cI))) ((cLo (cXVariable cS cI)).enc x121.1) (sLo (sXVariable sS sK)) rfl (a1 (c := cI) tK rfl a0) rfl Ln.nil (con_laws_markVariableS e122) rfl rfl (so1 sK so0) <| x_asg (ss rfl rfl) <| seqN [(0, .d ((cLs (cXVariable cS cI) rfl).enc v0)), (1, .d ((cLs (cXEdit (cLs cI rfl)) rfl).enc v1)), (2, .d ((cLs cI rfl).enc v2)), (8, .d ((cLo cI).enc x33.1)), (9, .d (cB.enc x33.2)), (11, .d ((cLo (cXEdit (cLo cI))).enc x41)), (12, .d ((cLo cI).enc x45)), (13, .d ((cLo cI).enc x49.1)), (14, .d (cB.enc x49.2)), (15, .d (cI.enc x121.2))] (by kernel_rfl) <|
    xn <| wpC_seq <| reg_s <| st rfl <| mvo rfl rfl <| st rfl <| mvd rfl rfl <| bnd h fun x125 e126 h => x_clr (c := (cLo (cXEdit (cLo cI)))) (c' := (cLo (cXEdit (cLo cI)))) ((cLo (cXEdit (cLo cI))).enc x125.1) (sLo (sXEdit (sLo sK))) rfl (a1 (c := cI) tK rfl a0) rfl Ln.nil (con_laws_markEditS e126) rfl rfl (so1 sK so0) <| x_asg (ss rfl rfl) <| seqN [(0, .d ((cLs (cXVariable cS cI) rfl).enc v0)), (1, .d ((cLs (cXEdit (cLs cI rfl)) rfl).enc v1)), (2, .d ((cLs cI rfl).enc v2)), (8, .d ((cLo cI).enc x33.1)), (9, .d (cB.enc x33.2)), (12, .d ((cLo cI).enc x45)), (13, .d ((cLo cI).enc x49.1)), (14, .d (cB.enc x49.2)), (15, .d (cI.enc x125.2))] (by kernel_rfl) <|
    xn <| wpC_seq <| reg_s <| st rfl <| mvo rfl rfl <| st rfl <| mvd rfl rfl <| bnd h fun x129 e130 h => x_clr (c := (cLo cI)) (c' := (cLo cI)) ((cLo cI).enc x129.1) (sLo sK) rfl (a1 (c := cI) tK rfl a0) rfl Ln.nil (con_laws_markIntS e130) rfl rfl (so1 sK so0) <| x_asg (ss rfl rfl) <| seqN [(0, .d ((cLs (cXVariable cS cI) rfl).enc v0)), (1, .d ((cLs (cXEdit (cLs cI rfl)) rfl).enc v1)), (2, .d ((cLs cI rfl).enc v2)), (8, .d ((cLo cI).enc x33.1)), (9, .d (cB.enc x33.2)), (13, .d ((cLo cI).enc x49.1)), (14, .d (cB.enc x49.2)), (15, .d (cI.enc x129.2))] (by kernel_rfl) <|
    xn <| wpC_seq <| wpC_kp <| wpC_seq <| reg_s <| st rfl <| mvd rfl rfl <| st rfl <| b_lss (k := .i64) rfl rfl <| st rfl <| mvd rfl rfl <| ite_k h (fun b143 h => gf rfl b143 <| gf rfl b143 <| gf rfl b143 <| gf rfl b143 <| st rfl <| pick1 rfl b143 (cd := cB) (v := true) rfl rfl <| st rfl <| mvd rfl rfl <| gf rfl rfl <| gf rfl rfl <| gf rfl rfl <| st rfl <| pick1 rfl rfl (cd := cB) (v := true) rfl rfl <| seqN [(0, .d ((cLs (cXVariable cS cI) rfl).enc v0)), (1, .d ((cLs (cXEdit (cLs cI rfl)) rfl).enc v1)), (2, .d ((cLs cI rfl).enc v2)), (8, .d ((cLo cI).enc x33.1)), (9, .d (cB.enc x33.2)), (13, .d ((cLo cI).enc x49.1)), (101, .d (cB.enc true))] (by kernel_rfl) <|
    xn <| cnd1 rfl rfl <| wpC_seq <| reg_s <| x_asg (sc cB false rfl) <| seqN [(6, .d (cB.enc false))] (by kernel_rfl) <|
    xn <| wpC_ret <| rt <| rt <| re <| fin h (r1 (ss rfl rfl) <| r0) rfl)
    (fun b143 h => gt' rfl b143 <| st rfl <| mvo rfl rfl <| gt' rfl b143 <| st rfl <| mvo rfl rfl <| gt' rfl b143 <| bnd h fun x144 e145 h => st rfl <| o_call (a1 (c := (cLo cI)) (tLo tK) rfl (a1 (c := (cLo cI)) (tLo tK) rfl a0)) (con_laws_eqIntS e145) (.inl (so1 sB so0)) <| gt' rfl b143 <| st rfl <| o_nt rfl <| st rfl <| pick0 rfl b143 (cd := cB) (v := (!x144)) rfl rfl <| st rfl <| mvd rfl rfl <| ite_k h (fun b146 h => gf rfl b146 <| gf rfl b146 <| gf rfl b146 <| st rfl <| pick1 rfl b146 (cd := cB) (v := true) rfl rfl <| seqN [(0, .d ((cLs (cXVariable cS cI) rfl).enc v0)), (1, .d ((cLs (cXEdit (cLs cI rfl)) rfl).enc v1)), (2, .d ((cLs cI rfl).enc v2)), (8, .d ((cLo cI).enc x33.1)), (9, .d (cB.enc x33.2)), (13, .d ((cLo cI).enc x49.1)), (101, .d (cB.enc true))] (by kernel_rfl) <|
    xn <| cnd1 rfl rfl <| wpC_seq <| reg_s <| x_asg (sc cB false rfl) <| seqN [(6, .d (cB.enc false))] (by kernel_rfl) <|
    xn <| wpC_ret <| rt <| rt <| re <| fin h (r1 (ss rfl rfl) <| r0) rfl)
    (fun b146 h => gt' rfl b146 <| st rfl <| mvd rfl rfl <| gt' rfl b146 <| st rfl <| mvd rfl rfl <| gt' rfl b146 <| st rfl <| eqb1 rfl rfl <| st rfl <| pick0 rfl b146 (cd := cB) (v := (x49.2 != x33.2)) rfl rfl <| seqN [(0, .d ((cLs (cXVariable cS cI) rfl).enc v0)), (1, .d ((cLs (cXEdit (cLs cI rfl)) rfl).enc v1)), (2, .d ((cLs cI rfl).enc v2)), (8, .d ((cLo cI).enc x33.1)), (9, .d (cB.enc x33.2)), (13, .d ((cLo cI).enc x49.1)), (101, .d (cB.enc (x49.2 != x33.2)))] (by kernel_rfl) <|
    xn <| cnd0 rfl b64 <| wpC_skip <| kpN [(0, .d ((cLs (cXVariable cS cI) rfl).enc v0)), (1, .d ((cLs (cXEdit (cLs cI rfl)) rfl).enc v1)), (2, .d ((cLs cI rfl).enc v2)), (8, .d ((cLo cI).enc x33.1)), (9, .d (cB.enc x33.2)), (13, .d ((cLo cI).enc x49.1))] (by kernel_rfl) <| xn <| wpC_seq <| reg_s <| x_asg (sc cI (1 : Int) rfl) <| seqN [(0, .d ((cLs (cXVariable cS cI) rfl).enc v0)), (1, .d ((cLs (cXEdit (cLs cI rfl)) rfl).enc v1)), (2, .d ((cLs cI rfl).enc v2)), (8, .d ((cLo cI).enc x33.1)), (9, .d (cB.enc x33.2)), (13, .d ((cLo cI).enc x49.1)), (16, .d (cI.enc (1 : Int)))] (by kernel_rfl) <|
    xn <| wpC_seq <| reg_s <| st rfl <| mvo rfl rfl <| st rfl <| mvd rfl rfl <| bnd h fun x149 e150 h => x_clr (c := (cLo cI)) (c' := (cLo cI)) ((cLo cI).enc x149.1) (sLo sK) rfl (a1 (c := cI) tK rfl a0) rfl Ln.nil (con_laws_markIntS e150) rfl rfl (so1 sK so0) <| x_asg (ss rfl rfl) <| seqN [(0, .d ((cLs (cXVariable cS cI) rfl).enc v0)), (1, .d ((cLs (cXEdit (cLs cI rfl)) rfl).enc v1)), (2, .d ((cLs cI rfl).enc v2)), (8, .d ((cLo cI).enc x33.1)), (9, .d (cB.enc x33.2)), (13, .d ((cLo cI).enc x149.1)), (16, .d (cI.enc x149.2))] (by kernel_rfl) <|
    xn <| wpC_seq <| reg_s <| x_asg (sc cI (1 : Int) rfl) <| seqN [(0, .d ((cLs (cXVariable cS cI) rfl).enc v0)), (1, .d ((cLs (cXEdit (cLs cI rfl)) rfl).enc v1)), (2, .d ((cLs cI rfl).enc v2)), (8, .d ((cLo cI).enc x33.1)), (9, .d (cB.enc x33.2)), (13, .d ((cLo cI).enc x149.1)), (16, .d (cI.enc x149.2)), (17, .d (cI.enc (1 : Int)))] (by kernel_rfl) <|
    xn <| wpC_seq <| reg_s <| st rfl <| mvo rfl rfl <| st rfl <| mvd rfl rfl <| bnd h fun x153 e154 h => st rfl <| o_call (a1 (c := (cLo cI)) (tLo tK) rfl (a1 (c := cI) tK rfl a0)) (con_laws_heldIntS e154) (.inl (so1 sK so0)) <| x_asg (ss rfl rfl) <| seqN [(0, .d ((cLs (cXVariable cS cI) rfl).enc v0)), (1, .d ((cLs (cXEdit (cLs cI rfl)) rfl).enc v1)), (2, .d ((cLs cI rfl).enc v2)), (8, .d ((cLo cI).enc x33.1)), (9, .d (cB.enc x33.2)), (13, .d ((cLo cI).enc x149.1)), (16, .d (cI.enc x149.2)), (17, .d (cI.enc x153))] (by kernel_rfl) <|
    xn <| wpC_seq <| wpC_kp <| wpC_seq <| reg_s <| st rfl <| mvd rfl rfl <| st rfl <| b_lss (k := .i64) rfl rfl <| seqN [(0, .d ((cLs (cXVariable cS cI) rfl).enc v0)), (1, .d ((cLs (cXEdit (cLs cI rfl)) rfl).enc v1)), (2, .d ((cLs cI rfl).enc v2)), (8, .d ((cLo cI).enc x33.1)), (9, .d (cB.enc x33.2)), (13, .d ((cLo cI).enc x149.1)), (16, .d (cI.enc x149.2)), (17, .d (cI.enc x153)), (109, .d (cB.enc (decide (x153 < (0 : Int)))))] (by kernel_rfl) <|
    xn <| cnd rfl h (fun b156 h => wpC_seq <| reg_s <| x_asg (sc cB false rfl) <| seqN [(6, .d (cB.enc false))] (by kernel_rfl) <|
    xn <| wpC_ret <| rt <| rt <| re <| fin h (r1 (ss rfl rfl) <| r0) rfl)
    (fun b156 h => wpC_skip <| kpN [(0, .d ((cLs (cXVariable cS cI) rfl).enc v0)), (1, .d ((cLs (cXEdit (cLs cI rfl)) rfl).enc v1)), (2, .d ((cLs cI rfl).enc v2)), (8, .d ((cLo cI).enc x33.1)), (9, .d (cB.enc x33.2)), (13, .d ((cLo cI).enc x149.1)), (16, .d (cI.enc x149.2)), (17, .d (cI.enc x153))] (by kernel_rfl) <| xn <| wpC_seq <| wpC_kp <| wpC_seq <| reg_s <| st rfl <| mvd rfl rfl <| st rfl <| mvd rfl rfl <| st rfl <| b_neq (k := .i64) rfl rfl <| seqN [(0, .d ((cLs (cXVariable cS cI) rfl).enc v0)), (1, .d ((cLs (cXEdit (cLs cI rfl)) rfl).enc v1)), (2, .d ((cLs cI rfl).enc v2)), (8, .d ((cLo cI).enc x33.1)), (9, .d (cB.enc x33.2)), (13, .d ((cLo cI).enc x149.1)), (16, .d (cI.enc x149.2)), (112, .d (cB.enc (decide (x153 ≠ x149.2))))] (by kernel_rfl) <|
    xn <| cnd rfl h (fun b158 h => wpC_seq <| reg_s <| x_asg (sc cB false rfl) <| seqN [(6, .d (cB.enc false))] (by kernel_rfl) <|
    xn <| wpC_ret <| rt <| rt <| re <| fin h (r1 (ss rfl rfl) <| r0) rfl)
    (fun b158 h => wpC_skip <| kpN [(0, .d ((cLs (cXVariable cS cI) rfl).enc v0)), (1, .d ((cLs (cXEdit (cLs cI rfl)) rfl).enc v1)), (2, .d ((cLs cI rfl).enc v2)), (8, .d ((cLo cI).enc x33.1)), (9, .d (cB.enc x33.2)), (13, .d ((cLo cI).enc x149.1)), (16, .d (cI.enc x149.2))] (by kernel_rfl) <| xn <| wpC_seq <| reg_s <| st rfl <| mvd rfl rfl <| bnd h fun x167 e168 h => st rfl <| o_call (a1 (c := (cLs (cXVariable cS cI) rfl)) (tLs (tXVariable tS tK)) rfl a0) (con_laws_toVariableS e168) (.inl (so1 (sLo (sXVariable sS sK)) so0)) <| st rfl <| mvd rfl rfl <| bnd h fun x169 e170 h => st rfl <| o_call (a1 (c := (cLs (cXEdit (cLs cI rfl)) rfl)) (tLs (tXEdit (tLs tK))) rfl a0) (con_laws_toEditS e170) (.inl (so1 (sLo (sXEdit (sLo sK))) so0)) <| st rfl <| mvd rfl rfl <| bnd h fun x171 e172 h => st rfl <| o_call (a1 (c := (cLs cI rfl)) (tLs tK) rfl a0) (con_laws_toIntS e172) (.inl (so1 (sLo sK) so0)) <| bnd h fun x173 e174 h => st rfl <| o_call (a1 (c := (cLo (cXVariable cS cI))) (tLo (tXVariable tS tK)) rfl (a1 (c := (cLo (cXEdit (cLo cI)))) (tLo (tXEdit (tLo tK))) rfl (a1 (c := (cLo cI)) (tLo tK) rfl a0))) (con_impl_SmallestCover e174) (.inl (so1 (sLo sK) (so1 sB so0))) <| x_mvt rfl <| x_ext rfl rfl <| x_ext rfl rfl <| x_asg (so rfl rfl) <| x_asg (ss rfl rfl) <| seqN [(8, .d ((cLo cI).enc x33.1)), (9, .d (cB.enc x33.2)), (13, .d ((cLo cI).enc x149.1)), (16, .d (cI.enc x149.2)), (18, .d ((cLo cI).enc x173.1)), (19, .d (cB.enc x173.2))] (by kernel_rfl) <|
    xn <| wpC_seq <| wpC_kp <| wpC_seq <| reg_s <| st rfl <| mvo rfl rfl <| st rfl <| mvo rfl rfl <| bnd h fun x185 e186 h => st rfl <| o_call (a1 (c := (cLo cI)) (tLo tK) rfl (a1 (c := (cLo cI)) (tLo tK) rfl a0)) (con_laws_eqIntS e186) (.inl (so1 sB so0)) <| st rfl <| o_nt rfl <| st rfl <| mvd rfl rfl <| ite_k h (fun b187 h => gf rfl b187 <| gf rfl b187 <| gf rfl b187 <| st rfl <| pick1 rfl b187 (cd := cB) (v := true) rfl rfl <| seqN [(13, .d ((cLo cI).enc x149.1)), (16, .d (cI.enc x149.2)), (131, .d (cB.enc true))] (by kernel_rfl) <|
    xn <| cnd1 rfl rfl <| wpC_seq <| reg_s <| x_asg (sc cB false rfl) <| seqN [(6, .d (cB.enc false))] (by kernel_rfl) <|
    xn <| wpC_ret <| rt <| rt <| re <| fin h (r1 (ss rfl rfl) <| r0) rfl)
    (fun b187 h => gt' rfl b187 <| st rfl <| mvd rfl rfl <| gt' rfl b187 <| st rfl <| mvd rfl rfl <| gt' rfl b187 <| st rfl <| eqb1 rfl rfl <| st rfl <| pick0 rfl b187 (cd := cB) (v := (x173.2 != x33.2)) rfl rfl <| seqN [(13, .d ((cLo cI).enc x149.1)), (16, .d (cI.enc x149.2)), (131, .d (cB.enc (x173.2 != x33.2)))] (by kernel_rfl) <|
    xn <| cnd rfl h (fun b188 h => wpC_seq <| reg_s <| x_asg (sc cB false rfl) <| seqN [(6, .d (cB.enc false))] (by kernel_rfl) <|
    xn <| wpC_ret <| rt <| rt <| re <| fin h (r1 (ss rfl rfl) <| r0) rfl)
    (fun b188 h => wpC_skip <| kpN [(13, .d ((cLo cI).enc x149.1)), (16, .d (cI.enc x149.2))] (by kernel_rfl) <| xn <| wpC_seq <| reg_s <| x_asg (sc cI (1 : Int) rfl) <| seqN [(13, .d ((cLo cI).enc x149.1)), (16, .d (cI.enc x149.2)), (17, .d (cI.enc (1 : Int)))] (by kernel_rfl) <|
    xn <| wpC_seq <| reg_s <| st rfl <| mvo rfl rfl <| st rfl <| mvd rfl rfl <| bnd h fun x191 e192 h => st rfl <| o_call (a1 (c := (cLo cI)) (tLo tK) rfl (a1 (c := cI) tK rfl a0)) (con_laws_heldIntS e192) (.inl (so1 sK so0)) <| x_asg (ss rfl rfl) <| seqN [(16, .d (cI.enc x149.2)), (17, .d (cI.enc x191))] (by kernel_rfl) <|
    xn <| wpC_seq <| wpC_kp <| wpC_seq <| reg_s <| st rfl <| mvd rfl rfl <| st rfl <| b_lss (k := .i64) rfl rfl <| seqN [(16, .d (cI.enc x149.2)), (17, .d (cI.enc x191)), (136, .d (cB.enc (decide (x191 < (0 : Int)))))] (by kernel_rfl) <|
    xn <| cnd rfl h (fun b194 h => wpC_seq <| reg_s <| x_asg (sc cB false rfl) <| seqN [(6, .d (cB.enc false))] (by kernel_rfl) <|
    xn <| wpC_ret <| rt <| rt <| re <| fin h (r1 (ss rfl rfl) <| r0) rfl)
    (fun b194 h => wpC_skip <| kpN [(16, .d (cI.enc x149.2)), (17, .d (cI.enc x191))] (by kernel_rfl) <| xn <| wpC_seq <| wpC_kp <| wpC_seq <| reg_s <| st rfl <| mvd rfl rfl <| st rfl <| mvd rfl rfl <| st rfl <| b_neq (k := .i64) rfl rfl <| seqN [(139, .d (cB.enc (decide (x191 ≠ x149.2))))] (by kernel_rfl) <|
    xn <| cnd rfl h (fun b196 h => wpC_seq <| reg_s <| x_asg (sc cB false rfl) <| seqN [(6, .d (cB.enc false))] (by kernel_rfl) <|
    xn <| wpC_ret <| rt <| rt <| re <| fin h (r1 (ss rfl rfl) <| r0) rfl)
    (fun b196 h => wpC_skip <| kpN [] (by kernel_rfl) <| xn <| wpC_seq <| reg_s <| x_asg (sc cB true rfl) <| seqN [(6, .d (cB.enc true))] (by kernel_rfl) <|
    xn <| wpC_ret <| re <| fin h (r1 (ss rfl rfl) <| r0) rfl))))))))))))))))
end AS.W
