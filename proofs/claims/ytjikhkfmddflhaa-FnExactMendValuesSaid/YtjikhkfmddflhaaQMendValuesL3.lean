/- The program computes the plain functions. No condition. -/
import Derived.Test.YtjikhkfmddflhaaQMendValuesS
import Derived.Test.YtjikhkfmddflhaaProg
import Derived.Test.YtjikhkfmddflhaaQMendValuesL2
set_option maxRecDepth 100000
set_option linter.unusedVariables false
set_option linter.unusedSimpArgs false
namespace AS.W
open Go Go.Proofs
def rs_laws_FnExactMendValues (r : Bool) : List D := [cB.enc r]
def m8 : MC := .seq (.reg [⟨some 8, .asg (.c (.bool false)), none⟩] [0, 1, 2, 3])
  (.seq (.kp [0, 1, 2, 3] (.seq (.reg [⟨some 23, .mv (.t 2), none⟩,
    ⟨some 24, .len false (.t 23), none⟩,
    ⟨some 25, .bin .gtr (.t 24) (.c (.int .i64 1048576)), none⟩] [0, 1, 2, 3, 25])
  (.cond (.t 25) (.seq (.reg [⟨some 8, .asg (.c (.bool true)), none⟩] [8])
  (.ret)) (.skip))))
  (.seq (.kp [0, 1, 2, 3] (.seq (.reg [⟨some 26, .mv (.t 3), none⟩,
    ⟨some 27, .len false (.t 26), none⟩,
    ⟨some 28, .bin .gtr (.t 27) (.c (.int .i64 1048576)), none⟩] [0, 1, 2, 3, 28])
  (.cond (.t 28) (.seq (.reg [⟨some 8, .asg (.c (.bool true)), none⟩] [8])
  (.ret)) (.skip))))
  (.seq (.reg [⟨some 9, .asg (.c (.int .i64 1048576)), none⟩] [0, 1, 2, 3, 9])
  (.seq (.reg [⟨some 29, .mv (.t 0), none⟩,
    ⟨some 30, .mv (.t 9), none⟩,
    ⟨some 31, .call 13 [(.t 29), (.t 30)], none⟩,
    ⟨some 9, .asg (.t 31), none⟩] [0, 1, 2, 3, 9])
  (.seq (.kp [0, 1, 2, 3, 9] (.seq (.reg [⟨some 32, .mv (.t 9), none⟩,
    ⟨some 33, .bin .lss (.t 32) (.c (.int .i64 0)), none⟩] [0, 1, 2, 3, 9, 33])
  (.cond (.t 33) (.seq (.reg [⟨some 8, .asg (.c (.bool true)), none⟩] [8])
  (.ret)) (.skip))))
  (.seq (.reg [⟨some 34, .mv (.t 1), none⟩,
    ⟨some 35, .mv (.t 9), none⟩,
    ⟨some 36, .call 14 [(.t 34), (.t 35)], none⟩,
    ⟨some 9, .asg (.t 36), none⟩] [0, 1, 2, 3, 9])
  (.seq (.kp [0, 1, 2, 3] (.seq (.reg [⟨some 37, .mv (.t 9), none⟩,
    ⟨some 38, .bin .lss (.t 37) (.c (.int .i64 0)), none⟩] [0, 1, 2, 3, 38])
  (.cond (.t 38) (.seq (.reg [⟨some 8, .asg (.c (.bool true)), none⟩] [8])
  (.ret)) (.skip))))
  (.seq (.reg [⟨some 40, .mv (.t 0), none⟩,
    ⟨some 41, .call 16 [(.t 40)], none⟩,
    ⟨some 42, .mv (.t 1), none⟩,
    ⟨some 43, .call 17 [(.t 42)], none⟩,
    ⟨some 44, .mv (.t 2), none⟩,
    ⟨some 45, .call 27 [(.t 44)], none⟩,
    ⟨some 46, .mv (.t 3), none⟩,
    ⟨some 47, .call 27 [(.t 46)], none⟩,
    ⟨some 48, .call 35 [(.t 41), (.t 43), (.t 45), (.t 47)], none⟩,
    ⟨some 39, .mvt 48, none⟩,
    ⟨some 49, .ext 39 0, none⟩,
    ⟨some 50, .ext 39 1, none⟩,
    ⟨some 10, .asg (.t 49), none⟩,
    ⟨some 11, .asg (.t 50), none⟩] [0, 1, 2, 3, 10, 11])
  (.seq (.reg [⟨some 51, .mv (.t 0), none⟩,
    ⟨some 52, .call 16 [(.t 51)], none⟩,
    ⟨some 12, .asg (.t 52), none⟩] [0, 1, 2, 3, 10, 11, 12])
  (.seq (.reg [⟨some 53, .mv (.t 1), none⟩,
    ⟨some 54, .call 17 [(.t 53)], none⟩,
    ⟨some 13, .asg (.t 54), none⟩] [0, 1, 2, 3, 10, 11, 12, 13])
  (.seq (.reg [⟨some 55, .mv (.t 2), none⟩,
    ⟨some 56, .call 27 [(.t 55)], none⟩,
    ⟨some 14, .asg (.t 56), none⟩] [0, 1, 2, 3, 10, 11, 12, 13, 14])
  (.seq (.reg [⟨some 57, .mv (.t 3), none⟩,
    ⟨some 58, .call 27 [(.t 57)], none⟩,
    ⟨some 15, .asg (.t 58), none⟩] [0, 1, 2, 3, 10, 11, 12, 13, 14, 15])
  (.seq (.reg [⟨some 60, .mv (.t 12), none⟩,
    ⟨some 61, .mv (.t 13), none⟩,
    ⟨some 62, .mv (.t 14), none⟩,
    ⟨some 63, .mv (.t 15), none⟩,
    ⟨some 64, .call 36 [(.t 60), (.t 61), (.t 62), (.t 63)], none⟩,
    ⟨some 59, .mvt 64, none⟩,
    ⟨some 65, .ext 59 0, none⟩,
    ⟨some 66, .ext 59 1, none⟩,
    ⟨some 16, .asg (.t 65), none⟩,
    ⟨some 17, .asg (.t 66), none⟩] [0, 1, 2, 3, 10, 11, 12, 13, 14, 15, 16, 17])
  (.seq (.kp [0, 1, 2, 3, 10, 11, 12, 13, 14, 15, 16, 17] (.seq (.reg [⟨some 67, .mv (.t 16), none⟩,
    ⟨some 68, .mv (.t 10), none⟩,
    ⟨some 69, .call 19 [(.t 67), (.t 68)], none⟩,
    ⟨some 70, .nt (.t 69), none⟩,
    ⟨some 71, .mv (.t 70), none⟩,
    ⟨some 72, .mv (.t 17), some (71, false)⟩,
    ⟨some 73, .mv (.t 11), some (71, false)⟩,
    ⟨some 74, .eqb true (.t 72) (.t 73), some (71, false)⟩,
    ⟨some 75, .pick (.t 71) (.c (.bool true)) (.t 74), none⟩] [0, 1, 2, 3, 10, 11, 12, 13, 14, 15, 16, 17, 75])
  (.cond (.t 75) (.seq (.reg [⟨some 8, .asg (.c (.bool false)), none⟩] [8])
  (.ret)) (.skip))))
  (.seq (.kp [0, 1, 2, 3, 10, 11, 12, 13, 14, 15, 16, 17] (.seq (.reg [⟨some 76, .mv (.t 12), none⟩,
    ⟨some 77, .mv (.t 0), none⟩,
    ⟨some 78, .call 16 [(.t 77)], none⟩,
    ⟨some 79, .call 20 [(.t 76), (.t 78)], none⟩,
    ⟨some 80, .nt (.t 79), none⟩] [0, 1, 2, 3, 10, 11, 12, 13, 14, 15, 16, 17, 80])
  (.cond (.t 80) (.seq (.reg [⟨some 8, .asg (.c (.bool false)), none⟩] [8])
  (.ret)) (.skip))))
  (.seq (.kp [0, 1, 2, 3, 10, 11, 12, 13, 14, 15, 16, 17] (.seq (.reg [⟨some 81, .mv (.t 13), none⟩,
    ⟨some 82, .mv (.t 1), none⟩,
    ⟨some 83, .call 17 [(.t 82)], none⟩,
    ⟨some 84, .call 21 [(.t 81), (.t 83)], none⟩,
    ⟨some 85, .nt (.t 84), none⟩] [0, 1, 2, 3, 10, 11, 12, 13, 14, 15, 16, 17, 85])
  (.cond (.t 85) (.seq (.reg [⟨some 8, .asg (.c (.bool false)), none⟩] [8])
  (.ret)) (.skip))))
  (.seq (.kp [0, 1, 2, 3, 10, 11, 12, 13, 14, 15, 16, 17] (.seq (.reg [⟨some 86, .mv (.t 14), none⟩,
    ⟨some 87, .mv (.t 2), none⟩,
    ⟨some 88, .call 27 [(.t 87)], none⟩,
    ⟨some 89, .call 19 [(.t 86), (.t 88)], none⟩,
    ⟨some 90, .nt (.t 89), none⟩] [0, 1, 2, 3, 10, 11, 12, 13, 14, 15, 16, 17, 90])
  (.cond (.t 90) (.seq (.reg [⟨some 8, .asg (.c (.bool false)), none⟩] [8])
  (.ret)) (.skip))))
  (.seq (.kp [0, 1, 2, 3, 10, 11, 12, 13, 14, 15, 16, 17] (.seq (.reg [⟨some 91, .mv (.t 15), none⟩,
    ⟨some 92, .mv (.t 3), none⟩,
    ⟨some 93, .call 27 [(.t 92)], none⟩,
    ⟨some 94, .call 19 [(.t 91), (.t 93)], none⟩,
    ⟨some 95, .nt (.t 94), none⟩] [0, 1, 2, 3, 10, 11, 12, 13, 14, 15, 16, 17, 95])
  (.cond (.t 95) (.seq (.reg [⟨some 8, .asg (.c (.bool false)), none⟩] [8])
  (.ret)) (.skip))))
  (.seq (.reg [⟨some 18, .asg (.c (.int .i64 1)), none⟩] [0, 1, 2, 3, 10, 11, 12, 13, 14, 15, 16, 17, 18])
  (.seq (.reg [⟨some 96, .mv (.t 12), none⟩,
    ⟨some 97, .mv (.t 18), none⟩,
    ⟨some 98, .callO 22 [(.t 96), (.t 97)], none⟩,
    ⟨some 18, .asg (.t 98), none⟩] [0, 1, 2, 3, 10, 11, 13, 14, 15, 16, 17, 18])
  (.seq (.reg [⟨some 99, .mv (.t 13), none⟩,
    ⟨some 100, .mv (.t 18), none⟩,
    ⟨some 101, .callO 23 [(.t 99), (.t 100)], none⟩,
    ⟨some 18, .asg (.t 101), none⟩] [0, 1, 2, 3, 10, 11, 14, 15, 16, 17, 18])
  (.seq (.reg [⟨some 102, .mv (.t 14), none⟩,
    ⟨some 103, .mv (.t 18), none⟩,
    ⟨some 104, .callO 24 [(.t 102), (.t 103)], none⟩,
    ⟨some 18, .asg (.t 104), none⟩] [0, 1, 2, 3, 10, 11, 15, 16, 17, 18])
  (.seq (.reg [⟨some 105, .mv (.t 15), none⟩,
    ⟨some 106, .mv (.t 18), none⟩,
    ⟨some 107, .callO 24 [(.t 105), (.t 106)], none⟩,
    ⟨some 18, .asg (.t 107), none⟩] [0, 1, 2, 3, 10, 11, 16, 17, 18])
  (.seq (.kp [0, 1, 2, 3, 10, 11, 16] (.seq (.reg [⟨some 108, .mv (.t 18), none⟩,
    ⟨some 109, .bin .lss (.t 108) (.c (.int .i64 0)), none⟩,
    ⟨some 110, .mv (.t 109), none⟩,
    ⟨some 111, .mv (.t 16), some (110, false)⟩,
    ⟨some 112, .mv (.t 10), some (110, false)⟩,
    ⟨some 113, .call 19 [(.t 111), (.t 112)], some (110, false)⟩,
    ⟨some 114, .nt (.t 113), some (110, false)⟩,
    ⟨some 115, .pick (.t 110) (.c (.bool true)) (.t 114), none⟩,
    ⟨some 116, .mv (.t 115), none⟩,
    ⟨some 117, .mv (.t 17), some (116, false)⟩,
    ⟨some 118, .mv (.t 11), some (116, false)⟩,
    ⟨some 119, .eqb true (.t 117) (.t 118), some (116, false)⟩,
    ⟨some 120, .pick (.t 116) (.c (.bool true)) (.t 119), none⟩] [0, 1, 2, 3, 10, 11, 16, 120])
  (.cond (.t 120) (.seq (.reg [⟨some 8, .asg (.c (.bool false)), none⟩] [8])
  (.ret)) (.skip))))
  (.seq (.reg [⟨some 19, .asg (.c (.int .i64 1)), none⟩] [0, 1, 2, 3, 10, 11, 16, 19])
  (.seq (.reg [⟨some 121, .mv (.t 16), none⟩,
    ⟨some 122, .mv (.t 19), none⟩,
    ⟨some 123, .callO 24 [(.t 121), (.t 122)], none⟩,
    ⟨some 19, .asg (.t 123), none⟩] [0, 1, 2, 3, 10, 11, 16, 19])
  (.seq (.reg [⟨some 20, .asg (.c (.int .i64 1)), none⟩] [0, 1, 2, 3, 10, 11, 16, 19, 20])
  (.seq (.reg [⟨some 124, .mv (.t 16), none⟩,
    ⟨some 125, .mv (.t 20), none⟩,
    ⟨some 126, .call 25 [(.t 124), (.t 125)], none⟩,
    ⟨some 20, .asg (.t 126), none⟩] [0, 1, 2, 3, 10, 11, 16, 19, 20])
  (.seq (.kp [0, 1, 2, 3, 10, 11, 16, 19, 20] (.seq (.reg [⟨some 127, .mv (.t 20), none⟩,
    ⟨some 128, .bin .lss (.t 127) (.c (.int .i64 0)), none⟩] [0, 1, 2, 3, 10, 11, 16, 19, 20, 128])
  (.cond (.t 128) (.seq (.reg [⟨some 8, .asg (.c (.bool false)), none⟩] [8])
  (.ret)) (.skip))))
  (.seq (.kp [0, 1, 2, 3, 10, 11, 16, 19] (.seq (.reg [⟨some 129, .mv (.t 20), none⟩,
    ⟨some 130, .mv (.t 19), none⟩,
    ⟨some 131, .bin .neq (.t 129) (.t 130), none⟩] [0, 1, 2, 3, 10, 11, 16, 19, 131])
  (.cond (.t 131) (.seq (.reg [⟨some 8, .asg (.c (.bool false)), none⟩] [8])
  (.ret)) (.skip))))
  (.seq (.reg [⟨some 133, .mv (.t 0), none⟩,
    ⟨some 134, .call 16 [(.t 133)], none⟩,
    ⟨some 135, .mv (.t 1), none⟩,
    ⟨some 136, .call 17 [(.t 135)], none⟩,
    ⟨some 137, .mv (.t 2), none⟩,
    ⟨some 138, .call 27 [(.t 137)], none⟩,
    ⟨some 139, .mv (.t 3), none⟩,
    ⟨some 140, .call 27 [(.t 139)], none⟩,
    ⟨some 141, .call 36 [(.t 134), (.t 136), (.t 138), (.t 140)], none⟩,
    ⟨some 132, .mvt 141, none⟩,
    ⟨some 142, .ext 132 0, none⟩,
    ⟨some 143, .ext 132 1, none⟩,
    ⟨some 21, .asg (.t 142), none⟩,
    ⟨some 22, .asg (.t 143), none⟩] [10, 11, 16, 19, 21, 22])
  (.seq (.kp [16, 19] (.seq (.reg [⟨some 144, .mv (.t 21), none⟩,
    ⟨some 145, .mv (.t 10), none⟩,
    ⟨some 146, .call 19 [(.t 144), (.t 145)], none⟩,
    ⟨some 147, .nt (.t 146), none⟩,
    ⟨some 148, .mv (.t 147), none⟩,
    ⟨some 149, .mv (.t 22), some (148, false)⟩,
    ⟨some 150, .mv (.t 11), some (148, false)⟩,
    ⟨some 151, .eqb true (.t 149) (.t 150), some (148, false)⟩,
    ⟨some 152, .pick (.t 148) (.c (.bool true)) (.t 151), none⟩] [16, 19, 152])
  (.cond (.t 152) (.seq (.reg [⟨some 8, .asg (.c (.bool false)), none⟩] [8])
  (.ret)) (.skip))))
  (.seq (.reg [⟨some 20, .asg (.c (.int .i64 1)), none⟩] [16, 19, 20])
  (.seq (.reg [⟨some 153, .mv (.t 16), none⟩,
    ⟨some 154, .mv (.t 20), none⟩,
    ⟨some 155, .call 25 [(.t 153), (.t 154)], none⟩,
    ⟨some 20, .asg (.t 155), none⟩] [19, 20])
  (.seq (.kp [19, 20] (.seq (.reg [⟨some 156, .mv (.t 20), none⟩,
    ⟨some 157, .bin .lss (.t 156) (.c (.int .i64 0)), none⟩] [19, 20, 157])
  (.cond (.t 157) (.seq (.reg [⟨some 8, .asg (.c (.bool false)), none⟩] [8])
  (.ret)) (.skip))))
  (.seq (.kp [] (.seq (.reg [⟨some 158, .mv (.t 20), none⟩,
    ⟨some 159, .mv (.t 19), none⟩,
    ⟨some 160, .bin .neq (.t 158) (.t 159), none⟩] [160])
  (.cond (.t 160) (.seq (.reg [⟨some 8, .asg (.c (.bool false)), none⟩] [8])
  (.ret)) (.skip))))
  (.seq (.reg [⟨some 8, .asg (.c (.bool true)), none⟩] [8])
  (.ret))))))))))))))))))))))))))))))))))))))
theorem con_laws_FnExactMendValues {v0 : (List XVariable)} {v1 : (List XEdit)} {v2 : (List Int)} {v3 : (List Int)} {r : Bool} (h : sh_laws_FnExactMendValues v0 v1 v2 v3 = some r) : Con Try.prog 8 [(cLs (cXVariable cS cI) rfl).enc v0, (cLs (cXEdit (cLs cI rfl)) rfl).enc v1, (cLs cI rfl).enc v2, (cLs cI rfl).enc v3] [] (rs_laws_FnExactMendValues r) := by
  delta sh_laws_FnExactMendValues at h
  refine top (out := none) (f := Try.f8) (m := m8) (rs := [.t 8]) (by kernel_rfl) rfl (by kernel_rfl) (by kernel_rfl) (by kernel_rfl) (by kernel_rfl) (by kernel_rfl) ?_
  exact
   ini [(0, .d ((cLs (cXVariable cS cI) rfl).enc v0)), (1, .d ((cLs (cXEdit (cLs cI rfl)) rfl).enc v1)), (2, .d ((cLs cI rfl).enc v2)), (3, .d ((cLs cI rfl).enc v3))] rfl <| wpC_seq <| reg_s <| x_asg (sc cB false rfl) <| seqN [(0, .d ((cLs (cXVariable cS cI) rfl).enc v0)), (1, .d ((cLs (cXEdit (cLs cI rfl)) rfl).enc v1)), (2, .d ((cLs cI rfl).enc v2)), (3, .d ((cLs cI rfl).enc v3))] (by kernel_rfl) <|
    xn <| wpC_seq <| wpC_kp <| wpC_seq <| reg_s <| st rfl <| mvd rfl rfl <| stw rfl <| lens rfl fun l5 => st rfl <| b_gtr (k := .i64) rfl rfl <| seqN [(0, .d ((cLs (cXVariable cS cI) rfl).enc v0)), (1, .d ((cLs (cXEdit (cLs cI rfl)) rfl).enc v1)), (2, .d ((cLs cI rfl).enc v2)), (3, .d ((cLs cI rfl).enc v3)), (25, .d (cB.enc (decide ((1048576 : Int) < (v2.length : Int)))))] (by kernel_rfl) <|
    xn <| cnd rfl h (fun b6 h => wpC_seq <| reg_s <| x_asg (sc cB true rfl) <| seqN [(8, .d (cB.enc true))] (by kernel_rfl) <|
    xn <| wpC_ret <| rt <| rt <| re <| fin h (r1 (ss rfl rfl) <| r0) rfl)
    (fun b6 h => wpC_skip <| kpN [(0, .d ((cLs (cXVariable cS cI) rfl).enc v0)), (1, .d ((cLs (cXEdit (cLs cI rfl)) rfl).enc v1)), (2, .d ((cLs cI rfl).enc v2)), (3, .d ((cLs cI rfl).enc v3))] (by kernel_rfl) <| xn <| wpC_seq <| wpC_kp <| wpC_seq <| reg_s <| st rfl <| mvd rfl rfl <| stw rfl <| lens rfl fun l11 => st rfl <| b_gtr (k := .i64) rfl rfl <| seqN [(0, .d ((cLs (cXVariable cS cI) rfl).enc v0)), (1, .d ((cLs (cXEdit (cLs cI rfl)) rfl).enc v1)), (2, .d ((cLs cI rfl).enc v2)), (3, .d ((cLs cI rfl).enc v3)), (28, .d (cB.enc (decide ((1048576 : Int) < (v3.length : Int)))))] (by kernel_rfl) <|
    xn <| cnd rfl h (fun b12 h => wpC_seq <| reg_s <| x_asg (sc cB true rfl) <| seqN [(8, .d (cB.enc true))] (by kernel_rfl) <|
    xn <| wpC_ret <| rt <| rt <| re <| fin h (r1 (ss rfl rfl) <| r0) rfl)
    (fun b12 h => wpC_skip <| kpN [(0, .d ((cLs (cXVariable cS cI) rfl).enc v0)), (1, .d ((cLs (cXEdit (cLs cI rfl)) rfl).enc v1)), (2, .d ((cLs cI rfl).enc v2)), (3, .d ((cLs cI rfl).enc v3))] (by kernel_rfl) <| xn <| wpC_seq <| reg_s <| x_asg (sc cI (1048576 : Int) rfl) <| seqN [(0, .d ((cLs (cXVariable cS cI) rfl).enc v0)), (1, .d ((cLs (cXEdit (cLs cI rfl)) rfl).enc v1)), (2, .d ((cLs cI rfl).enc v2)), (3, .d ((cLs cI rfl).enc v3)), (9, .d (cI.enc (1048576 : Int)))] (by kernel_rfl) <|
    xn <| wpC_seq <| reg_s <| st rfl <| mvd rfl rfl <| st rfl <| mvd rfl rfl <| bnd h fun x15 e16 h => st rfl <| o_call (a1 (c := (cLs (cXVariable cS cI) rfl)) (tLs (tXVariable tS tK)) rfl (a1 (c := cI) tK rfl a0)) (con_laws_szVariableS e16) (.inl (so1 sK so0)) <| x_asg (ss rfl rfl) <| seqN [(0, .d ((cLs (cXVariable cS cI) rfl).enc v0)), (1, .d ((cLs (cXEdit (cLs cI rfl)) rfl).enc v1)), (2, .d ((cLs cI rfl).enc v2)), (3, .d ((cLs cI rfl).enc v3)), (9, .d (cI.enc x15))] (by kernel_rfl) <|
    xn <| wpC_seq <| wpC_kp <| wpC_seq <| reg_s <| st rfl <| mvd rfl rfl <| st rfl <| b_lss (k := .i64) rfl rfl <| seqN [(0, .d ((cLs (cXVariable cS cI) rfl).enc v0)), (1, .d ((cLs (cXEdit (cLs cI rfl)) rfl).enc v1)), (2, .d ((cLs cI rfl).enc v2)), (3, .d ((cLs cI rfl).enc v3)), (9, .d (cI.enc x15)), (33, .d (cB.enc (decide (x15 < (0 : Int)))))] (by kernel_rfl) <|
    xn <| cnd rfl h (fun b18 h => wpC_seq <| reg_s <| x_asg (sc cB true rfl) <| seqN [(8, .d (cB.enc true))] (by kernel_rfl) <|
    xn <| wpC_ret <| rt <| rt <| re <| fin h (r1 (ss rfl rfl) <| r0) rfl)
    (fun b18 h => wpC_skip <| kpN [(0, .d ((cLs (cXVariable cS cI) rfl).enc v0)), (1, .d ((cLs (cXEdit (cLs cI rfl)) rfl).enc v1)), (2, .d ((cLs cI rfl).enc v2)), (3, .d ((cLs cI rfl).enc v3)), (9, .d (cI.enc x15))] (by kernel_rfl) <| xn <| wpC_seq <| reg_s <| st rfl <| mvd rfl rfl <| st rfl <| mvd rfl rfl <| bnd h fun x21 e22 h => st rfl <| o_call (a1 (c := (cLs (cXEdit (cLs cI rfl)) rfl)) (tLs (tXEdit (tLs tK))) rfl (a1 (c := cI) tK rfl a0)) (con_laws_szEditS e22) (.inl (so1 sK so0)) <| x_asg (ss rfl rfl) <| seqN [(0, .d ((cLs (cXVariable cS cI) rfl).enc v0)), (1, .d ((cLs (cXEdit (cLs cI rfl)) rfl).enc v1)), (2, .d ((cLs cI rfl).enc v2)), (3, .d ((cLs cI rfl).enc v3)), (9, .d (cI.enc x21))] (by kernel_rfl) <|
    xn <| wpC_seq <| wpC_kp <| wpC_seq <| reg_s <| st rfl <| mvd rfl rfl <| st rfl <| b_lss (k := .i64) rfl rfl <| seqN [(0, .d ((cLs (cXVariable cS cI) rfl).enc v0)), (1, .d ((cLs (cXEdit (cLs cI rfl)) rfl).enc v1)), (2, .d ((cLs cI rfl).enc v2)), (3, .d ((cLs cI rfl).enc v3)), (38, .d (cB.enc (decide (x21 < (0 : Int)))))] (by kernel_rfl) <|
    xn <| cnd rfl h (fun b24 h => wpC_seq <| reg_s <| x_asg (sc cB true rfl) <| seqN [(8, .d (cB.enc true))] (by kernel_rfl) <|
    xn <| wpC_ret <| rt <| rt <| re <| fin h (r1 (ss rfl rfl) <| r0) rfl)
    (fun b24 h => wpC_skip <| kpN [(0, .d ((cLs (cXVariable cS cI) rfl).enc v0)), (1, .d ((cLs (cXEdit (cLs cI rfl)) rfl).enc v1)), (2, .d ((cLs cI rfl).enc v2)), (3, .d ((cLs cI rfl).enc v3))] (by kernel_rfl) <| xn <| wpC_seq <| reg_s <| st rfl <| mvd rfl rfl <| bnd h fun x35 e36 h => st rfl <| o_call (a1 (c := (cLs (cXVariable cS cI) rfl)) (tLs (tXVariable tS tK)) rfl a0) (con_laws_toVariableS e36) (.inl (so1 (sLo (sXVariable sS sK)) so0)) <| st rfl <| mvd rfl rfl <| bnd h fun x37 e38 h => st rfl <| o_call (a1 (c := (cLs (cXEdit (cLs cI rfl)) rfl)) (tLs (tXEdit (tLs tK))) rfl a0) (con_laws_toEditS e38) (.inl (so1 (sLo (sXEdit (sLo sK))) so0)) <| st rfl <| mvd rfl rfl <| bnd h fun x39 e40 h => st rfl <| o_call (a1 (c := (cLs cI rfl)) (tLs tK) rfl a0) (con_laws_toIntS e40) (.inl (so1 (sLo sK) so0)) <| st rfl <| mvd rfl rfl <| bnd h fun x41 e42 h => st rfl <| o_call (a1 (c := (cLs cI rfl)) (tLs tK) rfl a0) (con_laws_toIntS e42) (.inl (so1 (sLo sK) so0)) <| bnd h fun x43 e44 h => st rfl <| o_call (a1 (c := (cLo (cXVariable cS cI))) (tLo (tXVariable tS tK)) rfl (a1 (c := (cLo (cXEdit (cLo cI)))) (tLo (tXEdit (tLo tK))) rfl (a1 (c := (cLo cI)) (tLo tK) rfl (a1 (c := (cLo cI)) (tLo tK) rfl a0)))) (con_spec_MendValues e44) (.inl (so1 (sLo sK) (so1 sB so0))) <| x_mvt rfl <| x_ext rfl rfl <| x_ext rfl rfl <| x_asg (so rfl rfl) <| x_asg (ss rfl rfl) <| seqN [(0, .d ((cLs (cXVariable cS cI) rfl).enc v0)), (1, .d ((cLs (cXEdit (cLs cI rfl)) rfl).enc v1)), (2, .d ((cLs cI rfl).enc v2)), (3, .d ((cLs cI rfl).enc v3)), (10, .d ((cLo cI).enc x43.1)), (11, .d (cB.enc x43.2))] (by kernel_rfl) <|
    xn <| wpC_seq <| reg_s <| st rfl <| mvd rfl rfl <| bnd h fun x47 e48 h => st rfl <| o_call (a1 (c := (cLs (cXVariable cS cI) rfl)) (tLs (tXVariable tS tK)) rfl a0) (con_laws_toVariableS e48) (.inl (so1 (sLo (sXVariable sS sK)) so0)) <| x_asg (so rfl rfl) <| seqN [(0, .d ((cLs (cXVariable cS cI) rfl).enc v0)), (1, .d ((cLs (cXEdit (cLs cI rfl)) rfl).enc v1)), (2, .d ((cLs cI rfl).enc v2)), (3, .d ((cLs cI rfl).enc v3)), (10, .d ((cLo cI).enc x43.1)), (11, .d (cB.enc x43.2)), (12, .d ((cLo (cXVariable cS cI)).enc x47))] (by kernel_rfl) <|
    xn <| wpC_seq <| reg_s <| st rfl <| mvd rfl rfl <| bnd h fun x51 e52 h => st rfl <| o_call (a1 (c := (cLs (cXEdit (cLs cI rfl)) rfl)) (tLs (tXEdit (tLs tK))) rfl a0) (con_laws_toEditS e52) (.inl (so1 (sLo (sXEdit (sLo sK))) so0)) <| x_asg (so rfl rfl) <| seqN [(0, .d ((cLs (cXVariable cS cI) rfl).enc v0)), (1, .d ((cLs (cXEdit (cLs cI rfl)) rfl).enc v1)), (2, .d ((cLs cI rfl).enc v2)), (3, .d ((cLs cI rfl).enc v3)), (10, .d ((cLo cI).enc x43.1)), (11, .d (cB.enc x43.2)), (12, .d ((cLo (cXVariable cS cI)).enc x47)), (13, .d ((cLo (cXEdit (cLo cI))).enc x51))] (by kernel_rfl) <|
    xn <| wpC_seq <| reg_s <| st rfl <| mvd rfl rfl <| bnd h fun x55 e56 h => st rfl <| o_call (a1 (c := (cLs cI rfl)) (tLs tK) rfl a0) (con_laws_toIntS e56) (.inl (so1 (sLo sK) so0)) <| x_asg (so rfl rfl) <| seqN [(0, .d ((cLs (cXVariable cS cI) rfl).enc v0)), (1, .d ((cLs (cXEdit (cLs cI rfl)) rfl).enc v1)), (2, .d ((cLs cI rfl).enc v2)), (3, .d ((cLs cI rfl).enc v3)), (10, .d ((cLo cI).enc x43.1)), (11, .d (cB.enc x43.2)), (12, .d ((cLo (cXVariable cS cI)).enc x47)), (13, .d ((cLo (cXEdit (cLo cI))).enc x51)), (14, .d ((cLo cI).enc x55))] (by kernel_rfl) <|
    xn <| wpC_seq <| reg_s <| st rfl <| mvd rfl rfl <| bnd h fun x59 e60 h => st rfl <| o_call (a1 (c := (cLs cI rfl)) (tLs tK) rfl a0) (con_laws_toIntS e60) (.inl (so1 (sLo sK) so0)) <| x_asg (so rfl rfl) <| seqN [(0, .d ((cLs (cXVariable cS cI) rfl).enc v0)), (1, .d ((cLs (cXEdit (cLs cI rfl)) rfl).enc v1)), (2, .d ((cLs cI rfl).enc v2)), (3, .d ((cLs cI rfl).enc v3)), (10, .d ((cLo cI).enc x43.1)), (11, .d (cB.enc x43.2)), (12, .d ((cLo (cXVariable cS cI)).enc x47)), (13, .d ((cLo (cXEdit (cLo cI))).enc x51)), (14, .d ((cLo cI).enc x55)), (15, .d ((cLo cI).enc x59))] (by kernel_rfl) <|
    xn <| wpC_seq <| reg_s <| st rfl <| mvo rfl rfl <| st rfl <| mvo rfl rfl <| st rfl <| mvo rfl rfl <| st rfl <| mvo rfl rfl <| bnd h fun x63 e64 h => st rfl <| o_call (a1 (c := (cLo (cXVariable cS cI))) (tLo (tXVariable tS tK)) rfl (a1 (c := (cLo (cXEdit (cLo cI)))) (tLo (tXEdit (tLo tK))) rfl (a1 (c := (cLo cI)) (tLo tK) rfl (a1 (c := (cLo cI)) (tLo tK) rfl a0)))) (con_impl_MendValues e64) (.inl (so1 (sLo sK) (so1 sB so0))) <| x_mvt rfl <| x_ext rfl rfl <| x_ext rfl rfl <| x_asg (so rfl rfl) <| x_asg (ss rfl rfl) <| seqN [(0, .d ((cLs (cXVariable cS cI) rfl).enc v0)), (1, .d ((cLs (cXEdit (cLs cI rfl)) rfl).enc v1)), (2, .d ((cLs cI rfl).enc v2)), (3, .d ((cLs cI rfl).enc v3)), (10, .d ((cLo cI).enc x43.1)), (11, .d (cB.enc x43.2)), (12, .d ((cLo (cXVariable cS cI)).enc x47)), (13, .d ((cLo (cXEdit (cLo cI))).enc x51)), (14, .d ((cLo cI).enc x55)), (15, .d ((cLo cI).enc x59)), (16, .d ((cLo cI).enc x63.1)), (17, .d (cB.enc x63.2))] (by kernel_rfl) <|
    xn <| wpC_seq <| wpC_kp <| wpC_seq <| reg_s <| st rfl <| mvo rfl rfl <| st rfl <| mvo rfl rfl <| bnd h fun x75 e76 h => st rfl <| o_call (a1 (c := (cLo cI)) (tLo tK) rfl (a1 (c := (cLo cI)) (tLo tK) rfl a0)) (con_laws_eqIntS e76) (.inl (so1 sB so0)) <| st rfl <| o_nt rfl <| st rfl <| mvd rfl rfl <| ite_k h (fun b77 h => gf rfl b77 <| gf rfl b77 <| gf rfl b77 <| st rfl <| pick1 rfl b77 (cd := cB) (v := true) rfl rfl <| seqN [(0, .d ((cLs (cXVariable cS cI) rfl).enc v0)), (1, .d ((cLs (cXEdit (cLs cI rfl)) rfl).enc v1)), (2, .d ((cLs cI rfl).enc v2)), (3, .d ((cLs cI rfl).enc v3)), (10, .d ((cLo cI).enc x43.1)), (11, .d (cB.enc x43.2)), (12, .d ((cLo (cXVariable cS cI)).enc x47)), (13, .d ((cLo (cXEdit (cLo cI))).enc x51)), (14, .d ((cLo cI).enc x55)), (15, .d ((cLo cI).enc x59)), (16, .d ((cLo cI).enc x63.1)), (17, .d (cB.enc x63.2)), (75, .d (cB.enc true))] (by kernel_rfl) <|
    xn <| cnd1 rfl rfl <| wpC_seq <| reg_s <| x_asg (sc cB false rfl) <| seqN [(8, .d (cB.enc false))] (by kernel_rfl) <|
    xn <| wpC_ret <| rt <| rt <| re <| fin h (r1 (ss rfl rfl) <| r0) rfl)
    (fun b77 h => gt' rfl b77 <| st rfl <| mvd rfl rfl <| gt' rfl b77 <| st rfl <| mvd rfl rfl <| gt' rfl b77 <| st rfl <| eqb1 rfl rfl <| st rfl <| pick0 rfl b77 (cd := cB) (v := (x63.2 != x43.2)) rfl rfl <| seqN [(0, .d ((cLs (cXVariable cS cI) rfl).enc v0)), (1, .d ((cLs (cXEdit (cLs cI rfl)) rfl).enc v1)), (2, .d ((cLs cI rfl).enc v2)), (3, .d ((cLs cI rfl).enc v3)), (10, .d ((cLo cI).enc x43.1)), (11, .d (cB.enc x43.2)), (12, .d ((cLo (cXVariable cS cI)).enc x47)), (13, .d ((cLo (cXEdit (cLo cI))).enc x51)), (14, .d ((cLo cI).enc x55)), (15, .d ((cLo cI).enc x59)), (16, .d ((cLo cI).enc x63.1)), (17, .d (cB.enc x63.2)), (75, .d (cB.enc (x63.2 != x43.2)))] (by kernel_rfl) <|
    xn <| cnd rfl h (fun b78 h => wpC_seq <| reg_s <| x_asg (sc cB false rfl) <| seqN [(8, .d (cB.enc false))] (by kernel_rfl) <|
    xn <| wpC_ret <| rt <| rt <| re <| fin h (r1 (ss rfl rfl) <| r0) rfl)
    (fun b78 h => wpC_skip <| kpN [(0, .d ((cLs (cXVariable cS cI) rfl).enc v0)), (1, .d ((cLs (cXEdit (cLs cI rfl)) rfl).enc v1)), (2, .d ((cLs cI rfl).enc v2)), (3, .d ((cLs cI rfl).enc v3)), (10, .d ((cLo cI).enc x43.1)), (11, .d (cB.enc x43.2)), (12, .d ((cLo (cXVariable cS cI)).enc x47)), (13, .d ((cLo (cXEdit (cLo cI))).enc x51)), (14, .d ((cLo cI).enc x55)), (15, .d ((cLo cI).enc x59)), (16, .d ((cLo cI).enc x63.1)), (17, .d (cB.enc x63.2))] (by kernel_rfl) <| xn <| wpC_seq <| wpC_kp <| wpC_seq <| reg_s <| st rfl <| mvo rfl rfl <| st rfl <| mvd rfl rfl <| bnd h fun x92 e93 h => st rfl <| o_call (a1 (c := (cLs (cXVariable cS cI) rfl)) (tLs (tXVariable tS tK)) rfl a0) (con_laws_toVariableS e93) (.inl (so1 (sLo (sXVariable sS sK)) so0)) <| bnd h fun x94 e95 h => st rfl <| o_call (a1 (c := (cLo (cXVariable cS cI))) (tLo (tXVariable tS tK)) rfl (a1 (c := (cLo (cXVariable cS cI))) (tLo (tXVariable tS tK)) rfl a0)) (con_laws_eqVariableS e95) (.inl (so1 sB so0)) <| st rfl <| o_nt rfl <| seqN [(0, .d ((cLs (cXVariable cS cI) rfl).enc v0)), (1, .d ((cLs (cXEdit (cLs cI rfl)) rfl).enc v1)), (2, .d ((cLs cI rfl).enc v2)), (3, .d ((cLs cI rfl).enc v3)), (10, .d ((cLo cI).enc x43.1)), (11, .d (cB.enc x43.2)), (12, .d ((cLo (cXVariable cS cI)).enc x47)), (13, .d ((cLo (cXEdit (cLo cI))).enc x51)), (14, .d ((cLo cI).enc x55)), (15, .d ((cLo cI).enc x59)), (16, .d ((cLo cI).enc x63.1)), (17, .d (cB.enc x63.2)), (80, .d (cB.enc (!x94)))] (by kernel_rfl) <|
    xn <| cnd rfl h (fun b96 h => wpC_seq <| reg_s <| x_asg (sc cB false rfl) <| seqN [(8, .d (cB.enc false))] (by kernel_rfl) <|
    xn <| wpC_ret <| rt <| rt <| re <| fin h (r1 (ss rfl rfl) <| r0) rfl)
    (fun b96 h => wpC_skip <| kpN [(0, .d ((cLs (cXVariable cS cI) rfl).enc v0)), (1, .d ((cLs (cXEdit (cLs cI rfl)) rfl).enc v1)), (2, .d ((cLs cI rfl).enc v2)), (3, .d ((cLs cI rfl).enc v3)), (10, .d ((cLo cI).enc x43.1)), (11, .d (cB.enc x43.2)), (12, .d ((cLo (cXVariable cS cI)).enc x47)), (13, .d ((cLo (cXEdit (cLo cI))).enc x51)), (14, .d ((cLo cI).enc x55)), (15, .d ((cLo cI).enc x59)), (16, .d ((cLo cI).enc x63.1)), (17, .d (cB.enc x63.2))] (by kernel_rfl) <| xn <| wpC_seq <| wpC_kp <| wpC_seq <| reg_s <| st rfl <| mvo rfl rfl <| st rfl <| mvd rfl rfl <| bnd h fun x110 e111 h => st rfl <| o_call (a1 (c := (cLs (cXEdit (cLs cI rfl)) rfl)) (tLs (tXEdit (tLs tK))) rfl a0) (con_laws_toEditS e111) (.inl (so1 (sLo (sXEdit (sLo sK))) so0)) <| bnd h fun x112 e113 h => st rfl <| o_call (a1 (c := (cLo (cXEdit (cLo cI)))) (tLo (tXEdit (tLo tK))) rfl (a1 (c := (cLo (cXEdit (cLo cI)))) (tLo (tXEdit (tLo tK))) rfl a0)) (con_laws_eqEditS e113) (.inl (so1 sB so0)) <| st rfl <| o_nt rfl <| seqN [(0, .d ((cLs (cXVariable cS cI) rfl).enc v0)), (1, .d ((cLs (cXEdit (cLs cI rfl)) rfl).enc v1)), (2, .d ((cLs cI rfl).enc v2)), (3, .d ((cLs cI rfl).enc v3)), (10, .d ((cLo cI).enc x43.1)), (11, .d (cB.enc x43.2)), (12, .d ((cLo (cXVariable cS cI)).enc x47)), (13, .d ((cLo (cXEdit (cLo cI))).enc x51)), (14, .d ((cLo cI).enc x55)), (15, .d ((cLo cI).enc x59)), (16, .d ((cLo cI).enc x63.1)), (17, .d (cB.enc x63.2)), (85, .d (cB.enc (!x112)))] (by kernel_rfl) <|
    xn <| cnd rfl h (fun b114 h => wpC_seq <| reg_s <| x_asg (sc cB false rfl) <| seqN [(8, .d (cB.enc false))] (by kernel_rfl) <|
    xn <| wpC_ret <| rt <| rt <| re <| fin h (r1 (ss rfl rfl) <| r0) rfl)
    (fun b114 h => wpC_skip <| kpN [(0, .d ((cLs (cXVariable cS cI) rfl).enc v0)), (1, .d ((cLs (cXEdit (cLs cI rfl)) rfl).enc v1)), (2, .d ((cLs cI rfl).enc v2)), (3, .d ((cLs cI rfl).enc v3)), (10, .d ((cLo cI).enc x43.1)), (11, .d (cB.enc x43.2)), (12, .d ((cLo (cXVariable cS cI)).enc x47)), (13, .d ((cLo (cXEdit (cLo cI))).enc x51)), (14, .d ((cLo cI).enc x55)), (15, .d ((cLo cI).enc x59)), (16, .d ((cLo cI).enc x63.1)), (17, .d (cB.enc x63.2))] (by kernel_rfl) <| xn <| wpC_seq <| wpC_kp <| wpC_seq <| reg_s <| st rfl <| mvo rfl rfl <| st rfl <| mvd rfl rfl <| bnd h fun x128 e129 h => st rfl <| o_call (a1 (c := (cLs cI rfl)) (tLs tK) rfl a0) (con_laws_toIntS e129) (.inl (so1 (sLo sK) so0)) <| bnd h fun x130 e131 h => st rfl <| o_call (a1 (c := (cLo cI)) (tLo tK) rfl (a1 (c := (cLo cI)) (tLo tK) rfl a0)) (con_laws_eqIntS e131) (.inl (so1 sB so0)) <| st rfl <| o_nt rfl <| seqN [(0, .d ((cLs (cXVariable cS cI) rfl).enc v0)), (1, .d ((cLs (cXEdit (cLs cI rfl)) rfl).enc v1)), (2, .d ((cLs cI rfl).enc v2)), (3, .d ((cLs cI rfl).enc v3)), (10, .d ((cLo cI).enc x43.1)), (11, .d (cB.enc x43.2)), (12, .d ((cLo (cXVariable cS cI)).enc x47)), (13, .d ((cLo (cXEdit (cLo cI))).enc x51)), (14, .d ((cLo cI).enc x55)), (15, .d ((cLo cI).enc x59)), (16, .d ((cLo cI).enc x63.1)), (17, .d (cB.enc x63.2)), (90, .d (cB.enc (!x130)))] (by kernel_rfl) <|
    xn <| cnd rfl h (fun b132 h => wpC_seq <| reg_s <| x_asg (sc cB false rfl) <| seqN [(8, .d (cB.enc false))] (by kernel_rfl) <|
    xn <| wpC_ret <| rt <| rt <| re <| fin h (r1 (ss rfl rfl) <| r0) rfl)
    (fun b132 h => wpC_skip <| kpN [(0, .d ((cLs (cXVariable cS cI) rfl).enc v0)), (1, .d ((cLs (cXEdit (cLs cI rfl)) rfl).enc v1)), (2, .d ((cLs cI rfl).enc v2)), (3, .d ((cLs cI rfl).enc v3)), (10, .d ((cLo cI).enc x43.1)), (11, .d (cB.enc x43.2)), (12, .d ((cLo (cXVariable cS cI)).enc x47)), (13, .d ((cLo (cXEdit (cLo cI))).enc x51)), (14, .d ((cLo cI).enc x55)), (15, .d ((cLo cI).enc x59)), (16, .d ((cLo cI).enc x63.1)), (17, .d (cB.enc x63.2))] (by kernel_rfl) <| xn <| wpC_seq <| wpC_kp <| wpC_seq <| reg_s <| st rfl <| mvo rfl rfl <| st rfl <| mvd rfl rfl <| bnd h fun x146 e147 h => st rfl <| o_call (a1 (c := (cLs cI rfl)) (tLs tK) rfl a0) (con_laws_toIntS e147) (.inl (so1 (sLo sK) so0)) <| bnd h fun x148 e149 h => st rfl <| o_call (a1 (c := (cLo cI)) (tLo tK) rfl (a1 (c := (cLo cI)) (tLo tK) rfl a0)) (con_laws_eqIntS e149) (.inl (so1 sB so0)) <| st rfl <| o_nt rfl <| seqN [(0, .d ((cLs (cXVariable cS cI) rfl).enc v0)), (1, .d ((cLs (cXEdit (cLs cI rfl)) rfl).enc v1)), (2, .d ((cLs cI rfl).enc v2)), (3, .d ((cLs cI rfl).enc v3)), (10, .d ((cLo cI).enc x43.1)), (11, .d (cB.enc x43.2)), (12, .d ((cLo (cXVariable cS cI)).enc x47)), (13, .d ((cLo (cXEdit (cLo cI))).enc x51)), (14, .d ((cLo cI).enc x55)), (15, .d ((cLo cI).enc x59)), (16, .d ((cLo cI).enc x63.1)), (17, .d (cB.enc x63.2)), (95, .d (cB.enc (!x148)))] (by kernel_rfl) <|
    xn <| cnd rfl h (fun b150 h => wpC_seq <| reg_s <| x_asg (sc cB false rfl) <| seqN [(8, .d (cB.enc false))] (by kernel_rfl) <|
    xn <| wpC_ret <| rt <| rt <| re <| fin h (r1 (ss rfl rfl) <| r0) rfl)
    (fun b150 h => wpC_skip <| kpN [(0, .d ((cLs (cXVariable cS cI) rfl).enc v0)), (1, .d ((cLs (cXEdit (cLs cI rfl)) rfl).enc v1)), (2, .d ((cLs cI rfl).enc v2)), (3, .d ((cLs cI rfl).enc v3)), (10, .d ((cLo cI).enc x43.1)), (11, .d (cB.enc x43.2)), (12, .d ((cLo (cXVariable cS cI)).enc x47)), (13, .d ((cLo (cXEdit (cLo cI))).enc x51)), (14, .d ((cLo cI).enc x55)), (15, .d ((cLo cI).enc x59)), (16, .d ((cLo cI).enc x63.1)), (17, .d (cB.enc x63.2))] (by kernel_rfl) <| xn <| wpC_seq <| reg_s <| x_asg (sc cI (1 : Int) rfl) <| seqN [(0, .d ((cLs (cXVariable cS cI) rfl).enc v0)), (1, .d ((cLs (cXEdit (cLs cI rfl)) rfl).enc v1)), (2, .d ((cLs cI rfl).enc v2)), (3, .d ((cLs cI rfl).enc v3)), (10, .d ((cLo cI).enc x43.1)), (11, .d (cB.enc x43.2)), (12, .d ((cLo (cXVariable cS cI)).enc x47)), (13, .d ((cLo (cXEdit (cLo cI))).enc x51)), (14, .d ((cLo cI).enc x55)), (15, .d ((cLo cI).enc x59)), (16, .d ((cLo cI).enc x63.1)), (17, .d (cB.enc x63.2)), (18, .d (cI.enc (1 : Int)))] (by kernel_rfl) <|
    xn <| wpC_seq <| reg_s <| st rfl <| mvo rfl rfl <| st rfl <| mvd rfl rfl <| bnd h fun x153 e154 h => x_clr (c := (cLo (cXVariable cS cI))) (c' := (cLo (cXVariable cS cI))) ((cLo (cXVariable cS cI)).enc x153.1) (sLo (sXVariable sS sK)) rfl (a1 (c := cI) tK rfl a0) rfl Ln.nil (con_laws_markVariableS e154) rfl rfl (so1 sK so0) <| x_asg (ss rfl rfl) <| seqN [(0, .d ((cLs (cXVariable cS cI) rfl).enc v0)), (1, .d ((cLs (cXEdit (cLs cI rfl)) rfl).enc v1)), (2, .d ((cLs cI rfl).enc v2)), (3, .d ((cLs cI rfl).enc v3)), (10, .d ((cLo cI).enc x43.1)), (11, .d (cB.enc x43.2)), (13, .d ((cLo (cXEdit (cLo cI))).enc x51)), (14, .d ((cLo cI).enc x55)), (15, .d ((cLo cI).enc x59)), (16, .d ((cLo cI).enc x63.1)), (17, .d (cB.enc x63.2)), (18, .d (cI.enc x153.2))] (by kernel_rfl) <|
    xn <| wpC_seq <| reg_s <| st rfl <| mvo rfl rfl <| st rfl <| mvd rfl rfl <| bnd h fun x157 e158 h => x_clr (c := (cLo (cXEdit (cLo cI)))) (c' := (cLo (cXEdit (cLo cI)))) ((cLo (cXEdit (cLo cI))).enc x157.1) (sLo (sXEdit (sLo sK))) rfl (a1 (c := cI) tK rfl a0) rfl Ln.nil (con_laws_markEditS e158) rfl rfl (so1 sK so0) <| x_asg (ss rfl rfl) <| seqN [(0, .d ((cLs (cXVariable cS cI) rfl).enc v0)), (1, .d ((cLs (cXEdit (cLs cI rfl)) rfl).enc v1)), (2, .d ((cLs cI rfl).enc v2)), (3, .d ((cLs cI rfl).enc v3)), (10, .d ((cLo cI).enc x43.1)), (11, .d (cB.enc x43.2)), (14, .d ((cLo cI).enc x55)), (15, .d ((cLo cI).enc x59)), (16, .d ((cLo cI).enc x63.1)), (17, .d (cB.enc x63.2)), (18, .d (cI.enc x157.2))] (by kernel_rfl) <|
    xn <| wpC_seq <| reg_s <| st rfl <| mvo rfl rfl <| st rfl <| mvd rfl rfl <| bnd h fun x161 e162 h => x_clr (c := (cLo cI)) (c' := (cLo cI)) ((cLo cI).enc x161.1) (sLo sK) rfl (a1 (c := cI) tK rfl a0) rfl Ln.nil (con_laws_markIntS e162) rfl rfl (so1 sK so0) <| x_asg (ss rfl rfl) <| seqN [(0, .d ((cLs (cXVariable cS cI) rfl).enc v0)), (1, .d ((cLs (cXEdit (cLs cI rfl)) rfl).enc v1)), (2, .d ((cLs cI rfl).enc v2)), (3, .d ((cLs cI rfl).enc v3)), (10, .d ((cLo cI).enc x43.1)), (11, .d (cB.enc x43.2)), (15, .d ((cLo cI).enc x59)), (16, .d ((cLo cI).enc x63.1)), (17, .d (cB.enc x63.2)), (18, .d (cI.enc x161.2))] (by kernel_rfl) <|
    xn <| wpC_seq <| reg_s <| st rfl <| mvo rfl rfl <| st rfl <| mvd rfl rfl <| bnd h fun x165 e166 h => x_clr (c := (cLo cI)) (c' := (cLo cI)) ((cLo cI).enc x165.1) (sLo sK) rfl (a1 (c := cI) tK rfl a0) rfl Ln.nil (con_laws_markIntS e166) rfl rfl (so1 sK so0) <| x_asg (ss rfl rfl) <| seqN [(0, .d ((cLs (cXVariable cS cI) rfl).enc v0)), (1, .d ((cLs (cXEdit (cLs cI rfl)) rfl).enc v1)), (2, .d ((cLs cI rfl).enc v2)), (3, .d ((cLs cI rfl).enc v3)), (10, .d ((cLo cI).enc x43.1)), (11, .d (cB.enc x43.2)), (16, .d ((cLo cI).enc x63.1)), (17, .d (cB.enc x63.2)), (18, .d (cI.enc x165.2))] (by kernel_rfl) <|
    xn <| wpC_seq <| wpC_kp <| wpC_seq <| reg_s <| st rfl <| mvd rfl rfl <| st rfl <| b_lss (k := .i64) rfl rfl <| st rfl <| mvd rfl rfl <| ite_k h (fun b179 h => gf rfl b179 <| gf rfl b179 <| gf rfl b179 <| gf rfl b179 <| st rfl <| pick1 rfl b179 (cd := cB) (v := true) rfl rfl <| st rfl <| mvd rfl rfl <| gf rfl rfl <| gf rfl rfl <| gf rfl rfl <| st rfl <| pick1 rfl rfl (cd := cB) (v := true) rfl rfl <| seqN [(0, .d ((cLs (cXVariable cS cI) rfl).enc v0)), (1, .d ((cLs (cXEdit (cLs cI rfl)) rfl).enc v1)), (2, .d ((cLs cI rfl).enc v2)), (3, .d ((cLs cI rfl).enc v3)), (10, .d ((cLo cI).enc x43.1)), (11, .d (cB.enc x43.2)), (16, .d ((cLo cI).enc x63.1)), (120, .d (cB.enc true))] (by kernel_rfl) <|
    xn <| cnd1 rfl rfl <| wpC_seq <| reg_s <| x_asg (sc cB false rfl) <| seqN [(8, .d (cB.enc false))] (by kernel_rfl) <|
    xn <| wpC_ret <| rt <| rt <| re <| fin h (r1 (ss rfl rfl) <| r0) rfl)
    (fun b179 h => gt' rfl b179 <| st rfl <| mvo rfl rfl <| gt' rfl b179 <| st rfl <| mvo rfl rfl <| gt' rfl b179 <| bnd h fun x180 e181 h => st rfl <| o_call (a1 (c := (cLo cI)) (tLo tK) rfl (a1 (c := (cLo cI)) (tLo tK) rfl a0)) (con_laws_eqIntS e181) (.inl (so1 sB so0)) <| gt' rfl b179 <| st rfl <| o_nt rfl <| st rfl <| pick0 rfl b179 (cd := cB) (v := (!x180)) rfl rfl <| st rfl <| mvd rfl rfl <| ite_k h (fun b182 h => gf rfl b182 <| gf rfl b182 <| gf rfl b182 <| st rfl <| pick1 rfl b182 (cd := cB) (v := true) rfl rfl <| seqN [(0, .d ((cLs (cXVariable cS cI) rfl).enc v0)), (1, .d ((cLs (cXEdit (cLs cI rfl)) rfl).enc v1)), (2, .d ((cLs cI rfl).enc v2)), (3, .d ((cLs cI rfl).enc v3)), (10, .d ((cLo cI).enc x43.1)), (11, .d (cB.enc x43.2)), (16, .d ((cLo cI).enc x63.1)), (120, .d (cB.enc true))] (by kernel_rfl) <|
    xn <| cnd1 rfl rfl <| wpC_seq <| reg_s <| x_asg (sc cB false rfl) <| seqN [(8, .d (cB.enc false))] (by kernel_rfl) <|
    xn <| wpC_ret <| rt <| rt <| re <| fin h (r1 (ss rfl rfl) <| r0) rfl)
    (fun b182 h => gt' rfl b182 <| st rfl <| mvd rfl rfl <| gt' rfl b182 <| st rfl <| mvd rfl rfl <| gt' rfl b182 <| st rfl <| eqb1 rfl rfl <| st rfl <| pick0 rfl b182 (cd := cB) (v := (x63.2 != x43.2)) rfl rfl <| seqN [(0, .d ((cLs (cXVariable cS cI) rfl).enc v0)), (1, .d ((cLs (cXEdit (cLs cI rfl)) rfl).enc v1)), (2, .d ((cLs cI rfl).enc v2)), (3, .d ((cLs cI rfl).enc v3)), (10, .d ((cLo cI).enc x43.1)), (11, .d (cB.enc x43.2)), (16, .d ((cLo cI).enc x63.1)), (120, .d (cB.enc (x63.2 != x43.2)))] (by kernel_rfl) <|
    xn <| cnd0 rfl b78 <| wpC_skip <| kpN [(0, .d ((cLs (cXVariable cS cI) rfl).enc v0)), (1, .d ((cLs (cXEdit (cLs cI rfl)) rfl).enc v1)), (2, .d ((cLs cI rfl).enc v2)), (3, .d ((cLs cI rfl).enc v3)), (10, .d ((cLo cI).enc x43.1)), (11, .d (cB.enc x43.2)), (16, .d ((cLo cI).enc x63.1))] (by kernel_rfl) <| xn <| wpC_seq <| reg_s <| x_asg (sc cI (1 : Int) rfl) <| seqN [(0, .d ((cLs (cXVariable cS cI) rfl).enc v0)), (1, .d ((cLs (cXEdit (cLs cI rfl)) rfl).enc v1)), (2, .d ((cLs cI rfl).enc v2)), (3, .d ((cLs cI rfl).enc v3)), (10, .d ((cLo cI).enc x43.1)), (11, .d (cB.enc x43.2)), (16, .d ((cLo cI).enc x63.1)), (19, .d (cI.enc (1 : Int)))] (by kernel_rfl) <|
    xn <| wpC_seq <| reg_s <| st rfl <| mvo rfl rfl <| st rfl <| mvd rfl rfl <| bnd h fun x185 e186 h => x_clr (c := (cLo cI)) (c' := (cLo cI)) ((cLo cI).enc x185.1) (sLo sK) rfl (a1 (c := cI) tK rfl a0) rfl Ln.nil (con_laws_markIntS e186) rfl rfl (so1 sK so0) <| x_asg (ss rfl rfl) <| seqN [(0, .d ((cLs (cXVariable cS cI) rfl).enc v0)), (1, .d ((cLs (cXEdit (cLs cI rfl)) rfl).enc v1)), (2, .d ((cLs cI rfl).enc v2)), (3, .d ((cLs cI rfl).enc v3)), (10, .d ((cLo cI).enc x43.1)), (11, .d (cB.enc x43.2)), (16, .d ((cLo cI).enc x185.1)), (19, .d (cI.enc x185.2))] (by kernel_rfl) <|
    xn <| wpC_seq <| reg_s <| x_asg (sc cI (1 : Int) rfl) <| seqN [(0, .d ((cLs (cXVariable cS cI) rfl).enc v0)), (1, .d ((cLs (cXEdit (cLs cI rfl)) rfl).enc v1)), (2, .d ((cLs cI rfl).enc v2)), (3, .d ((cLs cI rfl).enc v3)), (10, .d ((cLo cI).enc x43.1)), (11, .d (cB.enc x43.2)), (16, .d ((cLo cI).enc x185.1)), (19, .d (cI.enc x185.2)), (20, .d (cI.enc (1 : Int)))] (by kernel_rfl) <|
    xn <| wpC_seq <| reg_s <| st rfl <| mvo rfl rfl <| st rfl <| mvd rfl rfl <| bnd h fun x189 e190 h => st rfl <| o_call (a1 (c := (cLo cI)) (tLo tK) rfl (a1 (c := cI) tK rfl a0)) (con_laws_heldIntS e190) (.inl (so1 sK so0)) <| x_asg (ss rfl rfl) <| seqN [(0, .d ((cLs (cXVariable cS cI) rfl).enc v0)), (1, .d ((cLs (cXEdit (cLs cI rfl)) rfl).enc v1)), (2, .d ((cLs cI rfl).enc v2)), (3, .d ((cLs cI rfl).enc v3)), (10, .d ((cLo cI).enc x43.1)), (11, .d (cB.enc x43.2)), (16, .d ((cLo cI).enc x185.1)), (19, .d (cI.enc x185.2)), (20, .d (cI.enc x189))] (by kernel_rfl) <|
    xn <| wpC_seq <| wpC_kp <| wpC_seq <| reg_s <| st rfl <| mvd rfl rfl <| st rfl <| b_lss (k := .i64) rfl rfl <| seqN [(0, .d ((cLs (cXVariable cS cI) rfl).enc v0)), (1, .d ((cLs (cXEdit (cLs cI rfl)) rfl).enc v1)), (2, .d ((cLs cI rfl).enc v2)), (3, .d ((cLs cI rfl).enc v3)), (10, .d ((cLo cI).enc x43.1)), (11, .d (cB.enc x43.2)), (16, .d ((cLo cI).enc x185.1)), (19, .d (cI.enc x185.2)), (20, .d (cI.enc x189)), (128, .d (cB.enc (decide (x189 < (0 : Int)))))] (by kernel_rfl) <|
    xn <| cnd rfl h (fun b192 h => wpC_seq <| reg_s <| x_asg (sc cB false rfl) <| seqN [(8, .d (cB.enc false))] (by kernel_rfl) <|
    xn <| wpC_ret <| rt <| rt <| re <| fin h (r1 (ss rfl rfl) <| r0) rfl)
    (fun b192 h => wpC_skip <| kpN [(0, .d ((cLs (cXVariable cS cI) rfl).enc v0)), (1, .d ((cLs (cXEdit (cLs cI rfl)) rfl).enc v1)), (2, .d ((cLs cI rfl).enc v2)), (3, .d ((cLs cI rfl).enc v3)), (10, .d ((cLo cI).enc x43.1)), (11, .d (cB.enc x43.2)), (16, .d ((cLo cI).enc x185.1)), (19, .d (cI.enc x185.2)), (20, .d (cI.enc x189))] (by kernel_rfl) <| xn <| wpC_seq <| wpC_kp <| wpC_seq <| reg_s <| st rfl <| mvd rfl rfl <| st rfl <| mvd rfl rfl <| st rfl <| b_neq (k := .i64) rfl rfl <| seqN [(0, .d ((cLs (cXVariable cS cI) rfl).enc v0)), (1, .d ((cLs (cXEdit (cLs cI rfl)) rfl).enc v1)), (2, .d ((cLs cI rfl).enc v2)), (3, .d ((cLs cI rfl).enc v3)), (10, .d ((cLo cI).enc x43.1)), (11, .d (cB.enc x43.2)), (16, .d ((cLo cI).enc x185.1)), (19, .d (cI.enc x185.2)), (131, .d (cB.enc (decide (x189 ≠ x185.2))))] (by kernel_rfl) <|
    xn <| cnd rfl h (fun b194 h => wpC_seq <| reg_s <| x_asg (sc cB false rfl) <| seqN [(8, .d (cB.enc false))] (by kernel_rfl) <|
    xn <| wpC_ret <| rt <| rt <| re <| fin h (r1 (ss rfl rfl) <| r0) rfl)
    (fun b194 h => wpC_skip <| kpN [(0, .d ((cLs (cXVariable cS cI) rfl).enc v0)), (1, .d ((cLs (cXEdit (cLs cI rfl)) rfl).enc v1)), (2, .d ((cLs cI rfl).enc v2)), (3, .d ((cLs cI rfl).enc v3)), (10, .d ((cLo cI).enc x43.1)), (11, .d (cB.enc x43.2)), (16, .d ((cLo cI).enc x185.1)), (19, .d (cI.enc x185.2))] (by kernel_rfl) <| xn <| wpC_seq <| reg_s <| st rfl <| mvd rfl rfl <| bnd h fun x205 e206 h => st rfl <| o_call (a1 (c := (cLs (cXVariable cS cI) rfl)) (tLs (tXVariable tS tK)) rfl a0) (con_laws_toVariableS e206) (.inl (so1 (sLo (sXVariable sS sK)) so0)) <| st rfl <| mvd rfl rfl <| bnd h fun x207 e208 h => st rfl <| o_call (a1 (c := (cLs (cXEdit (cLs cI rfl)) rfl)) (tLs (tXEdit (tLs tK))) rfl a0) (con_laws_toEditS e208) (.inl (so1 (sLo (sXEdit (sLo sK))) so0)) <| st rfl <| mvd rfl rfl <| bnd h fun x209 e210 h => st rfl <| o_call (a1 (c := (cLs cI rfl)) (tLs tK) rfl a0) (con_laws_toIntS e210) (.inl (so1 (sLo sK) so0)) <| st rfl <| mvd rfl rfl <| bnd h fun x211 e212 h => st rfl <| o_call (a1 (c := (cLs cI rfl)) (tLs tK) rfl a0) (con_laws_toIntS e212) (.inl (so1 (sLo sK) so0)) <| bnd h fun x213 e214 h => st rfl <| o_call (a1 (c := (cLo (cXVariable cS cI))) (tLo (tXVariable tS tK)) rfl (a1 (c := (cLo (cXEdit (cLo cI)))) (tLo (tXEdit (tLo tK))) rfl (a1 (c := (cLo cI)) (tLo tK) rfl (a1 (c := (cLo cI)) (tLo tK) rfl a0)))) (con_impl_MendValues e214) (.inl (so1 (sLo sK) (so1 sB so0))) <| x_mvt rfl <| x_ext rfl rfl <| x_ext rfl rfl <| x_asg (so rfl rfl) <| x_asg (ss rfl rfl) <| seqN [(10, .d ((cLo cI).enc x43.1)), (11, .d (cB.enc x43.2)), (16, .d ((cLo cI).enc x185.1)), (19, .d (cI.enc x185.2)), (21, .d ((cLo cI).enc x213.1)), (22, .d (cB.enc x213.2))] (by kernel_rfl) <|
    xn <| wpC_seq <| wpC_kp <| wpC_seq <| reg_s <| st rfl <| mvo rfl rfl <| st rfl <| mvo rfl rfl <| bnd h fun x225 e226 h => st rfl <| o_call (a1 (c := (cLo cI)) (tLo tK) rfl (a1 (c := (cLo cI)) (tLo tK) rfl a0)) (con_laws_eqIntS e226) (.inl (so1 sB so0)) <| st rfl <| o_nt rfl <| st rfl <| mvd rfl rfl <| ite_k h (fun b227 h => gf rfl b227 <| gf rfl b227 <| gf rfl b227 <| st rfl <| pick1 rfl b227 (cd := cB) (v := true) rfl rfl <| seqN [(16, .d ((cLo cI).enc x185.1)), (19, .d (cI.enc x185.2)), (152, .d (cB.enc true))] (by kernel_rfl) <|
    xn <| cnd1 rfl rfl <| wpC_seq <| reg_s <| x_asg (sc cB false rfl) <| seqN [(8, .d (cB.enc false))] (by kernel_rfl) <|
    xn <| wpC_ret <| rt <| rt <| re <| fin h (r1 (ss rfl rfl) <| r0) rfl)
    (fun b227 h => gt' rfl b227 <| st rfl <| mvd rfl rfl <| gt' rfl b227 <| st rfl <| mvd rfl rfl <| gt' rfl b227 <| st rfl <| eqb1 rfl rfl <| st rfl <| pick0 rfl b227 (cd := cB) (v := (x213.2 != x43.2)) rfl rfl <| seqN [(16, .d ((cLo cI).enc x185.1)), (19, .d (cI.enc x185.2)), (152, .d (cB.enc (x213.2 != x43.2)))] (by kernel_rfl) <|
    xn <| cnd rfl h (fun b228 h => wpC_seq <| reg_s <| x_asg (sc cB false rfl) <| seqN [(8, .d (cB.enc false))] (by kernel_rfl) <|
    xn <| wpC_ret <| rt <| rt <| re <| fin h (r1 (ss rfl rfl) <| r0) rfl)
    (fun b228 h => wpC_skip <| kpN [(16, .d ((cLo cI).enc x185.1)), (19, .d (cI.enc x185.2))] (by kernel_rfl) <| xn <| wpC_seq <| reg_s <| x_asg (sc cI (1 : Int) rfl) <| seqN [(16, .d ((cLo cI).enc x185.1)), (19, .d (cI.enc x185.2)), (20, .d (cI.enc (1 : Int)))] (by kernel_rfl) <|
    xn <| wpC_seq <| reg_s <| st rfl <| mvo rfl rfl <| st rfl <| mvd rfl rfl <| bnd h fun x231 e232 h => st rfl <| o_call (a1 (c := (cLo cI)) (tLo tK) rfl (a1 (c := cI) tK rfl a0)) (con_laws_heldIntS e232) (.inl (so1 sK so0)) <| x_asg (ss rfl rfl) <| seqN [(19, .d (cI.enc x185.2)), (20, .d (cI.enc x231))] (by kernel_rfl) <|
    xn <| wpC_seq <| wpC_kp <| wpC_seq <| reg_s <| st rfl <| mvd rfl rfl <| st rfl <| b_lss (k := .i64) rfl rfl <| seqN [(19, .d (cI.enc x185.2)), (20, .d (cI.enc x231)), (157, .d (cB.enc (decide (x231 < (0 : Int)))))] (by kernel_rfl) <|
    xn <| cnd rfl h (fun b234 h => wpC_seq <| reg_s <| x_asg (sc cB false rfl) <| seqN [(8, .d (cB.enc false))] (by kernel_rfl) <|
    xn <| wpC_ret <| rt <| rt <| re <| fin h (r1 (ss rfl rfl) <| r0) rfl)
    (fun b234 h => wpC_skip <| kpN [(19, .d (cI.enc x185.2)), (20, .d (cI.enc x231))] (by kernel_rfl) <| xn <| wpC_seq <| wpC_kp <| wpC_seq <| reg_s <| st rfl <| mvd rfl rfl <| st rfl <| mvd rfl rfl <| st rfl <| b_neq (k := .i64) rfl rfl <| seqN [(160, .d (cB.enc (decide (x231 ≠ x185.2))))] (by kernel_rfl) <|
    xn <| cnd rfl h (fun b236 h => wpC_seq <| reg_s <| x_asg (sc cB false rfl) <| seqN [(8, .d (cB.enc false))] (by kernel_rfl) <|
    xn <| wpC_ret <| rt <| rt <| re <| fin h (r1 (ss rfl rfl) <| r0) rfl)
    (fun b236 h => wpC_skip <| kpN [] (by kernel_rfl) <| xn <| wpC_seq <| reg_s <| x_asg (sc cB true rfl) <| seqN [(8, .d (cB.enc true))] (by kernel_rfl) <|
    xn <| wpC_ret <| re <| fin h (r1 (ss rfl rfl) <| r0) rfl))))))))))))))))))
end AS.W
