/- The program computes the plain functions. No condition. -/
import Derived.Test.YtjikhkfmddflhaaQCheapestChangeS
import Derived.Test.YtjikhkfmddflhaaProg
import Derived.Test.YtjikhkfmddflhaaQCheapestChangeL2
set_option maxRecDepth 100000
set_option linter.unusedVariables false
set_option linter.unusedSimpArgs false
namespace AS.W
open Go Go.Proofs
def rs_laws_FnExactCheapestChange (r : Bool) : List D := [cB.enc r]
def m7 : MC := .seq (.reg [⟨some 8, .asg (.c (.bool false)), none⟩] [0, 1, 2, 3])
  (.seq (.kp [0, 1, 2, 3] (.seq (.reg [⟨some 26, .mv (.t 2), none⟩,
    ⟨some 27, .len false (.t 26), none⟩,
    ⟨some 28, .bin .gtr (.t 27) (.c (.int .i64 1048576)), none⟩] [0, 1, 2, 3, 28])
  (.cond (.t 28) (.seq (.reg [⟨some 8, .asg (.c (.bool true)), none⟩] [8])
  (.ret)) (.skip))))
  (.seq (.kp [0, 1, 2, 3] (.seq (.reg [⟨some 29, .mv (.t 3), none⟩,
    ⟨some 30, .len false (.t 29), none⟩,
    ⟨some 31, .bin .gtr (.t 30) (.c (.int .i64 1048576)), none⟩] [0, 1, 2, 3, 31])
  (.cond (.t 31) (.seq (.reg [⟨some 8, .asg (.c (.bool true)), none⟩] [8])
  (.ret)) (.skip))))
  (.seq (.reg [⟨some 9, .asg (.c (.int .i64 1048576)), none⟩] [0, 1, 2, 3, 9])
  (.seq (.reg [⟨some 32, .mv (.t 0), none⟩,
    ⟨some 33, .mv (.t 9), none⟩,
    ⟨some 34, .call 13 [(.t 32), (.t 33)], none⟩,
    ⟨some 9, .asg (.t 34), none⟩] [0, 1, 2, 3, 9])
  (.seq (.kp [0, 1, 2, 3, 9] (.seq (.reg [⟨some 35, .mv (.t 9), none⟩,
    ⟨some 36, .bin .lss (.t 35) (.c (.int .i64 0)), none⟩] [0, 1, 2, 3, 9, 36])
  (.cond (.t 36) (.seq (.reg [⟨some 8, .asg (.c (.bool true)), none⟩] [8])
  (.ret)) (.skip))))
  (.seq (.reg [⟨some 37, .mv (.t 1), none⟩,
    ⟨some 38, .mv (.t 9), none⟩,
    ⟨some 39, .call 14 [(.t 37), (.t 38)], none⟩,
    ⟨some 9, .asg (.t 39), none⟩] [0, 1, 2, 3, 9])
  (.seq (.kp [0, 1, 2, 3] (.seq (.reg [⟨some 40, .mv (.t 9), none⟩,
    ⟨some 41, .bin .lss (.t 40) (.c (.int .i64 0)), none⟩] [0, 1, 2, 3, 41])
  (.cond (.t 41) (.seq (.reg [⟨some 8, .asg (.c (.bool true)), none⟩] [8])
  (.ret)) (.skip))))
  (.seq (.reg [⟨some 43, .mv (.t 0), none⟩,
    ⟨some 44, .call 16 [(.t 43)], none⟩,
    ⟨some 45, .mv (.t 1), none⟩,
    ⟨some 46, .call 17 [(.t 45)], none⟩,
    ⟨some 47, .mv (.t 2), none⟩,
    ⟨some 48, .call 27 [(.t 47)], none⟩,
    ⟨some 49, .mv (.t 3), none⟩,
    ⟨some 50, .call 27 [(.t 49)], none⟩,
    ⟨some 51, .call 33 [(.t 44), (.t 46), (.t 48), (.t 50)], none⟩,
    ⟨some 42, .mvt 51, none⟩,
    ⟨some 52, .ext 42 0, none⟩,
    ⟨some 53, .ext 42 1, none⟩,
    ⟨some 54, .ext 42 2, none⟩,
    ⟨some 10, .asg (.t 52), none⟩,
    ⟨some 11, .asg (.t 53), none⟩,
    ⟨some 12, .asg (.t 54), none⟩] [0, 1, 2, 3, 10, 11, 12])
  (.seq (.reg [⟨some 55, .mv (.t 0), none⟩,
    ⟨some 56, .call 16 [(.t 55)], none⟩,
    ⟨some 13, .asg (.t 56), none⟩] [0, 1, 2, 3, 10, 11, 12, 13])
  (.seq (.reg [⟨some 57, .mv (.t 1), none⟩,
    ⟨some 58, .call 17 [(.t 57)], none⟩,
    ⟨some 14, .asg (.t 58), none⟩] [0, 1, 2, 3, 10, 11, 12, 13, 14])
  (.seq (.reg [⟨some 59, .mv (.t 2), none⟩,
    ⟨some 60, .call 27 [(.t 59)], none⟩,
    ⟨some 15, .asg (.t 60), none⟩] [0, 1, 2, 3, 10, 11, 12, 13, 14, 15])
  (.seq (.reg [⟨some 61, .mv (.t 3), none⟩,
    ⟨some 62, .call 27 [(.t 61)], none⟩,
    ⟨some 16, .asg (.t 62), none⟩] [0, 1, 2, 3, 10, 11, 12, 13, 14, 15, 16])
  (.seq (.reg [⟨some 64, .mv (.t 13), none⟩,
    ⟨some 65, .mv (.t 14), none⟩,
    ⟨some 66, .mv (.t 15), none⟩,
    ⟨some 67, .mv (.t 16), none⟩,
    ⟨some 68, .call 34 [(.t 64), (.t 65), (.t 66), (.t 67)], none⟩,
    ⟨some 63, .mvt 68, none⟩,
    ⟨some 69, .ext 63 0, none⟩,
    ⟨some 70, .ext 63 1, none⟩,
    ⟨some 71, .ext 63 2, none⟩,
    ⟨some 17, .asg (.t 69), none⟩,
    ⟨some 18, .asg (.t 70), none⟩,
    ⟨some 19, .asg (.t 71), none⟩] [0, 1, 2, 3, 10, 11, 12, 13, 14, 15, 16, 17, 18, 19])
  (.seq (.kp [0, 1, 2, 3, 10, 11, 12, 13, 14, 15, 16, 17, 18, 19] (.seq (.reg [⟨some 72, .mv (.t 17), none⟩,
    ⟨some 73, .mv (.t 10), none⟩,
    ⟨some 74, .call 19 [(.t 72), (.t 73)], none⟩,
    ⟨some 75, .nt (.t 74), none⟩,
    ⟨some 76, .mv (.t 75), none⟩,
    ⟨some 77, .mv (.t 18), some (76, false)⟩,
    ⟨some 78, .mv (.t 11), some (76, false)⟩,
    ⟨some 79, .bin .neq (.t 77) (.t 78), some (76, false)⟩,
    ⟨some 80, .pick (.t 76) (.c (.bool true)) (.t 79), none⟩,
    ⟨some 81, .mv (.t 80), none⟩,
    ⟨some 82, .mv (.t 19), some (81, false)⟩,
    ⟨some 83, .mv (.t 12), some (81, false)⟩,
    ⟨some 84, .eqb true (.t 82) (.t 83), some (81, false)⟩,
    ⟨some 85, .pick (.t 81) (.c (.bool true)) (.t 84), none⟩] [0, 1, 2, 3, 10, 11, 12, 13, 14, 15, 16, 17, 18, 19, 85])
  (.cond (.t 85) (.seq (.reg [⟨some 8, .asg (.c (.bool false)), none⟩] [8])
  (.ret)) (.skip))))
  (.seq (.kp [0, 1, 2, 3, 10, 11, 12, 13, 14, 15, 16, 17, 18, 19] (.seq (.reg [⟨some 86, .mv (.t 13), none⟩,
    ⟨some 87, .mv (.t 0), none⟩,
    ⟨some 88, .call 16 [(.t 87)], none⟩,
    ⟨some 89, .call 20 [(.t 86), (.t 88)], none⟩,
    ⟨some 90, .nt (.t 89), none⟩] [0, 1, 2, 3, 10, 11, 12, 13, 14, 15, 16, 17, 18, 19, 90])
  (.cond (.t 90) (.seq (.reg [⟨some 8, .asg (.c (.bool false)), none⟩] [8])
  (.ret)) (.skip))))
  (.seq (.kp [0, 1, 2, 3, 10, 11, 12, 13, 14, 15, 16, 17, 18, 19] (.seq (.reg [⟨some 91, .mv (.t 14), none⟩,
    ⟨some 92, .mv (.t 1), none⟩,
    ⟨some 93, .call 17 [(.t 92)], none⟩,
    ⟨some 94, .call 21 [(.t 91), (.t 93)], none⟩,
    ⟨some 95, .nt (.t 94), none⟩] [0, 1, 2, 3, 10, 11, 12, 13, 14, 15, 16, 17, 18, 19, 95])
  (.cond (.t 95) (.seq (.reg [⟨some 8, .asg (.c (.bool false)), none⟩] [8])
  (.ret)) (.skip))))
  (.seq (.kp [0, 1, 2, 3, 10, 11, 12, 13, 14, 15, 16, 17, 18, 19] (.seq (.reg [⟨some 96, .mv (.t 15), none⟩,
    ⟨some 97, .mv (.t 2), none⟩,
    ⟨some 98, .call 27 [(.t 97)], none⟩,
    ⟨some 99, .call 19 [(.t 96), (.t 98)], none⟩,
    ⟨some 100, .nt (.t 99), none⟩] [0, 1, 2, 3, 10, 11, 12, 13, 14, 15, 16, 17, 18, 19, 100])
  (.cond (.t 100) (.seq (.reg [⟨some 8, .asg (.c (.bool false)), none⟩] [8])
  (.ret)) (.skip))))
  (.seq (.kp [0, 1, 2, 3, 10, 11, 12, 13, 14, 15, 16, 17, 18, 19] (.seq (.reg [⟨some 101, .mv (.t 16), none⟩,
    ⟨some 102, .mv (.t 3), none⟩,
    ⟨some 103, .call 27 [(.t 102)], none⟩,
    ⟨some 104, .call 19 [(.t 101), (.t 103)], none⟩,
    ⟨some 105, .nt (.t 104), none⟩] [0, 1, 2, 3, 10, 11, 12, 13, 14, 15, 16, 17, 18, 19, 105])
  (.cond (.t 105) (.seq (.reg [⟨some 8, .asg (.c (.bool false)), none⟩] [8])
  (.ret)) (.skip))))
  (.seq (.reg [⟨some 20, .asg (.c (.int .i64 1)), none⟩] [0, 1, 2, 3, 10, 11, 12, 13, 14, 15, 16, 17, 18, 19, 20])
  (.seq (.reg [⟨some 106, .mv (.t 13), none⟩,
    ⟨some 107, .mv (.t 20), none⟩,
    ⟨some 108, .callO 22 [(.t 106), (.t 107)], none⟩,
    ⟨some 20, .asg (.t 108), none⟩] [0, 1, 2, 3, 10, 11, 12, 14, 15, 16, 17, 18, 19, 20])
  (.seq (.reg [⟨some 109, .mv (.t 14), none⟩,
    ⟨some 110, .mv (.t 20), none⟩,
    ⟨some 111, .callO 23 [(.t 109), (.t 110)], none⟩,
    ⟨some 20, .asg (.t 111), none⟩] [0, 1, 2, 3, 10, 11, 12, 15, 16, 17, 18, 19, 20])
  (.seq (.reg [⟨some 112, .mv (.t 15), none⟩,
    ⟨some 113, .mv (.t 20), none⟩,
    ⟨some 114, .callO 24 [(.t 112), (.t 113)], none⟩,
    ⟨some 20, .asg (.t 114), none⟩] [0, 1, 2, 3, 10, 11, 12, 16, 17, 18, 19, 20])
  (.seq (.reg [⟨some 115, .mv (.t 16), none⟩,
    ⟨some 116, .mv (.t 20), none⟩,
    ⟨some 117, .callO 24 [(.t 115), (.t 116)], none⟩,
    ⟨some 20, .asg (.t 117), none⟩] [0, 1, 2, 3, 10, 11, 12, 17, 18, 19, 20])
  (.seq (.kp [0, 1, 2, 3, 10, 11, 12, 17] (.seq (.reg [⟨some 118, .mv (.t 20), none⟩,
    ⟨some 119, .bin .lss (.t 118) (.c (.int .i64 0)), none⟩,
    ⟨some 120, .mv (.t 119), none⟩,
    ⟨some 121, .mv (.t 17), some (120, false)⟩,
    ⟨some 122, .mv (.t 10), some (120, false)⟩,
    ⟨some 123, .call 19 [(.t 121), (.t 122)], some (120, false)⟩,
    ⟨some 124, .nt (.t 123), some (120, false)⟩,
    ⟨some 125, .pick (.t 120) (.c (.bool true)) (.t 124), none⟩,
    ⟨some 126, .mv (.t 125), none⟩,
    ⟨some 127, .mv (.t 18), some (126, false)⟩,
    ⟨some 128, .mv (.t 11), some (126, false)⟩,
    ⟨some 129, .bin .neq (.t 127) (.t 128), some (126, false)⟩,
    ⟨some 130, .pick (.t 126) (.c (.bool true)) (.t 129), none⟩,
    ⟨some 131, .mv (.t 130), none⟩,
    ⟨some 132, .mv (.t 19), some (131, false)⟩,
    ⟨some 133, .mv (.t 12), some (131, false)⟩,
    ⟨some 134, .eqb true (.t 132) (.t 133), some (131, false)⟩,
    ⟨some 135, .pick (.t 131) (.c (.bool true)) (.t 134), none⟩] [0, 1, 2, 3, 10, 11, 12, 17, 135])
  (.cond (.t 135) (.seq (.reg [⟨some 8, .asg (.c (.bool false)), none⟩] [8])
  (.ret)) (.skip))))
  (.seq (.reg [⟨some 21, .asg (.c (.int .i64 1)), none⟩] [0, 1, 2, 3, 10, 11, 12, 17, 21])
  (.seq (.reg [⟨some 136, .mv (.t 17), none⟩,
    ⟨some 137, .mv (.t 21), none⟩,
    ⟨some 138, .callO 24 [(.t 136), (.t 137)], none⟩,
    ⟨some 21, .asg (.t 138), none⟩] [0, 1, 2, 3, 10, 11, 12, 17, 21])
  (.seq (.reg [⟨some 22, .asg (.c (.int .i64 1)), none⟩] [0, 1, 2, 3, 10, 11, 12, 17, 21, 22])
  (.seq (.reg [⟨some 139, .mv (.t 17), none⟩,
    ⟨some 140, .mv (.t 22), none⟩,
    ⟨some 141, .call 25 [(.t 139), (.t 140)], none⟩,
    ⟨some 22, .asg (.t 141), none⟩] [0, 1, 2, 3, 10, 11, 12, 17, 21, 22])
  (.seq (.kp [0, 1, 2, 3, 10, 11, 12, 17, 21, 22] (.seq (.reg [⟨some 142, .mv (.t 22), none⟩,
    ⟨some 143, .bin .lss (.t 142) (.c (.int .i64 0)), none⟩] [0, 1, 2, 3, 10, 11, 12, 17, 21, 22, 143])
  (.cond (.t 143) (.seq (.reg [⟨some 8, .asg (.c (.bool false)), none⟩] [8])
  (.ret)) (.skip))))
  (.seq (.kp [0, 1, 2, 3, 10, 11, 12, 17, 21] (.seq (.reg [⟨some 144, .mv (.t 22), none⟩,
    ⟨some 145, .mv (.t 21), none⟩,
    ⟨some 146, .bin .neq (.t 144) (.t 145), none⟩] [0, 1, 2, 3, 10, 11, 12, 17, 21, 146])
  (.cond (.t 146) (.seq (.reg [⟨some 8, .asg (.c (.bool false)), none⟩] [8])
  (.ret)) (.skip))))
  (.seq (.reg [⟨some 148, .mv (.t 0), none⟩,
    ⟨some 149, .call 16 [(.t 148)], none⟩,
    ⟨some 150, .mv (.t 1), none⟩,
    ⟨some 151, .call 17 [(.t 150)], none⟩,
    ⟨some 152, .mv (.t 2), none⟩,
    ⟨some 153, .call 27 [(.t 152)], none⟩,
    ⟨some 154, .mv (.t 3), none⟩,
    ⟨some 155, .call 27 [(.t 154)], none⟩,
    ⟨some 156, .call 34 [(.t 149), (.t 151), (.t 153), (.t 155)], none⟩,
    ⟨some 147, .mvt 156, none⟩,
    ⟨some 157, .ext 147 0, none⟩,
    ⟨some 158, .ext 147 1, none⟩,
    ⟨some 159, .ext 147 2, none⟩,
    ⟨some 23, .asg (.t 157), none⟩,
    ⟨some 24, .asg (.t 158), none⟩,
    ⟨some 25, .asg (.t 159), none⟩] [10, 11, 12, 17, 21, 23, 24, 25])
  (.seq (.kp [17, 21] (.seq (.reg [⟨some 160, .mv (.t 23), none⟩,
    ⟨some 161, .mv (.t 10), none⟩,
    ⟨some 162, .call 19 [(.t 160), (.t 161)], none⟩,
    ⟨some 163, .nt (.t 162), none⟩,
    ⟨some 164, .mv (.t 163), none⟩,
    ⟨some 165, .mv (.t 24), some (164, false)⟩,
    ⟨some 166, .mv (.t 11), some (164, false)⟩,
    ⟨some 167, .bin .neq (.t 165) (.t 166), some (164, false)⟩,
    ⟨some 168, .pick (.t 164) (.c (.bool true)) (.t 167), none⟩,
    ⟨some 169, .mv (.t 168), none⟩,
    ⟨some 170, .mv (.t 25), some (169, false)⟩,
    ⟨some 171, .mv (.t 12), some (169, false)⟩,
    ⟨some 172, .eqb true (.t 170) (.t 171), some (169, false)⟩,
    ⟨some 173, .pick (.t 169) (.c (.bool true)) (.t 172), none⟩] [17, 21, 173])
  (.cond (.t 173) (.seq (.reg [⟨some 8, .asg (.c (.bool false)), none⟩] [8])
  (.ret)) (.skip))))
  (.seq (.reg [⟨some 22, .asg (.c (.int .i64 1)), none⟩] [17, 21, 22])
  (.seq (.reg [⟨some 174, .mv (.t 17), none⟩,
    ⟨some 175, .mv (.t 22), none⟩,
    ⟨some 176, .call 25 [(.t 174), (.t 175)], none⟩,
    ⟨some 22, .asg (.t 176), none⟩] [21, 22])
  (.seq (.kp [21, 22] (.seq (.reg [⟨some 177, .mv (.t 22), none⟩,
    ⟨some 178, .bin .lss (.t 177) (.c (.int .i64 0)), none⟩] [21, 22, 178])
  (.cond (.t 178) (.seq (.reg [⟨some 8, .asg (.c (.bool false)), none⟩] [8])
  (.ret)) (.skip))))
  (.seq (.kp [] (.seq (.reg [⟨some 179, .mv (.t 22), none⟩,
    ⟨some 180, .mv (.t 21), none⟩,
    ⟨some 181, .bin .neq (.t 179) (.t 180), none⟩] [181])
  (.cond (.t 181) (.seq (.reg [⟨some 8, .asg (.c (.bool false)), none⟩] [8])
  (.ret)) (.skip))))
  (.seq (.reg [⟨some 8, .asg (.c (.bool true)), none⟩] [8])
  (.ret))))))))))))))))))))))))))))))))))))))
theorem con_laws_FnExactCheapestChange {v0 : (List XVariable)} {v1 : (List XEdit)} {v2 : (List Int)} {v3 : (List Int)} {r : Bool} (h : sh_laws_FnExactCheapestChange v0 v1 v2 v3 = some r) : Con Try.prog 7 [(cLs (cXVariable cS cI) rfl).enc v0, (cLs (cXEdit (cLs cI rfl)) rfl).enc v1, (cLs cI rfl).enc v2, (cLs cI rfl).enc v3] [] (rs_laws_FnExactCheapestChange r) := by
  delta sh_laws_FnExactCheapestChange at h
  refine top (out := none) (f := Try.f7) (m := m7) (rs := [.t 8]) (by kernel_rfl) rfl (by kernel_rfl) (by kernel_rfl) (by kernel_rfl) (by kernel_rfl) (by kernel_rfl) ?_
  exact
   ini [(0, .d ((cLs (cXVariable cS cI) rfl).enc v0)), (1, .d ((cLs (cXEdit (cLs cI rfl)) rfl).enc v1)), (2, .d ((cLs cI rfl).enc v2)), (3, .d ((cLs cI rfl).enc v3))] rfl <| wpC_seq <| reg_s <| x_asg (sc cB false rfl) <| seqN [(0, .d ((cLs (cXVariable cS cI) rfl).enc v0)), (1, .d ((cLs (cXEdit (cLs cI rfl)) rfl).enc v1)), (2, .d ((cLs cI rfl).enc v2)), (3, .d ((cLs cI rfl).enc v3))] (by kernel_rfl) <|
    xn <| wpC_seq <| wpC_kp <| wpC_seq <| reg_s <| st rfl <| mvd rfl rfl <| stw rfl <| lens rfl fun l5 => st rfl <| b_gtr (k := .i64) rfl rfl <| seqN [(0, .d ((cLs (cXVariable cS cI) rfl).enc v0)), (1, .d ((cLs (cXEdit (cLs cI rfl)) rfl).enc v1)), (2, .d ((cLs cI rfl).enc v2)), (3, .d ((cLs cI rfl).enc v3)), (28, .d (cB.enc (decide ((1048576 : Int) < (v2.length : Int)))))] (by kernel_rfl) <|
    xn <| cnd rfl h (fun b6 h => wpC_seq <| reg_s <| x_asg (sc cB true rfl) <| seqN [(8, .d (cB.enc true))] (by kernel_rfl) <|
    xn <| wpC_ret <| rt <| rt <| re <| fin h (r1 (ss rfl rfl) <| r0) rfl)
    (fun b6 h => wpC_skip <| kpN [(0, .d ((cLs (cXVariable cS cI) rfl).enc v0)), (1, .d ((cLs (cXEdit (cLs cI rfl)) rfl).enc v1)), (2, .d ((cLs cI rfl).enc v2)), (3, .d ((cLs cI rfl).enc v3))] (by kernel_rfl) <| xn <| wpC_seq <| wpC_kp <| wpC_seq <| reg_s <| st rfl <| mvd rfl rfl <| stw rfl <| lens rfl fun l11 => st rfl <| b_gtr (k := .i64) rfl rfl <| seqN [(0, .d ((cLs (cXVariable cS cI) rfl).enc v0)), (1, .d ((cLs (cXEdit (cLs cI rfl)) rfl).enc v1)), (2, .d ((cLs cI rfl).enc v2)), (3, .d ((cLs cI rfl).enc v3)), (31, .d (cB.enc (decide ((1048576 : Int) < (v3.length : Int)))))] (by kernel_rfl) <|
    xn <| cnd rfl h (fun b12 h => wpC_seq <| reg_s <| x_asg (sc cB true rfl) <| seqN [(8, .d (cB.enc true))] (by kernel_rfl) <|
    xn <| wpC_ret <| rt <| rt <| re <| fin h (r1 (ss rfl rfl) <| r0) rfl)
    (fun b12 h => wpC_skip <| kpN [(0, .d ((cLs (cXVariable cS cI) rfl).enc v0)), (1, .d ((cLs (cXEdit (cLs cI rfl)) rfl).enc v1)), (2, .d ((cLs cI rfl).enc v2)), (3, .d ((cLs cI rfl).enc v3))] (by kernel_rfl) <| xn <| wpC_seq <| reg_s <| x_asg (sc cI (1048576 : Int) rfl) <| seqN [(0, .d ((cLs (cXVariable cS cI) rfl).enc v0)), (1, .d ((cLs (cXEdit (cLs cI rfl)) rfl).enc v1)), (2, .d ((cLs cI rfl).enc v2)), (3, .d ((cLs cI rfl).enc v3)), (9, .d (cI.enc (1048576 : Int)))] (by kernel_rfl) <|
    xn <| wpC_seq <| reg_s <| st rfl <| mvd rfl rfl <| st rfl <| mvd rfl rfl <| bnd h fun x15 e16 h => st rfl <| o_call (a1 (c := (cLs (cXVariable cS cI) rfl)) (tLs (tXVariable tS tK)) rfl (a1 (c := cI) tK rfl a0)) (con_laws_szVariableS e16) (.inl (so1 sK so0)) <| x_asg (ss rfl rfl) <| seqN [(0, .d ((cLs (cXVariable cS cI) rfl).enc v0)), (1, .d ((cLs (cXEdit (cLs cI rfl)) rfl).enc v1)), (2, .d ((cLs cI rfl).enc v2)), (3, .d ((cLs cI rfl).enc v3)), (9, .d (cI.enc x15))] (by kernel_rfl) <|
    xn <| wpC_seq <| wpC_kp <| wpC_seq <| reg_s <| st rfl <| mvd rfl rfl <| st rfl <| b_lss (k := .i64) rfl rfl <| seqN [(0, .d ((cLs (cXVariable cS cI) rfl).enc v0)), (1, .d ((cLs (cXEdit (cLs cI rfl)) rfl).enc v1)), (2, .d ((cLs cI rfl).enc v2)), (3, .d ((cLs cI rfl).enc v3)), (9, .d (cI.enc x15)), (36, .d (cB.enc (decide (x15 < (0 : Int)))))] (by kernel_rfl) <|
    xn <| cnd rfl h (fun b18 h => wpC_seq <| reg_s <| x_asg (sc cB true rfl) <| seqN [(8, .d (cB.enc true))] (by kernel_rfl) <|
    xn <| wpC_ret <| rt <| rt <| re <| fin h (r1 (ss rfl rfl) <| r0) rfl)
    (fun b18 h => wpC_skip <| kpN [(0, .d ((cLs (cXVariable cS cI) rfl).enc v0)), (1, .d ((cLs (cXEdit (cLs cI rfl)) rfl).enc v1)), (2, .d ((cLs cI rfl).enc v2)), (3, .d ((cLs cI rfl).enc v3)), (9, .d (cI.enc x15))] (by kernel_rfl) <| xn <| wpC_seq <| reg_s <| st rfl <| mvd rfl rfl <| st rfl <| mvd rfl rfl <| bnd h fun x21 e22 h => st rfl <| o_call (a1 (c := (cLs (cXEdit (cLs cI rfl)) rfl)) (tLs (tXEdit (tLs tK))) rfl (a1 (c := cI) tK rfl a0)) (con_laws_szEditS e22) (.inl (so1 sK so0)) <| x_asg (ss rfl rfl) <| seqN [(0, .d ((cLs (cXVariable cS cI) rfl).enc v0)), (1, .d ((cLs (cXEdit (cLs cI rfl)) rfl).enc v1)), (2, .d ((cLs cI rfl).enc v2)), (3, .d ((cLs cI rfl).enc v3)), (9, .d (cI.enc x21))] (by kernel_rfl) <|
    xn <| wpC_seq <| wpC_kp <| wpC_seq <| reg_s <| st rfl <| mvd rfl rfl <| st rfl <| b_lss (k := .i64) rfl rfl <| seqN [(0, .d ((cLs (cXVariable cS cI) rfl).enc v0)), (1, .d ((cLs (cXEdit (cLs cI rfl)) rfl).enc v1)), (2, .d ((cLs cI rfl).enc v2)), (3, .d ((cLs cI rfl).enc v3)), (41, .d (cB.enc (decide (x21 < (0 : Int)))))] (by kernel_rfl) <|
    xn <| cnd rfl h (fun b24 h => wpC_seq <| reg_s <| x_asg (sc cB true rfl) <| seqN [(8, .d (cB.enc true))] (by kernel_rfl) <|
    xn <| wpC_ret <| rt <| rt <| re <| fin h (r1 (ss rfl rfl) <| r0) rfl)
    (fun b24 h => wpC_skip <| kpN [(0, .d ((cLs (cXVariable cS cI) rfl).enc v0)), (1, .d ((cLs (cXEdit (cLs cI rfl)) rfl).enc v1)), (2, .d ((cLs cI rfl).enc v2)), (3, .d ((cLs cI rfl).enc v3))] (by kernel_rfl) <| xn <| wpC_seq <| reg_s <| st rfl <| mvd rfl rfl <| bnd h fun x35 e36 h => st rfl <| o_call (a1 (c := (cLs (cXVariable cS cI) rfl)) (tLs (tXVariable tS tK)) rfl a0) (con_laws_toVariableS e36) (.inl (so1 (sLo (sXVariable sS sK)) so0)) <| st rfl <| mvd rfl rfl <| bnd h fun x37 e38 h => st rfl <| o_call (a1 (c := (cLs (cXEdit (cLs cI rfl)) rfl)) (tLs (tXEdit (tLs tK))) rfl a0) (con_laws_toEditS e38) (.inl (so1 (sLo (sXEdit (sLo sK))) so0)) <| st rfl <| mvd rfl rfl <| bnd h fun x39 e40 h => st rfl <| o_call (a1 (c := (cLs cI rfl)) (tLs tK) rfl a0) (con_laws_toIntS e40) (.inl (so1 (sLo sK) so0)) <| st rfl <| mvd rfl rfl <| bnd h fun x41 e42 h => st rfl <| o_call (a1 (c := (cLs cI rfl)) (tLs tK) rfl a0) (con_laws_toIntS e42) (.inl (so1 (sLo sK) so0)) <| bnd h fun x43 e44 h => st rfl <| o_call (a1 (c := (cLo (cXVariable cS cI))) (tLo (tXVariable tS tK)) rfl (a1 (c := (cLo (cXEdit (cLo cI)))) (tLo (tXEdit (tLo tK))) rfl (a1 (c := (cLo cI)) (tLo tK) rfl (a1 (c := (cLo cI)) (tLo tK) rfl a0)))) (con_spec_CheapestChange e44) (.inl (so1 (sLo sK) (so1 sK (so1 sB so0)))) <| x_mvt rfl <| x_ext rfl rfl <| x_ext rfl rfl <| x_ext rfl rfl <| x_asg (so rfl rfl) <| x_asg (ss rfl rfl) <| x_asg (ss rfl rfl) <| seqN [(0, .d ((cLs (cXVariable cS cI) rfl).enc v0)), (1, .d ((cLs (cXEdit (cLs cI rfl)) rfl).enc v1)), (2, .d ((cLs cI rfl).enc v2)), (3, .d ((cLs cI rfl).enc v3)), (10, .d ((cLo cI).enc x43.1)), (11, .d (cI.enc x43.2.1)), (12, .d (cB.enc x43.2.2))] (by kernel_rfl) <|
    xn <| wpC_seq <| reg_s <| st rfl <| mvd rfl rfl <| bnd h fun x47 e48 h => st rfl <| o_call (a1 (c := (cLs (cXVariable cS cI) rfl)) (tLs (tXVariable tS tK)) rfl a0) (con_laws_toVariableS e48) (.inl (so1 (sLo (sXVariable sS sK)) so0)) <| x_asg (so rfl rfl) <| seqN [(0, .d ((cLs (cXVariable cS cI) rfl).enc v0)), (1, .d ((cLs (cXEdit (cLs cI rfl)) rfl).enc v1)), (2, .d ((cLs cI rfl).enc v2)), (3, .d ((cLs cI rfl).enc v3)), (10, .d ((cLo cI).enc x43.1)), (11, .d (cI.enc x43.2.1)), (12, .d (cB.enc x43.2.2)), (13, .d ((cLo (cXVariable cS cI)).enc x47))] (by kernel_rfl) <|
    xn <| wpC_seq <| reg_s <| st rfl <| mvd rfl rfl <| bnd h fun x51 e52 h => st rfl <| o_call (a1 (c := (cLs (cXEdit (cLs cI rfl)) rfl)) (tLs (tXEdit (tLs tK))) rfl a0) (con_laws_toEditS e52) (.inl (so1 (sLo (sXEdit (sLo sK))) so0)) <| x_asg (so rfl rfl) <| seqN [(0, .d ((cLs (cXVariable cS cI) rfl).enc v0)), (1, .d ((cLs (cXEdit (cLs cI rfl)) rfl).enc v1)), (2, .d ((cLs cI rfl).enc v2)), (3, .d ((cLs cI rfl).enc v3)), (10, .d ((cLo cI).enc x43.1)), (11, .d (cI.enc x43.2.1)), (12, .d (cB.enc x43.2.2)), (13, .d ((cLo (cXVariable cS cI)).enc x47)), (14, .d ((cLo (cXEdit (cLo cI))).enc x51))] (by kernel_rfl) <|
    xn <| wpC_seq <| reg_s <| st rfl <| mvd rfl rfl <| bnd h fun x55 e56 h => st rfl <| o_call (a1 (c := (cLs cI rfl)) (tLs tK) rfl a0) (con_laws_toIntS e56) (.inl (so1 (sLo sK) so0)) <| x_asg (so rfl rfl) <| seqN [(0, .d ((cLs (cXVariable cS cI) rfl).enc v0)), (1, .d ((cLs (cXEdit (cLs cI rfl)) rfl).enc v1)), (2, .d ((cLs cI rfl).enc v2)), (3, .d ((cLs cI rfl).enc v3)), (10, .d ((cLo cI).enc x43.1)), (11, .d (cI.enc x43.2.1)), (12, .d (cB.enc x43.2.2)), (13, .d ((cLo (cXVariable cS cI)).enc x47)), (14, .d ((cLo (cXEdit (cLo cI))).enc x51)), (15, .d ((cLo cI).enc x55))] (by kernel_rfl) <|
    xn <| wpC_seq <| reg_s <| st rfl <| mvd rfl rfl <| bnd h fun x59 e60 h => st rfl <| o_call (a1 (c := (cLs cI rfl)) (tLs tK) rfl a0) (con_laws_toIntS e60) (.inl (so1 (sLo sK) so0)) <| x_asg (so rfl rfl) <| seqN [(0, .d ((cLs (cXVariable cS cI) rfl).enc v0)), (1, .d ((cLs (cXEdit (cLs cI rfl)) rfl).enc v1)), (2, .d ((cLs cI rfl).enc v2)), (3, .d ((cLs cI rfl).enc v3)), (10, .d ((cLo cI).enc x43.1)), (11, .d (cI.enc x43.2.1)), (12, .d (cB.enc x43.2.2)), (13, .d ((cLo (cXVariable cS cI)).enc x47)), (14, .d ((cLo (cXEdit (cLo cI))).enc x51)), (15, .d ((cLo cI).enc x55)), (16, .d ((cLo cI).enc x59))] (by kernel_rfl) <|
    xn <| wpC_seq <| reg_s <| st rfl <| mvo rfl rfl <| st rfl <| mvo rfl rfl <| st rfl <| mvo rfl rfl <| st rfl <| mvo rfl rfl <| bnd h fun x63 e64 h => st rfl <| o_call (a1 (c := (cLo (cXVariable cS cI))) (tLo (tXVariable tS tK)) rfl (a1 (c := (cLo (cXEdit (cLo cI)))) (tLo (tXEdit (tLo tK))) rfl (a1 (c := (cLo cI)) (tLo tK) rfl (a1 (c := (cLo cI)) (tLo tK) rfl a0)))) (con_impl_CheapestChange e64) (.inl (so1 (sLo sK) (so1 sK (so1 sB so0)))) <| x_mvt rfl <| x_ext rfl rfl <| x_ext rfl rfl <| x_ext rfl rfl <| x_asg (so rfl rfl) <| x_asg (ss rfl rfl) <| x_asg (ss rfl rfl) <| seqN [(0, .d ((cLs (cXVariable cS cI) rfl).enc v0)), (1, .d ((cLs (cXEdit (cLs cI rfl)) rfl).enc v1)), (2, .d ((cLs cI rfl).enc v2)), (3, .d ((cLs cI rfl).enc v3)), (10, .d ((cLo cI).enc x43.1)), (11, .d (cI.enc x43.2.1)), (12, .d (cB.enc x43.2.2)), (13, .d ((cLo (cXVariable cS cI)).enc x47)), (14, .d ((cLo (cXEdit (cLo cI))).enc x51)), (15, .d ((cLo cI).enc x55)), (16, .d ((cLo cI).enc x59)), (17, .d ((cLo cI).enc x63.1)), (18, .d (cI.enc x63.2.1)), (19, .d (cB.enc x63.2.2))] (by kernel_rfl) <|
    xn <| wpC_seq <| wpC_kp <| wpC_seq <| reg_s <| st rfl <| mvo rfl rfl <| st rfl <| mvo rfl rfl <| bnd h fun x78 e79 h => st rfl <| o_call (a1 (c := (cLo cI)) (tLo tK) rfl (a1 (c := (cLo cI)) (tLo tK) rfl a0)) (con_laws_eqIntS e79) (.inl (so1 sB so0)) <| st rfl <| o_nt rfl <| st rfl <| mvd rfl rfl <| ite_k h (fun b80 h => gf rfl b80 <| gf rfl b80 <| gf rfl b80 <| st rfl <| pick1 rfl b80 (cd := cB) (v := true) rfl rfl <| st rfl <| mvd rfl rfl <| gf rfl rfl <| gf rfl rfl <| gf rfl rfl <| st rfl <| pick1 rfl rfl (cd := cB) (v := true) rfl rfl <| seqN [(0, .d ((cLs (cXVariable cS cI) rfl).enc v0)), (1, .d ((cLs (cXEdit (cLs cI rfl)) rfl).enc v1)), (2, .d ((cLs cI rfl).enc v2)), (3, .d ((cLs cI rfl).enc v3)), (10, .d ((cLo cI).enc x43.1)), (11, .d (cI.enc x43.2.1)), (12, .d (cB.enc x43.2.2)), (13, .d ((cLo (cXVariable cS cI)).enc x47)), (14, .d ((cLo (cXEdit (cLo cI))).enc x51)), (15, .d ((cLo cI).enc x55)), (16, .d ((cLo cI).enc x59)), (17, .d ((cLo cI).enc x63.1)), (18, .d (cI.enc x63.2.1)), (19, .d (cB.enc x63.2.2)), (85, .d (cB.enc true))] (by kernel_rfl) <|
    xn <| cnd1 rfl rfl <| wpC_seq <| reg_s <| x_asg (sc cB false rfl) <| seqN [(8, .d (cB.enc false))] (by kernel_rfl) <|
    xn <| wpC_ret <| rt <| rt <| re <| fin h (r1 (ss rfl rfl) <| r0) rfl)
    (fun b80 h => gt' rfl b80 <| st rfl <| mvd rfl rfl <| gt' rfl b80 <| st rfl <| mvd rfl rfl <| gt' rfl b80 <| st rfl <| b_neq (k := .i64) rfl rfl <| st rfl <| pick0 rfl b80 (cd := cB) (v := (decide (x63.2.1 ≠ x43.2.1))) rfl rfl <| st rfl <| mvd rfl rfl <| ite_k h (fun b81 h => gf rfl b81 <| gf rfl b81 <| gf rfl b81 <| st rfl <| pick1 rfl b81 (cd := cB) (v := true) rfl rfl <| seqN [(0, .d ((cLs (cXVariable cS cI) rfl).enc v0)), (1, .d ((cLs (cXEdit (cLs cI rfl)) rfl).enc v1)), (2, .d ((cLs cI rfl).enc v2)), (3, .d ((cLs cI rfl).enc v3)), (10, .d ((cLo cI).enc x43.1)), (11, .d (cI.enc x43.2.1)), (12, .d (cB.enc x43.2.2)), (13, .d ((cLo (cXVariable cS cI)).enc x47)), (14, .d ((cLo (cXEdit (cLo cI))).enc x51)), (15, .d ((cLo cI).enc x55)), (16, .d ((cLo cI).enc x59)), (17, .d ((cLo cI).enc x63.1)), (18, .d (cI.enc x63.2.1)), (19, .d (cB.enc x63.2.2)), (85, .d (cB.enc true))] (by kernel_rfl) <|
    xn <| cnd1 rfl rfl <| wpC_seq <| reg_s <| x_asg (sc cB false rfl) <| seqN [(8, .d (cB.enc false))] (by kernel_rfl) <|
    xn <| wpC_ret <| rt <| rt <| re <| fin h (r1 (ss rfl rfl) <| r0) rfl)
    (fun b81 h => gt' rfl b81 <| st rfl <| mvd rfl rfl <| gt' rfl b81 <| st rfl <| mvd rfl rfl <| gt' rfl b81 <| st rfl <| eqb1 rfl rfl <| st rfl <| pick0 rfl b81 (cd := cB) (v := (x63.2.2 != x43.2.2)) rfl rfl <| seqN [(0, .d ((cLs (cXVariable cS cI) rfl).enc v0)), (1, .d ((cLs (cXEdit (cLs cI rfl)) rfl).enc v1)), (2, .d ((cLs cI rfl).enc v2)), (3, .d ((cLs cI rfl).enc v3)), (10, .d ((cLo cI).enc x43.1)), (11, .d (cI.enc x43.2.1)), (12, .d (cB.enc x43.2.2)), (13, .d ((cLo (cXVariable cS cI)).enc x47)), (14, .d ((cLo (cXEdit (cLo cI))).enc x51)), (15, .d ((cLo cI).enc x55)), (16, .d ((cLo cI).enc x59)), (17, .d ((cLo cI).enc x63.1)), (18, .d (cI.enc x63.2.1)), (19, .d (cB.enc x63.2.2)), (85, .d (cB.enc (x63.2.2 != x43.2.2)))] (by kernel_rfl) <|
    xn <| cnd rfl h (fun b82 h => wpC_seq <| reg_s <| x_asg (sc cB false rfl) <| seqN [(8, .d (cB.enc false))] (by kernel_rfl) <|
    xn <| wpC_ret <| rt <| rt <| re <| fin h (r1 (ss rfl rfl) <| r0) rfl)
    (fun b82 h => wpC_skip <| kpN [(0, .d ((cLs (cXVariable cS cI) rfl).enc v0)), (1, .d ((cLs (cXEdit (cLs cI rfl)) rfl).enc v1)), (2, .d ((cLs cI rfl).enc v2)), (3, .d ((cLs cI rfl).enc v3)), (10, .d ((cLo cI).enc x43.1)), (11, .d (cI.enc x43.2.1)), (12, .d (cB.enc x43.2.2)), (13, .d ((cLo (cXVariable cS cI)).enc x47)), (14, .d ((cLo (cXEdit (cLo cI))).enc x51)), (15, .d ((cLo cI).enc x55)), (16, .d ((cLo cI).enc x59)), (17, .d ((cLo cI).enc x63.1)), (18, .d (cI.enc x63.2.1)), (19, .d (cB.enc x63.2.2))] (by kernel_rfl) <| xn <| wpC_seq <| wpC_kp <| wpC_seq <| reg_s <| st rfl <| mvo rfl rfl <| st rfl <| mvd rfl rfl <| bnd h fun x96 e97 h => st rfl <| o_call (a1 (c := (cLs (cXVariable cS cI) rfl)) (tLs (tXVariable tS tK)) rfl a0) (con_laws_toVariableS e97) (.inl (so1 (sLo (sXVariable sS sK)) so0)) <| bnd h fun x98 e99 h => st rfl <| o_call (a1 (c := (cLo (cXVariable cS cI))) (tLo (tXVariable tS tK)) rfl (a1 (c := (cLo (cXVariable cS cI))) (tLo (tXVariable tS tK)) rfl a0)) (con_laws_eqVariableS e99) (.inl (so1 sB so0)) <| st rfl <| o_nt rfl <| seqN [(0, .d ((cLs (cXVariable cS cI) rfl).enc v0)), (1, .d ((cLs (cXEdit (cLs cI rfl)) rfl).enc v1)), (2, .d ((cLs cI rfl).enc v2)), (3, .d ((cLs cI rfl).enc v3)), (10, .d ((cLo cI).enc x43.1)), (11, .d (cI.enc x43.2.1)), (12, .d (cB.enc x43.2.2)), (13, .d ((cLo (cXVariable cS cI)).enc x47)), (14, .d ((cLo (cXEdit (cLo cI))).enc x51)), (15, .d ((cLo cI).enc x55)), (16, .d ((cLo cI).enc x59)), (17, .d ((cLo cI).enc x63.1)), (18, .d (cI.enc x63.2.1)), (19, .d (cB.enc x63.2.2)), (90, .d (cB.enc (!x98)))] (by kernel_rfl) <|
    xn <| cnd rfl h (fun b100 h => wpC_seq <| reg_s <| x_asg (sc cB false rfl) <| seqN [(8, .d (cB.enc false))] (by kernel_rfl) <|
    xn <| wpC_ret <| rt <| rt <| re <| fin h (r1 (ss rfl rfl) <| r0) rfl)
    (fun b100 h => wpC_skip <| kpN [(0, .d ((cLs (cXVariable cS cI) rfl).enc v0)), (1, .d ((cLs (cXEdit (cLs cI rfl)) rfl).enc v1)), (2, .d ((cLs cI rfl).enc v2)), (3, .d ((cLs cI rfl).enc v3)), (10, .d ((cLo cI).enc x43.1)), (11, .d (cI.enc x43.2.1)), (12, .d (cB.enc x43.2.2)), (13, .d ((cLo (cXVariable cS cI)).enc x47)), (14, .d ((cLo (cXEdit (cLo cI))).enc x51)), (15, .d ((cLo cI).enc x55)), (16, .d ((cLo cI).enc x59)), (17, .d ((cLo cI).enc x63.1)), (18, .d (cI.enc x63.2.1)), (19, .d (cB.enc x63.2.2))] (by kernel_rfl) <| xn <| wpC_seq <| wpC_kp <| wpC_seq <| reg_s <| st rfl <| mvo rfl rfl <| st rfl <| mvd rfl rfl <| bnd h fun x114 e115 h => st rfl <| o_call (a1 (c := (cLs (cXEdit (cLs cI rfl)) rfl)) (tLs (tXEdit (tLs tK))) rfl a0) (con_laws_toEditS e115) (.inl (so1 (sLo (sXEdit (sLo sK))) so0)) <| bnd h fun x116 e117 h => st rfl <| o_call (a1 (c := (cLo (cXEdit (cLo cI)))) (tLo (tXEdit (tLo tK))) rfl (a1 (c := (cLo (cXEdit (cLo cI)))) (tLo (tXEdit (tLo tK))) rfl a0)) (con_laws_eqEditS e117) (.inl (so1 sB so0)) <| st rfl <| o_nt rfl <| seqN [(0, .d ((cLs (cXVariable cS cI) rfl).enc v0)), (1, .d ((cLs (cXEdit (cLs cI rfl)) rfl).enc v1)), (2, .d ((cLs cI rfl).enc v2)), (3, .d ((cLs cI rfl).enc v3)), (10, .d ((cLo cI).enc x43.1)), (11, .d (cI.enc x43.2.1)), (12, .d (cB.enc x43.2.2)), (13, .d ((cLo (cXVariable cS cI)).enc x47)), (14, .d ((cLo (cXEdit (cLo cI))).enc x51)), (15, .d ((cLo cI).enc x55)), (16, .d ((cLo cI).enc x59)), (17, .d ((cLo cI).enc x63.1)), (18, .d (cI.enc x63.2.1)), (19, .d (cB.enc x63.2.2)), (95, .d (cB.enc (!x116)))] (by kernel_rfl) <|
    xn <| cnd rfl h (fun b118 h => wpC_seq <| reg_s <| x_asg (sc cB false rfl) <| seqN [(8, .d (cB.enc false))] (by kernel_rfl) <|
    xn <| wpC_ret <| rt <| rt <| re <| fin h (r1 (ss rfl rfl) <| r0) rfl)
    (fun b118 h => wpC_skip <| kpN [(0, .d ((cLs (cXVariable cS cI) rfl).enc v0)), (1, .d ((cLs (cXEdit (cLs cI rfl)) rfl).enc v1)), (2, .d ((cLs cI rfl).enc v2)), (3, .d ((cLs cI rfl).enc v3)), (10, .d ((cLo cI).enc x43.1)), (11, .d (cI.enc x43.2.1)), (12, .d (cB.enc x43.2.2)), (13, .d ((cLo (cXVariable cS cI)).enc x47)), (14, .d ((cLo (cXEdit (cLo cI))).enc x51)), (15, .d ((cLo cI).enc x55)), (16, .d ((cLo cI).enc x59)), (17, .d ((cLo cI).enc x63.1)), (18, .d (cI.enc x63.2.1)), (19, .d (cB.enc x63.2.2))] (by kernel_rfl) <| xn <| wpC_seq <| wpC_kp <| wpC_seq <| reg_s <| st rfl <| mvo rfl rfl <| st rfl <| mvd rfl rfl <| bnd h fun x132 e133 h => st rfl <| o_call (a1 (c := (cLs cI rfl)) (tLs tK) rfl a0) (con_laws_toIntS e133) (.inl (so1 (sLo sK) so0)) <| bnd h fun x134 e135 h => st rfl <| o_call (a1 (c := (cLo cI)) (tLo tK) rfl (a1 (c := (cLo cI)) (tLo tK) rfl a0)) (con_laws_eqIntS e135) (.inl (so1 sB so0)) <| st rfl <| o_nt rfl <| seqN [(0, .d ((cLs (cXVariable cS cI) rfl).enc v0)), (1, .d ((cLs (cXEdit (cLs cI rfl)) rfl).enc v1)), (2, .d ((cLs cI rfl).enc v2)), (3, .d ((cLs cI rfl).enc v3)), (10, .d ((cLo cI).enc x43.1)), (11, .d (cI.enc x43.2.1)), (12, .d (cB.enc x43.2.2)), (13, .d ((cLo (cXVariable cS cI)).enc x47)), (14, .d ((cLo (cXEdit (cLo cI))).enc x51)), (15, .d ((cLo cI).enc x55)), (16, .d ((cLo cI).enc x59)), (17, .d ((cLo cI).enc x63.1)), (18, .d (cI.enc x63.2.1)), (19, .d (cB.enc x63.2.2)), (100, .d (cB.enc (!x134)))] (by kernel_rfl) <|
    xn <| cnd rfl h (fun b136 h => wpC_seq <| reg_s <| x_asg (sc cB false rfl) <| seqN [(8, .d (cB.enc false))] (by kernel_rfl) <|
    xn <| wpC_ret <| rt <| rt <| re <| fin h (r1 (ss rfl rfl) <| r0) rfl)
    (fun b136 h => wpC_skip <| kpN [(0, .d ((cLs (cXVariable cS cI) rfl).enc v0)), (1, .d ((cLs (cXEdit (cLs cI rfl)) rfl).enc v1)), (2, .d ((cLs cI rfl).enc v2)), (3, .d ((cLs cI rfl).enc v3)), (10, .d ((cLo cI).enc x43.1)), (11, .d (cI.enc x43.2.1)), (12, .d (cB.enc x43.2.2)), (13, .d ((cLo (cXVariable cS cI)).enc x47)), (14, .d ((cLo (cXEdit (cLo cI))).enc x51)), (15, .d ((cLo cI).enc x55)), (16, .d ((cLo cI).enc x59)), (17, .d ((cLo cI).enc x63.1)), (18, .d (cI.enc x63.2.1)), (19, .d (cB.enc x63.2.2))] (by kernel_rfl) <| xn <| wpC_seq <| wpC_kp <| wpC_seq <| reg_s <| st rfl <| mvo rfl rfl <| st rfl <| mvd rfl rfl <| bnd h fun x150 e151 h => st rfl <| o_call (a1 (c := (cLs cI rfl)) (tLs tK) rfl a0) (con_laws_toIntS e151) (.inl (so1 (sLo sK) so0)) <| bnd h fun x152 e153 h => st rfl <| o_call (a1 (c := (cLo cI)) (tLo tK) rfl (a1 (c := (cLo cI)) (tLo tK) rfl a0)) (con_laws_eqIntS e153) (.inl (so1 sB so0)) <| st rfl <| o_nt rfl <| seqN [(0, .d ((cLs (cXVariable cS cI) rfl).enc v0)), (1, .d ((cLs (cXEdit (cLs cI rfl)) rfl).enc v1)), (2, .d ((cLs cI rfl).enc v2)), (3, .d ((cLs cI rfl).enc v3)), (10, .d ((cLo cI).enc x43.1)), (11, .d (cI.enc x43.2.1)), (12, .d (cB.enc x43.2.2)), (13, .d ((cLo (cXVariable cS cI)).enc x47)), (14, .d ((cLo (cXEdit (cLo cI))).enc x51)), (15, .d ((cLo cI).enc x55)), (16, .d ((cLo cI).enc x59)), (17, .d ((cLo cI).enc x63.1)), (18, .d (cI.enc x63.2.1)), (19, .d (cB.enc x63.2.2)), (105, .d (cB.enc (!x152)))] (by kernel_rfl) <|
    xn <| cnd rfl h (fun b154 h => wpC_seq <| reg_s <| x_asg (sc cB false rfl) <| seqN [(8, .d (cB.enc false))] (by kernel_rfl) <|
    xn <| wpC_ret <| rt <| rt <| re <| fin h (r1 (ss rfl rfl) <| r0) rfl)
    (fun b154 h => wpC_skip <| kpN [(0, .d ((cLs (cXVariable cS cI) rfl).enc v0)), (1, .d ((cLs (cXEdit (cLs cI rfl)) rfl).enc v1)), (2, .d ((cLs cI rfl).enc v2)), (3, .d ((cLs cI rfl).enc v3)), (10, .d ((cLo cI).enc x43.1)), (11, .d (cI.enc x43.2.1)), (12, .d (cB.enc x43.2.2)), (13, .d ((cLo (cXVariable cS cI)).enc x47)), (14, .d ((cLo (cXEdit (cLo cI))).enc x51)), (15, .d ((cLo cI).enc x55)), (16, .d ((cLo cI).enc x59)), (17, .d ((cLo cI).enc x63.1)), (18, .d (cI.enc x63.2.1)), (19, .d (cB.enc x63.2.2))] (by kernel_rfl) <| xn <| wpC_seq <| reg_s <| x_asg (sc cI (1 : Int) rfl) <| seqN [(0, .d ((cLs (cXVariable cS cI) rfl).enc v0)), (1, .d ((cLs (cXEdit (cLs cI rfl)) rfl).enc v1)), (2, .d ((cLs cI rfl).enc v2)), (3, .d ((cLs cI rfl).enc v3)), (10, .d ((cLo cI).enc x43.1)), (11, .d (cI.enc x43.2.1)), (12, .d (cB.enc x43.2.2)), (13, .d ((cLo (cXVariable cS cI)).enc x47)), (14, .d ((cLo (cXEdit (cLo cI))).enc x51)), (15, .d ((cLo cI).enc x55)), (16, .d ((cLo cI).enc x59)), (17, .d ((cLo cI).enc x63.1)), (18, .d (cI.enc x63.2.1)), (19, .d (cB.enc x63.2.2)), (20, .d (cI.enc (1 : Int)))] (by kernel_rfl) <|
    xn <| wpC_seq <| reg_s <| st rfl <| mvo rfl rfl <| st rfl <| mvd rfl rfl <| bnd h fun x157 e158 h => x_clr (c := (cLo (cXVariable cS cI))) (c' := (cLo (cXVariable cS cI))) ((cLo (cXVariable cS cI)).enc x157.1) (sLo (sXVariable sS sK)) rfl (a1 (c := cI) tK rfl a0) rfl Ln.nil (con_laws_markVariableS e158) rfl rfl (so1 sK so0) <| x_asg (ss rfl rfl) <| seqN [(0, .d ((cLs (cXVariable cS cI) rfl).enc v0)), (1, .d ((cLs (cXEdit (cLs cI rfl)) rfl).enc v1)), (2, .d ((cLs cI rfl).enc v2)), (3, .d ((cLs cI rfl).enc v3)), (10, .d ((cLo cI).enc x43.1)), (11, .d (cI.enc x43.2.1)), (12, .d (cB.enc x43.2.2)), (14, .d ((cLo (cXEdit (cLo cI))).enc x51)), (15, .d ((cLo cI).enc x55)), (16, .d ((cLo cI).enc x59)), (17, .d ((cLo cI).enc x63.1)), (18, .d (cI.enc x63.2.1)), (19, .d (cB.enc x63.2.2)), (20, .d (cI.enc x157.2))] (by kernel_rfl) <|
    xn <| wpC_seq <| reg_s <| st rfl <| mvo rfl rfl <| st rfl <| mvd rfl rfl <| bnd h fun x161 e162 h => x_clr (c := (cLo (cXEdit (cLo cI)))) (c' := (cLo (cXEdit (cLo cI)))) ((cLo (cXEdit (cLo cI))).enc x161.1) (sLo (sXEdit (sLo sK))) rfl (a1 (c := cI) tK rfl a0) rfl Ln.nil (con_laws_markEditS e162) rfl rfl (so1 sK so0) <| x_asg (ss rfl rfl) <| seqN [(0, .d ((cLs (cXVariable cS cI) rfl).enc v0)), (1, .d ((cLs (cXEdit (cLs cI rfl)) rfl).enc v1)), (2, .d ((cLs cI rfl).enc v2)), (3, .d ((cLs cI rfl).enc v3)), (10, .d ((cLo cI).enc x43.1)), (11, .d (cI.enc x43.2.1)), (12, .d (cB.enc x43.2.2)), (15, .d ((cLo cI).enc x55)), (16, .d ((cLo cI).enc x59)), (17, .d ((cLo cI).enc x63.1)), (18, .d (cI.enc x63.2.1)), (19, .d (cB.enc x63.2.2)), (20, .d (cI.enc x161.2))] (by kernel_rfl) <|
    xn <| wpC_seq <| reg_s <| st rfl <| mvo rfl rfl <| st rfl <| mvd rfl rfl <| bnd h fun x165 e166 h => x_clr (c := (cLo cI)) (c' := (cLo cI)) ((cLo cI).enc x165.1) (sLo sK) rfl (a1 (c := cI) tK rfl a0) rfl Ln.nil (con_laws_markIntS e166) rfl rfl (so1 sK so0) <| x_asg (ss rfl rfl) <| seqN [(0, .d ((cLs (cXVariable cS cI) rfl).enc v0)), (1, .d ((cLs (cXEdit (cLs cI rfl)) rfl).enc v1)), (2, .d ((cLs cI rfl).enc v2)), (3, .d ((cLs cI rfl).enc v3)), (10, .d ((cLo cI).enc x43.1)), (11, .d (cI.enc x43.2.1)), (12, .d (cB.enc x43.2.2)), (16, .d ((cLo cI).enc x59)), (17, .d ((cLo cI).enc x63.1)), (18, .d (cI.enc x63.2.1)), (19, .d (cB.enc x63.2.2)), (20, .d (cI.enc x165.2))] (by kernel_rfl) <|
    xn <| wpC_seq <| reg_s <| st rfl <| mvo rfl rfl <| st rfl <| mvd rfl rfl <| bnd h fun x169 e170 h => x_clr (c := (cLo cI)) (c' := (cLo cI)) ((cLo cI).enc x169.1) (sLo sK) rfl (a1 (c := cI) tK rfl a0) rfl Ln.nil (con_laws_markIntS e170) rfl rfl (so1 sK so0) <| x_asg (ss rfl rfl) <| seqN [(0, .d ((cLs (cXVariable cS cI) rfl).enc v0)), (1, .d ((cLs (cXEdit (cLs cI rfl)) rfl).enc v1)), (2, .d ((cLs cI rfl).enc v2)), (3, .d ((cLs cI rfl).enc v3)), (10, .d ((cLo cI).enc x43.1)), (11, .d (cI.enc x43.2.1)), (12, .d (cB.enc x43.2.2)), (17, .d ((cLo cI).enc x63.1)), (18, .d (cI.enc x63.2.1)), (19, .d (cB.enc x63.2.2)), (20, .d (cI.enc x169.2))] (by kernel_rfl) <|
    xn <| wpC_seq <| wpC_kp <| wpC_seq <| reg_s <| st rfl <| mvd rfl rfl <| st rfl <| b_lss (k := .i64) rfl rfl <| st rfl <| mvd rfl rfl <| ite_k h (fun b183 h => gf rfl b183 <| gf rfl b183 <| gf rfl b183 <| gf rfl b183 <| st rfl <| pick1 rfl b183 (cd := cB) (v := true) rfl rfl <| st rfl <| mvd rfl rfl <| gf rfl rfl <| gf rfl rfl <| gf rfl rfl <| st rfl <| pick1 rfl rfl (cd := cB) (v := true) rfl rfl <| st rfl <| mvd rfl rfl <| gf rfl rfl <| gf rfl rfl <| gf rfl rfl <| st rfl <| pick1 rfl rfl (cd := cB) (v := true) rfl rfl <| seqN [(0, .d ((cLs (cXVariable cS cI) rfl).enc v0)), (1, .d ((cLs (cXEdit (cLs cI rfl)) rfl).enc v1)), (2, .d ((cLs cI rfl).enc v2)), (3, .d ((cLs cI rfl).enc v3)), (10, .d ((cLo cI).enc x43.1)), (11, .d (cI.enc x43.2.1)), (12, .d (cB.enc x43.2.2)), (17, .d ((cLo cI).enc x63.1)), (135, .d (cB.enc true))] (by kernel_rfl) <|
    xn <| cnd1 rfl rfl <| wpC_seq <| reg_s <| x_asg (sc cB false rfl) <| seqN [(8, .d (cB.enc false))] (by kernel_rfl) <|
    xn <| wpC_ret <| rt <| rt <| re <| fin h (r1 (ss rfl rfl) <| r0) rfl)
    (fun b183 h => gt' rfl b183 <| st rfl <| mvo rfl rfl <| gt' rfl b183 <| st rfl <| mvo rfl rfl <| gt' rfl b183 <| bnd h fun x184 e185 h => st rfl <| o_call (a1 (c := (cLo cI)) (tLo tK) rfl (a1 (c := (cLo cI)) (tLo tK) rfl a0)) (con_laws_eqIntS e185) (.inl (so1 sB so0)) <| gt' rfl b183 <| st rfl <| o_nt rfl <| st rfl <| pick0 rfl b183 (cd := cB) (v := (!x184)) rfl rfl <| st rfl <| mvd rfl rfl <| ite_k h (fun b186 h => gf rfl b186 <| gf rfl b186 <| gf rfl b186 <| st rfl <| pick1 rfl b186 (cd := cB) (v := true) rfl rfl <| st rfl <| mvd rfl rfl <| gf rfl rfl <| gf rfl rfl <| gf rfl rfl <| st rfl <| pick1 rfl rfl (cd := cB) (v := true) rfl rfl <| seqN [(0, .d ((cLs (cXVariable cS cI) rfl).enc v0)), (1, .d ((cLs (cXEdit (cLs cI rfl)) rfl).enc v1)), (2, .d ((cLs cI rfl).enc v2)), (3, .d ((cLs cI rfl).enc v3)), (10, .d ((cLo cI).enc x43.1)), (11, .d (cI.enc x43.2.1)), (12, .d (cB.enc x43.2.2)), (17, .d ((cLo cI).enc x63.1)), (135, .d (cB.enc true))] (by kernel_rfl) <|
    xn <| cnd1 rfl rfl <| wpC_seq <| reg_s <| x_asg (sc cB false rfl) <| seqN [(8, .d (cB.enc false))] (by kernel_rfl) <|
    xn <| wpC_ret <| rt <| rt <| re <| fin h (r1 (ss rfl rfl) <| r0) rfl)
    (fun b186 h => gt' rfl b186 <| st rfl <| mvd rfl rfl <| gt' rfl b186 <| st rfl <| mvd rfl rfl <| gt' rfl b186 <| st rfl <| b_neq (k := .i64) rfl rfl <| st rfl <| pick0 rfl b186 (cd := cB) (v := (decide (x63.2.1 ≠ x43.2.1))) rfl rfl <| st rfl <| mvd rfl rfl <| gt' rfl b81 <| st rfl <| mvd rfl rfl <| gt' rfl b81 <| st rfl <| mvd rfl rfl <| gt' rfl b81 <| st rfl <| eqb1 rfl rfl <| st rfl <| pick0 rfl b81 (cd := cB) (v := (x63.2.2 != x43.2.2)) rfl rfl <| seqN [(0, .d ((cLs (cXVariable cS cI) rfl).enc v0)), (1, .d ((cLs (cXEdit (cLs cI rfl)) rfl).enc v1)), (2, .d ((cLs cI rfl).enc v2)), (3, .d ((cLs cI rfl).enc v3)), (10, .d ((cLo cI).enc x43.1)), (11, .d (cI.enc x43.2.1)), (12, .d (cB.enc x43.2.2)), (17, .d ((cLo cI).enc x63.1)), (135, .d (cB.enc (x63.2.2 != x43.2.2)))] (by kernel_rfl) <|
    xn <| cnd0 rfl b82 <| wpC_skip <| kpN [(0, .d ((cLs (cXVariable cS cI) rfl).enc v0)), (1, .d ((cLs (cXEdit (cLs cI rfl)) rfl).enc v1)), (2, .d ((cLs cI rfl).enc v2)), (3, .d ((cLs cI rfl).enc v3)), (10, .d ((cLo cI).enc x43.1)), (11, .d (cI.enc x43.2.1)), (12, .d (cB.enc x43.2.2)), (17, .d ((cLo cI).enc x63.1))] (by kernel_rfl) <| xn <| wpC_seq <| reg_s <| x_asg (sc cI (1 : Int) rfl) <| seqN [(0, .d ((cLs (cXVariable cS cI) rfl).enc v0)), (1, .d ((cLs (cXEdit (cLs cI rfl)) rfl).enc v1)), (2, .d ((cLs cI rfl).enc v2)), (3, .d ((cLs cI rfl).enc v3)), (10, .d ((cLo cI).enc x43.1)), (11, .d (cI.enc x43.2.1)), (12, .d (cB.enc x43.2.2)), (17, .d ((cLo cI).enc x63.1)), (21, .d (cI.enc (1 : Int)))] (by kernel_rfl) <|
    xn <| wpC_seq <| reg_s <| st rfl <| mvo rfl rfl <| st rfl <| mvd rfl rfl <| bnd h fun x189 e190 h => x_clr (c := (cLo cI)) (c' := (cLo cI)) ((cLo cI).enc x189.1) (sLo sK) rfl (a1 (c := cI) tK rfl a0) rfl Ln.nil (con_laws_markIntS e190) rfl rfl (so1 sK so0) <| x_asg (ss rfl rfl) <| seqN [(0, .d ((cLs (cXVariable cS cI) rfl).enc v0)), (1, .d ((cLs (cXEdit (cLs cI rfl)) rfl).enc v1)), (2, .d ((cLs cI rfl).enc v2)), (3, .d ((cLs cI rfl).enc v3)), (10, .d ((cLo cI).enc x43.1)), (11, .d (cI.enc x43.2.1)), (12, .d (cB.enc x43.2.2)), (17, .d ((cLo cI).enc x189.1)), (21, .d (cI.enc x189.2))] (by kernel_rfl) <|
    xn <| wpC_seq <| reg_s <| x_asg (sc cI (1 : Int) rfl) <| seqN [(0, .d ((cLs (cXVariable cS cI) rfl).enc v0)), (1, .d ((cLs (cXEdit (cLs cI rfl)) rfl).enc v1)), (2, .d ((cLs cI rfl).enc v2)), (3, .d ((cLs cI rfl).enc v3)), (10, .d ((cLo cI).enc x43.1)), (11, .d (cI.enc x43.2.1)), (12, .d (cB.enc x43.2.2)), (17, .d ((cLo cI).enc x189.1)), (21, .d (cI.enc x189.2)), (22, .d (cI.enc (1 : Int)))] (by kernel_rfl) <|
    xn <| wpC_seq <| reg_s <| st rfl <| mvo rfl rfl <| st rfl <| mvd rfl rfl <| bnd h fun x193 e194 h => st rfl <| o_call (a1 (c := (cLo cI)) (tLo tK) rfl (a1 (c := cI) tK rfl a0)) (con_laws_heldIntS e194) (.inl (so1 sK so0)) <| x_asg (ss rfl rfl) <| seqN [(0, .d ((cLs (cXVariable cS cI) rfl).enc v0)), (1, .d ((cLs (cXEdit (cLs cI rfl)) rfl).enc v1)), (2, .d ((cLs cI rfl).enc v2)), (3, .d ((cLs cI rfl).enc v3)), (10, .d ((cLo cI).enc x43.1)), (11, .d (cI.enc x43.2.1)), (12, .d (cB.enc x43.2.2)), (17, .d ((cLo cI).enc x189.1)), (21, .d (cI.enc x189.2)), (22, .d (cI.enc x193))] (by kernel_rfl) <|
    xn <| wpC_seq <| wpC_kp <| wpC_seq <| reg_s <| st rfl <| mvd rfl rfl <| st rfl <| b_lss (k := .i64) rfl rfl <| seqN [(0, .d ((cLs (cXVariable cS cI) rfl).enc v0)), (1, .d ((cLs (cXEdit (cLs cI rfl)) rfl).enc v1)), (2, .d ((cLs cI rfl).enc v2)), (3, .d ((cLs cI rfl).enc v3)), (10, .d ((cLo cI).enc x43.1)), (11, .d (cI.enc x43.2.1)), (12, .d (cB.enc x43.2.2)), (17, .d ((cLo cI).enc x189.1)), (21, .d (cI.enc x189.2)), (22, .d (cI.enc x193)), (143, .d (cB.enc (decide (x193 < (0 : Int)))))] (by kernel_rfl) <|
    xn <| cnd rfl h (fun b196 h => wpC_seq <| reg_s <| x_asg (sc cB false rfl) <| seqN [(8, .d (cB.enc false))] (by kernel_rfl) <|
    xn <| wpC_ret <| rt <| rt <| re <| fin h (r1 (ss rfl rfl) <| r0) rfl)
    (fun b196 h => wpC_skip <| kpN [(0, .d ((cLs (cXVariable cS cI) rfl).enc v0)), (1, .d ((cLs (cXEdit (cLs cI rfl)) rfl).enc v1)), (2, .d ((cLs cI rfl).enc v2)), (3, .d ((cLs cI rfl).enc v3)), (10, .d ((cLo cI).enc x43.1)), (11, .d (cI.enc x43.2.1)), (12, .d (cB.enc x43.2.2)), (17, .d ((cLo cI).enc x189.1)), (21, .d (cI.enc x189.2)), (22, .d (cI.enc x193))] (by kernel_rfl) <| xn <| wpC_seq <| wpC_kp <| wpC_seq <| reg_s <| st rfl <| mvd rfl rfl <| st rfl <| mvd rfl rfl <| st rfl <| b_neq (k := .i64) rfl rfl <| seqN [(0, .d ((cLs (cXVariable cS cI) rfl).enc v0)), (1, .d ((cLs (cXEdit (cLs cI rfl)) rfl).enc v1)), (2, .d ((cLs cI rfl).enc v2)), (3, .d ((cLs cI rfl).enc v3)), (10, .d ((cLo cI).enc x43.1)), (11, .d (cI.enc x43.2.1)), (12, .d (cB.enc x43.2.2)), (17, .d ((cLo cI).enc x189.1)), (21, .d (cI.enc x189.2)), (146, .d (cB.enc (decide (x193 ≠ x189.2))))] (by kernel_rfl) <|
    xn <| cnd rfl h (fun b198 h => wpC_seq <| reg_s <| x_asg (sc cB false rfl) <| seqN [(8, .d (cB.enc false))] (by kernel_rfl) <|
    xn <| wpC_ret <| rt <| rt <| re <| fin h (r1 (ss rfl rfl) <| r0) rfl)
    (fun b198 h => wpC_skip <| kpN [(0, .d ((cLs (cXVariable cS cI) rfl).enc v0)), (1, .d ((cLs (cXEdit (cLs cI rfl)) rfl).enc v1)), (2, .d ((cLs cI rfl).enc v2)), (3, .d ((cLs cI rfl).enc v3)), (10, .d ((cLo cI).enc x43.1)), (11, .d (cI.enc x43.2.1)), (12, .d (cB.enc x43.2.2)), (17, .d ((cLo cI).enc x189.1)), (21, .d (cI.enc x189.2))] (by kernel_rfl) <| xn <| wpC_seq <| reg_s <| st rfl <| mvd rfl rfl <| bnd h fun x209 e210 h => st rfl <| o_call (a1 (c := (cLs (cXVariable cS cI) rfl)) (tLs (tXVariable tS tK)) rfl a0) (con_laws_toVariableS e210) (.inl (so1 (sLo (sXVariable sS sK)) so0)) <| st rfl <| mvd rfl rfl <| bnd h fun x211 e212 h => st rfl <| o_call (a1 (c := (cLs (cXEdit (cLs cI rfl)) rfl)) (tLs (tXEdit (tLs tK))) rfl a0) (con_laws_toEditS e212) (.inl (so1 (sLo (sXEdit (sLo sK))) so0)) <| st rfl <| mvd rfl rfl <| bnd h fun x213 e214 h => st rfl <| o_call (a1 (c := (cLs cI rfl)) (tLs tK) rfl a0) (con_laws_toIntS e214) (.inl (so1 (sLo sK) so0)) <| st rfl <| mvd rfl rfl <| bnd h fun x215 e216 h => st rfl <| o_call (a1 (c := (cLs cI rfl)) (tLs tK) rfl a0) (con_laws_toIntS e216) (.inl (so1 (sLo sK) so0)) <| bnd h fun x217 e218 h => st rfl <| o_call (a1 (c := (cLo (cXVariable cS cI))) (tLo (tXVariable tS tK)) rfl (a1 (c := (cLo (cXEdit (cLo cI)))) (tLo (tXEdit (tLo tK))) rfl (a1 (c := (cLo cI)) (tLo tK) rfl (a1 (c := (cLo cI)) (tLo tK) rfl a0)))) (con_impl_CheapestChange e218) (.inl (so1 (sLo sK) (so1 sK (so1 sB so0)))) <| x_mvt rfl <| x_ext rfl rfl <| x_ext rfl rfl <| x_ext rfl rfl <| x_asg (so rfl rfl) <| x_asg (ss rfl rfl) <| x_asg (ss rfl rfl) <| seqN [(10, .d ((cLo cI).enc x43.1)), (11, .d (cI.enc x43.2.1)), (12, .d (cB.enc x43.2.2)), (17, .d ((cLo cI).enc x189.1)), (21, .d (cI.enc x189.2)), (23, .d ((cLo cI).enc x217.1)), (24, .d (cI.enc x217.2.1)), (25, .d (cB.enc x217.2.2))] (by kernel_rfl) <|
    xn <| wpC_seq <| wpC_kp <| wpC_seq <| reg_s <| st rfl <| mvo rfl rfl <| st rfl <| mvo rfl rfl <| bnd h fun x232 e233 h => st rfl <| o_call (a1 (c := (cLo cI)) (tLo tK) rfl (a1 (c := (cLo cI)) (tLo tK) rfl a0)) (con_laws_eqIntS e233) (.inl (so1 sB so0)) <| st rfl <| o_nt rfl <| st rfl <| mvd rfl rfl <| ite_k h (fun b234 h => gf rfl b234 <| gf rfl b234 <| gf rfl b234 <| st rfl <| pick1 rfl b234 (cd := cB) (v := true) rfl rfl <| st rfl <| mvd rfl rfl <| gf rfl rfl <| gf rfl rfl <| gf rfl rfl <| st rfl <| pick1 rfl rfl (cd := cB) (v := true) rfl rfl <| seqN [(17, .d ((cLo cI).enc x189.1)), (21, .d (cI.enc x189.2)), (173, .d (cB.enc true))] (by kernel_rfl) <|
    xn <| cnd1 rfl rfl <| wpC_seq <| reg_s <| x_asg (sc cB false rfl) <| seqN [(8, .d (cB.enc false))] (by kernel_rfl) <|
    xn <| wpC_ret <| rt <| rt <| re <| fin h (r1 (ss rfl rfl) <| r0) rfl)
    (fun b234 h => gt' rfl b234 <| st rfl <| mvd rfl rfl <| gt' rfl b234 <| st rfl <| mvd rfl rfl <| gt' rfl b234 <| st rfl <| b_neq (k := .i64) rfl rfl <| st rfl <| pick0 rfl b234 (cd := cB) (v := (decide (x217.2.1 ≠ x43.2.1))) rfl rfl <| st rfl <| mvd rfl rfl <| ite_k h (fun b235 h => gf rfl b235 <| gf rfl b235 <| gf rfl b235 <| st rfl <| pick1 rfl b235 (cd := cB) (v := true) rfl rfl <| seqN [(17, .d ((cLo cI).enc x189.1)), (21, .d (cI.enc x189.2)), (173, .d (cB.enc true))] (by kernel_rfl) <|
    xn <| cnd1 rfl rfl <| wpC_seq <| reg_s <| x_asg (sc cB false rfl) <| seqN [(8, .d (cB.enc false))] (by kernel_rfl) <|
    xn <| wpC_ret <| rt <| rt <| re <| fin h (r1 (ss rfl rfl) <| r0) rfl)
    (fun b235 h => gt' rfl b235 <| st rfl <| mvd rfl rfl <| gt' rfl b235 <| st rfl <| mvd rfl rfl <| gt' rfl b235 <| st rfl <| eqb1 rfl rfl <| st rfl <| pick0 rfl b235 (cd := cB) (v := (x217.2.2 != x43.2.2)) rfl rfl <| seqN [(17, .d ((cLo cI).enc x189.1)), (21, .d (cI.enc x189.2)), (173, .d (cB.enc (x217.2.2 != x43.2.2)))] (by kernel_rfl) <|
    xn <| cnd rfl h (fun b236 h => wpC_seq <| reg_s <| x_asg (sc cB false rfl) <| seqN [(8, .d (cB.enc false))] (by kernel_rfl) <|
    xn <| wpC_ret <| rt <| rt <| re <| fin h (r1 (ss rfl rfl) <| r0) rfl)
    (fun b236 h => wpC_skip <| kpN [(17, .d ((cLo cI).enc x189.1)), (21, .d (cI.enc x189.2))] (by kernel_rfl) <| xn <| wpC_seq <| reg_s <| x_asg (sc cI (1 : Int) rfl) <| seqN [(17, .d ((cLo cI).enc x189.1)), (21, .d (cI.enc x189.2)), (22, .d (cI.enc (1 : Int)))] (by kernel_rfl) <|
    xn <| wpC_seq <| reg_s <| st rfl <| mvo rfl rfl <| st rfl <| mvd rfl rfl <| bnd h fun x239 e240 h => st rfl <| o_call (a1 (c := (cLo cI)) (tLo tK) rfl (a1 (c := cI) tK rfl a0)) (con_laws_heldIntS e240) (.inl (so1 sK so0)) <| x_asg (ss rfl rfl) <| seqN [(21, .d (cI.enc x189.2)), (22, .d (cI.enc x239))] (by kernel_rfl) <|
    xn <| wpC_seq <| wpC_kp <| wpC_seq <| reg_s <| st rfl <| mvd rfl rfl <| st rfl <| b_lss (k := .i64) rfl rfl <| seqN [(21, .d (cI.enc x189.2)), (22, .d (cI.enc x239)), (178, .d (cB.enc (decide (x239 < (0 : Int)))))] (by kernel_rfl) <|
    xn <| cnd rfl h (fun b242 h => wpC_seq <| reg_s <| x_asg (sc cB false rfl) <| seqN [(8, .d (cB.enc false))] (by kernel_rfl) <|
    xn <| wpC_ret <| rt <| rt <| re <| fin h (r1 (ss rfl rfl) <| r0) rfl)
    (fun b242 h => wpC_skip <| kpN [(21, .d (cI.enc x189.2)), (22, .d (cI.enc x239))] (by kernel_rfl) <| xn <| wpC_seq <| wpC_kp <| wpC_seq <| reg_s <| st rfl <| mvd rfl rfl <| st rfl <| mvd rfl rfl <| st rfl <| b_neq (k := .i64) rfl rfl <| seqN [(181, .d (cB.enc (decide (x239 ≠ x189.2))))] (by kernel_rfl) <|
    xn <| cnd rfl h (fun b244 h => wpC_seq <| reg_s <| x_asg (sc cB false rfl) <| seqN [(8, .d (cB.enc false))] (by kernel_rfl) <|
    xn <| wpC_ret <| rt <| rt <| re <| fin h (r1 (ss rfl rfl) <| r0) rfl)
    (fun b244 h => wpC_skip <| kpN [] (by kernel_rfl) <| xn <| wpC_seq <| reg_s <| x_asg (sc cB true rfl) <| seqN [(8, .d (cB.enc true))] (by kernel_rfl) <|
    xn <| wpC_ret <| re <| fin h (r1 (ss rfl rfl) <| r0) rfl))))))))))))))))))))
end AS.W
