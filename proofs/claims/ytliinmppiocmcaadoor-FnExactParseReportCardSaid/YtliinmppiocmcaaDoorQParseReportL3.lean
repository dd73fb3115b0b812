/- The program computes the plain functions. No condition. -/
import Derived.Test.YtliinmppiocmcaaDoorQParseReportS
import Derived.Test.YtliinmppiocmcaaDoorProg
import Derived.Test.YtliinmppiocmcaaDoorQParseReportX
import Derived.Test.YtliinmppiocmcaaDoorQParseReportL2
set_option maxRecDepth 100000
set_option linter.unusedVariables false
set_option linter.unusedSimpArgs false
namespace AS.W
open Go Go.Proofs
def rs_laws_FnExactParseReport (r : Bool) : List D := [cB.enc r]
def m7 : MC := .seq (.reg [⟨some 4, .box (.t 0), none⟩,
    ⟨some 6, .box (.t 2), none⟩,
    ⟨some 8, .asg (.c (.bool false)), none⟩] [1, 3, 4, 6])
  (.seq (.kp [1, 3, 4, 6] (.seq (.reg [⟨some 22, .mv (.t 3), none⟩,
    ⟨some 23, .len true (.t 22), none⟩,
    ⟨some 24, .bin .gtr (.t 23) (.c (.int .i64 1048576)), none⟩] [1, 3, 4, 6, 24])
  (.cond (.t 24) (.seq (.reg [⟨some 8, .asg (.c (.bool true)), none⟩] [8])
  (.ret)) (.skip))))
  (.seq (.reg [⟨some 9, .asg (.c (.int .i64 1048576)), none⟩] [1, 3, 4, 6, 9])
  (.seq (.reg [⟨some 25, .ld 4 1 true, none⟩,
    ⟨some 26, .mv (.t 9), none⟩,
    ⟨some 27, .call 9 [(.t 25), (.t 26)], none⟩,
    ⟨some 9, .asg (.t 27), none⟩] [1, 3, 4, 6, 9])
  (.seq (.kp [1, 3, 4, 6, 9] (.seq (.reg [⟨some 28, .mv (.t 9), none⟩,
    ⟨some 29, .bin .lss (.t 28) (.c (.int .i64 0)), none⟩] [1, 3, 4, 6, 9, 29])
  (.cond (.t 29) (.seq (.reg [⟨some 8, .asg (.c (.bool true)), none⟩] [8])
  (.ret)) (.skip))))
  (.seq (.reg [⟨some 30, .mv (.t 1), none⟩,
    ⟨some 31, .mv (.t 9), none⟩,
    ⟨some 32, .call 10 [(.t 30), (.t 31)], none⟩,
    ⟨some 9, .asg (.t 32), none⟩] [1, 3, 4, 6, 9])
  (.seq (.kp [1, 3, 4, 6, 9] (.seq (.reg [⟨some 33, .mv (.t 9), none⟩,
    ⟨some 34, .bin .lss (.t 33) (.c (.int .i64 0)), none⟩] [1, 3, 4, 6, 9, 34])
  (.cond (.t 34) (.seq (.reg [⟨some 8, .asg (.c (.bool true)), none⟩] [8])
  (.ret)) (.skip))))
  (.seq (.reg [⟨some 35, .ld 6 4 true, none⟩,
    ⟨some 36, .mv (.t 9), none⟩,
    ⟨some 37, .call 11 [(.t 35), (.t 36)], none⟩,
    ⟨some 9, .asg (.t 37), none⟩] [1, 3, 4, 6, 9])
  (.seq (.kp [1, 3, 4, 6] (.seq (.reg [⟨some 38, .mv (.t 9), none⟩,
    ⟨some 39, .bin .lss (.t 38) (.c (.int .i64 0)), none⟩] [1, 3, 4, 6, 39])
  (.cond (.t 39) (.seq (.reg [⟨some 8, .asg (.c (.bool true)), none⟩] [8])
  (.ret)) (.skip))))
  (.seq (.drg [⟨0, ⟨some 41, .ld 4 1 true, none⟩, [42, 43, 44, 45, 46, 47, 48]⟩,
    ⟨1, ⟨some 42, .call 13 [(.t 41)], none⟩, [43, 44, 45, 46, 47, 48]⟩,
    ⟨2, ⟨some 43, .mv (.t 1), none⟩, [41, 42, 44, 45, 46, 47, 48]⟩,
    ⟨3, ⟨some 44, .call 14 [(.t 43)], none⟩, [45, 46, 47, 48]⟩,
    ⟨4, ⟨some 45, .ld 6 4 true, none⟩, [41, 42, 43, 44, 46, 47, 48]⟩,
    ⟨5, ⟨some 46, .call 15 [(.t 45)], none⟩, [47, 48]⟩,
    ⟨6, ⟨some 47, .mv (.t 3), none⟩, [41, 42, 43, 44, 45, 46, 48]⟩,
    ⟨7, ⟨some 48, .call 31 [(.t 42), (.t 44), (.t 46), (.t 47)], none⟩, []⟩]
    [(8, ⟨some 40, .mvt 48, none⟩),
    (9, ⟨some 49, .ext 40 0, none⟩),
    (10, ⟨some 50, .ext 40 1, none⟩),
    (11, ⟨some 10, .asg (.t 49), none⟩),
    (12, ⟨some 11, .asg (.t 50), none⟩)] [1, 3, 4, 6, 10, 11] [10, 11, 40, 48, 49, 50, 1, 3, 4, 6] [([false, false, false, false, false], 0), ([true, false, false, false, false], 1), ([true, false, false, false, false], 2), ([true, true, false, false, false], 2), ([true, true, false, false, false], 3), ([true, false, true, false, false], 1), ([true, true, true, false, false], 3), ([true, true, false, true, false], 2), ([true, true, true, true, false], 4)])
  (.seq (.reg [⟨some 51, .ld 4 1 true, none⟩,
    ⟨some 52, .call 13 [(.t 51)], none⟩,
    ⟨some 12, .alloc (.agg [.slice true []]), none⟩,
    ⟨none, .st 12 (.t 52) 1, none⟩] [1, 3, 4, 6, 10, 11, 12])
  (.seq (.reg [⟨some 53, .mv (.t 1), none⟩,
    ⟨some 54, .call 14 [(.t 53)], none⟩,
    ⟨some 13, .asg (.t 54), none⟩] [1, 3, 4, 6, 10, 11, 12, 13])
  (.seq (.reg [⟨some 55, .ld 6 4 true, none⟩,
    ⟨some 56, .call 15 [(.t 55)], none⟩,
    ⟨some 14, .alloc (.agg [.int .i64 0, .slice true [], .slice true [], .int .i64 0]), none⟩,
    ⟨none, .st 14 (.t 56) 4, none⟩] [1, 3, 4, 6, 10, 11, 12, 13, 14])
  (.seq (.reg [⟨some 58, .ld 12 1 true, none⟩,
    ⟨some 59, .mv (.t 13), none⟩,
    ⟨some 60, .ld 14 4 true, none⟩,
    ⟨some 61, .mv (.t 3), none⟩,
    ⟨some 62, .call 32 [(.t 58), (.t 59), (.t 60), (.t 61)], none⟩,
    ⟨some 57, .mvt 62, none⟩,
    ⟨some 63, .ext 57 0, none⟩,
    ⟨some 64, .ext 57 1, none⟩,
    ⟨some 15, .asg (.t 63), none⟩,
    ⟨some 16, .asg (.t 64), none⟩] [1, 3, 4, 6, 10, 11, 12, 13, 14, 15, 16])
  (.seq (.kp [1, 3, 4, 6, 10, 11, 12, 13, 14, 15, 16] (.seq (.reg [⟨some 65, .mv (.t 15), none⟩,
    ⟨some 66, .mv (.t 10), none⟩,
    ⟨some 67, .call 30 [(.t 65), (.t 66)], none⟩,
    ⟨some 68, .nt (.t 67), none⟩,
    ⟨some 69, .mv (.t 68), none⟩,
    ⟨some 70, .mv (.t 16), some (69, false)⟩,
    ⟨some 71, .mv (.t 11), some (69, false)⟩,
    ⟨some 72, .eqb true (.t 70) (.t 71), some (69, false)⟩,
    ⟨some 73, .pick (.t 69) (.c (.bool true)) (.t 72), none⟩] [1, 3, 4, 6, 10, 11, 12, 13, 14, 15, 16, 73])
  (.cond (.t 73) (.seq (.reg [⟨some 8, .asg (.c (.bool false)), none⟩] [8])
  (.ret)) (.skip))))
  (.seq (.kp [1, 3, 4, 6, 10, 11, 12, 13, 14, 15, 16] (.seq (.drw [⟨0, ⟨some 74, .ld 12 1 true, none⟩, [75, 76, 77, 78]⟩,
    ⟨1, ⟨some 75, .ld 4 1 true, none⟩, [74, 76, 77, 78]⟩,
    ⟨2, ⟨some 76, .call 13 [(.t 75)], none⟩, [74, 77, 78]⟩,
    ⟨3, ⟨some 77, .call 17 [(.t 74), (.t 76)], none⟩, [78]⟩,
    ⟨4, ⟨some 78, .nt (.t 77), none⟩, []⟩]
    [] [1, 3, 4, 6, 10, 11, 12, 13, 14, 15, 16, 78])
  (.cond (.t 78) (.seq (.reg [⟨some 8, .asg (.c (.bool false)), none⟩] [8])
  (.ret)) (.skip))))
  (.seq (.kp [1, 3, 4, 6, 10, 11, 12, 13, 14, 15, 16] (.seq (.reg [⟨some 79, .mv (.t 13), none⟩,
    ⟨some 80, .mv (.t 1), none⟩,
    ⟨some 81, .call 14 [(.t 80)], none⟩,
    ⟨some 82, .call 18 [(.t 79), (.t 81)], none⟩,
    ⟨some 83, .nt (.t 82), none⟩] [1, 3, 4, 6, 10, 11, 12, 13, 14, 15, 16, 83])
  (.cond (.t 83) (.seq (.reg [⟨some 8, .asg (.c (.bool false)), none⟩] [8])
  (.ret)) (.skip))))
  (.seq (.kp [1, 3, 4, 6, 10, 11, 12, 13, 14, 15, 16] (.seq (.drw [⟨0, ⟨some 84, .ld 14 4 true, none⟩, [85, 86, 87, 88]⟩,
    ⟨1, ⟨some 85, .ld 6 4 true, none⟩, [84, 86, 87, 88]⟩,
    ⟨2, ⟨some 86, .call 15 [(.t 85)], none⟩, [84, 87, 88]⟩,
    ⟨3, ⟨some 87, .call 19 [(.t 84), (.t 86)], none⟩, [88]⟩,
    ⟨4, ⟨some 88, .nt (.t 87), none⟩, []⟩]
    [] [1, 3, 4, 6, 10, 11, 12, 13, 14, 15, 16, 88])
  (.cond (.t 88) (.seq (.reg [⟨some 8, .asg (.c (.bool false)), none⟩] [8])
  (.ret)) (.skip))))
  (.seq (.reg [⟨some 17, .asg (.c (.int .i64 1)), none⟩] [1, 3, 4, 6, 10, 11, 12, 13, 14, 15, 16, 17])
  (.seq (.reg [⟨some 89, .ld 12 1 true, none⟩,
    ⟨some 90, .mv (.t 17), none⟩,
    ⟨some 91, .callO 33 [(.t 89), (.t 90)], none⟩,
    ⟨some 17, .asg (.t 91), none⟩] [1, 3, 4, 6, 10, 11, 13, 14, 15, 16, 17])
  (.seq (.reg [⟨some 92, .mv (.t 13), none⟩,
    ⟨some 93, .mv (.t 17), none⟩,
    ⟨some 94, .callO 34 [(.t 92), (.t 93)], none⟩,
    ⟨some 17, .asg (.t 94), none⟩] [1, 3, 4, 6, 10, 11, 14, 15, 16, 17])
  (.seq (.reg [⟨some 95, .ld 14 4 true, none⟩,
    ⟨some 96, .mv (.t 17), none⟩,
    ⟨some 97, .callO 35 [(.t 95), (.t 96)], none⟩,
    ⟨some 17, .asg (.t 97), none⟩] [1, 3, 4, 6, 10, 11, 15, 16, 17])
  (.seq (.kp [1, 3, 4, 6, 10, 11, 15] (.seq (.reg [⟨some 98, .mv (.t 17), none⟩,
    ⟨some 99, .bin .lss (.t 98) (.c (.int .i64 0)), none⟩,
    ⟨some 100, .mv (.t 99), none⟩,
    ⟨some 101, .mv (.t 15), some (100, false)⟩,
    ⟨some 102, .mv (.t 10), some (100, false)⟩,
    ⟨some 103, .call 30 [(.t 101), (.t 102)], some (100, false)⟩,
    ⟨some 104, .nt (.t 103), some (100, false)⟩,
    ⟨some 105, .pick (.t 100) (.c (.bool true)) (.t 104), none⟩,
    ⟨some 106, .mv (.t 105), none⟩,
    ⟨some 107, .mv (.t 16), some (106, false)⟩,
    ⟨some 108, .mv (.t 11), some (106, false)⟩,
    ⟨some 109, .eqb true (.t 107) (.t 108), some (106, false)⟩,
    ⟨some 110, .pick (.t 106) (.c (.bool true)) (.t 109), none⟩] [1, 3, 4, 6, 10, 11, 15, 110])
  (.cond (.t 110) (.seq (.reg [⟨some 8, .asg (.c (.bool false)), none⟩] [8])
  (.ret)) (.skip))))
  (.seq (.reg [⟨some 18, .asg (.c (.int .i64 1)), none⟩] [1, 3, 4, 6, 10, 11, 15, 18])
  (.seq (.reg [⟨some 111, .mv (.t 15), none⟩,
    ⟨some 112, .mv (.t 18), none⟩,
    ⟨some 113, .callO 36 [(.t 111), (.t 112)], none⟩,
    ⟨some 18, .asg (.t 113), none⟩] [1, 3, 4, 6, 10, 11, 15, 18])
  (.seq (.reg [⟨some 19, .asg (.c (.int .i64 1)), none⟩] [1, 3, 4, 6, 10, 11, 15, 18, 19])
  (.seq (.reg [⟨some 114, .mv (.t 15), none⟩,
    ⟨some 115, .mv (.t 19), none⟩,
    ⟨some 116, .call 37 [(.t 114), (.t 115)], none⟩,
    ⟨some 19, .asg (.t 116), none⟩] [1, 3, 4, 6, 10, 11, 15, 18, 19])
  (.seq (.kp [1, 3, 4, 6, 10, 11, 15, 18, 19] (.seq (.reg [⟨some 117, .mv (.t 19), none⟩,
    ⟨some 118, .bin .lss (.t 117) (.c (.int .i64 0)), none⟩] [1, 3, 4, 6, 10, 11, 15, 18, 19, 118])
  (.cond (.t 118) (.seq (.reg [⟨some 8, .asg (.c (.bool false)), none⟩] [8])
  (.ret)) (.skip))))
  (.seq (.kp [1, 3, 4, 6, 10, 11, 15, 18] (.seq (.reg [⟨some 119, .mv (.t 19), none⟩,
    ⟨some 120, .mv (.t 18), none⟩,
    ⟨some 121, .bin .neq (.t 119) (.t 120), none⟩] [1, 3, 4, 6, 10, 11, 15, 18, 121])
  (.cond (.t 121) (.seq (.reg [⟨some 8, .asg (.c (.bool false)), none⟩] [8])
  (.ret)) (.skip))))
  (.seq (.drg [⟨0, ⟨some 123, .ld 4 1 true, none⟩, [124, 125, 126, 127, 128, 129, 130]⟩,
    ⟨1, ⟨some 124, .call 13 [(.t 123)], none⟩, [125, 126, 127, 128, 129, 130]⟩,
    ⟨2, ⟨some 125, .mv (.t 1), none⟩, [123, 124, 126, 127, 128, 129, 130]⟩,
    ⟨3, ⟨some 126, .call 14 [(.t 125)], none⟩, [127, 128, 129, 130]⟩,
    ⟨4, ⟨some 127, .ld 6 4 true, none⟩, [123, 124, 125, 126, 128, 129, 130]⟩,
    ⟨5, ⟨some 128, .call 15 [(.t 127)], none⟩, [129, 130]⟩,
    ⟨6, ⟨some 129, .mv (.t 3), none⟩, [123, 124, 125, 126, 127, 128, 130]⟩,
    ⟨7, ⟨some 130, .call 32 [(.t 124), (.t 126), (.t 128), (.t 129)], none⟩, []⟩]
    [(8, ⟨some 122, .mvt 130, none⟩),
    (9, ⟨some 131, .ext 122 0, none⟩),
    (10, ⟨some 132, .ext 122 1, none⟩),
    (11, ⟨some 20, .asg (.t 131), none⟩),
    (12, ⟨some 21, .asg (.t 132), none⟩)] [10, 11, 15, 18, 20, 21] [20, 21, 122, 130, 131, 132, 10, 11, 15, 18] [([false, false, false, false, false], 0), ([true, false, false, false, false], 1), ([true, false, false, false, false], 2), ([true, true, false, false, false], 2), ([true, true, false, false, false], 3), ([true, false, true, false, false], 1), ([true, true, true, false, false], 3), ([true, true, false, true, false], 2), ([true, true, true, true, false], 4)])
  (.seq (.kp [15, 18] (.seq (.reg [⟨some 133, .mv (.t 20), none⟩,
    ⟨some 134, .mv (.t 10), none⟩,
    ⟨some 135, .call 30 [(.t 133), (.t 134)], none⟩,
    ⟨some 136, .nt (.t 135), none⟩,
    ⟨some 137, .mv (.t 136), none⟩,
    ⟨some 138, .mv (.t 21), some (137, false)⟩,
    ⟨some 139, .mv (.t 11), some (137, false)⟩,
    ⟨some 140, .eqb true (.t 138) (.t 139), some (137, false)⟩,
    ⟨some 141, .pick (.t 137) (.c (.bool true)) (.t 140), none⟩] [15, 18, 141])
  (.cond (.t 141) (.seq (.reg [⟨some 8, .asg (.c (.bool false)), none⟩] [8])
  (.ret)) (.skip))))
  (.seq (.reg [⟨some 19, .asg (.c (.int .i64 1)), none⟩] [15, 18, 19])
  (.seq (.reg [⟨some 142, .mv (.t 15), none⟩,
    ⟨some 143, .mv (.t 19), none⟩,
    ⟨some 144, .call 37 [(.t 142), (.t 143)], none⟩,
    ⟨some 19, .asg (.t 144), none⟩] [18, 19])
  (.seq (.kp [18, 19] (.seq (.reg [⟨some 145, .mv (.t 19), none⟩,
    ⟨some 146, .bin .lss (.t 145) (.c (.int .i64 0)), none⟩] [18, 19, 146])
  (.cond (.t 146) (.seq (.reg [⟨some 8, .asg (.c (.bool false)), none⟩] [8])
  (.ret)) (.skip))))
  (.seq (.kp [] (.seq (.reg [⟨some 147, .mv (.t 19), none⟩,
    ⟨some 148, .mv (.t 18), none⟩,
    ⟨some 149, .bin .neq (.t 147) (.t 148), none⟩] [149])
  (.cond (.t 149) (.seq (.reg [⟨some 8, .asg (.c (.bool false)), none⟩] [8])
  (.ret)) (.skip))))
  (.seq (.reg [⟨some 8, .asg (.c (.bool true)), none⟩] [8])
  (.ret))))))))))))))))))))))))))))))))))))
theorem con_laws_FnExactParseReport {v0 : XGeo} {v1 : (List XVariable)} {v2 : XTable} {v3 : (List UInt8)} {r : Bool} (h : sh_laws_FnExactParseReport v0 v1 v2 v3 = some r) : Con Tryd.prog 7 [(cXGeo (cLs cI rfl)).enc v0, (cLs (cXVariable cS cI) rfl).enc v1, (cXTable cI (cLs cI rfl) (cLs cI rfl) cI).enc v2, cS.enc v3] [] (rs_laws_FnExactParseReport r) := by
  delta sh_laws_FnExactParseReport at h
  refine top (out := none) (f := Tryd.f7) (m := m7) (rs := [.t 8]) (by kernel_rfl) rfl (by kernel_rfl) (by kernel_rfl) (by kernel_rfl) (by kernel_rfl) (by kernel_rfl) ?_
  exact
   ini [(0, .d ((cXGeo (cLs cI rfl)).enc v0)), (1, .d ((cLs (cXVariable cS cI) rfl).enc v1)), (2, .d ((cXTable cI (cLs cI rfl) (cLs cI rfl) cI).enc v2)), (3, .d (cS.enc v3))] rfl <| wpC_seq <| reg_s <| x_box (ss rfl rfl) <| x_box (ss rfl rfl) <| x_asg (sc cB false rfl) <| seqN [(1, .d ((cLs (cXVariable cS cI) rfl).enc v1)), (3, .d (cS.enc v3)), (4, .box ((cXGeo (cLs cI rfl)).enc v0)), (6, .box ((cXTable cI (cLs cI rfl) (cLs cI rfl) cI).enc v2))] (by kernel_rfl) <|
    xn <| wpC_seq <| wpC_kp <| wpC_seq <| reg_s <| st rfl <| mvd rfl rfl <| stw rfl <| lent rfl fun l5 => st rfl <| b_gtr (k := .i64) rfl rfl <| seqN [(1, .d ((cLs (cXVariable cS cI) rfl).enc v1)), (3, .d (cS.enc v3)), (4, .box ((cXGeo (cLs cI rfl)).enc v0)), (6, .box ((cXTable cI (cLs cI rfl) (cLs cI rfl) cI).enc v2)), (24, .d (cB.enc (decide ((1048576 : Int) < (v3.length : Int)))))] (by kernel_rfl) <|
    xn <| cnd rfl h (fun b6 h => wpC_seq <| reg_s <| x_asg (sc cB true rfl) <| seqN [(8, .d (cB.enc true))] (by kernel_rfl) <|
    xn <| wpC_ret <| rt <| rt <| re <| fin h (r1 (ss rfl rfl) <| r0) rfl)
    (fun b6 h => wpC_skip <| kpN [(1, .d ((cLs (cXVariable cS cI) rfl).enc v1)), (3, .d (cS.enc v3)), (4, .box ((cXGeo (cLs cI rfl)).enc v0)), (6, .box ((cXTable cI (cLs cI rfl) (cLs cI rfl) cI).enc v2))] (by kernel_rfl) <| xn <| wpC_seq <| reg_s <| x_asg (sc cI (1048576 : Int) rfl) <| seqN [(1, .d ((cLs (cXVariable cS cI) rfl).enc v1)), (3, .d (cS.enc v3)), (4, .box ((cXGeo (cLs cI rfl)).enc v0)), (6, .box ((cXTable cI (cLs cI rfl) (cLs cI rfl) cI).enc v2)), (9, .d (cI.enc (1048576 : Int)))] (by kernel_rfl) <|
    xn <| wpC_seq <| reg_s <| st rfl <| ldb rfl rfl rfl rfl <| st rfl <| mvd rfl rfl <| bnd h fun x9 e10 h => st rfl <| o_call (a1 (c := (cXGeo (cLs cI rfl))) (tXGeo (tLs tK)) rfl (a1 (c := cI) tK rfl a0)) (con_laws_szGeo e10) (.inl (so1 sK so0)) <| x_asg (ss rfl rfl) <| seqN [(1, .d ((cLs (cXVariable cS cI) rfl).enc v1)), (3, .d (cS.enc v3)), (4, .box ((cXGeo (cLs cI rfl)).enc v0)), (6, .box ((cXTable cI (cLs cI rfl) (cLs cI rfl) cI).enc v2)), (9, .d (cI.enc x9))] (by kernel_rfl) <|
    xn <| wpC_seq <| wpC_kp <| wpC_seq <| reg_s <| st rfl <| mvd rfl rfl <| st rfl <| b_lss (k := .i64) rfl rfl <| seqN [(1, .d ((cLs (cXVariable cS cI) rfl).enc v1)), (3, .d (cS.enc v3)), (4, .box ((cXGeo (cLs cI rfl)).enc v0)), (6, .box ((cXTable cI (cLs cI rfl) (cLs cI rfl) cI).enc v2)), (9, .d (cI.enc x9)), (29, .d (cB.enc (decide (x9 < (0 : Int)))))] (by kernel_rfl) <|
    xn <| cnd rfl h (fun b12 h => wpC_seq <| reg_s <| x_asg (sc cB true rfl) <| seqN [(8, .d (cB.enc true))] (by kernel_rfl) <|
    xn <| wpC_ret <| rt <| rt <| re <| fin h (r1 (ss rfl rfl) <| r0) rfl)
    (fun b12 h => wpC_skip <| kpN [(1, .d ((cLs (cXVariable cS cI) rfl).enc v1)), (3, .d (cS.enc v3)), (4, .box ((cXGeo (cLs cI rfl)).enc v0)), (6, .box ((cXTable cI (cLs cI rfl) (cLs cI rfl) cI).enc v2)), (9, .d (cI.enc x9))] (by kernel_rfl) <| xn <| wpC_seq <| reg_s <| st rfl <| mvd rfl rfl <| st rfl <| mvd rfl rfl <| bnd h fun x15 e16 h => st rfl <| o_call (a1 (c := (cLs (cXVariable cS cI) rfl)) (tLs (tXVariable tS tK)) rfl (a1 (c := cI) tK rfl a0)) (con_laws_szVariableS e16) (.inl (so1 sK so0)) <| x_asg (ss rfl rfl) <| seqN [(1, .d ((cLs (cXVariable cS cI) rfl).enc v1)), (3, .d (cS.enc v3)), (4, .box ((cXGeo (cLs cI rfl)).enc v0)), (6, .box ((cXTable cI (cLs cI rfl) (cLs cI rfl) cI).enc v2)), (9, .d (cI.enc x15))] (by kernel_rfl) <|
    xn <| wpC_seq <| wpC_kp <| wpC_seq <| reg_s <| st rfl <| mvd rfl rfl <| st rfl <| b_lss (k := .i64) rfl rfl <| seqN [(1, .d ((cLs (cXVariable cS cI) rfl).enc v1)), (3, .d (cS.enc v3)), (4, .box ((cXGeo (cLs cI rfl)).enc v0)), (6, .box ((cXTable cI (cLs cI rfl) (cLs cI rfl) cI).enc v2)), (9, .d (cI.enc x15)), (34, .d (cB.enc (decide (x15 < (0 : Int)))))] (by kernel_rfl) <|
    xn <| cnd rfl h (fun b18 h => wpC_seq <| reg_s <| x_asg (sc cB true rfl) <| seqN [(8, .d (cB.enc true))] (by kernel_rfl) <|
    xn <| wpC_ret <| rt <| rt <| re <| fin h (r1 (ss rfl rfl) <| r0) rfl)
    (fun b18 h => wpC_skip <| kpN [(1, .d ((cLs (cXVariable cS cI) rfl).enc v1)), (3, .d (cS.enc v3)), (4, .box ((cXGeo (cLs cI rfl)).enc v0)), (6, .box ((cXTable cI (cLs cI rfl) (cLs cI rfl) cI).enc v2)), (9, .d (cI.enc x15))] (by kernel_rfl) <| xn <| wpC_seq <| reg_s <| st rfl <| ldb rfl rfl rfl rfl <| st rfl <| mvd rfl rfl <| bnd h fun x21 e22 h => st rfl <| o_call (a1 (c := (cXTable cI (cLs cI rfl) (cLs cI rfl) cI)) (tXTable tK (tLs tK) (tLs tK) tK) rfl (a1 (c := cI) tK rfl a0)) (con_laws_szTable e22) (.inl (so1 sK so0)) <| x_asg (ss rfl rfl) <| seqN [(1, .d ((cLs (cXVariable cS cI) rfl).enc v1)), (3, .d (cS.enc v3)), (4, .box ((cXGeo (cLs cI rfl)).enc v0)), (6, .box ((cXTable cI (cLs cI rfl) (cLs cI rfl) cI).enc v2)), (9, .d (cI.enc x21))] (by kernel_rfl) <|
    xn <| wpC_seq <| wpC_kp <| wpC_seq <| reg_s <| st rfl <| mvd rfl rfl <| st rfl <| b_lss (k := .i64) rfl rfl <| seqN [(1, .d ((cLs (cXVariable cS cI) rfl).enc v1)), (3, .d (cS.enc v3)), (4, .box ((cXGeo (cLs cI rfl)).enc v0)), (6, .box ((cXTable cI (cLs cI rfl) (cLs cI rfl) cI).enc v2)), (39, .d (cB.enc (decide (x21 < (0 : Int)))))] (by kernel_rfl) <|
    xn <| cnd rfl h (fun b24 h => wpC_seq <| reg_s <| x_asg (sc cB true rfl) <| seqN [(8, .d (cB.enc true))] (by kernel_rfl) <|
    xn <| wpC_ret <| rt <| rt <| re <| fin h (r1 (ss rfl rfl) <| r0) rfl)
    (fun b24 h => wpC_skip <| kpN [(1, .d ((cLs (cXVariable cS cI) rfl).enc v1)), (3, .d (cS.enc v3)), (4, .box ((cXGeo (cLs cI rfl)).enc v0)), (6, .box ((cXTable cI (cLs cI rfl) (cLs cI rfl) cI).enc v2))] (by kernel_rfl) <| xn <| wpC_seq <| drg_s <| pst rfl <| ldb rfl rfl rfl rfl ⟨rfl, bndp h fun x33 e34 h => pst rfl <| o_call (a1 (c := (cXGeo (cLs cI rfl))) (tXGeo (tLs tK)) rfl a0) (con_laws_toGeo_fz e34) (.inr (hr1 rfl rfl hr0)) ⟨rfl, pst rfl <| mvd rfl rfl ⟨rfl, bndp h fun x35 e36 h => pst rfl <| o_call (a1 (c := (cLs (cXVariable cS cI) rfl)) (tLs (tXVariable tS tK)) rfl a0) (con_laws_toVariableS_fz e36) (.inr (hr1 rfl rfl hr0)) ⟨rfl, pst rfl <| ldb rfl rfl rfl rfl ⟨rfl, bndp h fun x37 e38 h => pst rfl <| o_call (a1 (c := (cXTable cI (cLs cI rfl) (cLs cI rfl) cI)) (tXTable tK (tLs tK) (tLs tK) tK) rfl a0) (con_laws_toTable_fz e38) (.inr (hr1 rfl rfl hr0)) ⟨rfl, pst rfl <| mvd rfl rfl ⟨rfl, bndp h fun x39 e40 h => pst rfl <| o_call (a1 (c := (cXGeo (cLs cI rfl))) (tXGeo (tLs tK)) rfl (a1 (c := (cLs (cXVariable cS cI) rfl)) (tLs (tXVariable tS tK)) rfl (a1 (c := (cXTable cI (cLs cI rfl) (cLs cI rfl) cI)) (tXTable tK (tLs tK) (tLs tK) tK) rfl (a1 (c := cS) tS rfl a0)))) (con_spec_ParseReport e40) (.inr (hr1 rfl rfl (hr1 rfl rfl (hr1 rfl rfl (hr1 rfl rfl hr0))))) ⟨rfl, preN <| gr_s [(1, .d ((cLs (cXVariable cS cI) rfl).enc v1)), (3, .d (cS.enc v3)), (4, .box ((cXGeo (cLs cI rfl)).enc v0)), (6, .box ((cXTable cI (cLs cI rfl) (cLs cI rfl) cI).enc v2))] [([false, false, false, false, false], [(10, .un), (11, .un), (40, .un), (48, .tup [some ((cLs cI rfl).enc x39.1), some (cB.enc x39.2)]), (49, .un), (50, .un)]),
     ([true, false, false, false, false], [(10, .un), (11, .un), (40, .tup [some ((cLs cI rfl).enc x39.1), some (cB.enc x39.2)]), (48, .un), (49, .un), (50, .un)]),
     ([true, true, false, false, false], [(10, .un), (11, .un), (40, .tup [none, some (cB.enc x39.2)]), (48, .un), (49, .d ((cLs cI rfl).enc x39.1)), (50, .un)]),
     ([true, false, true, false, false], [(10, .un), (11, .un), (40, .tup [some ((cLs cI rfl).enc x39.1), none]), (48, .un), (49, .un), (50, .d (cB.enc x39.2))]),
     ([true, true, true, false, false], [(10, .un), (11, .un), (40, .tup [none, none]), (48, .un), (49, .d ((cLs cI rfl).enc x39.1)), (50, .d (cB.enc x39.2))]),
     ([true, true, false, true, false], [(10, .d ((cLs cI rfl).enc x39.1)), (11, .un), (40, .tup [none, some (cB.enc x39.2)]), (48, .un), (49, .d ((cLs cI rfl).enc x39.1)), (50, .un)]),
     ([true, true, true, true, false], [(10, .d ((cLs cI rfl).enc x39.1)), (11, .un), (40, .tup [none, none]), (48, .un), (49, .d ((cLs cI rfl).enc x39.1)), (50, .d (cB.enc x39.2))]),
     ([true, true, true, true, true], [(10, .d ((cLs cI rfl).enc x39.1)), (11, .d (cB.enc x39.2)), (40, .tup [none, none]), (48, .un), (49, .d ((cLs cI rfl).enc x39.1)), (50, .d (cB.enc x39.2))])] [(1, .d ((cLs (cXVariable cS cI) rfl).enc v1)), (3, .d (cS.enc v3)), (4, .box ((cXGeo (cLs cI rfl)).enc v0)), (6, .box ((cXTable cI (cLs cI rfl) (cLs cI rfl) cI).enc v2)), (10, .d ((cLs cI rfl).enc x39.1)), (11, .d (cB.enc x39.2))] [([false, false, false, false, false], [])] (by kernel_rfl) (sa1 rfl (by kernel_rfl) <| sa0) rfl
    (ob1 rfl rfl rfl (x_mvt rfl <| obN (by kernel_rfl)) <|
    ob1 rfl rfl rfl (x_ext rfl rfl <| obN (by kernel_rfl)) <|
    ob1 rfl rfl rfl (x_ext rfl rfl <| obN (by kernel_rfl)) <|
    ob1 rfl rfl rfl (x_ext rfl rfl <| obN (by kernel_rfl)) <|
    ob1 rfl rfl rfl (x_asg (ss rfl rfl) <| obN (by kernel_rfl)) <|
    ob1 rfl rfl rfl (x_ext rfl rfl <| obN (by kernel_rfl)) <|
    ob1 rfl rfl rfl (x_asg (ss rfl rfl) <| obN (by kernel_rfl)) <|
    ob1 rfl rfl rfl (x_ext rfl rfl <| obN (by kernel_rfl)) <|
    ob1 rfl rfl rfl (x_asg (ss rfl rfl) <| obN (by kernel_rfl)) <|
    ob0)
    (by kernel_rfl) <|
    xn <| wpC_seq <| reg_s <| st rfl <| ldb rfl rfl rfl rfl <| bnd h fun x43 e44 h => st rfl <| o_call (a1 (c := (cXGeo (cLs cI rfl))) (tXGeo (tLs tK)) rfl a0) (con_laws_toGeo e44) (.inl (so1 (sXGeo (sLo sK)) so0)) <| x_all (cXGeo (cLo cI)) (⟨([] : List Int)⟩ : XGeo) rfl <| x_stb (so rfl rfl) rfl (Cd.h_sz _ _) rfl <| seqN [(1, .d ((cLs (cXVariable cS cI) rfl).enc v1)), (3, .d (cS.enc v3)), (4, .box ((cXGeo (cLs cI rfl)).enc v0)), (6, .box ((cXTable cI (cLs cI rfl) (cLs cI rfl) cI).enc v2)), (10, .d ((cLs cI rfl).enc x39.1)), (11, .d (cB.enc x39.2)), (12, .box ((cXGeo (cLo cI)).enc x43))] (by kernel_rfl) <|
    xn <| wpC_seq <| reg_s <| st rfl <| mvd rfl rfl <| bnd h fun x47 e48 h => st rfl <| o_call (a1 (c := (cLs (cXVariable cS cI) rfl)) (tLs (tXVariable tS tK)) rfl a0) (con_laws_toVariableS e48) (.inl (so1 (sLo (sXVariable sS sK)) so0)) <| x_asg (so rfl rfl) <| seqN [(1, .d ((cLs (cXVariable cS cI) rfl).enc v1)), (3, .d (cS.enc v3)), (4, .box ((cXGeo (cLs cI rfl)).enc v0)), (6, .box ((cXTable cI (cLs cI rfl) (cLs cI rfl) cI).enc v2)), (10, .d ((cLs cI rfl).enc x39.1)), (11, .d (cB.enc x39.2)), (12, .box ((cXGeo (cLo cI)).enc x43)), (13, .d ((cLo (cXVariable cS cI)).enc x47))] (by kernel_rfl) <|
    xn <| wpC_seq <| reg_s <| st rfl <| ldb rfl rfl rfl rfl <| bnd h fun x51 e52 h => st rfl <| o_call (a1 (c := (cXTable cI (cLs cI rfl) (cLs cI rfl) cI)) (tXTable tK (tLs tK) (tLs tK) tK) rfl a0) (con_laws_toTable e52) (.inl (so1 (sXTable sK (sLo sK) (sLo sK) sK) so0)) <| x_all (cXTable cI (cLo cI) (cLo cI) cI) (⟨(0 : Int), ([] : List Int), ([] : List Int), (0 : Int)⟩ : XTable) rfl <| x_stb (so rfl rfl) rfl (Cd.h_sz _ _) rfl <| seqN [(1, .d ((cLs (cXVariable cS cI) rfl).enc v1)), (3, .d (cS.enc v3)), (4, .box ((cXGeo (cLs cI rfl)).enc v0)), (6, .box ((cXTable cI (cLs cI rfl) (cLs cI rfl) cI).enc v2)), (10, .d ((cLs cI rfl).enc x39.1)), (11, .d (cB.enc x39.2)), (12, .box ((cXGeo (cLo cI)).enc x43)), (13, .d ((cLo (cXVariable cS cI)).enc x47)), (14, .box ((cXTable cI (cLo cI) (cLo cI) cI).enc x51))] (by kernel_rfl) <|
    xn <| wpC_seq <| reg_s <| st rfl <| ldbo rfl rfl rfl rfl <| st rfl <| mvo rfl rfl <| st rfl <| ldbo rfl rfl rfl rfl <| st rfl <| mvd rfl rfl <| bnd h fun x55 e56 h => st rfl <| o_call (a1 (c := (cXGeo (cLo cI))) (tXGeo (tLo tK)) rfl (a1 (c := (cLo (cXVariable cS cI))) (tLo (tXVariable tS tK)) rfl (a1 (c := (cXTable cI (cLo cI) (cLo cI) cI)) (tXTable tK (tLo tK) (tLo tK) tK) rfl (a1 (c := cS) tS rfl a0)))) (con_impl_ParseReport e56) (.inl (so1 (sLo sK) (so1 sB so0))) <| x_mvt rfl <| x_ext rfl rfl <| x_ext rfl rfl <| x_asg (so rfl rfl) <| x_asg (ss rfl rfl) <| seqN [(1, .d ((cLs (cXVariable cS cI) rfl).enc v1)), (3, .d (cS.enc v3)), (4, .box ((cXGeo (cLs cI rfl)).enc v0)), (6, .box ((cXTable cI (cLs cI rfl) (cLs cI rfl) cI).enc v2)), (10, .d ((cLs cI rfl).enc x39.1)), (11, .d (cB.enc x39.2)), (12, .box ((cXGeo (cLo cI)).enc x43)), (13, .d ((cLo (cXVariable cS cI)).enc x47)), (14, .box ((cXTable cI (cLo cI) (cLo cI) cI).enc x51)), (15, .d ((cLo cI).enc x55.1)), (16, .d (cB.enc x55.2))] (by kernel_rfl) <|
    xn <| wpC_seq <| wpC_kp <| wpC_seq <| reg_s <| st rfl <| mvo rfl rfl <| st rfl <| mvd rfl rfl <| bnd h fun x67 e68 h => st rfl <| o_call (a1 (c := (cLo cI)) (tLo tK) rfl (a1 (c := (cLs cI rfl)) (tLs tK) rfl a0)) (con_laws_eqIntS e68) (.inl (so1 sB so0)) <| st rfl <| o_nt rfl <| st rfl <| mvd rfl rfl <| ite_k h (fun b69 h => gf rfl b69 <| gf rfl b69 <| gf rfl b69 <| st rfl <| pick1 rfl b69 (cd := cB) (v := true) rfl rfl <| seqN [(1, .d ((cLs (cXVariable cS cI) rfl).enc v1)), (3, .d (cS.enc v3)), (4, .box ((cXGeo (cLs cI rfl)).enc v0)), (6, .box ((cXTable cI (cLs cI rfl) (cLs cI rfl) cI).enc v2)), (10, .d ((cLs cI rfl).enc x39.1)), (11, .d (cB.enc x39.2)), (12, .box ((cXGeo (cLo cI)).enc x43)), (13, .d ((cLo (cXVariable cS cI)).enc x47)), (14, .box ((cXTable cI (cLo cI) (cLo cI) cI).enc x51)), (15, .d ((cLo cI).enc x55.1)), (16, .d (cB.enc x55.2)), (73, .d (cB.enc true))] (by kernel_rfl) <|
    xn <| cnd1 rfl rfl <| wpC_seq <| reg_s <| x_asg (sc cB false rfl) <| seqN [(8, .d (cB.enc false))] (by kernel_rfl) <|
    xn <| wpC_ret <| rt <| rt <| re <| fin h (r1 (ss rfl rfl) <| r0) rfl)
    (fun b69 h => gt' rfl b69 <| st rfl <| mvd rfl rfl <| gt' rfl b69 <| st rfl <| mvd rfl rfl <| gt' rfl b69 <| st rfl <| eqb1 rfl rfl <| st rfl <| pick0 rfl b69 (cd := cB) (v := (x55.2 != x39.2)) rfl rfl <| seqN [(1, .d ((cLs (cXVariable cS cI) rfl).enc v1)), (3, .d (cS.enc v3)), (4, .box ((cXGeo (cLs cI rfl)).enc v0)), (6, .box ((cXTable cI (cLs cI rfl) (cLs cI rfl) cI).enc v2)), (10, .d ((cLs cI rfl).enc x39.1)), (11, .d (cB.enc x39.2)), (12, .box ((cXGeo (cLo cI)).enc x43)), (13, .d ((cLo (cXVariable cS cI)).enc x47)), (14, .box ((cXTable cI (cLo cI) (cLo cI) cI).enc x51)), (15, .d ((cLo cI).enc x55.1)), (16, .d (cB.enc x55.2)), (73, .d (cB.enc (x55.2 != x39.2)))] (by kernel_rfl) <|
    xn <| cnd rfl h (fun b70 h => wpC_seq <| reg_s <| x_asg (sc cB false rfl) <| seqN [(8, .d (cB.enc false))] (by kernel_rfl) <|
    xn <| wpC_ret <| rt <| rt <| re <| fin h (r1 (ss rfl rfl) <| r0) rfl)
    (fun b70 h => wpC_skip <| kpN [(1, .d ((cLs (cXVariable cS cI) rfl).enc v1)), (3, .d (cS.enc v3)), (4, .box ((cXGeo (cLs cI rfl)).enc v0)), (6, .box ((cXTable cI (cLs cI rfl) (cLs cI rfl) cI).enc v2)), (10, .d ((cLs cI rfl).enc x39.1)), (11, .d (cB.enc x39.2)), (12, .box ((cXGeo (cLo cI)).enc x43)), (13, .d ((cLo (cXVariable cS cI)).enc x47)), (14, .box ((cXTable cI (cLo cI) (cLo cI) cI).enc x51)), (15, .d ((cLo cI).enc x55.1)), (16, .d (cB.enc x55.2))] (by kernel_rfl) <| xn <| wpC_seq <| wpC_kp <| wpC_seq <| drw_s <| pst rfl <| ldbo rfl rfl rfl rfl ⟨rfl, pst rfl <| ldb rfl rfl rfl rfl ⟨rfl, bndp h fun x84 e85 h => pst rfl <| o_call (a1 (c := (cXGeo (cLs cI rfl))) (tXGeo (tLs tK)) rfl a0) (con_laws_toGeo e85) (.inl (so1 (sXGeo (sLo sK)) so0)) ⟨rfl, bndp h fun x86 e87 h => pst rfl <| o_call (a1 (c := (cXGeo (cLo cI))) (tXGeo (tLo tK)) rfl (a1 (c := (cXGeo (cLo cI))) (tXGeo (tLo tK)) rfl a0)) (con_laws_eqGeo e87) (.inl (so1 sB so0)) ⟨rfl, pst rfl <| o_nt rfl ⟨rfl, preN <| seqN [(1, .d ((cLs (cXVariable cS cI) rfl).enc v1)), (3, .d (cS.enc v3)), (4, .box ((cXGeo (cLs cI rfl)).enc v0)), (6, .box ((cXTable cI (cLs cI rfl) (cLs cI rfl) cI).enc v2)), (10, .d ((cLs cI rfl).enc x39.1)), (11, .d (cB.enc x39.2)), (12, .box ((cXGeo (cLo cI)).enc x43)), (13, .d ((cLo (cXVariable cS cI)).enc x47)), (14, .box ((cXTable cI (cLo cI) (cLo cI) cI).enc x51)), (15, .d ((cLo cI).enc x55.1)), (16, .d (cB.enc x55.2)), (78, .d (cB.enc (!x86)))] (by kernel_rfl) <|
    xn <| cnd rfl h (fun b88 h => wpC_seq <| reg_s <| x_asg (sc cB false rfl) <| seqN [(8, .d (cB.enc false))] (by kernel_rfl) <|
    xn <| wpC_ret <| rt <| rt <| re <| fin h (r1 (ss rfl rfl) <| r0) rfl)
    (fun b88 h => wpC_skip <| kpN [(1, .d ((cLs (cXVariable cS cI) rfl).enc v1)), (3, .d (cS.enc v3)), (4, .box ((cXGeo (cLs cI rfl)).enc v0)), (6, .box ((cXTable cI (cLs cI rfl) (cLs cI rfl) cI).enc v2)), (10, .d ((cLs cI rfl).enc x39.1)), (11, .d (cB.enc x39.2)), (12, .box ((cXGeo (cLo cI)).enc x43)), (13, .d ((cLo (cXVariable cS cI)).enc x47)), (14, .box ((cXTable cI (cLo cI) (cLo cI) cI).enc x51)), (15, .d ((cLo cI).enc x55.1)), (16, .d (cB.enc x55.2))] (by kernel_rfl) <| xn <| wpC_seq <| wpC_kp <| wpC_seq <| reg_s <| st rfl <| mvo rfl rfl <| st rfl <| mvd rfl rfl <| bnd h fun x102 e103 h => st rfl <| o_call (a1 (c := (cLs (cXVariable cS cI) rfl)) (tLs (tXVariable tS tK)) rfl a0) (con_laws_toVariableS e103) (.inl (so1 (sLo (sXVariable sS sK)) so0)) <| bnd h fun x104 e105 h => st rfl <| o_call (a1 (c := (cLo (cXVariable cS cI))) (tLo (tXVariable tS tK)) rfl (a1 (c := (cLo (cXVariable cS cI))) (tLo (tXVariable tS tK)) rfl a0)) (con_laws_eqVariableS e105) (.inl (so1 sB so0)) <| st rfl <| o_nt rfl <| seqN [(1, .d ((cLs (cXVariable cS cI) rfl).enc v1)), (3, .d (cS.enc v3)), (4, .box ((cXGeo (cLs cI rfl)).enc v0)), (6, .box ((cXTable cI (cLs cI rfl) (cLs cI rfl) cI).enc v2)), (10, .d ((cLs cI rfl).enc x39.1)), (11, .d (cB.enc x39.2)), (12, .box ((cXGeo (cLo cI)).enc x43)), (13, .d ((cLo (cXVariable cS cI)).enc x47)), (14, .box ((cXTable cI (cLo cI) (cLo cI) cI).enc x51)), (15, .d ((cLo cI).enc x55.1)), (16, .d (cB.enc x55.2)), (83, .d (cB.enc (!x104)))] (by kernel_rfl) <|
    xn <| cnd rfl h (fun b106 h => wpC_seq <| reg_s <| x_asg (sc cB false rfl) <| seqN [(8, .d (cB.enc false))] (by kernel_rfl) <|
    xn <| wpC_ret <| rt <| rt <| re <| fin h (r1 (ss rfl rfl) <| r0) rfl)
    (fun b106 h => wpC_skip <| kpN [(1, .d ((cLs (cXVariable cS cI) rfl).enc v1)), (3, .d (cS.enc v3)), (4, .box ((cXGeo (cLs cI rfl)).enc v0)), (6, .box ((cXTable cI (cLs cI rfl) (cLs cI rfl) cI).enc v2)), (10, .d ((cLs cI rfl).enc x39.1)), (11, .d (cB.enc x39.2)), (12, .box ((cXGeo (cLo cI)).enc x43)), (13, .d ((cLo (cXVariable cS cI)).enc x47)), (14, .box ((cXTable cI (cLo cI) (cLo cI) cI).enc x51)), (15, .d ((cLo cI).enc x55.1)), (16, .d (cB.enc x55.2))] (by kernel_rfl) <| xn <| wpC_seq <| wpC_kp <| wpC_seq <| drw_s <| pst rfl <| ldbo rfl rfl rfl rfl ⟨rfl, pst rfl <| ldb rfl rfl rfl rfl ⟨rfl, bndp h fun x120 e121 h => pst rfl <| o_call (a1 (c := (cXTable cI (cLs cI rfl) (cLs cI rfl) cI)) (tXTable tK (tLs tK) (tLs tK) tK) rfl a0) (con_laws_toTable e121) (.inl (so1 (sXTable sK (sLo sK) (sLo sK) sK) so0)) ⟨rfl, bndp h fun x122 e123 h => pst rfl <| o_call (a1 (c := (cXTable cI (cLo cI) (cLo cI) cI)) (tXTable tK (tLo tK) (tLo tK) tK) rfl (a1 (c := (cXTable cI (cLo cI) (cLo cI) cI)) (tXTable tK (tLo tK) (tLo tK) tK) rfl a0)) (con_laws_eqTable e123) (.inl (so1 sB so0)) ⟨rfl, pst rfl <| o_nt rfl ⟨rfl, preN <| seqN [(1, .d ((cLs (cXVariable cS cI) rfl).enc v1)), (3, .d (cS.enc v3)), (4, .box ((cXGeo (cLs cI rfl)).enc v0)), (6, .box ((cXTable cI (cLs cI rfl) (cLs cI rfl) cI).enc v2)), (10, .d ((cLs cI rfl).enc x39.1)), (11, .d (cB.enc x39.2)), (12, .box ((cXGeo (cLo cI)).enc x43)), (13, .d ((cLo (cXVariable cS cI)).enc x47)), (14, .box ((cXTable cI (cLo cI) (cLo cI) cI).enc x51)), (15, .d ((cLo cI).enc x55.1)), (16, .d (cB.enc x55.2)), (88, .d (cB.enc (!x122)))] (by kernel_rfl) <|
    xn <| cnd rfl h (fun b124 h => wpC_seq <| reg_s <| x_asg (sc cB false rfl) <| seqN [(8, .d (cB.enc false))] (by kernel_rfl) <|
    xn <| wpC_ret <| rt <| rt <| re <| fin h (r1 (ss rfl rfl) <| r0) rfl)
    (fun b124 h => wpC_skip <| kpN [(1, .d ((cLs (cXVariable cS cI) rfl).enc v1)), (3, .d (cS.enc v3)), (4, .box ((cXGeo (cLs cI rfl)).enc v0)), (6, .box ((cXTable cI (cLs cI rfl) (cLs cI rfl) cI).enc v2)), (10, .d ((cLs cI rfl).enc x39.1)), (11, .d (cB.enc x39.2)), (12, .box ((cXGeo (cLo cI)).enc x43)), (13, .d ((cLo (cXVariable cS cI)).enc x47)), (14, .box ((cXTable cI (cLo cI) (cLo cI) cI).enc x51)), (15, .d ((cLo cI).enc x55.1)), (16, .d (cB.enc x55.2))] (by kernel_rfl) <| xn <| wpC_seq <| reg_s <| x_asg (sc cI (1 : Int) rfl) <| seqN [(1, .d ((cLs (cXVariable cS cI) rfl).enc v1)), (3, .d (cS.enc v3)), (4, .box ((cXGeo (cLs cI rfl)).enc v0)), (6, .box ((cXTable cI (cLs cI rfl) (cLs cI rfl) cI).enc v2)), (10, .d ((cLs cI rfl).enc x39.1)), (11, .d (cB.enc x39.2)), (12, .box ((cXGeo (cLo cI)).enc x43)), (13, .d ((cLo (cXVariable cS cI)).enc x47)), (14, .box ((cXTable cI (cLo cI) (cLo cI) cI).enc x51)), (15, .d ((cLo cI).enc x55.1)), (16, .d (cB.enc x55.2)), (17, .d (cI.enc (1 : Int)))] (by kernel_rfl) <|
    xn <| wpC_seq <| reg_s <| st rfl <| ldbo rfl rfl rfl rfl <| st rfl <| mvd rfl rfl <| bnd h fun x127 e128 h => x_clr (c := (cXGeo (cLo cI))) (c' := (cXGeo (cLo cI))) ((cXGeo (cLo cI)).enc x127.1) (sXGeo (sLo sK)) rfl (a1 (c := cI) tK rfl a0) rfl Ln.nil (con_laws_markGeo e128) rfl rfl (so1 sK so0) <| x_asg (ss rfl rfl) <| seqN [(1, .d ((cLs (cXVariable cS cI) rfl).enc v1)), (3, .d (cS.enc v3)), (4, .box ((cXGeo (cLs cI rfl)).enc v0)), (6, .box ((cXTable cI (cLs cI rfl) (cLs cI rfl) cI).enc v2)), (10, .d ((cLs cI rfl).enc x39.1)), (11, .d (cB.enc x39.2)), (13, .d ((cLo (cXVariable cS cI)).enc x47)), (14, .box ((cXTable cI (cLo cI) (cLo cI) cI).enc x51)), (15, .d ((cLo cI).enc x55.1)), (16, .d (cB.enc x55.2)), (17, .d (cI.enc x127.2))] (by kernel_rfl) <|
    xn <| wpC_seq <| reg_s <| st rfl <| mvo rfl rfl <| st rfl <| mvd rfl rfl <| bnd h fun x131 e132 h => x_clr (c := (cLo (cXVariable cS cI))) (c' := (cLo (cXVariable cS cI))) ((cLo (cXVariable cS cI)).enc x131.1) (sLo (sXVariable sS sK)) rfl (a1 (c := cI) tK rfl a0) rfl Ln.nil (con_laws_markVariableS e132) rfl rfl (so1 sK so0) <| x_asg (ss rfl rfl) <| seqN [(1, .d ((cLs (cXVariable cS cI) rfl).enc v1)), (3, .d (cS.enc v3)), (4, .box ((cXGeo (cLs cI rfl)).enc v0)), (6, .box ((cXTable cI (cLs cI rfl) (cLs cI rfl) cI).enc v2)), (10, .d ((cLs cI rfl).enc x39.1)), (11, .d (cB.enc x39.2)), (14, .box ((cXTable cI (cLo cI) (cLo cI) cI).enc x51)), (15, .d ((cLo cI).enc x55.1)), (16, .d (cB.enc x55.2)), (17, .d (cI.enc x131.2))] (by kernel_rfl) <|
    xn <| wpC_seq <| reg_s <| st rfl <| ldbo rfl rfl rfl rfl <| st rfl <| mvd rfl rfl <| bnd h fun x135 e136 h => x_clr (c := (cXTable cI (cLo cI) (cLo cI) cI)) (c' := (cXTable cI (cLo cI) (cLo cI) cI)) ((cXTable cI (cLo cI) (cLo cI) cI).enc x135.1) (sXTable sK (sLo sK) (sLo sK) sK) rfl (a1 (c := cI) tK rfl a0) rfl Ln.nil (con_laws_markTable e136) rfl rfl (so1 sK so0) <| x_asg (ss rfl rfl) <| seqN [(1, .d ((cLs (cXVariable cS cI) rfl).enc v1)), (3, .d (cS.enc v3)), (4, .box ((cXGeo (cLs cI rfl)).enc v0)), (6, .box ((cXTable cI (cLs cI rfl) (cLs cI rfl) cI).enc v2)), (10, .d ((cLs cI rfl).enc x39.1)), (11, .d (cB.enc x39.2)), (15, .d ((cLo cI).enc x55.1)), (16, .d (cB.enc x55.2)), (17, .d (cI.enc x135.2))] (by kernel_rfl) <|
    xn <| wpC_seq <| wpC_kp <| wpC_seq <| reg_s <| st rfl <| mvd rfl rfl <| st rfl <| b_lss (k := .i64) rfl rfl <| st rfl <| mvd rfl rfl <| ite_k h (fun b149 h => gf rfl b149 <| gf rfl b149 <| gf rfl b149 <| gf rfl b149 <| st rfl <| pick1 rfl b149 (cd := cB) (v := true) rfl rfl <| st rfl <| mvd rfl rfl <| gf rfl rfl <| gf rfl rfl <| gf rfl rfl <| st rfl <| pick1 rfl rfl (cd := cB) (v := true) rfl rfl <| seqN [(1, .d ((cLs (cXVariable cS cI) rfl).enc v1)), (3, .d (cS.enc v3)), (4, .box ((cXGeo (cLs cI rfl)).enc v0)), (6, .box ((cXTable cI (cLs cI rfl) (cLs cI rfl) cI).enc v2)), (10, .d ((cLs cI rfl).enc x39.1)), (11, .d (cB.enc x39.2)), (15, .d ((cLo cI).enc x55.1)), (110, .d (cB.enc true))] (by kernel_rfl) <|
    xn <| cnd1 rfl rfl <| wpC_seq <| reg_s <| x_asg (sc cB false rfl) <| seqN [(8, .d (cB.enc false))] (by kernel_rfl) <|
    xn <| wpC_ret <| rt <| rt <| re <| fin h (r1 (ss rfl rfl) <| r0) rfl)
    (fun b149 h => gt' rfl b149 <| st rfl <| mvo rfl rfl <| gt' rfl b149 <| st rfl <| mvd rfl rfl <| gt' rfl b149 <| bnd h fun x150 e151 h => st rfl <| o_call (a1 (c := (cLo cI)) (tLo tK) rfl (a1 (c := (cLs cI rfl)) (tLs tK) rfl a0)) (con_laws_eqIntS e151) (.inl (so1 sB so0)) <| gt' rfl b149 <| st rfl <| o_nt rfl <| st rfl <| pick0 rfl b149 (cd := cB) (v := (!x150)) rfl rfl <| st rfl <| mvd rfl rfl <| ite_k h (fun b152 h => gf rfl b152 <| gf rfl b152 <| gf rfl b152 <| st rfl <| pick1 rfl b152 (cd := cB) (v := true) rfl rfl <| seqN [(1, .d ((cLs (cXVariable cS cI) rfl).enc v1)), (3, .d (cS.enc v3)), (4, .box ((cXGeo (cLs cI rfl)).enc v0)), (6, .box ((cXTable cI (cLs cI rfl) (cLs cI rfl) cI).enc v2)), (10, .d ((cLs cI rfl).enc x39.1)), (11, .d (cB.enc x39.2)), (15, .d ((cLo cI).enc x55.1)), (110, .d (cB.enc true))] (by kernel_rfl) <|
    xn <| cnd1 rfl rfl <| wpC_seq <| reg_s <| x_asg (sc cB false rfl) <| seqN [(8, .d (cB.enc false))] (by kernel_rfl) <|
    xn <| wpC_ret <| rt <| rt <| re <| fin h (r1 (ss rfl rfl) <| r0) rfl)
    (fun b152 h => gt' rfl b152 <| st rfl <| mvd rfl rfl <| gt' rfl b152 <| st rfl <| mvd rfl rfl <| gt' rfl b152 <| st rfl <| eqb1 rfl rfl <| st rfl <| pick0 rfl b152 (cd := cB) (v := (x55.2 != x39.2)) rfl rfl <| seqN [(1, .d ((cLs (cXVariable cS cI) rfl).enc v1)), (3, .d (cS.enc v3)), (4, .box ((cXGeo (cLs cI rfl)).enc v0)), (6, .box ((cXTable cI (cLs cI rfl) (cLs cI rfl) cI).enc v2)), (10, .d ((cLs cI rfl).enc x39.1)), (11, .d (cB.enc x39.2)), (15, .d ((cLo cI).enc x55.1)), (110, .d (cB.enc (x55.2 != x39.2)))] (by kernel_rfl) <|
    xn <| cnd0 rfl b70 <| wpC_skip <| kpN [(1, .d ((cLs (cXVariable cS cI) rfl).enc v1)), (3, .d (cS.enc v3)), (4, .box ((cXGeo (cLs cI rfl)).enc v0)), (6, .box ((cXTable cI (cLs cI rfl) (cLs cI rfl) cI).enc v2)), (10, .d ((cLs cI rfl).enc x39.1)), (11, .d (cB.enc x39.2)), (15, .d ((cLo cI).enc x55.1))] (by kernel_rfl) <| xn <| wpC_seq <| reg_s <| x_asg (sc cI (1 : Int) rfl) <| seqN [(1, .d ((cLs (cXVariable cS cI) rfl).enc v1)), (3, .d (cS.enc v3)), (4, .box ((cXGeo (cLs cI rfl)).enc v0)), (6, .box ((cXTable cI (cLs cI rfl) (cLs cI rfl) cI).enc v2)), (10, .d ((cLs cI rfl).enc x39.1)), (11, .d (cB.enc x39.2)), (15, .d ((cLo cI).enc x55.1)), (18, .d (cI.enc (1 : Int)))] (by kernel_rfl) <|
    xn <| wpC_seq <| reg_s <| st rfl <| mvo rfl rfl <| st rfl <| mvd rfl rfl <| bnd h fun x155 e156 h => x_clr (c := (cLo cI)) (c' := (cLo cI)) ((cLo cI).enc x155.1) (sLo sK) rfl (a1 (c := cI) tK rfl a0) rfl Ln.nil (con_laws_markIntS e156) rfl rfl (so1 sK so0) <| x_asg (ss rfl rfl) <| seqN [(1, .d ((cLs (cXVariable cS cI) rfl).enc v1)), (3, .d (cS.enc v3)), (4, .box ((cXGeo (cLs cI rfl)).enc v0)), (6, .box ((cXTable cI (cLs cI rfl) (cLs cI rfl) cI).enc v2)), (10, .d ((cLs cI rfl).enc x39.1)), (11, .d (cB.enc x39.2)), (15, .d ((cLo cI).enc x155.1)), (18, .d (cI.enc x155.2))] (by kernel_rfl) <|
    xn <| wpC_seq <| reg_s <| x_asg (sc cI (1 : Int) rfl) <| seqN [(1, .d ((cLs (cXVariable cS cI) rfl).enc v1)), (3, .d (cS.enc v3)), (4, .box ((cXGeo (cLs cI rfl)).enc v0)), (6, .box ((cXTable cI (cLs cI rfl) (cLs cI rfl) cI).enc v2)), (10, .d ((cLs cI rfl).enc x39.1)), (11, .d (cB.enc x39.2)), (15, .d ((cLo cI).enc x155.1)), (18, .d (cI.enc x155.2)), (19, .d (cI.enc (1 : Int)))] (by kernel_rfl) <|
    xn <| wpC_seq <| reg_s <| st rfl <| mvo rfl rfl <| st rfl <| mvd rfl rfl <| bnd h fun x159 e160 h => st rfl <| o_call (a1 (c := (cLo cI)) (tLo tK) rfl (a1 (c := cI) tK rfl a0)) (con_laws_heldIntS e160) (.inl (so1 sK so0)) <| x_asg (ss rfl rfl) <| seqN [(1, .d ((cLs (cXVariable cS cI) rfl).enc v1)), (3, .d (cS.enc v3)), (4, .box ((cXGeo (cLs cI rfl)).enc v0)), (6, .box ((cXTable cI (cLs cI rfl) (cLs cI rfl) cI).enc v2)), (10, .d ((cLs cI rfl).enc x39.1)), (11, .d (cB.enc x39.2)), (15, .d ((cLo cI).enc x155.1)), (18, .d (cI.enc x155.2)), (19, .d (cI.enc x159))] (by kernel_rfl) <|
    xn <| wpC_seq <| wpC_kp <| wpC_seq <| reg_s <| st rfl <| mvd rfl rfl <| st rfl <| b_lss (k := .i64) rfl rfl <| seqN [(1, .d ((cLs (cXVariable cS cI) rfl).enc v1)), (3, .d (cS.enc v3)), (4, .box ((cXGeo (cLs cI rfl)).enc v0)), (6, .box ((cXTable cI (cLs cI rfl) (cLs cI rfl) cI).enc v2)), (10, .d ((cLs cI rfl).enc x39.1)), (11, .d (cB.enc x39.2)), (15, .d ((cLo cI).enc x155.1)), (18, .d (cI.enc x155.2)), (19, .d (cI.enc x159)), (118, .d (cB.enc (decide (x159 < (0 : Int)))))] (by kernel_rfl) <|
    xn <| cnd rfl h (fun b162 h => wpC_seq <| reg_s <| x_asg (sc cB false rfl) <| seqN [(8, .d (cB.enc false))] (by kernel_rfl) <|
    xn <| wpC_ret <| rt <| rt <| re <| fin h (r1 (ss rfl rfl) <| r0) rfl)
    (fun b162 h => wpC_skip <| kpN [(1, .d ((cLs (cXVariable cS cI) rfl).enc v1)), (3, .d (cS.enc v3)), (4, .box ((cXGeo (cLs cI rfl)).enc v0)), (6, .box ((cXTable cI (cLs cI rfl) (cLs cI rfl) cI).enc v2)), (10, .d ((cLs cI rfl).enc x39.1)), (11, .d (cB.enc x39.2)), (15, .d ((cLo cI).enc x155.1)), (18, .d (cI.enc x155.2)), (19, .d (cI.enc x159))] (by kernel_rfl) <| xn <| wpC_seq <| wpC_kp <| wpC_seq <| reg_s <| st rfl <| mvd rfl rfl <| st rfl <| mvd rfl rfl <| st rfl <| b_neq (k := .i64) rfl rfl <| seqN [(1, .d ((cLs (cXVariable cS cI) rfl).enc v1)), (3, .d (cS.enc v3)), (4, .box ((cXGeo (cLs cI rfl)).enc v0)), (6, .box ((cXTable cI (cLs cI rfl) (cLs cI rfl) cI).enc v2)), (10, .d ((cLs cI rfl).enc x39.1)), (11, .d (cB.enc x39.2)), (15, .d ((cLo cI).enc x155.1)), (18, .d (cI.enc x155.2)), (121, .d (cB.enc (decide (x159 ≠ x155.2))))] (by kernel_rfl) <|
    xn <| cnd rfl h (fun b164 h => wpC_seq <| reg_s <| x_asg (sc cB false rfl) <| seqN [(8, .d (cB.enc false))] (by kernel_rfl) <|
    xn <| wpC_ret <| rt <| rt <| re <| fin h (r1 (ss rfl rfl) <| r0) rfl)
    (fun b164 h => wpC_skip <| kpN [(1, .d ((cLs (cXVariable cS cI) rfl).enc v1)), (3, .d (cS.enc v3)), (4, .box ((cXGeo (cLs cI rfl)).enc v0)), (6, .box ((cXTable cI (cLs cI rfl) (cLs cI rfl) cI).enc v2)), (10, .d ((cLs cI rfl).enc x39.1)), (11, .d (cB.enc x39.2)), (15, .d ((cLo cI).enc x155.1)), (18, .d (cI.enc x155.2))] (by kernel_rfl) <| xn <| wpC_seq <| drg_s <| pst rfl <| ldb rfl rfl rfl rfl ⟨rfl, bndp h fun x173 e174 h => pst rfl <| o_call (a1 (c := (cXGeo (cLs cI rfl))) (tXGeo (tLs tK)) rfl a0) (con_laws_toGeo e174) (.inl (so1 (sXGeo (sLo sK)) so0)) ⟨rfl, pst rfl <| mvd rfl rfl ⟨rfl, bndp h fun x175 e176 h => pst rfl <| o_call (a1 (c := (cLs (cXVariable cS cI) rfl)) (tLs (tXVariable tS tK)) rfl a0) (con_laws_toVariableS e176) (.inl (so1 (sLo (sXVariable sS sK)) so0)) ⟨rfl, pst rfl <| ldb rfl rfl rfl rfl ⟨rfl, bndp h fun x177 e178 h => pst rfl <| o_call (a1 (c := (cXTable cI (cLs cI rfl) (cLs cI rfl) cI)) (tXTable tK (tLs tK) (tLs tK) tK) rfl a0) (con_laws_toTable e178) (.inl (so1 (sXTable sK (sLo sK) (sLo sK) sK) so0)) ⟨rfl, pst rfl <| mvd rfl rfl ⟨rfl, bndp h fun x179 e180 h => pst rfl <| o_call (a1 (c := (cXGeo (cLo cI))) (tXGeo (tLo tK)) rfl (a1 (c := (cLo (cXVariable cS cI))) (tLo (tXVariable tS tK)) rfl (a1 (c := (cXTable cI (cLo cI) (cLo cI) cI)) (tXTable tK (tLo tK) (tLo tK) tK) rfl (a1 (c := cS) tS rfl a0)))) (con_impl_ParseReport e180) (.inl (so1 (sLo sK) (so1 sB so0))) ⟨rfl, preN <| gr_s [(10, .d ((cLs cI rfl).enc x39.1)), (11, .d (cB.enc x39.2)), (15, .d ((cLo cI).enc x155.1)), (18, .d (cI.enc x155.2))] [([false, false, false, false, false], [(20, .un), (21, .un), (122, .un), (130, .tup [some ((cLo cI).enc x179.1), some (cB.enc x179.2)]), (131, .un), (132, .un)]),
     ([true, false, false, false, false], [(20, .un), (21, .un), (122, .tup [some ((cLo cI).enc x179.1), some (cB.enc x179.2)]), (130, .un), (131, .un), (132, .un)]),
     ([true, true, false, false, false], [(20, .un), (21, .un), (122, .tup [none, some (cB.enc x179.2)]), (130, .un), (131, .d ((cLo cI).enc x179.1)), (132, .un)]),
     ([true, false, true, false, false], [(20, .un), (21, .un), (122, .tup [some ((cLo cI).enc x179.1), none]), (130, .un), (131, .un), (132, .d (cB.enc x179.2))]),
     ([true, true, true, false, false], [(20, .un), (21, .un), (122, .tup [none, none]), (130, .un), (131, .d ((cLo cI).enc x179.1)), (132, .d (cB.enc x179.2))]),
     ([true, true, false, true, false], [(20, .d ((cLo cI).enc x179.1)), (21, .un), (122, .tup [none, some (cB.enc x179.2)]), (130, .un), (131, .un), (132, .un)]),
     ([true, true, true, true, false], [(20, .d ((cLo cI).enc x179.1)), (21, .un), (122, .tup [none, none]), (130, .un), (131, .un), (132, .d (cB.enc x179.2))]),
     ([true, true, true, true, true], [(20, .d ((cLo cI).enc x179.1)), (21, .d (cB.enc x179.2)), (122, .tup [none, none]), (130, .un), (131, .un), (132, .d (cB.enc x179.2))])] [(10, .d ((cLs cI rfl).enc x39.1)), (11, .d (cB.enc x39.2)), (15, .d ((cLo cI).enc x155.1)), (18, .d (cI.enc x155.2)), (20, .d ((cLo cI).enc x179.1)), (21, .d (cB.enc x179.2))] [([false, false, false, false, false], [])] (by kernel_rfl) (sa1 rfl (by kernel_rfl) <| sa0) rfl
    (ob1 rfl rfl rfl (x_mvt rfl <| obN (by kernel_rfl)) <|
    ob1 rfl rfl rfl (x_ext rfl rfl <| obN (by kernel_rfl)) <|
    ob1 rfl rfl rfl (x_ext rfl rfl <| obN (by kernel_rfl)) <|
    ob1 rfl rfl rfl (x_ext rfl rfl <| obN (by kernel_rfl)) <|
    ob1 rfl rfl rfl (x_asg (so rfl rfl) <| obN (by kernel_rfl)) <|
    ob1 rfl rfl rfl (x_ext rfl rfl <| obN (by kernel_rfl)) <|
    ob1 rfl rfl rfl (x_asg (so rfl rfl) <| obN (by kernel_rfl)) <|
    ob1 rfl rfl rfl (x_ext rfl rfl <| obN (by kernel_rfl)) <|
    ob1 rfl rfl rfl (x_asg (ss rfl rfl) <| obN (by kernel_rfl)) <|
    ob0)
    (by kernel_rfl) <|
    xn <| wpC_seq <| wpC_kp <| wpC_seq <| reg_s <| st rfl <| mvo rfl rfl <| st rfl <| mvd rfl rfl <| bnd h fun x191 e192 h => st rfl <| o_call (a1 (c := (cLo cI)) (tLo tK) rfl (a1 (c := (cLs cI rfl)) (tLs tK) rfl a0)) (con_laws_eqIntS e192) (.inl (so1 sB so0)) <| st rfl <| o_nt rfl <| st rfl <| mvd rfl rfl <| ite_k h (fun b193 h => gf rfl b193 <| gf rfl b193 <| gf rfl b193 <| st rfl <| pick1 rfl b193 (cd := cB) (v := true) rfl rfl <| seqN [(15, .d ((cLo cI).enc x155.1)), (18, .d (cI.enc x155.2)), (141, .d (cB.enc true))] (by kernel_rfl) <|
    xn <| cnd1 rfl rfl <| wpC_seq <| reg_s <| x_asg (sc cB false rfl) <| seqN [(8, .d (cB.enc false))] (by kernel_rfl) <|
    xn <| wpC_ret <| rt <| rt <| re <| fin h (r1 (ss rfl rfl) <| r0) rfl)
    (fun b193 h => gt' rfl b193 <| st rfl <| mvd rfl rfl <| gt' rfl b193 <| st rfl <| mvd rfl rfl <| gt' rfl b193 <| st rfl <| eqb1 rfl rfl <| st rfl <| pick0 rfl b193 (cd := cB) (v := (x179.2 != x39.2)) rfl rfl <| seqN [(15, .d ((cLo cI).enc x155.1)), (18, .d (cI.enc x155.2)), (141, .d (cB.enc (x179.2 != x39.2)))] (by kernel_rfl) <|
    xn <| cnd rfl h (fun b194 h => wpC_seq <| reg_s <| x_asg (sc cB false rfl) <| seqN [(8, .d (cB.enc false))] (by kernel_rfl) <|
    xn <| wpC_ret <| rt <| rt <| re <| fin h (r1 (ss rfl rfl) <| r0) rfl)
    (fun b194 h => wpC_skip <| kpN [(15, .d ((cLo cI).enc x155.1)), (18, .d (cI.enc x155.2))] (by kernel_rfl) <| xn <| wpC_seq <| reg_s <| x_asg (sc cI (1 : Int) rfl) <| seqN [(15, .d ((cLo cI).enc x155.1)), (18, .d (cI.enc x155.2)), (19, .d (cI.enc (1 : Int)))] (by kernel_rfl) <|
    xn <| wpC_seq <| reg_s <| st rfl <| mvo rfl rfl <| st rfl <| mvd rfl rfl <| bnd h fun x197 e198 h => st rfl <| o_call (a1 (c := (cLo cI)) (tLo tK) rfl (a1 (c := cI) tK rfl a0)) (con_laws_heldIntS e198) (.inl (so1 sK so0)) <| x_asg (ss rfl rfl) <| seqN [(18, .d (cI.enc x155.2)), (19, .d (cI.enc x197))] (by kernel_rfl) <|
    xn <| wpC_seq <| wpC_kp <| wpC_seq <| reg_s <| st rfl <| mvd rfl rfl <| st rfl <| b_lss (k := .i64) rfl rfl <| seqN [(18, .d (cI.enc x155.2)), (19, .d (cI.enc x197)), (146, .d (cB.enc (decide (x197 < (0 : Int)))))] (by kernel_rfl) <|
    xn <| cnd rfl h (fun b200 h => wpC_seq <| reg_s <| x_asg (sc cB false rfl) <| seqN [(8, .d (cB.enc false))] (by kernel_rfl) <|
    xn <| wpC_ret <| rt <| rt <| re <| fin h (r1 (ss rfl rfl) <| r0) rfl)
    (fun b200 h => wpC_skip <| kpN [(18, .d (cI.enc x155.2)), (19, .d (cI.enc x197))] (by kernel_rfl) <| xn <| wpC_seq <| wpC_kp <| wpC_seq <| reg_s <| st rfl <| mvd rfl rfl <| st rfl <| mvd rfl rfl <| st rfl <| b_neq (k := .i64) rfl rfl <| seqN [(149, .d (cB.enc (decide (x197 ≠ x155.2))))] (by kernel_rfl) <|
    xn <| cnd rfl h (fun b202 h => wpC_seq <| reg_s <| x_asg (sc cB false rfl) <| seqN [(8, .d (cB.enc false))] (by kernel_rfl) <|
    xn <| wpC_ret <| rt <| rt <| re <| fin h (r1 (ss rfl rfl) <| r0) rfl)
    (fun b202 h => wpC_skip <| kpN [] (by kernel_rfl) <| xn <| wpC_seq <| reg_s <| x_asg (sc cB true rfl) <| seqN [(8, .d (cB.enc true))] (by kernel_rfl) <|
    xn <| wpC_ret <| re <| fin h (r1 (ss rfl rfl) <| r0) rfl))))⟩⟩⟩⟩⟩⟩⟩⟩)))))⟩⟩⟩⟩⟩))⟩⟩⟩⟩⟩))⟩⟩⟩⟩⟩⟩⟩⟩))))
end AS.W
