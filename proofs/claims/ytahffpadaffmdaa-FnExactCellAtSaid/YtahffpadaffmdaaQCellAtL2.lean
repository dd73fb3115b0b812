/- The program computes the plain functions. No condition. -/
import Derived.Test.YtahffpadaffmdaaQCellAtS
import Derived.Test.YtahffpadaffmdaaProg
import Derived.Test.YtahffpadaffmdaaQCellAtL1
set_option maxRecDepth 100000
set_option linter.unusedVariables false
set_option linter.unusedSimpArgs false
namespace AS.W
open Go Go.Proofs
def rs_laws_heldIntS (r : Int) : List D := [cI.enc r]
def m47 : MC := .seq (.reg [⟨some 4, .asg (.c (.int .i64 0)), none⟩] [0, 1])
  (.seq (.kp [1] (.seq (.reg [⟨some 5, .asg (.c (.int .i64 0)), none⟩] [0, 1, 5])
  (.blk 0 (.loop (.seq (.kp [0, 1, 5] (.seq (.reg [⟨some 6, .mv (.t 5), none⟩,
    ⟨some 7, .mv (.t 0), none⟩,
    ⟨some 8, .len false (.t 7), none⟩,
    ⟨some 9, .bin .lss (.t 6) (.t 8), none⟩] [0, 1, 5, 9])
  (.cond (.t 9) (.skip) (.exit 0))))
  (.seq (.kp [0, 1, 5] (.blk 1 (.seq (.kp [0, 1, 5] (.seq (.reg [⟨some 12, .mv (.t 0), none⟩,
    ⟨some 13, .mv (.t 5), none⟩,
    ⟨some 14, .ia 12 (.t 13) 1, none⟩,
    ⟨some 15, .ld 14 1 false, none⟩,
    ⟨some 16, .mv (.t 1), none⟩,
    ⟨some 17, .bin .neq (.t 15) (.t 16), none⟩] [0, 1, 5, 17])
  (.cond (.t 17) (.seq (.reg [⟨some 4, .asg (.c (.int .i64 (-1))), none⟩] [4])
  (.ret)) (.skip))))
  (.reg [⟨some 18, .mv (.t 1), none⟩,
    ⟨some 19, .bin .add (.t 18) (.c (.int .i64 1)), none⟩,
    ⟨some 1, .asg (.t 19), none⟩] [0, 1, 5]))))
  (.reg [⟨some 10, .mv (.t 5), none⟩,
    ⟨some 11, .bin .add (.t 10) (.c (.int .i64 1)), none⟩,
    ⟨some 5, .asg (.t 11), none⟩] [0, 1, 5])))))))
  (.seq (.reg [⟨some 20, .mv (.t 1), none⟩,
    ⟨some 4, .asg (.t 20), none⟩] [4])
  (.ret)))
theorem con_laws_heldIntS {v0 : (List Int)} {v1 : Int} {r : Int} (h : sh_laws_heldIntS v0 v1 = some r) : Con Try.prog 47 [(cLs cI rfl).enc v0, cI.enc v1] [] (rs_laws_heldIntS r) := by
  delta sh_laws_heldIntS at h
  refine top (out := none) (f := Try.f47) (m := m47) (rs := [.t 4]) (by kernel_rfl) rfl (by kernel_rfl) (by kernel_rfl) (by kernel_rfl) (by kernel_rfl) (by kernel_rfl) ?_
  exact
   ini [(0, .d ((cLs cI rfl).enc v0)), (1, .d (cI.enc v1))] rfl <| wpC_seq <| reg_s <| x_asg (sc cI (0 : Int) rfl) <| seqN [(0, .d ((cLs cI rfl).enc v0)), (1, .d (cI.enc v1))] (by kernel_rfl) <|
    xn <| wpC_seq <| wpC_kp <| wpC_seq <| reg_s <| x_asg (sc cI (0 : Int) rfl) <| seqN [(0, .d ((cLs cI rfl).enc v0)), (1, .d (cI.enc v1)), (5, .d (cI.enc (0 : Int)))] (by kernel_rfl) <|
    xn <| wpC_blk <| lpF (fun (s120 : (Int × Int)) => [(0, .d ((cLs cI rfl).enc v0)), (1, .d (cI.enc s120.1)), (5, .d (cI.enc s120.2))]) (v1, (0 : Int)) rfl h
    fun G201 nx199 s120 hn200 h => wpC_seq <| wpC_kp <| wpC_seq <| reg_s <| st rfl <| mvd rfl rfl <| st rfl <| mvd rfl rfl <| stw rfl <| lens rfl fun l206 => st rfl <| b_lss (k := .i64) rfl rfl <| seqN [(0, .d ((cLs cI rfl).enc v0)), (1, .d (cI.enc s120.1)), (5, .d (cI.enc s120.2)), (9, .d (cB.enc (decide (s120.2 < (v0.length : Int)))))] (by kernel_rfl) <|
    xn <| cnd rfl h (fun b207 h => wpC_skip <| kpN [(0, .d ((cLs cI rfl).enc v0)), (1, .d (cI.enc s120.1)), (5, .d (cI.enc s120.2))] (by kernel_rfl) <| xn <| wpC_seq <| wpC_kp <| wpC_blk <| wpC_seq <| wpC_kp <| wpC_seq <| reg_s <| st rfl <| mvd rfl rfl <| st rfl <| mvd rfl rfl <| getO_k h fun x233 i234 g235 h => st rfl <| ias rfl rfl i234 g235 rfl <| st rfl <| ldi rfl rfl rfl rfl <| st rfl <| mvd rfl rfl <| st rfl <| b_neq (k := .i64) rfl rfl <| seqN [(0, .d ((cLs cI rfl).enc v0)), (1, .d (cI.enc s120.1)), (5, .d (cI.enc s120.2)), (17, .d (cB.enc (decide (x233 ≠ s120.1))))] (by kernel_rfl) <|
    xn <| cnd rfl h (fun b236 h => wpC_seq <| reg_s <| x_asg (sc cI (-1 : Int) rfl) <| seqN [(4, .d (cI.enc (-1 : Int)))] (by kernel_rfl) <|
    xn <| wpC_ret <| rt <| rt <| rb <| rt <| rt <| rt <| rb <| rt <| rt <| re <| fin h (r1 (ss rfl rfl) <| r0) rfl)
    (fun b236 h => wpC_skip <| kpN [(0, .d ((cLs cI rfl).enc v0)), (1, .d (cI.enc s120.1)), (5, .d (cI.enc s120.2))] (by kernel_rfl) <| xn <| reg_s <| st rfl <| mvd rfl rfl <| ckI_k h fun i237 h => st rfl <| b_add (k := .i64) rfl rfl i237 <| x_asg (ss rfl rfl) <| seqN [(0, .d ((cLs cI rfl).enc v0)), (1, .d (cI.enc (s120.1 + (1 : Int)))), (5, .d (cI.enc s120.2))] (by kernel_rfl) <|
    xbb <| kpN [(0, .d ((cLs cI rfl).enc v0)), (1, .d (cI.enc (s120.1 + (1 : Int)))), (5, .d (cI.enc s120.2))] (by kernel_rfl) <| xn <| reg_s <| st rfl <| mvd rfl rfl <| ckI_k h fun i238 h => st rfl <| b_add (k := .i64) rfl rfl i238 <| x_asg (ss rfl rfl) <| seqN [(0, .d ((cLs cI rfl).enc v0)), (1, .d (cI.enc (s120.1 + (1 : Int)))), (5, .d (cI.enc (s120.2 + (1 : Int))))] (by kernel_rfl) <|
    xn <| hn200 ((s120.1 + (1 : Int)), (s120.2 + (1 : Int))) h))
    (fun b207 h => wpC_exit <| xt <| xt <| xt <| xb <| kpN [(1, .d (cI.enc s120.1))] (by kernel_rfl) <| xn <| wpC_seq <| reg_s <| st rfl <| mvd rfl rfl <| x_asg (ss rfl rfl) <| seqN [(4, .d (cI.enc s120.1))] (by kernel_rfl) <|
    xn <| wpC_ret <| re <| fin h (r1 (ss rfl rfl) <| r0) rfl)

def rs_laws_FnExactCellAt (r : Bool) : List D := [cB.enc r]
def m8 : MC := .seq (.reg [⟨some 4, .box (.t 0), none⟩,
    ⟨some 6, .box (.t 2), none⟩,
    ⟨some 8, .asg (.c (.bool false)), none⟩] [1, 3, 4, 6])
  (.seq (.reg [⟨some 9, .asg (.c (.int .i64 1048576)), none⟩] [1, 3, 4, 6, 9])
  (.seq (.reg [⟨some 25, .ld 4 1 true, none⟩,
    ⟨some 26, .mv (.t 9), none⟩,
    ⟨some 27, .call 26 [(.t 25), (.t 26)], none⟩,
    ⟨some 9, .asg (.t 27), none⟩] [1, 3, 4, 6, 9])
  (.seq (.kp [1, 3, 4, 6, 9] (.seq (.reg [⟨some 28, .mv (.t 9), none⟩,
    ⟨some 29, .bin .lss (.t 28) (.c (.int .i64 0)), none⟩] [1, 3, 4, 6, 9, 29])
  (.cond (.t 29) (.seq (.reg [⟨some 8, .asg (.c (.bool true)), none⟩] [8])
  (.ret)) (.skip))))
  (.seq (.reg [⟨some 30, .mv (.t 1), none⟩,
    ⟨some 31, .mv (.t 9), none⟩,
    ⟨some 32, .call 15 [(.t 30), (.t 31)], none⟩,
    ⟨some 9, .asg (.t 32), none⟩] [1, 3, 4, 6, 9])
  (.seq (.kp [1, 3, 4, 6, 9] (.seq (.reg [⟨some 33, .mv (.t 9), none⟩,
    ⟨some 34, .bin .lss (.t 33) (.c (.int .i64 0)), none⟩] [1, 3, 4, 6, 9, 34])
  (.cond (.t 34) (.seq (.reg [⟨some 8, .asg (.c (.bool true)), none⟩] [8])
  (.ret)) (.skip))))
  (.seq (.reg [⟨some 35, .ld 6 4 true, none⟩,
    ⟨some 36, .mv (.t 9), none⟩,
    ⟨some 37, .call 16 [(.t 35), (.t 36)], none⟩,
    ⟨some 9, .asg (.t 37), none⟩] [1, 3, 4, 6, 9])
  (.seq (.kp [1, 3, 4, 6] (.seq (.reg [⟨some 38, .mv (.t 9), none⟩,
    ⟨some 39, .bin .lss (.t 38) (.c (.int .i64 0)), none⟩] [1, 3, 4, 6, 39])
  (.cond (.t 39) (.seq (.reg [⟨some 8, .asg (.c (.bool true)), none⟩] [8])
  (.ret)) (.skip))))
  (.seq (.drg [⟨0, ⟨some 41, .ld 4 1 true, none⟩, [42, 43, 44, 45, 46, 47, 48]⟩,
    ⟨1, ⟨some 42, .call 28 [(.t 41)], none⟩, [43, 44, 45, 46, 47, 48]⟩,
    ⟨2, ⟨some 43, .mv (.t 1), none⟩, [41, 42, 44, 45, 46, 47, 48]⟩,
    ⟨3, ⟨some 44, .call 19 [(.t 43)], none⟩, [45, 46, 47, 48]⟩,
    ⟨4, ⟨some 45, .ld 6 4 true, none⟩, [41, 42, 43, 44, 46, 47, 48]⟩,
    ⟨5, ⟨some 46, .call 20 [(.t 45)], none⟩, [47, 48]⟩,
    ⟨6, ⟨some 47, .mv (.t 3), none⟩, [41, 42, 43, 44, 45, 46, 48]⟩,
    ⟨7, ⟨some 48, .call 40 [(.t 42), (.t 44), (.t 46), (.t 47)], none⟩, []⟩]
    [(8, ⟨some 40, .mvt 48, none⟩),
    (9, ⟨some 49, .ext 40 0, none⟩),
    (10, ⟨some 50, .ext 40 1, none⟩),
    (11, ⟨some 51, .ext 40 2, none⟩),
    (12, ⟨some 10, .asg (.t 49), none⟩),
    (13, ⟨some 11, .asg (.t 50), none⟩),
    (14, ⟨some 12, .asg (.t 51), none⟩)] [1, 3, 4, 6, 10, 11, 12] [10, 11, 12, 40, 48, 49, 50, 51, 1, 3, 4, 6] [([false, false, false, false, false, false, false], 0), ([true, false, false, false, false, false, false], 1), ([true, false, false, false, false, false, false], 2), ([true, false, false, false, false, false, false], 3), ([true, true, false, false, false, false, false], 2), ([true, true, false, false, false, false, false], 3), ([true, true, false, false, false, false, false], 4), ([true, false, true, false, false, false, false], 1), ([true, false, true, false, false, false, false], 3), ([true, false, false, true, false, false, false], 1), ([true, false, false, true, false, false, false], 2), ([true, true, true, false, false, false, false], 3), ([true, true, true, false, false, false, false], 4), ([true, true, false, true, false, false, false], 2), ([true, true, false, true, false, false, false], 4), ([true, true, false, false, true, false, false], 2), ([true, true, false, false, true, false, false], 3), ([true, false, true, true, false, false, false], 1), ([true, true, true, true, false, false, false], 4), ([true, true, true, false, true, false, false], 3), ([true, true, true, false, true, false, false], 5), ([true, true, false, true, true, false, false], 2), ([true, true, true, true, true, false, false], 5), ([true, true, true, false, true, true, false], 3), ([true, true, true, true, true, true, false], 6)])
  (.seq (.reg [⟨some 52, .ld 4 1 true, none⟩,
    ⟨some 53, .call 28 [(.t 52)], none⟩,
    ⟨some 13, .alloc (.agg [.slice true []]), none⟩,
    ⟨none, .st 13 (.t 53) 1, none⟩] [1, 3, 4, 6, 10, 11, 12, 13])
  (.seq (.reg [⟨some 54, .mv (.t 1), none⟩,
    ⟨some 55, .call 19 [(.t 54)], none⟩,
    ⟨some 14, .asg (.t 55), none⟩] [1, 3, 4, 6, 10, 11, 12, 13, 14])
  (.seq (.reg [⟨some 56, .ld 6 4 true, none⟩,
    ⟨some 57, .call 20 [(.t 56)], none⟩,
    ⟨some 15, .alloc (.agg [.int .i64 0, .slice true [], .slice true [], .int .i64 0]), none⟩,
    ⟨none, .st 15 (.t 57) 4, none⟩] [1, 3, 4, 6, 10, 11, 12, 13, 14, 15])
  (.seq (.reg [⟨some 59, .ld 13 1 true, none⟩,
    ⟨some 60, .mv (.t 14), none⟩,
    ⟨some 61, .ld 15 4 true, none⟩,
    ⟨some 62, .mv (.t 3), none⟩,
    ⟨some 63, .call 41 [(.t 59), (.t 60), (.t 61), (.t 62)], none⟩,
    ⟨some 58, .mvt 63, none⟩,
    ⟨some 64, .ext 58 0, none⟩,
    ⟨some 65, .ext 58 1, none⟩,
    ⟨some 66, .ext 58 2, none⟩,
    ⟨some 16, .asg (.t 64), none⟩,
    ⟨some 17, .asg (.t 65), none⟩,
    ⟨some 18, .asg (.t 66), none⟩] [1, 3, 4, 6, 10, 11, 12, 13, 14, 15, 16, 17, 18])
  (.seq (.kp [1, 3, 4, 6, 10, 11, 12, 13, 14, 15, 16, 17, 18] (.seq (.reg [⟨some 67, .mv (.t 16), none⟩,
    ⟨some 68, .mv (.t 10), none⟩,
    ⟨some 69, .bin .neq (.t 67) (.t 68), none⟩,
    ⟨some 70, .mv (.t 69), none⟩,
    ⟨some 71, .mv (.t 17), some (70, false)⟩,
    ⟨some 72, .mv (.t 11), some (70, false)⟩,
    ⟨some 73, .call 42 [(.t 71), (.t 72)], some (70, false)⟩,
    ⟨some 74, .nt (.t 73), some (70, false)⟩,
    ⟨some 75, .pick (.t 70) (.c (.bool true)) (.t 74), none⟩,
    ⟨some 76, .mv (.t 75), none⟩,
    ⟨some 77, .mv (.t 18), some (76, false)⟩,
    ⟨some 78, .mv (.t 12), some (76, false)⟩,
    ⟨some 79, .eqb true (.t 77) (.t 78), some (76, false)⟩,
    ⟨some 80, .pick (.t 76) (.c (.bool true)) (.t 79), none⟩] [1, 3, 4, 6, 10, 11, 12, 13, 14, 15, 16, 17, 18, 80])
  (.cond (.t 80) (.seq (.reg [⟨some 8, .asg (.c (.bool false)), none⟩] [8])
  (.ret)) (.skip))))
  (.seq (.kp [1, 3, 4, 6, 10, 11, 12, 13, 14, 15, 16, 17, 18] (.seq (.drw [⟨0, ⟨some 81, .ld 13 1 true, none⟩, [82, 83, 84, 85]⟩,
    ⟨1, ⟨some 82, .ld 4 1 true, none⟩, [81, 83, 84, 85]⟩,
    ⟨2, ⟨some 83, .call 28 [(.t 82)], none⟩, [81, 84, 85]⟩,
    ⟨3, ⟨some 84, .call 30 [(.t 81), (.t 83)], none⟩, [85]⟩,
    ⟨4, ⟨some 85, .nt (.t 84), none⟩, []⟩]
    [] [1, 3, 4, 6, 10, 11, 12, 13, 14, 15, 16, 17, 18, 85])
  (.cond (.t 85) (.seq (.reg [⟨some 8, .asg (.c (.bool false)), none⟩] [8])
  (.ret)) (.skip))))
  (.seq (.kp [1, 3, 4, 6, 10, 11, 12, 13, 14, 15, 16, 17, 18] (.seq (.reg [⟨some 86, .mv (.t 14), none⟩,
    ⟨some 87, .mv (.t 1), none⟩,
    ⟨some 88, .call 19 [(.t 87)], none⟩,
    ⟨some 89, .call 23 [(.t 86), (.t 88)], none⟩,
    ⟨some 90, .nt (.t 89), none⟩] [1, 3, 4, 6, 10, 11, 12, 13, 14, 15, 16, 17, 18, 90])
  (.cond (.t 90) (.seq (.reg [⟨some 8, .asg (.c (.bool false)), none⟩] [8])
  (.ret)) (.skip))))
  (.seq (.kp [1, 3, 4, 6, 10, 11, 12, 13, 14, 15, 16, 17, 18] (.seq (.drw [⟨0, ⟨some 91, .ld 15 4 true, none⟩, [92, 93, 94, 95]⟩,
    ⟨1, ⟨some 92, .ld 6 4 true, none⟩, [91, 93, 94, 95]⟩,
    ⟨2, ⟨some 93, .call 20 [(.t 92)], none⟩, [91, 94, 95]⟩,
    ⟨3, ⟨some 94, .call 24 [(.t 91), (.t 93)], none⟩, [95]⟩,
    ⟨4, ⟨some 95, .nt (.t 94), none⟩, []⟩]
    [] [1, 3, 4, 6, 10, 11, 12, 13, 14, 15, 16, 17, 18, 95])
  (.cond (.t 95) (.seq (.reg [⟨some 8, .asg (.c (.bool false)), none⟩] [8])
  (.ret)) (.skip))))
  (.seq (.reg [⟨some 19, .asg (.c (.int .i64 1)), none⟩] [1, 3, 4, 6, 10, 11, 12, 13, 14, 15, 16, 17, 18, 19])
  (.seq (.reg [⟨some 96, .ld 13 1 true, none⟩,
    ⟨some 97, .mv (.t 19), none⟩,
    ⟨some 98, .callO 43 [(.t 96), (.t 97)], none⟩,
    ⟨some 19, .asg (.t 98), none⟩] [1, 3, 4, 6, 10, 11, 12, 14, 15, 16, 17, 18, 19])
  (.seq (.reg [⟨some 99, .mv (.t 14), none⟩,
    ⟨some 100, .mv (.t 19), none⟩,
    ⟨some 101, .callO 44 [(.t 99), (.t 100)], none⟩,
    ⟨some 19, .asg (.t 101), none⟩] [1, 3, 4, 6, 10, 11, 12, 15, 16, 17, 18, 19])
  (.seq (.reg [⟨some 102, .ld 15 4 true, none⟩,
    ⟨some 103, .mv (.t 19), none⟩,
    ⟨some 104, .callO 45 [(.t 102), (.t 103)], none⟩,
    ⟨some 19, .asg (.t 104), none⟩] [1, 3, 4, 6, 10, 11, 12, 16, 17, 18, 19])
  (.seq (.kp [1, 3, 4, 6, 10, 11, 12, 17] (.seq (.reg [⟨some 105, .mv (.t 19), none⟩,
    ⟨some 106, .bin .lss (.t 105) (.c (.int .i64 0)), none⟩,
    ⟨some 107, .mv (.t 106), none⟩,
    ⟨some 108, .mv (.t 16), some (107, false)⟩,
    ⟨some 109, .mv (.t 10), some (107, false)⟩,
    ⟨some 110, .bin .neq (.t 108) (.t 109), some (107, false)⟩,
    ⟨some 111, .pick (.t 107) (.c (.bool true)) (.t 110), none⟩,
    ⟨some 112, .mv (.t 111), none⟩,
    ⟨some 113, .mv (.t 17), some (112, false)⟩,
    ⟨some 114, .mv (.t 11), some (112, false)⟩,
    ⟨some 115, .call 42 [(.t 113), (.t 114)], some (112, false)⟩,
    ⟨some 116, .nt (.t 115), some (112, false)⟩,
    ⟨some 117, .pick (.t 112) (.c (.bool true)) (.t 116), none⟩,
    ⟨some 118, .mv (.t 117), none⟩,
    ⟨some 119, .mv (.t 18), some (118, false)⟩,
    ⟨some 120, .mv (.t 12), some (118, false)⟩,
    ⟨some 121, .eqb true (.t 119) (.t 120), some (118, false)⟩,
    ⟨some 122, .pick (.t 118) (.c (.bool true)) (.t 121), none⟩] [1, 3, 4, 6, 10, 11, 12, 17, 122])
  (.cond (.t 122) (.seq (.reg [⟨some 8, .asg (.c (.bool false)), none⟩] [8])
  (.ret)) (.skip))))
  (.seq (.reg [⟨some 20, .asg (.c (.int .i64 1)), none⟩] [1, 3, 4, 6, 10, 11, 12, 17, 20])
  (.seq (.reg [⟨some 123, .mv (.t 17), none⟩,
    ⟨some 124, .mv (.t 20), none⟩,
    ⟨some 125, .callO 46 [(.t 123), (.t 124)], none⟩,
    ⟨some 20, .asg (.t 125), none⟩] [1, 3, 4, 6, 10, 11, 12, 17, 20])
  (.seq (.reg [⟨some 21, .asg (.c (.int .i64 1)), none⟩] [1, 3, 4, 6, 10, 11, 12, 17, 20, 21])
  (.seq (.reg [⟨some 126, .mv (.t 17), none⟩,
    ⟨some 127, .mv (.t 21), none⟩,
    ⟨some 128, .call 47 [(.t 126), (.t 127)], none⟩,
    ⟨some 21, .asg (.t 128), none⟩] [1, 3, 4, 6, 10, 11, 12, 17, 20, 21])
  (.seq (.kp [1, 3, 4, 6, 10, 11, 12, 17, 20, 21] (.seq (.reg [⟨some 129, .mv (.t 21), none⟩,
    ⟨some 130, .bin .lss (.t 129) (.c (.int .i64 0)), none⟩] [1, 3, 4, 6, 10, 11, 12, 17, 20, 21, 130])
  (.cond (.t 130) (.seq (.reg [⟨some 8, .asg (.c (.bool false)), none⟩] [8])
  (.ret)) (.skip))))
  (.seq (.kp [1, 3, 4, 6, 10, 11, 12, 17, 20] (.seq (.reg [⟨some 131, .mv (.t 21), none⟩,
    ⟨some 132, .mv (.t 20), none⟩,
    ⟨some 133, .bin .neq (.t 131) (.t 132), none⟩] [1, 3, 4, 6, 10, 11, 12, 17, 20, 133])
  (.cond (.t 133) (.seq (.reg [⟨some 8, .asg (.c (.bool false)), none⟩] [8])
  (.ret)) (.skip))))
  (.seq (.drg [⟨0, ⟨some 135, .ld 4 1 true, none⟩, [136, 137, 138, 139, 140, 141, 142]⟩,
    ⟨1, ⟨some 136, .call 28 [(.t 135)], none⟩, [137, 138, 139, 140, 141, 142]⟩,
    ⟨2, ⟨some 137, .mv (.t 1), none⟩, [135, 136, 138, 139, 140, 141, 142]⟩,
    ⟨3, ⟨some 138, .call 19 [(.t 137)], none⟩, [139, 140, 141, 142]⟩,
    ⟨4, ⟨some 139, .ld 6 4 true, none⟩, [135, 136, 137, 138, 140, 141, 142]⟩,
    ⟨5, ⟨some 140, .call 20 [(.t 139)], none⟩, [141, 142]⟩,
    ⟨6, ⟨some 141, .mv (.t 3), none⟩, [135, 136, 137, 138, 139, 140, 142]⟩,
    ⟨7, ⟨some 142, .call 41 [(.t 136), (.t 138), (.t 140), (.t 141)], none⟩, []⟩]
    [(8, ⟨some 134, .mvt 142, none⟩),
    (9, ⟨some 143, .ext 134 0, none⟩),
    (10, ⟨some 144, .ext 134 1, none⟩),
    (11, ⟨some 145, .ext 134 2, none⟩),
    (12, ⟨some 22, .asg (.t 143), none⟩),
    (13, ⟨some 23, .asg (.t 144), none⟩),
    (14, ⟨some 24, .asg (.t 145), none⟩)] [10, 11, 12, 17, 20, 22, 23, 24] [22, 23, 24, 134, 142, 143, 144, 145, 10, 11, 12, 17, 20] [([false, false, false, false, false, false, false], 0), ([true, false, false, false, false, false, false], 1), ([true, false, false, false, false, false, false], 2), ([true, false, false, false, false, false, false], 3), ([true, true, false, false, false, false, false], 2), ([true, true, false, false, false, false, false], 3), ([true, true, false, false, false, false, false], 4), ([true, false, true, false, false, false, false], 1), ([true, false, true, false, false, false, false], 3), ([true, false, false, true, false, false, false], 1), ([true, false, false, true, false, false, false], 2), ([true, true, true, false, false, false, false], 3), ([true, true, true, false, false, false, false], 4), ([true, true, false, true, false, false, false], 2), ([true, true, false, true, false, false, false], 4), ([true, true, false, false, true, false, false], 2), ([true, true, false, false, true, false, false], 3), ([true, false, true, true, false, false, false], 1), ([true, true, true, true, false, false, false], 4), ([true, true, true, false, true, false, false], 3), ([true, true, true, false, true, false, false], 5), ([true, true, false, true, true, false, false], 2), ([true, true, true, true, true, false, false], 5), ([true, true, true, false, true, true, false], 3), ([true, true, true, true, true, true, false], 6)])
  (.seq (.kp [17, 20] (.seq (.reg [⟨some 146, .mv (.t 22), none⟩,
    ⟨some 147, .mv (.t 10), none⟩,
    ⟨some 148, .bin .neq (.t 146) (.t 147), none⟩,
    ⟨some 149, .mv (.t 148), none⟩,
    ⟨some 150, .mv (.t 23), some (149, false)⟩,
    ⟨some 151, .mv (.t 11), some (149, false)⟩,
    ⟨some 152, .call 42 [(.t 150), (.t 151)], some (149, false)⟩,
    ⟨some 153, .nt (.t 152), some (149, false)⟩,
    ⟨some 154, .pick (.t 149) (.c (.bool true)) (.t 153), none⟩,
    ⟨some 155, .mv (.t 154), none⟩,
    ⟨some 156, .mv (.t 24), some (155, false)⟩,
    ⟨some 157, .mv (.t 12), some (155, false)⟩,
    ⟨some 158, .eqb true (.t 156) (.t 157), some (155, false)⟩,
    ⟨some 159, .pick (.t 155) (.c (.bool true)) (.t 158), none⟩] [17, 20, 159])
  (.cond (.t 159) (.seq (.reg [⟨some 8, .asg (.c (.bool false)), none⟩] [8])
  (.ret)) (.skip))))
  (.seq (.reg [⟨some 21, .asg (.c (.int .i64 1)), none⟩] [17, 20, 21])
  (.seq (.reg [⟨some 160, .mv (.t 17), none⟩,
    ⟨some 161, .mv (.t 21), none⟩,
    ⟨some 162, .call 47 [(.t 160), (.t 161)], none⟩,
    ⟨some 21, .asg (.t 162), none⟩] [20, 21])
  (.seq (.kp [20, 21] (.seq (.reg [⟨some 163, .mv (.t 21), none⟩,
    ⟨some 164, .bin .lss (.t 163) (.c (.int .i64 0)), none⟩] [20, 21, 164])
  (.cond (.t 164) (.seq (.reg [⟨some 8, .asg (.c (.bool false)), none⟩] [8])
  (.ret)) (.skip))))
  (.seq (.kp [] (.seq (.reg [⟨some 165, .mv (.t 21), none⟩,
    ⟨some 166, .mv (.t 20), none⟩,
    ⟨some 167, .bin .neq (.t 165) (.t 166), none⟩] [167])
  (.cond (.t 167) (.seq (.reg [⟨some 8, .asg (.c (.bool false)), none⟩] [8])
  (.ret)) (.skip))))
  (.seq (.reg [⟨some 8, .asg (.c (.bool true)), none⟩] [8])
  (.ret)))))))))))))))))))))))))))))))))))
theorem con_laws_FnExactCellAt {v0 : XGeo} {v1 : (List XVariable)} {v2 : XTable} {v3 : Int} {r : Bool} (h : sh_laws_FnExactCellAt v0 v1 v2 v3 = some r) : Con Try.prog 8 [(cXGeo (cLs cI rfl)).enc v0, (cLs (cXVariable cS cI) rfl).enc v1, (cXTable cI (cLs cI rfl) (cLs cI rfl) cI).enc v2, cI.enc v3] [] (rs_laws_FnExactCellAt r) := by
  delta sh_laws_FnExactCellAt at h
  refine top (out := none) (f := Try.f8) (m := m8) (rs := [.t 8]) (by kernel_rfl) rfl (by kernel_rfl) (by kernel_rfl) (by kernel_rfl) (by kernel_rfl) (by kernel_rfl) ?_
  exact
   ini [(0, .d ((cXGeo (cLs cI rfl)).enc v0)), (1, .d ((cLs (cXVariable cS cI) rfl).enc v1)), (2, .d ((cXTable cI (cLs cI rfl) (cLs cI rfl) cI).enc v2)), (3, .d (cI.enc v3))] rfl <| wpC_seq <| reg_s <| x_box (ss rfl rfl) <| x_box (ss rfl rfl) <| x_asg (sc cB false rfl) <| seqN [(1, .d ((cLs (cXVariable cS cI) rfl).enc v1)), (3, .d (cI.enc v3)), (4, .box ((cXGeo (cLs cI rfl)).enc v0)), (6, .box ((cXTable cI (cLs cI rfl) (cLs cI rfl) cI).enc v2))] (by kernel_rfl) <|
    xn <| wpC_seq <| reg_s <| x_asg (sc cI (1048576 : Int) rfl) <| seqN [(1, .d ((cLs (cXVariable cS cI) rfl).enc v1)), (3, .d (cI.enc v3)), (4, .box ((cXGeo (cLs cI rfl)).enc v0)), (6, .box ((cXTable cI (cLs cI rfl) (cLs cI rfl) cI).enc v2)), (9, .d (cI.enc (1048576 : Int)))] (by kernel_rfl) <|
    xn <| wpC_seq <| reg_s <| st rfl <| ldb rfl rfl rfl rfl <| st rfl <| mvd rfl rfl <| bnd h fun x3 e4 h => st rfl <| o_call (a1 (c := (cXGeo (cLs cI rfl))) (tXGeo (tLs tK)) rfl (a1 (c := cI) tK rfl a0)) (con_laws_szGeo e4) (.inl (so1 sK so0)) <| x_asg (ss rfl rfl) <| seqN [(1, .d ((cLs (cXVariable cS cI) rfl).enc v1)), (3, .d (cI.enc v3)), (4, .box ((cXGeo (cLs cI rfl)).enc v0)), (6, .box ((cXTable cI (cLs cI rfl) (cLs cI rfl) cI).enc v2)), (9, .d (cI.enc x3))] (by kernel_rfl) <|
    xn <| wpC_seq <| wpC_kp <| wpC_seq <| reg_s <| st rfl <| mvd rfl rfl <| st rfl <| b_lss (k := .i64) rfl rfl <| seqN [(1, .d ((cLs (cXVariable cS cI) rfl).enc v1)), (3, .d (cI.enc v3)), (4, .box ((cXGeo (cLs cI rfl)).enc v0)), (6, .box ((cXTable cI (cLs cI rfl) (cLs cI rfl) cI).enc v2)), (9, .d (cI.enc x3)), (29, .d (cB.enc (decide (x3 < (0 : Int)))))] (by kernel_rfl) <|
    xn <| cnd rfl h (fun b6 h => wpC_seq <| reg_s <| x_asg (sc cB true rfl) <| seqN [(8, .d (cB.enc true))] (by kernel_rfl) <|
    xn <| wpC_ret <| rt <| rt <| re <| fin h (r1 (ss rfl rfl) <| r0) rfl)
    (fun b6 h => wpC_skip <| kpN [(1, .d ((cLs (cXVariable cS cI) rfl).enc v1)), (3, .d (cI.enc v3)), (4, .box ((cXGeo (cLs cI rfl)).enc v0)), (6, .box ((cXTable cI (cLs cI rfl) (cLs cI rfl) cI).enc v2)), (9, .d (cI.enc x3))] (by kernel_rfl) <| xn <| wpC_seq <| reg_s <| st rfl <| mvd rfl rfl <| st rfl <| mvd rfl rfl <| bnd h fun x9 e10 h => st rfl <| o_call (a1 (c := (cLs (cXVariable cS cI) rfl)) (tLs (tXVariable tS tK)) rfl (a1 (c := cI) tK rfl a0)) (con_laws_szVariableS e10) (.inl (so1 sK so0)) <| x_asg (ss rfl rfl) <| seqN [(1, .d ((cLs (cXVariable cS cI) rfl).enc v1)), (3, .d (cI.enc v3)), (4, .box ((cXGeo (cLs cI rfl)).enc v0)), (6, .box ((cXTable cI (cLs cI rfl) (cLs cI rfl) cI).enc v2)), (9, .d (cI.enc x9))] (by kernel_rfl) <|
    xn <| wpC_seq <| wpC_kp <| wpC_seq <| reg_s <| st rfl <| mvd rfl rfl <| st rfl <| b_lss (k := .i64) rfl rfl <| seqN [(1, .d ((cLs (cXVariable cS cI) rfl).enc v1)), (3, .d (cI.enc v3)), (4, .box ((cXGeo (cLs cI rfl)).enc v0)), (6, .box ((cXTable cI (cLs cI rfl) (cLs cI rfl) cI).enc v2)), (9, .d (cI.enc x9)), (34, .d (cB.enc (decide (x9 < (0 : Int)))))] (by kernel_rfl) <|
    xn <| cnd rfl h (fun b12 h => wpC_seq <| reg_s <| x_asg (sc cB true rfl) <| seqN [(8, .d (cB.enc true))] (by kernel_rfl) <|
    xn <| wpC_ret <| rt <| rt <| re <| fin h (r1 (ss rfl rfl) <| r0) rfl)
    (fun b12 h => wpC_skip <| kpN [(1, .d ((cLs (cXVariable cS cI) rfl).enc v1)), (3, .d (cI.enc v3)), (4, .box ((cXGeo (cLs cI rfl)).enc v0)), (6, .box ((cXTable cI (cLs cI rfl) (cLs cI rfl) cI).enc v2)), (9, .d (cI.enc x9))] (by kernel_rfl) <| xn <| wpC_seq <| reg_s <| st rfl <| ldb rfl rfl rfl rfl <| st rfl <| mvd rfl rfl <| bnd h fun x15 e16 h => st rfl <| o_call (a1 (c := (cXTable cI (cLs cI rfl) (cLs cI rfl) cI)) (tXTable tK (tLs tK) (tLs tK) tK) rfl (a1 (c := cI) tK rfl a0)) (con_laws_szTable e16) (.inl (so1 sK so0)) <| x_asg (ss rfl rfl) <| seqN [(1, .d ((cLs (cXVariable cS cI) rfl).enc v1)), (3, .d (cI.enc v3)), (4, .box ((cXGeo (cLs cI rfl)).enc v0)), (6, .box ((cXTable cI (cLs cI rfl) (cLs cI rfl) cI).enc v2)), (9, .d (cI.enc x15))] (by kernel_rfl) <|
    xn <| wpC_seq <| wpC_kp <| wpC_seq <| reg_s <| st rfl <| mvd rfl rfl <| st rfl <| b_lss (k := .i64) rfl rfl <| seqN [(1, .d ((cLs (cXVariable cS cI) rfl).enc v1)), (3, .d (cI.enc v3)), (4, .box ((cXGeo (cLs cI rfl)).enc v0)), (6, .box ((cXTable cI (cLs cI rfl) (cLs cI rfl) cI).enc v2)), (39, .d (cB.enc (decide (x15 < (0 : Int)))))] (by kernel_rfl) <|
    xn <| cnd rfl h (fun b18 h => wpC_seq <| reg_s <| x_asg (sc cB true rfl) <| seqN [(8, .d (cB.enc true))] (by kernel_rfl) <|
    xn <| wpC_ret <| rt <| rt <| re <| fin h (r1 (ss rfl rfl) <| r0) rfl)
    (fun b18 h => wpC_skip <| kpN [(1, .d ((cLs (cXVariable cS cI) rfl).enc v1)), (3, .d (cI.enc v3)), (4, .box ((cXGeo (cLs cI rfl)).enc v0)), (6, .box ((cXTable cI (cLs cI rfl) (cLs cI rfl) cI).enc v2))] (by kernel_rfl) <| xn <| wpC_seq <| drg_s <| pst rfl <| ldb rfl rfl rfl rfl ⟨rfl, bndp h fun x27 e28 h => pst rfl <| o_call (a1 (c := (cXGeo (cLs cI rfl))) (tXGeo (tLs tK)) rfl a0) (con_laws_toGeo e28) (.inl (so1 (sXGeo (sLo sK)) so0)) ⟨rfl, pst rfl <| mvd rfl rfl ⟨rfl, bndp h fun x29 e30 h => pst rfl <| o_call (a1 (c := (cLs (cXVariable cS cI) rfl)) (tLs (tXVariable tS tK)) rfl a0) (con_laws_toVariableS e30) (.inl (so1 (sLo (sXVariable sS sK)) so0)) ⟨rfl, pst rfl <| ldb rfl rfl rfl rfl ⟨rfl, bndp h fun x31 e32 h => pst rfl <| o_call (a1 (c := (cXTable cI (cLs cI rfl) (cLs cI rfl) cI)) (tXTable tK (tLs tK) (tLs tK) tK) rfl a0) (con_laws_toTable e32) (.inl (so1 (sXTable sK (sLo sK) (sLo sK) sK) so0)) ⟨rfl, pst rfl <| mvd rfl rfl ⟨rfl, bndp h fun x33 e34 h => pst rfl <| o_call (a1 (c := (cXGeo (cLo cI))) (tXGeo (tLo tK)) rfl (a1 (c := (cLo (cXVariable cS cI))) (tLo (tXVariable tS tK)) rfl (a1 (c := (cXTable cI (cLo cI) (cLo cI) cI)) (tXTable tK (tLo tK) (tLo tK) tK) rfl (a1 (c := cI) tK rfl a0)))) (con_spec_CellAt e34) (.inl (so1 sK (so1 (sLo sK) (so1 sB so0)))) ⟨rfl, preN <| gr_s [(1, .d ((cLs (cXVariable cS cI) rfl).enc v1)), (3, .d (cI.enc v3)), (4, .box ((cXGeo (cLs cI rfl)).enc v0)), (6, .box ((cXTable cI (cLs cI rfl) (cLs cI rfl) cI).enc v2))] [([false, false, false, false, false, false, false], [(10, .un), (11, .un), (12, .un), (40, .un), (48, .tup [some (cI.enc x33.1), some ((cLo cI).enc x33.2.1), some (cB.enc x33.2.2)]), (49, .un), (50, .un), (51, .un)]),
     ([true, false, false, false, false, false, false], [(10, .un), (11, .un), (12, .un), (40, .tup [some (cI.enc x33.1), some ((cLo cI).enc x33.2.1), some (cB.enc x33.2.2)]), (48, .un), (49, .un), (50, .un), (51, .un)]),
     ([true, true, false, false, false, false, false], [(10, .un), (11, .un), (12, .un), (40, .tup [none, some ((cLo cI).enc x33.2.1), some (cB.enc x33.2.2)]), (48, .un), (49, .d (cI.enc x33.1)), (50, .un), (51, .un)]),
     ([true, false, true, false, false, false, false], [(10, .un), (11, .un), (12, .un), (40, .tup [some (cI.enc x33.1), none, some (cB.enc x33.2.2)]), (48, .un), (49, .un), (50, .d ((cLo cI).enc x33.2.1)), (51, .un)]),
     ([true, false, false, true, false, false, false], [(10, .un), (11, .un), (12, .un), (40, .tup [some (cI.enc x33.1), some ((cLo cI).enc x33.2.1), none]), (48, .un), (49, .un), (50, .un), (51, .d (cB.enc x33.2.2))]),
     ([true, true, true, false, false, false, false], [(10, .un), (11, .un), (12, .un), (40, .tup [none, none, some (cB.enc x33.2.2)]), (48, .un), (49, .d (cI.enc x33.1)), (50, .d ((cLo cI).enc x33.2.1)), (51, .un)]),
     ([true, true, false, true, false, false, false], [(10, .un), (11, .un), (12, .un), (40, .tup [none, some ((cLo cI).enc x33.2.1), none]), (48, .un), (49, .d (cI.enc x33.1)), (50, .un), (51, .d (cB.enc x33.2.2))]),
     ([true, true, false, false, true, false, false], [(10, .d (cI.enc x33.1)), (11, .un), (12, .un), (40, .tup [none, some ((cLo cI).enc x33.2.1), some (cB.enc x33.2.2)]), (48, .un), (49, .d (cI.enc x33.1)), (50, .un), (51, .un)]),
     ([true, false, true, true, false, false, false], [(10, .un), (11, .un), (12, .un), (40, .tup [some (cI.enc x33.1), none, none]), (48, .un), (49, .un), (50, .d ((cLo cI).enc x33.2.1)), (51, .d (cB.enc x33.2.2))]),
     ([true, true, true, true, false, false, false], [(10, .un), (11, .un), (12, .un), (40, .tup [none, none, none]), (48, .un), (49, .d (cI.enc x33.1)), (50, .d ((cLo cI).enc x33.2.1)), (51, .d (cB.enc x33.2.2))]),
     ([true, true, true, false, true, false, false], [(10, .d (cI.enc x33.1)), (11, .un), (12, .un), (40, .tup [none, none, some (cB.enc x33.2.2)]), (48, .un), (49, .d (cI.enc x33.1)), (50, .d ((cLo cI).enc x33.2.1)), (51, .un)]),
     ([true, true, false, true, true, false, false], [(10, .d (cI.enc x33.1)), (11, .un), (12, .un), (40, .tup [none, some ((cLo cI).enc x33.2.1), none]), (48, .un), (49, .d (cI.enc x33.1)), (50, .un), (51, .d (cB.enc x33.2.2))]),
     ([true, true, true, true, true, false, false], [(10, .d (cI.enc x33.1)), (11, .un), (12, .un), (40, .tup [none, none, none]), (48, .un), (49, .d (cI.enc x33.1)), (50, .d ((cLo cI).enc x33.2.1)), (51, .d (cB.enc x33.2.2))]),
     ([true, true, true, false, true, true, false], [(10, .d (cI.enc x33.1)), (11, .d ((cLo cI).enc x33.2.1)), (12, .un), (40, .tup [none, none, some (cB.enc x33.2.2)]), (48, .un), (49, .d (cI.enc x33.1)), (50, .un), (51, .un)]),
     ([true, true, true, true, true, true, false], [(10, .d (cI.enc x33.1)), (11, .d ((cLo cI).enc x33.2.1)), (12, .un), (40, .tup [none, none, none]), (48, .un), (49, .d (cI.enc x33.1)), (50, .un), (51, .d (cB.enc x33.2.2))]),
     ([true, true, true, true, true, true, true], [(10, .d (cI.enc x33.1)), (11, .d ((cLo cI).enc x33.2.1)), (12, .d (cB.enc x33.2.2)), (40, .tup [none, none, none]), (48, .un), (49, .d (cI.enc x33.1)), (50, .un), (51, .d (cB.enc x33.2.2))])] [(1, .d ((cLs (cXVariable cS cI) rfl).enc v1)), (3, .d (cI.enc v3)), (4, .box ((cXGeo (cLs cI rfl)).enc v0)), (6, .box ((cXTable cI (cLs cI rfl) (cLs cI rfl) cI).enc v2)), (10, .d (cI.enc x33.1)), (11, .d ((cLo cI).enc x33.2.1)), (12, .d (cB.enc x33.2.2))] [([false, false, false, false, false, false, false], [])] (by kernel_rfl) (sa1 rfl (by kernel_rfl) <| sa0) rfl
    (ob1 rfl rfl rfl (x_mvt rfl <| obN (by kernel_rfl)) <|
    ob1 rfl rfl rfl (x_ext rfl rfl <| obN (by kernel_rfl)) <|
    ob1 rfl rfl rfl (x_ext rfl rfl <| obN (by kernel_rfl)) <|
    ob1 rfl rfl rfl (x_ext rfl rfl <| obN (by kernel_rfl)) <|
    ob1 rfl rfl rfl (x_ext rfl rfl <| obN (by kernel_rfl)) <|
    ob1 rfl rfl rfl (x_ext rfl rfl <| obN (by kernel_rfl)) <|
    ob1 rfl rfl rfl (x_asg (ss rfl rfl) <| obN (by kernel_rfl)) <|
    ob1 rfl rfl rfl (x_ext rfl rfl <| obN (by kernel_rfl)) <|
    ob1 rfl rfl rfl (x_ext rfl rfl <| obN (by kernel_rfl)) <|
    ob1 rfl rfl rfl (x_ext rfl rfl <| obN (by kernel_rfl)) <|
    ob1 rfl rfl rfl (x_ext rfl rfl <| obN (by kernel_rfl)) <|
    ob1 rfl rfl rfl (x_ext rfl rfl <| obN (by kernel_rfl)) <|
    ob1 rfl rfl rfl (x_asg (ss rfl rfl) <| obN (by kernel_rfl)) <|
    ob1 rfl rfl rfl (x_ext rfl rfl <| obN (by kernel_rfl)) <|
    ob1 rfl rfl rfl (x_asg (ss rfl rfl) <| obN (by kernel_rfl)) <|
    ob1 rfl rfl rfl (x_ext rfl rfl <| obN (by kernel_rfl)) <|
    ob1 rfl rfl rfl (x_ext rfl rfl <| obN (by kernel_rfl)) <|
    ob1 rfl rfl rfl (x_ext rfl rfl <| obN (by kernel_rfl)) <|
    ob1 rfl rfl rfl (x_asg (ss rfl rfl) <| obN (by kernel_rfl)) <|
    ob1 rfl rfl rfl (x_ext rfl rfl <| obN (by kernel_rfl)) <|
    ob1 rfl rfl rfl (x_asg (so rfl rfl) <| obN (by kernel_rfl)) <|
    ob1 rfl rfl rfl (x_ext rfl rfl <| obN (by kernel_rfl)) <|
    ob1 rfl rfl rfl (x_asg (so rfl rfl) <| obN (by kernel_rfl)) <|
    ob1 rfl rfl rfl (x_ext rfl rfl <| obN (by kernel_rfl)) <|
    ob1 rfl rfl rfl (x_asg (ss rfl rfl) <| obN (by kernel_rfl)) <|
    ob0)
    (by kernel_rfl) <|
    xn <| wpC_seq <| reg_s <| st rfl <| ldb rfl rfl rfl rfl <| bnd h fun x37 e38 h => st rfl <| o_call (a1 (c := (cXGeo (cLs cI rfl))) (tXGeo (tLs tK)) rfl a0) (con_laws_toGeo e38) (.inl (so1 (sXGeo (sLo sK)) so0)) <| x_all (cXGeo (cLo cI)) (⟨([] : List Int)⟩ : XGeo) rfl <| x_stb (so rfl rfl) rfl (Cd.h_sz _ _) rfl <| seqN [(1, .d ((cLs (cXVariable cS cI) rfl).enc v1)), (3, .d (cI.enc v3)), (4, .box ((cXGeo (cLs cI rfl)).enc v0)), (6, .box ((cXTable cI (cLs cI rfl) (cLs cI rfl) cI).enc v2)), (10, .d (cI.enc x33.1)), (11, .d ((cLo cI).enc x33.2.1)), (12, .d (cB.enc x33.2.2)), (13, .box ((cXGeo (cLo cI)).enc x37))] (by kernel_rfl) <|
    xn <| wpC_seq <| reg_s <| st rfl <| mvd rfl rfl <| bnd h fun x41 e42 h => st rfl <| o_call (a1 (c := (cLs (cXVariable cS cI) rfl)) (tLs (tXVariable tS tK)) rfl a0) (con_laws_toVariableS e42) (.inl (so1 (sLo (sXVariable sS sK)) so0)) <| x_asg (so rfl rfl) <| seqN [(1, .d ((cLs (cXVariable cS cI) rfl).enc v1)), (3, .d (cI.enc v3)), (4, .box ((cXGeo (cLs cI rfl)).enc v0)), (6, .box ((cXTable cI (cLs cI rfl) (cLs cI rfl) cI).enc v2)), (10, .d (cI.enc x33.1)), (11, .d ((cLo cI).enc x33.2.1)), (12, .d (cB.enc x33.2.2)), (13, .box ((cXGeo (cLo cI)).enc x37)), (14, .d ((cLo (cXVariable cS cI)).enc x41))] (by kernel_rfl) <|
    xn <| wpC_seq <| reg_s <| st rfl <| ldb rfl rfl rfl rfl <| bnd h fun x45 e46 h => st rfl <| o_call (a1 (c := (cXTable cI (cLs cI rfl) (cLs cI rfl) cI)) (tXTable tK (tLs tK) (tLs tK) tK) rfl a0) (con_laws_toTable e46) (.inl (so1 (sXTable sK (sLo sK) (sLo sK) sK) so0)) <| x_all (cXTable cI (cLo cI) (cLo cI) cI) (⟨(0 : Int), ([] : List Int), ([] : List Int), (0 : Int)⟩ : XTable) rfl <| x_stb (so rfl rfl) rfl (Cd.h_sz _ _) rfl <| seqN [(1, .d ((cLs (cXVariable cS cI) rfl).enc v1)), (3, .d (cI.enc v3)), (4, .box ((cXGeo (cLs cI rfl)).enc v0)), (6, .box ((cXTable cI (cLs cI rfl) (cLs cI rfl) cI).enc v2)), (10, .d (cI.enc x33.1)), (11, .d ((cLo cI).enc x33.2.1)), (12, .d (cB.enc x33.2.2)), (13, .box ((cXGeo (cLo cI)).enc x37)), (14, .d ((cLo (cXVariable cS cI)).enc x41)), (15, .box ((cXTable cI (cLo cI) (cLo cI) cI).enc x45))] (by kernel_rfl) <|
    xn <| wpC_seq <| reg_s <| st rfl <| ldbo rfl rfl rfl rfl <| st rfl <| mvo rfl rfl <| st rfl <| ldbo rfl rfl rfl rfl <| st rfl <| mvd rfl rfl <| bnd h fun x49 e50 h => st rfl <| o_call (a1 (c := (cXGeo (cLo cI))) (tXGeo (tLo tK)) rfl (a1 (c := (cLo (cXVariable cS cI))) (tLo (tXVariable tS tK)) rfl (a1 (c := (cXTable cI (cLo cI) (cLo cI) cI)) (tXTable tK (tLo tK) (tLo tK) tK) rfl (a1 (c := cI) tK rfl a0)))) (con_impl_CellAt e50) (.inl (so1 sK (so1 (sLo sK) (so1 sB so0)))) <| x_mvt rfl <| x_ext rfl rfl <| x_ext rfl rfl <| x_ext rfl rfl <| x_asg (ss rfl rfl) <| x_asg (so rfl rfl) <| x_asg (ss rfl rfl) <| seqN [(1, .d ((cLs (cXVariable cS cI) rfl).enc v1)), (3, .d (cI.enc v3)), (4, .box ((cXGeo (cLs cI rfl)).enc v0)), (6, .box ((cXTable cI (cLs cI rfl) (cLs cI rfl) cI).enc v2)), (10, .d (cI.enc x33.1)), (11, .d ((cLo cI).enc x33.2.1)), (12, .d (cB.enc x33.2.2)), (13, .box ((cXGeo (cLo cI)).enc x37)), (14, .d ((cLo (cXVariable cS cI)).enc x41)), (15, .box ((cXTable cI (cLo cI) (cLo cI) cI).enc x45)), (16, .d (cI.enc x49.1)), (17, .d ((cLo cI).enc x49.2.1)), (18, .d (cB.enc x49.2.2))] (by kernel_rfl) <|
    xn <| wpC_seq <| wpC_kp <| wpC_seq <| reg_s <| st rfl <| mvd rfl rfl <| st rfl <| mvd rfl rfl <| st rfl <| b_neq (k := .i64) rfl rfl <| st rfl <| mvd rfl rfl <| ite_k h (fun b64 h => gf rfl b64 <| gf rfl b64 <| gf rfl b64 <| gf rfl b64 <| st rfl <| pick1 rfl b64 (cd := cB) (v := true) rfl rfl <| st rfl <| mvd rfl rfl <| gf rfl rfl <| gf rfl rfl <| gf rfl rfl <| st rfl <| pick1 rfl rfl (cd := cB) (v := true) rfl rfl <| seqN [(1, .d ((cLs (cXVariable cS cI) rfl).enc v1)), (3, .d (cI.enc v3)), (4, .box ((cXGeo (cLs cI rfl)).enc v0)), (6, .box ((cXTable cI (cLs cI rfl) (cLs cI rfl) cI).enc v2)), (10, .d (cI.enc x33.1)), (11, .d ((cLo cI).enc x33.2.1)), (12, .d (cB.enc x33.2.2)), (13, .box ((cXGeo (cLo cI)).enc x37)), (14, .d ((cLo (cXVariable cS cI)).enc x41)), (15, .box ((cXTable cI (cLo cI) (cLo cI) cI).enc x45)), (16, .d (cI.enc x49.1)), (17, .d ((cLo cI).enc x49.2.1)), (18, .d (cB.enc x49.2.2)), (80, .d (cB.enc true))] (by kernel_rfl) <|
    xn <| cnd1 rfl rfl <| wpC_seq <| reg_s <| x_asg (sc cB false rfl) <| seqN [(8, .d (cB.enc false))] (by kernel_rfl) <|
    xn <| wpC_ret <| rt <| rt <| re <| fin h (r1 (ss rfl rfl) <| r0) rfl)
    (fun b64 h => gt' rfl b64 <| st rfl <| mvo rfl rfl <| gt' rfl b64 <| st rfl <| mvo rfl rfl <| gt' rfl b64 <| bnd h fun x65 e66 h => st rfl <| o_call (a1 (c := (cLo cI)) (tLo tK) rfl (a1 (c := (cLo cI)) (tLo tK) rfl a0)) (con_laws_eqIntS e66) (.inl (so1 sB so0)) <| gt' rfl b64 <| st rfl <| o_nt rfl <| st rfl <| pick0 rfl b64 (cd := cB) (v := (!x65)) rfl rfl <| st rfl <| mvd rfl rfl <| ite_k h (fun b67 h => gf rfl b67 <| gf rfl b67 <| gf rfl b67 <| st rfl <| pick1 rfl b67 (cd := cB) (v := true) rfl rfl <| seqN [(1, .d ((cLs (cXVariable cS cI) rfl).enc v1)), (3, .d (cI.enc v3)), (4, .box ((cXGeo (cLs cI rfl)).enc v0)), (6, .box ((cXTable cI (cLs cI rfl) (cLs cI rfl) cI).enc v2)), (10, .d (cI.enc x33.1)), (11, .d ((cLo cI).enc x33.2.1)), (12, .d (cB.enc x33.2.2)), (13, .box ((cXGeo (cLo cI)).enc x37)), (14, .d ((cLo (cXVariable cS cI)).enc x41)), (15, .box ((cXTable cI (cLo cI) (cLo cI) cI).enc x45)), (16, .d (cI.enc x49.1)), (17, .d ((cLo cI).enc x49.2.1)), (18, .d (cB.enc x49.2.2)), (80, .d (cB.enc true))] (by kernel_rfl) <|
    xn <| cnd1 rfl rfl <| wpC_seq <| reg_s <| x_asg (sc cB false rfl) <| seqN [(8, .d (cB.enc false))] (by kernel_rfl) <|
    xn <| wpC_ret <| rt <| rt <| re <| fin h (r1 (ss rfl rfl) <| r0) rfl)
    (fun b67 h => gt' rfl b67 <| st rfl <| mvd rfl rfl <| gt' rfl b67 <| st rfl <| mvd rfl rfl <| gt' rfl b67 <| st rfl <| eqb1 rfl rfl <| st rfl <| pick0 rfl b67 (cd := cB) (v := (x49.2.2 != x33.2.2)) rfl rfl <| seqN [(1, .d ((cLs (cXVariable cS cI) rfl).enc v1)), (3, .d (cI.enc v3)), (4, .box ((cXGeo (cLs cI rfl)).enc v0)), (6, .box ((cXTable cI (cLs cI rfl) (cLs cI rfl) cI).enc v2)), (10, .d (cI.enc x33.1)), (11, .d ((cLo cI).enc x33.2.1)), (12, .d (cB.enc x33.2.2)), (13, .box ((cXGeo (cLo cI)).enc x37)), (14, .d ((cLo (cXVariable cS cI)).enc x41)), (15, .box ((cXTable cI (cLo cI) (cLo cI) cI).enc x45)), (16, .d (cI.enc x49.1)), (17, .d ((cLo cI).enc x49.2.1)), (18, .d (cB.enc x49.2.2)), (80, .d (cB.enc (x49.2.2 != x33.2.2)))] (by kernel_rfl) <|
    xn <| cnd rfl h (fun b68 h => wpC_seq <| reg_s <| x_asg (sc cB false rfl) <| seqN [(8, .d (cB.enc false))] (by kernel_rfl) <|
    xn <| wpC_ret <| rt <| rt <| re <| fin h (r1 (ss rfl rfl) <| r0) rfl)
    (fun b68 h => wpC_skip <| kpN [(1, .d ((cLs (cXVariable cS cI) rfl).enc v1)), (3, .d (cI.enc v3)), (4, .box ((cXGeo (cLs cI rfl)).enc v0)), (6, .box ((cXTable cI (cLs cI rfl) (cLs cI rfl) cI).enc v2)), (10, .d (cI.enc x33.1)), (11, .d ((cLo cI).enc x33.2.1)), (12, .d (cB.enc x33.2.2)), (13, .box ((cXGeo (cLo cI)).enc x37)), (14, .d ((cLo (cXVariable cS cI)).enc x41)), (15, .box ((cXTable cI (cLo cI) (cLo cI) cI).enc x45)), (16, .d (cI.enc x49.1)), (17, .d ((cLo cI).enc x49.2.1)), (18, .d (cB.enc x49.2.2))] (by kernel_rfl) <| xn <| wpC_seq <| wpC_kp <| wpC_seq <| drw_s <| pst rfl <| ldbo rfl rfl rfl rfl ⟨rfl, pst rfl <| ldb rfl rfl rfl rfl ⟨rfl, bndp h fun x82 e83 h => pst rfl <| o_call (a1 (c := (cXGeo (cLs cI rfl))) (tXGeo (tLs tK)) rfl a0) (con_laws_toGeo e83) (.inl (so1 (sXGeo (sLo sK)) so0)) ⟨rfl, bndp h fun x84 e85 h => pst rfl <| o_call (a1 (c := (cXGeo (cLo cI))) (tXGeo (tLo tK)) rfl (a1 (c := (cXGeo (cLo cI))) (tXGeo (tLo tK)) rfl a0)) (con_laws_eqGeo e85) (.inl (so1 sB so0)) ⟨rfl, pst rfl <| o_nt rfl ⟨rfl, preN <| seqN [(1, .d ((cLs (cXVariable cS cI) rfl).enc v1)), (3, .d (cI.enc v3)), (4, .box ((cXGeo (cLs cI rfl)).enc v0)), (6, .box ((cXTable cI (cLs cI rfl) (cLs cI rfl) cI).enc v2)), (10, .d (cI.enc x33.1)), (11, .d ((cLo cI).enc x33.2.1)), (12, .d (cB.enc x33.2.2)), (13, .box ((cXGeo (cLo cI)).enc x37)), (14, .d ((cLo (cXVariable cS cI)).enc x41)), (15, .box ((cXTable cI (cLo cI) (cLo cI) cI).enc x45)), (16, .d (cI.enc x49.1)), (17, .d ((cLo cI).enc x49.2.1)), (18, .d (cB.enc x49.2.2)), (85, .d (cB.enc (!x84)))] (by kernel_rfl) <|
    xn <| cnd rfl h (fun b86 h => wpC_seq <| reg_s <| x_asg (sc cB false rfl) <| seqN [(8, .d (cB.enc false))] (by kernel_rfl) <|
    xn <| wpC_ret <| rt <| rt <| re <| fin h (r1 (ss rfl rfl) <| r0) rfl)
    (fun b86 h => wpC_skip <| kpN [(1, .d ((cLs (cXVariable cS cI) rfl).enc v1)), (3, .d (cI.enc v3)), (4, .box ((cXGeo (cLs cI rfl)).enc v0)), (6, .box ((cXTable cI (cLs cI rfl) (cLs cI rfl) cI).enc v2)), (10, .d (cI.enc x33.1)), (11, .d ((cLo cI).enc x33.2.1)), (12, .d (cB.enc x33.2.2)), (13, .box ((cXGeo (cLo cI)).enc x37)), (14, .d ((cLo (cXVariable cS cI)).enc x41)), (15, .box ((cXTable cI (cLo cI) (cLo cI) cI).enc x45)), (16, .d (cI.enc x49.1)), (17, .d ((cLo cI).enc x49.2.1)), (18, .d (cB.enc x49.2.2))] (by kernel_rfl) <| xn <| wpC_seq <| wpC_kp <| wpC_seq <| reg_s <| st rfl <| mvo rfl rfl <| st rfl <| mvd rfl rfl <| bnd h fun x100 e101 h => st rfl <| o_call (a1 (c := (cLs (cXVariable cS cI) rfl)) (tLs (tXVariable tS tK)) rfl a0) (con_laws_toVariableS e101) (.inl (so1 (sLo (sXVariable sS sK)) so0)) <| bnd h fun x102 e103 h => st rfl <| o_call (a1 (c := (cLo (cXVariable cS cI))) (tLo (tXVariable tS tK)) rfl (a1 (c := (cLo (cXVariable cS cI))) (tLo (tXVariable tS tK)) rfl a0)) (con_laws_eqVariableS e103) (.inl (so1 sB so0)) <| st rfl <| o_nt rfl <| seqN [(1, .d ((cLs (cXVariable cS cI) rfl).enc v1)), (3, .d (cI.enc v3)), (4, .box ((cXGeo (cLs cI rfl)).enc v0)), (6, .box ((cXTable cI (cLs cI rfl) (cLs cI rfl) cI).enc v2)), (10, .d (cI.enc x33.1)), (11, .d ((cLo cI).enc x33.2.1)), (12, .d (cB.enc x33.2.2)), (13, .box ((cXGeo (cLo cI)).enc x37)), (14, .d ((cLo (cXVariable cS cI)).enc x41)), (15, .box ((cXTable cI (cLo cI) (cLo cI) cI).enc x45)), (16, .d (cI.enc x49.1)), (17, .d ((cLo cI).enc x49.2.1)), (18, .d (cB.enc x49.2.2)), (90, .d (cB.enc (!x102)))] (by kernel_rfl) <|
    xn <| cnd rfl h (fun b104 h => wpC_seq <| reg_s <| x_asg (sc cB false rfl) <| seqN [(8, .d (cB.enc false))] (by kernel_rfl) <|
    xn <| wpC_ret <| rt <| rt <| re <| fin h (r1 (ss rfl rfl) <| r0) rfl)
    (fun b104 h => wpC_skip <| kpN [(1, .d ((cLs (cXVariable cS cI) rfl).enc v1)), (3, .d (cI.enc v3)), (4, .box ((cXGeo (cLs cI rfl)).enc v0)), (6, .box ((cXTable cI (cLs cI rfl) (cLs cI rfl) cI).enc v2)), (10, .d (cI.enc x33.1)), (11, .d ((cLo cI).enc x33.2.1)), (12, .d (cB.enc x33.2.2)), (13, .box ((cXGeo (cLo cI)).enc x37)), (14, .d ((cLo (cXVariable cS cI)).enc x41)), (15, .box ((cXTable cI (cLo cI) (cLo cI) cI).enc x45)), (16, .d (cI.enc x49.1)), (17, .d ((cLo cI).enc x49.2.1)), (18, .d (cB.enc x49.2.2))] (by kernel_rfl) <| xn <| wpC_seq <| wpC_kp <| wpC_seq <| drw_s <| pst rfl <| ldbo rfl rfl rfl rfl ⟨rfl, pst rfl <| ldb rfl rfl rfl rfl ⟨rfl, bndp h fun x118 e119 h => pst rfl <| o_call (a1 (c := (cXTable cI (cLs cI rfl) (cLs cI rfl) cI)) (tXTable tK (tLs tK) (tLs tK) tK) rfl a0) (con_laws_toTable e119) (.inl (so1 (sXTable sK (sLo sK) (sLo sK) sK) so0)) ⟨rfl, bndp h fun x120 e121 h => pst rfl <| o_call (a1 (c := (cXTable cI (cLo cI) (cLo cI) cI)) (tXTable tK (tLo tK) (tLo tK) tK) rfl (a1 (c := (cXTable cI (cLo cI) (cLo cI) cI)) (tXTable tK (tLo tK) (tLo tK) tK) rfl a0)) (con_laws_eqTable e121) (.inl (so1 sB so0)) ⟨rfl, pst rfl <| o_nt rfl ⟨rfl, preN <| seqN [(1, .d ((cLs (cXVariable cS cI) rfl).enc v1)), (3, .d (cI.enc v3)), (4, .box ((cXGeo (cLs cI rfl)).enc v0)), (6, .box ((cXTable cI (cLs cI rfl) (cLs cI rfl) cI).enc v2)), (10, .d (cI.enc x33.1)), (11, .d ((cLo cI).enc x33.2.1)), (12, .d (cB.enc x33.2.2)), (13, .box ((cXGeo (cLo cI)).enc x37)), (14, .d ((cLo (cXVariable cS cI)).enc x41)), (15, .box ((cXTable cI (cLo cI) (cLo cI) cI).enc x45)), (16, .d (cI.enc x49.1)), (17, .d ((cLo cI).enc x49.2.1)), (18, .d (cB.enc x49.2.2)), (95, .d (cB.enc (!x120)))] (by kernel_rfl) <|
    xn <| cnd rfl h (fun b122 h => wpC_seq <| reg_s <| x_asg (sc cB false rfl) <| seqN [(8, .d (cB.enc false))] (by kernel_rfl) <|
    xn <| wpC_ret <| rt <| rt <| re <| fin h (r1 (ss rfl rfl) <| r0) rfl)
    (fun b122 h => wpC_skip <| kpN [(1, .d ((cLs (cXVariable cS cI) rfl).enc v1)), (3, .d (cI.enc v3)), (4, .box ((cXGeo (cLs cI rfl)).enc v0)), (6, .box ((cXTable cI (cLs cI rfl) (cLs cI rfl) cI).enc v2)), (10, .d (cI.enc x33.1)), (11, .d ((cLo cI).enc x33.2.1)), (12, .d (cB.enc x33.2.2)), (13, .box ((cXGeo (cLo cI)).enc x37)), (14, .d ((cLo (cXVariable cS cI)).enc x41)), (15, .box ((cXTable cI (cLo cI) (cLo cI) cI).enc x45)), (16, .d (cI.enc x49.1)), (17, .d ((cLo cI).enc x49.2.1)), (18, .d (cB.enc x49.2.2))] (by kernel_rfl) <| xn <| wpC_seq <| reg_s <| x_asg (sc cI (1 : Int) rfl) <| seqN [(1, .d ((cLs (cXVariable cS cI) rfl).enc v1)), (3, .d (cI.enc v3)), (4, .box ((cXGeo (cLs cI rfl)).enc v0)), (6, .box ((cXTable cI (cLs cI rfl) (cLs cI rfl) cI).enc v2)), (10, .d (cI.enc x33.1)), (11, .d ((cLo cI).enc x33.2.1)), (12, .d (cB.enc x33.2.2)), (13, .box ((cXGeo (cLo cI)).enc x37)), (14, .d ((cLo (cXVariable cS cI)).enc x41)), (15, .box ((cXTable cI (cLo cI) (cLo cI) cI).enc x45)), (16, .d (cI.enc x49.1)), (17, .d ((cLo cI).enc x49.2.1)), (18, .d (cB.enc x49.2.2)), (19, .d (cI.enc (1 : Int)))] (by kernel_rfl) <|
    xn <| wpC_seq <| reg_s <| st rfl <| ldbo rfl rfl rfl rfl <| st rfl <| mvd rfl rfl <| bnd h fun x125 e126 h => x_clr (c := (cXGeo (cLo cI))) (c' := (cXGeo (cLo cI))) ((cXGeo (cLo cI)).enc x125.1) (sXGeo (sLo sK)) rfl (a1 (c := cI) tK rfl a0) rfl Ln.nil (con_laws_markGeo e126) rfl rfl (so1 sK so0) <| x_asg (ss rfl rfl) <| seqN [(1, .d ((cLs (cXVariable cS cI) rfl).enc v1)), (3, .d (cI.enc v3)), (4, .box ((cXGeo (cLs cI rfl)).enc v0)), (6, .box ((cXTable cI (cLs cI rfl) (cLs cI rfl) cI).enc v2)), (10, .d (cI.enc x33.1)), (11, .d ((cLo cI).enc x33.2.1)), (12, .d (cB.enc x33.2.2)), (14, .d ((cLo (cXVariable cS cI)).enc x41)), (15, .box ((cXTable cI (cLo cI) (cLo cI) cI).enc x45)), (16, .d (cI.enc x49.1)), (17, .d ((cLo cI).enc x49.2.1)), (18, .d (cB.enc x49.2.2)), (19, .d (cI.enc x125.2))] (by kernel_rfl) <|
    xn <| wpC_seq <| reg_s <| st rfl <| mvo rfl rfl <| st rfl <| mvd rfl rfl <| bnd h fun x129 e130 h => x_clr (c := (cLo (cXVariable cS cI))) (c' := (cLo (cXVariable cS cI))) ((cLo (cXVariable cS cI)).enc x129.1) (sLo (sXVariable sS sK)) rfl (a1 (c := cI) tK rfl a0) rfl Ln.nil (con_laws_markVariableS e130) rfl rfl (so1 sK so0) <| x_asg (ss rfl rfl) <| seqN [(1, .d ((cLs (cXVariable cS cI) rfl).enc v1)), (3, .d (cI.enc v3)), (4, .box ((cXGeo (cLs cI rfl)).enc v0)), (6, .box ((cXTable cI (cLs cI rfl) (cLs cI rfl) cI).enc v2)), (10, .d (cI.enc x33.1)), (11, .d ((cLo cI).enc x33.2.1)), (12, .d (cB.enc x33.2.2)), (15, .box ((cXTable cI (cLo cI) (cLo cI) cI).enc x45)), (16, .d (cI.enc x49.1)), (17, .d ((cLo cI).enc x49.2.1)), (18, .d (cB.enc x49.2.2)), (19, .d (cI.enc x129.2))] (by kernel_rfl) <|
    xn <| wpC_seq <| reg_s <| st rfl <| ldbo rfl rfl rfl rfl <| st rfl <| mvd rfl rfl <| bnd h fun x133 e134 h => x_clr (c := (cXTable cI (cLo cI) (cLo cI) cI)) (c' := (cXTable cI (cLo cI) (cLo cI) cI)) ((cXTable cI (cLo cI) (cLo cI) cI).enc x133.1) (sXTable sK (sLo sK) (sLo sK) sK) rfl (a1 (c := cI) tK rfl a0) rfl Ln.nil (con_laws_markTable e134) rfl rfl (so1 sK so0) <| x_asg (ss rfl rfl) <| seqN [(1, .d ((cLs (cXVariable cS cI) rfl).enc v1)), (3, .d (cI.enc v3)), (4, .box ((cXGeo (cLs cI rfl)).enc v0)), (6, .box ((cXTable cI (cLs cI rfl) (cLs cI rfl) cI).enc v2)), (10, .d (cI.enc x33.1)), (11, .d ((cLo cI).enc x33.2.1)), (12, .d (cB.enc x33.2.2)), (16, .d (cI.enc x49.1)), (17, .d ((cLo cI).enc x49.2.1)), (18, .d (cB.enc x49.2.2)), (19, .d (cI.enc x133.2))] (by kernel_rfl) <|
    xn <| wpC_seq <| wpC_kp <| wpC_seq <| reg_s <| st rfl <| mvd rfl rfl <| st rfl <| b_lss (k := .i64) rfl rfl <| st rfl <| mvd rfl rfl <| ite_k h (fun b147 h => gf rfl b147 <| gf rfl b147 <| gf rfl b147 <| st rfl <| pick1 rfl b147 (cd := cB) (v := true) rfl rfl <| st rfl <| mvd rfl rfl <| gf rfl rfl <| gf rfl rfl <| gf rfl rfl <| gf rfl rfl <| st rfl <| pick1 rfl rfl (cd := cB) (v := true) rfl rfl <| st rfl <| mvd rfl rfl <| gf rfl rfl <| gf rfl rfl <| gf rfl rfl <| st rfl <| pick1 rfl rfl (cd := cB) (v := true) rfl rfl <| seqN [(1, .d ((cLs (cXVariable cS cI) rfl).enc v1)), (3, .d (cI.enc v3)), (4, .box ((cXGeo (cLs cI rfl)).enc v0)), (6, .box ((cXTable cI (cLs cI rfl) (cLs cI rfl) cI).enc v2)), (10, .d (cI.enc x33.1)), (11, .d ((cLo cI).enc x33.2.1)), (12, .d (cB.enc x33.2.2)), (17, .d ((cLo cI).enc x49.2.1)), (122, .d (cB.enc true))] (by kernel_rfl) <|
    xn <| cnd1 rfl rfl <| wpC_seq <| reg_s <| x_asg (sc cB false rfl) <| seqN [(8, .d (cB.enc false))] (by kernel_rfl) <|
    xn <| wpC_ret <| rt <| rt <| re <| fin h (r1 (ss rfl rfl) <| r0) rfl)
    (fun b147 h => gt' rfl b147 <| st rfl <| mvd rfl rfl <| gt' rfl b147 <| st rfl <| mvd rfl rfl <| gt' rfl b147 <| st rfl <| b_neq (k := .i64) rfl rfl <| st rfl <| pick0 rfl b147 (cd := cB) (v := (decide (x49.1 ≠ x33.1))) rfl rfl <| st rfl <| mvd rfl rfl <| gt' rfl b64 <| st rfl <| mvo rfl rfl <| gt' rfl b64 <| st rfl <| mvo rfl rfl <| gt' rfl b64 <| bnd h fun x148 e149 h => st rfl <| o_call (a1 (c := (cLo cI)) (tLo tK) rfl (a1 (c := (cLo cI)) (tLo tK) rfl a0)) (con_laws_eqIntS e149) (.inl (so1 sB so0)) <| gt' rfl b64 <| st rfl <| o_nt rfl <| st rfl <| pick0 rfl b64 (cd := cB) (v := (!x148)) rfl rfl <| st rfl <| mvd rfl rfl <| ite_k h (fun b150 h => gf rfl b150 <| gf rfl b150 <| gf rfl b150 <| st rfl <| pick1 rfl b150 (cd := cB) (v := true) rfl rfl <| seqN [(1, .d ((cLs (cXVariable cS cI) rfl).enc v1)), (3, .d (cI.enc v3)), (4, .box ((cXGeo (cLs cI rfl)).enc v0)), (6, .box ((cXTable cI (cLs cI rfl) (cLs cI rfl) cI).enc v2)), (10, .d (cI.enc x33.1)), (11, .d ((cLo cI).enc x33.2.1)), (12, .d (cB.enc x33.2.2)), (17, .d ((cLo cI).enc x49.2.1)), (122, .d (cB.enc true))] (by kernel_rfl) <|
    xn <| cnd1 rfl rfl <| wpC_seq <| reg_s <| x_asg (sc cB false rfl) <| seqN [(8, .d (cB.enc false))] (by kernel_rfl) <|
    xn <| wpC_ret <| rt <| rt <| re <| fin h (r1 (ss rfl rfl) <| r0) rfl)
    (fun b150 h => gt' rfl b150 <| st rfl <| mvd rfl rfl <| gt' rfl b150 <| st rfl <| mvd rfl rfl <| gt' rfl b150 <| st rfl <| eqb1 rfl rfl <| st rfl <| pick0 rfl b150 (cd := cB) (v := (x49.2.2 != x33.2.2)) rfl rfl <| seqN [(1, .d ((cLs (cXVariable cS cI) rfl).enc v1)), (3, .d (cI.enc v3)), (4, .box ((cXGeo (cLs cI rfl)).enc v0)), (6, .box ((cXTable cI (cLs cI rfl) (cLs cI rfl) cI).enc v2)), (10, .d (cI.enc x33.1)), (11, .d ((cLo cI).enc x33.2.1)), (12, .d (cB.enc x33.2.2)), (17, .d ((cLo cI).enc x49.2.1)), (122, .d (cB.enc (x49.2.2 != x33.2.2)))] (by kernel_rfl) <|
    xn <| cnd0 rfl b68 <| wpC_skip <| kpN [(1, .d ((cLs (cXVariable cS cI) rfl).enc v1)), (3, .d (cI.enc v3)), (4, .box ((cXGeo (cLs cI rfl)).enc v0)), (6, .box ((cXTable cI (cLs cI rfl) (cLs cI rfl) cI).enc v2)), (10, .d (cI.enc x33.1)), (11, .d ((cLo cI).enc x33.2.1)), (12, .d (cB.enc x33.2.2)), (17, .d ((cLo cI).enc x49.2.1))] (by kernel_rfl) <| xn <| wpC_seq <| reg_s <| x_asg (sc cI (1 : Int) rfl) <| seqN [(1, .d ((cLs (cXVariable cS cI) rfl).enc v1)), (3, .d (cI.enc v3)), (4, .box ((cXGeo (cLs cI rfl)).enc v0)), (6, .box ((cXTable cI (cLs cI rfl) (cLs cI rfl) cI).enc v2)), (10, .d (cI.enc x33.1)), (11, .d ((cLo cI).enc x33.2.1)), (12, .d (cB.enc x33.2.2)), (17, .d ((cLo cI).enc x49.2.1)), (20, .d (cI.enc (1 : Int)))] (by kernel_rfl) <|
    xn <| wpC_seq <| reg_s <| st rfl <| mvo rfl rfl <| st rfl <| mvd rfl rfl <| bnd h fun x153 e154 h => x_clr (c := (cLo cI)) (c' := (cLo cI)) ((cLo cI).enc x153.1) (sLo sK) rfl (a1 (c := cI) tK rfl a0) rfl Ln.nil (con_laws_markIntS e154) rfl rfl (so1 sK so0) <| x_asg (ss rfl rfl) <| seqN [(1, .d ((cLs (cXVariable cS cI) rfl).enc v1)), (3, .d (cI.enc v3)), (4, .box ((cXGeo (cLs cI rfl)).enc v0)), (6, .box ((cXTable cI (cLs cI rfl) (cLs cI rfl) cI).enc v2)), (10, .d (cI.enc x33.1)), (11, .d ((cLo cI).enc x33.2.1)), (12, .d (cB.enc x33.2.2)), (17, .d ((cLo cI).enc x153.1)), (20, .d (cI.enc x153.2))] (by kernel_rfl) <|
    xn <| wpC_seq <| reg_s <| x_asg (sc cI (1 : Int) rfl) <| seqN [(1, .d ((cLs (cXVariable cS cI) rfl).enc v1)), (3, .d (cI.enc v3)), (4, .box ((cXGeo (cLs cI rfl)).enc v0)), (6, .box ((cXTable cI (cLs cI rfl) (cLs cI rfl) cI).enc v2)), (10, .d (cI.enc x33.1)), (11, .d ((cLo cI).enc x33.2.1)), (12, .d (cB.enc x33.2.2)), (17, .d ((cLo cI).enc x153.1)), (20, .d (cI.enc x153.2)), (21, .d (cI.enc (1 : Int)))] (by kernel_rfl) <|
    xn <| wpC_seq <| reg_s <| st rfl <| mvo rfl rfl <| st rfl <| mvd rfl rfl <| bnd h fun x157 e158 h => st rfl <| o_call (a1 (c := (cLo cI)) (tLo tK) rfl (a1 (c := cI) tK rfl a0)) (con_laws_heldIntS e158) (.inl (so1 sK so0)) <| x_asg (ss rfl rfl) <| seqN [(1, .d ((cLs (cXVariable cS cI) rfl).enc v1)), (3, .d (cI.enc v3)), (4, .box ((cXGeo (cLs cI rfl)).enc v0)), (6, .box ((cXTable cI (cLs cI rfl) (cLs cI rfl) cI).enc v2)), (10, .d (cI.enc x33.1)), (11, .d ((cLo cI).enc x33.2.1)), (12, .d (cB.enc x33.2.2)), (17, .d ((cLo cI).enc x153.1)), (20, .d (cI.enc x153.2)), (21, .d (cI.enc x157))] (by kernel_rfl) <|
    xn <| wpC_seq <| wpC_kp <| wpC_seq <| reg_s <| st rfl <| mvd rfl rfl <| st rfl <| b_lss (k := .i64) rfl rfl <| seqN [(1, .d ((cLs (cXVariable cS cI) rfl).enc v1)), (3, .d (cI.enc v3)), (4, .box ((cXGeo (cLs cI rfl)).enc v0)), (6, .box ((cXTable cI (cLs cI rfl) (cLs cI rfl) cI).enc v2)), (10, .d (cI.enc x33.1)), (11, .d ((cLo cI).enc x33.2.1)), (12, .d (cB.enc x33.2.2)), (17, .d ((cLo cI).enc x153.1)), (20, .d (cI.enc x153.2)), (21, .d (cI.enc x157)), (130, .d (cB.enc (decide (x157 < (0 : Int)))))] (by kernel_rfl) <|
    xn <| cnd rfl h (fun b160 h => wpC_seq <| reg_s <| x_asg (sc cB false rfl) <| seqN [(8, .d (cB.enc false))] (by kernel_rfl) <|
    xn <| wpC_ret <| rt <| rt <| re <| fin h (r1 (ss rfl rfl) <| r0) rfl)
    (fun b160 h => wpC_skip <| kpN [(1, .d ((cLs (cXVariable cS cI) rfl).enc v1)), (3, .d (cI.enc v3)), (4, .box ((cXGeo (cLs cI rfl)).enc v0)), (6, .box ((cXTable cI (cLs cI rfl) (cLs cI rfl) cI).enc v2)), (10, .d (cI.enc x33.1)), (11, .d ((cLo cI).enc x33.2.1)), (12, .d (cB.enc x33.2.2)), (17, .d ((cLo cI).enc x153.1)), (20, .d (cI.enc x153.2)), (21, .d (cI.enc x157))] (by kernel_rfl) <| xn <| wpC_seq <| wpC_kp <| wpC_seq <| reg_s <| st rfl <| mvd rfl rfl <| st rfl <| mvd rfl rfl <| st rfl <| b_neq (k := .i64) rfl rfl <| seqN [(1, .d ((cLs (cXVariable cS cI) rfl).enc v1)), (3, .d (cI.enc v3)), (4, .box ((cXGeo (cLs cI rfl)).enc v0)), (6, .box ((cXTable cI (cLs cI rfl) (cLs cI rfl) cI).enc v2)), (10, .d (cI.enc x33.1)), (11, .d ((cLo cI).enc x33.2.1)), (12, .d (cB.enc x33.2.2)), (17, .d ((cLo cI).enc x153.1)), (20, .d (cI.enc x153.2)), (133, .d (cB.enc (decide (x157 ≠ x153.2))))] (by kernel_rfl) <|
    xn <| cnd rfl h (fun b162 h => wpC_seq <| reg_s <| x_asg (sc cB false rfl) <| seqN [(8, .d (cB.enc false))] (by kernel_rfl) <|
    xn <| wpC_ret <| rt <| rt <| re <| fin h (r1 (ss rfl rfl) <| r0) rfl)
    (fun b162 h => wpC_skip <| kpN [(1, .d ((cLs (cXVariable cS cI) rfl).enc v1)), (3, .d (cI.enc v3)), (4, .box ((cXGeo (cLs cI rfl)).enc v0)), (6, .box ((cXTable cI (cLs cI rfl) (cLs cI rfl) cI).enc v2)), (10, .d (cI.enc x33.1)), (11, .d ((cLo cI).enc x33.2.1)), (12, .d (cB.enc x33.2.2)), (17, .d ((cLo cI).enc x153.1)), (20, .d (cI.enc x153.2))] (by kernel_rfl) <| xn <| wpC_seq <| drg_s <| pst rfl <| ldb rfl rfl rfl rfl ⟨rfl, bndp h fun x171 e172 h => pst rfl <| o_call (a1 (c := (cXGeo (cLs cI rfl))) (tXGeo (tLs tK)) rfl a0) (con_laws_toGeo e172) (.inl (so1 (sXGeo (sLo sK)) so0)) ⟨rfl, pst rfl <| mvd rfl rfl ⟨rfl, bndp h fun x173 e174 h => pst rfl <| o_call (a1 (c := (cLs (cXVariable cS cI) rfl)) (tLs (tXVariable tS tK)) rfl a0) (con_laws_toVariableS e174) (.inl (so1 (sLo (sXVariable sS sK)) so0)) ⟨rfl, pst rfl <| ldb rfl rfl rfl rfl ⟨rfl, bndp h fun x175 e176 h => pst rfl <| o_call (a1 (c := (cXTable cI (cLs cI rfl) (cLs cI rfl) cI)) (tXTable tK (tLs tK) (tLs tK) tK) rfl a0) (con_laws_toTable e176) (.inl (so1 (sXTable sK (sLo sK) (sLo sK) sK) so0)) ⟨rfl, pst rfl <| mvd rfl rfl ⟨rfl, bndp h fun x177 e178 h => pst rfl <| o_call (a1 (c := (cXGeo (cLo cI))) (tXGeo (tLo tK)) rfl (a1 (c := (cLo (cXVariable cS cI))) (tLo (tXVariable tS tK)) rfl (a1 (c := (cXTable cI (cLo cI) (cLo cI) cI)) (tXTable tK (tLo tK) (tLo tK) tK) rfl (a1 (c := cI) tK rfl a0)))) (con_impl_CellAt e178) (.inl (so1 sK (so1 (sLo sK) (so1 sB so0)))) ⟨rfl, preN <| gr_s [(10, .d (cI.enc x33.1)), (11, .d ((cLo cI).enc x33.2.1)), (12, .d (cB.enc x33.2.2)), (17, .d ((cLo cI).enc x153.1)), (20, .d (cI.enc x153.2))] [([false, false, false, false, false, false, false], [(22, .un), (23, .un), (24, .un), (134, .un), (142, .tup [some (cI.enc x177.1), some ((cLo cI).enc x177.2.1), some (cB.enc x177.2.2)]), (143, .un), (144, .un), (145, .un)]),
     ([true, false, false, false, false, false, false], [(22, .un), (23, .un), (24, .un), (134, .tup [some (cI.enc x177.1), some ((cLo cI).enc x177.2.1), some (cB.enc x177.2.2)]), (142, .un), (143, .un), (144, .un), (145, .un)]),
     ([true, true, false, false, false, false, false], [(22, .un), (23, .un), (24, .un), (134, .tup [none, some ((cLo cI).enc x177.2.1), some (cB.enc x177.2.2)]), (142, .un), (143, .d (cI.enc x177.1)), (144, .un), (145, .un)]),
     ([true, false, true, false, false, false, false], [(22, .un), (23, .un), (24, .un), (134, .tup [some (cI.enc x177.1), none, some (cB.enc x177.2.2)]), (142, .un), (143, .un), (144, .d ((cLo cI).enc x177.2.1)), (145, .un)]),
     ([true, false, false, true, false, false, false], [(22, .un), (23, .un), (24, .un), (134, .tup [some (cI.enc x177.1), some ((cLo cI).enc x177.2.1), none]), (142, .un), (143, .un), (144, .un), (145, .d (cB.enc x177.2.2))]),
     ([true, true, true, false, false, false, false], [(22, .un), (23, .un), (24, .un), (134, .tup [none, none, some (cB.enc x177.2.2)]), (142, .un), (143, .d (cI.enc x177.1)), (144, .d ((cLo cI).enc x177.2.1)), (145, .un)]),
     ([true, true, false, true, false, false, false], [(22, .un), (23, .un), (24, .un), (134, .tup [none, some ((cLo cI).enc x177.2.1), none]), (142, .un), (143, .d (cI.enc x177.1)), (144, .un), (145, .d (cB.enc x177.2.2))]),
     ([true, true, false, false, true, false, false], [(22, .d (cI.enc x177.1)), (23, .un), (24, .un), (134, .tup [none, some ((cLo cI).enc x177.2.1), some (cB.enc x177.2.2)]), (142, .un), (143, .d (cI.enc x177.1)), (144, .un), (145, .un)]),
     ([true, false, true, true, false, false, false], [(22, .un), (23, .un), (24, .un), (134, .tup [some (cI.enc x177.1), none, none]), (142, .un), (143, .un), (144, .d ((cLo cI).enc x177.2.1)), (145, .d (cB.enc x177.2.2))]),
     ([true, true, true, true, false, false, false], [(22, .un), (23, .un), (24, .un), (134, .tup [none, none, none]), (142, .un), (143, .d (cI.enc x177.1)), (144, .d ((cLo cI).enc x177.2.1)), (145, .d (cB.enc x177.2.2))]),
     ([true, true, true, false, true, false, false], [(22, .d (cI.enc x177.1)), (23, .un), (24, .un), (134, .tup [none, none, some (cB.enc x177.2.2)]), (142, .un), (143, .d (cI.enc x177.1)), (144, .d ((cLo cI).enc x177.2.1)), (145, .un)]),
     ([true, true, false, true, true, false, false], [(22, .d (cI.enc x177.1)), (23, .un), (24, .un), (134, .tup [none, some ((cLo cI).enc x177.2.1), none]), (142, .un), (143, .d (cI.enc x177.1)), (144, .un), (145, .d (cB.enc x177.2.2))]),
     ([true, true, true, true, true, false, false], [(22, .d (cI.enc x177.1)), (23, .un), (24, .un), (134, .tup [none, none, none]), (142, .un), (143, .d (cI.enc x177.1)), (144, .d ((cLo cI).enc x177.2.1)), (145, .d (cB.enc x177.2.2))]),
     ([true, true, true, false, true, true, false], [(22, .d (cI.enc x177.1)), (23, .d ((cLo cI).enc x177.2.1)), (24, .un), (134, .tup [none, none, some (cB.enc x177.2.2)]), (142, .un), (143, .d (cI.enc x177.1)), (144, .un), (145, .un)]),
     ([true, true, true, true, true, true, false], [(22, .d (cI.enc x177.1)), (23, .d ((cLo cI).enc x177.2.1)), (24, .un), (134, .tup [none, none, none]), (142, .un), (143, .d (cI.enc x177.1)), (144, .un), (145, .d (cB.enc x177.2.2))]),
     ([true, true, true, true, true, true, true], [(22, .d (cI.enc x177.1)), (23, .d ((cLo cI).enc x177.2.1)), (24, .d (cB.enc x177.2.2)), (134, .tup [none, none, none]), (142, .un), (143, .d (cI.enc x177.1)), (144, .un), (145, .d (cB.enc x177.2.2))])] [(10, .d (cI.enc x33.1)), (11, .d ((cLo cI).enc x33.2.1)), (12, .d (cB.enc x33.2.2)), (17, .d ((cLo cI).enc x153.1)), (20, .d (cI.enc x153.2)), (22, .d (cI.enc x177.1)), (23, .d ((cLo cI).enc x177.2.1)), (24, .d (cB.enc x177.2.2))] [([false, false, false, false, false, false, false], [])] (by kernel_rfl) (sa1 rfl (by kernel_rfl) <| sa0) rfl
    (ob1 rfl rfl rfl (x_mvt rfl <| obN (by kernel_rfl)) <|
    ob1 rfl rfl rfl (x_ext rfl rfl <| obN (by kernel_rfl)) <|
    ob1 rfl rfl rfl (x_ext rfl rfl <| obN (by kernel_rfl)) <|
    ob1 rfl rfl rfl (x_ext rfl rfl <| obN (by kernel_rfl)) <|
    ob1 rfl rfl rfl (x_ext rfl rfl <| obN (by kernel_rfl)) <|
    ob1 rfl rfl rfl (x_ext rfl rfl <| obN (by kernel_rfl)) <|
    ob1 rfl rfl rfl (x_asg (ss rfl rfl) <| obN (by kernel_rfl)) <|
    ob1 rfl rfl rfl (x_ext rfl rfl <| obN (by kernel_rfl)) <|
    ob1 rfl rfl rfl (x_ext rfl rfl <| obN (by kernel_rfl)) <|
    ob1 rfl rfl rfl (x_ext rfl rfl <| obN (by kernel_rfl)) <|
    ob1 rfl rfl rfl (x_ext rfl rfl <| obN (by kernel_rfl)) <|
    ob1 rfl rfl rfl (x_ext rfl rfl <| obN (by kernel_rfl)) <|
    ob1 rfl rfl rfl (x_asg (ss rfl rfl) <| obN (by kernel_rfl)) <|
    ob1 rfl rfl rfl (x_ext rfl rfl <| obN (by kernel_rfl)) <|
    ob1 rfl rfl rfl (x_asg (ss rfl rfl) <| obN (by kernel_rfl)) <|
    ob1 rfl rfl rfl (x_ext rfl rfl <| obN (by kernel_rfl)) <|
    ob1 rfl rfl rfl (x_ext rfl rfl <| obN (by kernel_rfl)) <|
    ob1 rfl rfl rfl (x_ext rfl rfl <| obN (by kernel_rfl)) <|
    ob1 rfl rfl rfl (x_asg (ss rfl rfl) <| obN (by kernel_rfl)) <|
    ob1 rfl rfl rfl (x_ext rfl rfl <| obN (by kernel_rfl)) <|
    ob1 rfl rfl rfl (x_asg (so rfl rfl) <| obN (by kernel_rfl)) <|
    ob1 rfl rfl rfl (x_ext rfl rfl <| obN (by kernel_rfl)) <|
    ob1 rfl rfl rfl (x_asg (so rfl rfl) <| obN (by kernel_rfl)) <|
    ob1 rfl rfl rfl (x_ext rfl rfl <| obN (by kernel_rfl)) <|
    ob1 rfl rfl rfl (x_asg (ss rfl rfl) <| obN (by kernel_rfl)) <|
    ob0)
    (by kernel_rfl) <|
    xn <| wpC_seq <| wpC_kp <| wpC_seq <| reg_s <| st rfl <| mvd rfl rfl <| st rfl <| mvd rfl rfl <| st rfl <| b_neq (k := .i64) rfl rfl <| st rfl <| mvd rfl rfl <| ite_k h (fun b192 h => gf rfl b192 <| gf rfl b192 <| gf rfl b192 <| gf rfl b192 <| st rfl <| pick1 rfl b192 (cd := cB) (v := true) rfl rfl <| st rfl <| mvd rfl rfl <| gf rfl rfl <| gf rfl rfl <| gf rfl rfl <| st rfl <| pick1 rfl rfl (cd := cB) (v := true) rfl rfl <| seqN [(17, .d ((cLo cI).enc x153.1)), (20, .d (cI.enc x153.2)), (159, .d (cB.enc true))] (by kernel_rfl) <|
    xn <| cnd1 rfl rfl <| wpC_seq <| reg_s <| x_asg (sc cB false rfl) <| seqN [(8, .d (cB.enc false))] (by kernel_rfl) <|
    xn <| wpC_ret <| rt <| rt <| re <| fin h (r1 (ss rfl rfl) <| r0) rfl)
    (fun b192 h => gt' rfl b192 <| st rfl <| mvo rfl rfl <| gt' rfl b192 <| st rfl <| mvo rfl rfl <| gt' rfl b192 <| bnd h fun x193 e194 h => st rfl <| o_call (a1 (c := (cLo cI)) (tLo tK) rfl (a1 (c := (cLo cI)) (tLo tK) rfl a0)) (con_laws_eqIntS e194) (.inl (so1 sB so0)) <| gt' rfl b192 <| st rfl <| o_nt rfl <| st rfl <| pick0 rfl b192 (cd := cB) (v := (!x193)) rfl rfl <| st rfl <| mvd rfl rfl <| ite_k h (fun b195 h => gf rfl b195 <| gf rfl b195 <| gf rfl b195 <| st rfl <| pick1 rfl b195 (cd := cB) (v := true) rfl rfl <| seqN [(17, .d ((cLo cI).enc x153.1)), (20, .d (cI.enc x153.2)), (159, .d (cB.enc true))] (by kernel_rfl) <|
    xn <| cnd1 rfl rfl <| wpC_seq <| reg_s <| x_asg (sc cB false rfl) <| seqN [(8, .d (cB.enc false))] (by kernel_rfl) <|
    xn <| wpC_ret <| rt <| rt <| re <| fin h (r1 (ss rfl rfl) <| r0) rfl)
    (fun b195 h => gt' rfl b195 <| st rfl <| mvd rfl rfl <| gt' rfl b195 <| st rfl <| mvd rfl rfl <| gt' rfl b195 <| st rfl <| eqb1 rfl rfl <| st rfl <| pick0 rfl b195 (cd := cB) (v := (x177.2.2 != x33.2.2)) rfl rfl <| seqN [(17, .d ((cLo cI).enc x153.1)), (20, .d (cI.enc x153.2)), (159, .d (cB.enc (x177.2.2 != x33.2.2)))] (by kernel_rfl) <|
    xn <| cnd rfl h (fun b196 h => wpC_seq <| reg_s <| x_asg (sc cB false rfl) <| seqN [(8, .d (cB.enc false))] (by kernel_rfl) <|
    xn <| wpC_ret <| rt <| rt <| re <| fin h (r1 (ss rfl rfl) <| r0) rfl)
    (fun b196 h => wpC_skip <| kpN [(17, .d ((cLo cI).enc x153.1)), (20, .d (cI.enc x153.2))] (by kernel_rfl) <| xn <| wpC_seq <| reg_s <| x_asg (sc cI (1 : Int) rfl) <| seqN [(17, .d ((cLo cI).enc x153.1)), (20, .d (cI.enc x153.2)), (21, .d (cI.enc (1 : Int)))] (by kernel_rfl) <|
    xn <| wpC_seq <| reg_s <| st rfl <| mvo rfl rfl <| st rfl <| mvd rfl rfl <| bnd h fun x199 e200 h => st rfl <| o_call (a1 (c := (cLo cI)) (tLo tK) rfl (a1 (c := cI) tK rfl a0)) (con_laws_heldIntS e200) (.inl (so1 sK so0)) <| x_asg (ss rfl rfl) <| seqN [(20, .d (cI.enc x153.2)), (21, .d (cI.enc x199))] (by kernel_rfl) <|
    xn <| wpC_seq <| wpC_kp <| wpC_seq <| reg_s <| st rfl <| mvd rfl rfl <| st rfl <| b_lss (k := .i64) rfl rfl <| seqN [(20, .d (cI.enc x153.2)), (21, .d (cI.enc x199)), (164, .d (cB.enc (decide (x199 < (0 : Int)))))] (by kernel_rfl) <|
    xn <| cnd rfl h (fun b202 h => wpC_seq <| reg_s <| x_asg (sc cB false rfl) <| seqN [(8, .d (cB.enc false))] (by kernel_rfl) <|
    xn <| wpC_ret <| rt <| rt <| re <| fin h (r1 (ss rfl rfl) <| r0) rfl)
    (fun b202 h => wpC_skip <| kpN [(20, .d (cI.enc x153.2)), (21, .d (cI.enc x199))] (by kernel_rfl) <| xn <| wpC_seq <| wpC_kp <| wpC_seq <| reg_s <| st rfl <| mvd rfl rfl <| st rfl <| mvd rfl rfl <| st rfl <| b_neq (k := .i64) rfl rfl <| seqN [(167, .d (cB.enc (decide (x199 ≠ x153.2))))] (by kernel_rfl) <|
    xn <| cnd rfl h (fun b204 h => wpC_seq <| reg_s <| x_asg (sc cB false rfl) <| seqN [(8, .d (cB.enc false))] (by kernel_rfl) <|
    xn <| wpC_ret <| rt <| rt <| re <| fin h (r1 (ss rfl rfl) <| r0) rfl)
    (fun b204 h => wpC_skip <| kpN [] (by kernel_rfl) <| xn <| wpC_seq <| reg_s <| x_asg (sc cB true rfl) <| seqN [(8, .d (cB.enc true))] (by kernel_rfl) <|
    xn <| wpC_ret <| re <| fin h (r1 (ss rfl rfl) <| r0) rfl)))))⟩⟩⟩⟩⟩⟩⟩⟩)))))⟩⟩⟩⟩⟩))⟩⟩⟩⟩⟩)))⟩⟩⟩⟩⟩⟩⟩⟩)))
end AS.W
