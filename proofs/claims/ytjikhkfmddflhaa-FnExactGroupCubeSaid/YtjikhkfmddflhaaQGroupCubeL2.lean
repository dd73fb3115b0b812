/- The program computes the plain functions. No condition. -/
import Derived.Test.YtjikhkfmddflhaaQGroupCubeS
import Derived.Test.YtjikhkfmddflhaaProg
import Derived.Test.YtjikhkfmddflhaaQGroupCubeL1
set_option maxRecDepth 100000
set_option linter.unusedVariables false
set_option linter.unusedSimpArgs false
namespace AS.W
open Go Go.Proofs
def rs_laws_FnExactGroupCube (r : Bool) : List D := [cB.enc r]
def m12 : MC := .seq (.reg [⟨some 3, .box (.t 0), none⟩,
    ⟨some 6, .asg (.c (.bool false)), none⟩] [1, 2, 3])
  (.seq (.kp [1, 2, 3] (.seq (.reg [⟨some 19, .mv (.t 2), none⟩,
    ⟨some 20, .len false (.t 19), none⟩,
    ⟨some 21, .bin .gtr (.t 20) (.c (.int .i64 1048576)), none⟩] [1, 2, 3, 21])
  (.cond (.t 21) (.seq (.reg [⟨some 6, .asg (.c (.bool true)), none⟩] [6])
  (.ret)) (.skip))))
  (.seq (.reg [⟨some 7, .asg (.c (.int .i64 1048576)), none⟩] [1, 2, 3, 7])
  (.seq (.reg [⟨some 22, .ld 3 2 true, none⟩,
    ⟨some 23, .mv (.t 7), none⟩,
    ⟨some 24, .call 49 [(.t 22), (.t 23)], none⟩,
    ⟨some 7, .asg (.t 24), none⟩] [1, 2, 3, 7])
  (.seq (.kp [1, 2, 3] (.seq (.reg [⟨some 25, .mv (.t 7), none⟩,
    ⟨some 26, .bin .lss (.t 25) (.c (.int .i64 0)), none⟩] [1, 2, 3, 26])
  (.cond (.t 26) (.seq (.reg [⟨some 6, .asg (.c (.bool true)), none⟩] [6])
  (.ret)) (.skip))))
  (.seq (.reg [⟨some 28, .ld 3 2 true, none⟩,
    ⟨some 29, .call 51 [(.t 28)], none⟩,
    ⟨some 30, .mv (.t 1), none⟩,
    ⟨some 31, .mv (.t 2), none⟩,
    ⟨some 32, .call 27 [(.t 31)], none⟩,
    ⟨some 33, .call 50 [(.t 29), (.t 30), (.t 32)], none⟩,
    ⟨some 27, .mvt 33, none⟩,
    ⟨some 34, .ext 27 0, none⟩,
    ⟨some 35, .ext 27 1, none⟩,
    ⟨some 8, .alloc (.agg [.slice true [], .slice true []]), none⟩,
    ⟨none, .st 8 (.t 34) 2, none⟩,
    ⟨some 9, .asg (.t 35), none⟩] [1, 2, 3, 8, 9])
  (.seq (.reg [⟨some 36, .ld 3 2 true, none⟩,
    ⟨some 37, .call 51 [(.t 36)], none⟩,
    ⟨some 10, .alloc (.agg [.slice true [], .slice true []]), none⟩,
    ⟨none, .st 10 (.t 37) 2, none⟩] [1, 2, 3, 8, 9, 10])
  (.seq (.reg [⟨some 38, .mv (.t 2), none⟩,
    ⟨some 39, .call 27 [(.t 38)], none⟩,
    ⟨some 11, .asg (.t 39), none⟩] [1, 2, 3, 8, 9, 10, 11])
  (.seq (.reg [⟨some 41, .ld 10 2 true, none⟩,
    ⟨some 42, .mv (.t 1), none⟩,
    ⟨some 43, .mv (.t 11), none⟩,
    ⟨some 44, .call 52 [(.t 41), (.t 42), (.t 43)], none⟩,
    ⟨some 40, .mvt 44, none⟩,
    ⟨some 45, .ext 40 0, none⟩,
    ⟨some 46, .ext 40 1, none⟩,
    ⟨some 12, .alloc (.agg [.slice true [], .slice true []]), none⟩,
    ⟨none, .st 12 (.t 45) 2, none⟩,
    ⟨some 13, .asg (.t 46), none⟩] [1, 2, 3, 8, 9, 10, 11, 12, 13])
  (.seq (.kp [1, 2, 3, 8, 9, 10, 11, 12, 13] (.seq (.reg [⟨some 47, .ld 12 2 true, none⟩,
    ⟨some 48, .ld 8 2 true, none⟩,
    ⟨some 49, .call 53 [(.t 47), (.t 48)], none⟩,
    ⟨some 50, .nt (.t 49), none⟩,
    ⟨some 51, .mv (.t 50), none⟩,
    ⟨some 52, .mv (.t 13), some (51, false)⟩,
    ⟨some 53, .mv (.t 9), some (51, false)⟩,
    ⟨some 54, .eqb true (.t 52) (.t 53), some (51, false)⟩,
    ⟨some 55, .pick (.t 51) (.c (.bool true)) (.t 54), none⟩] [1, 2, 3, 8, 9, 10, 11, 12, 13, 55])
  (.cond (.t 55) (.seq (.reg [⟨some 6, .asg (.c (.bool false)), none⟩] [6])
  (.ret)) (.skip))))
  (.seq (.kp [1, 2, 3, 8, 9, 10, 11, 12, 13] (.seq (.drw [⟨0, ⟨some 56, .ld 10 2 true, none⟩, [57, 58, 59, 60]⟩,
    ⟨1, ⟨some 57, .ld 3 2 true, none⟩, [56, 58, 59, 60]⟩,
    ⟨2, ⟨some 58, .call 51 [(.t 57)], none⟩, [56, 59, 60]⟩,
    ⟨3, ⟨some 59, .call 53 [(.t 56), (.t 58)], none⟩, [60]⟩,
    ⟨4, ⟨some 60, .nt (.t 59), none⟩, []⟩]
    [] [1, 2, 3, 8, 9, 10, 11, 12, 13, 60])
  (.cond (.t 60) (.seq (.reg [⟨some 6, .asg (.c (.bool false)), none⟩] [6])
  (.ret)) (.skip))))
  (.seq (.kp [1, 2, 3, 8, 9, 10, 11, 12, 13] (.seq (.reg [⟨some 61, .mv (.t 11), none⟩,
    ⟨some 62, .mv (.t 2), none⟩,
    ⟨some 63, .call 27 [(.t 62)], none⟩,
    ⟨some 64, .call 19 [(.t 61), (.t 63)], none⟩,
    ⟨some 65, .nt (.t 64), none⟩] [1, 2, 3, 8, 9, 10, 11, 12, 13, 65])
  (.cond (.t 65) (.seq (.reg [⟨some 6, .asg (.c (.bool false)), none⟩] [6])
  (.ret)) (.skip))))
  (.seq (.reg [⟨some 14, .asg (.c (.int .i64 1)), none⟩] [1, 2, 3, 8, 9, 10, 11, 12, 13, 14])
  (.seq (.reg [⟨some 66, .ld 10 2 true, none⟩,
    ⟨some 67, .mv (.t 14), none⟩,
    ⟨some 68, .callO 54 [(.t 66), (.t 67)], none⟩,
    ⟨some 14, .asg (.t 68), none⟩] [1, 2, 3, 8, 9, 11, 12, 13, 14])
  (.seq (.reg [⟨some 69, .mv (.t 11), none⟩,
    ⟨some 70, .mv (.t 14), none⟩,
    ⟨some 71, .callO 24 [(.t 69), (.t 70)], none⟩,
    ⟨some 14, .asg (.t 71), none⟩] [1, 2, 3, 8, 9, 12, 13, 14])
  (.seq (.kp [1, 2, 3, 8, 9, 12] (.seq (.reg [⟨some 72, .mv (.t 14), none⟩,
    ⟨some 73, .bin .lss (.t 72) (.c (.int .i64 0)), none⟩,
    ⟨some 74, .mv (.t 73), none⟩,
    ⟨some 75, .ld 12 2 true, some (74, false)⟩,
    ⟨some 76, .ld 8 2 true, some (74, false)⟩,
    ⟨some 77, .call 53 [(.t 75), (.t 76)], some (74, false)⟩,
    ⟨some 78, .nt (.t 77), some (74, false)⟩,
    ⟨some 79, .pick (.t 74) (.c (.bool true)) (.t 78), none⟩,
    ⟨some 80, .mv (.t 79), none⟩,
    ⟨some 81, .mv (.t 13), some (80, false)⟩,
    ⟨some 82, .mv (.t 9), some (80, false)⟩,
    ⟨some 83, .eqb true (.t 81) (.t 82), some (80, false)⟩,
    ⟨some 84, .pick (.t 80) (.c (.bool true)) (.t 83), none⟩] [1, 2, 3, 8, 9, 12, 84])
  (.cond (.t 84) (.seq (.reg [⟨some 6, .asg (.c (.bool false)), none⟩] [6])
  (.ret)) (.skip))))
  (.seq (.reg [⟨some 15, .asg (.c (.int .i64 1)), none⟩] [1, 2, 3, 8, 9, 12, 15])
  (.seq (.reg [⟨some 85, .ld 12 2 true, none⟩,
    ⟨some 86, .mv (.t 15), none⟩,
    ⟨some 87, .callO 54 [(.t 85), (.t 86)], none⟩,
    ⟨some 15, .asg (.t 87), none⟩] [1, 2, 3, 8, 9, 12, 15])
  (.seq (.reg [⟨some 16, .asg (.c (.int .i64 1)), none⟩] [1, 2, 3, 8, 9, 12, 15, 16])
  (.seq (.reg [⟨some 88, .ld 12 2 true, none⟩,
    ⟨some 89, .mv (.t 16), none⟩,
    ⟨some 90, .call 55 [(.t 88), (.t 89)], none⟩,
    ⟨some 16, .asg (.t 90), none⟩] [1, 2, 3, 8, 9, 12, 15, 16])
  (.seq (.kp [1, 2, 3, 8, 9, 12, 15, 16] (.seq (.reg [⟨some 91, .mv (.t 16), none⟩,
    ⟨some 92, .bin .lss (.t 91) (.c (.int .i64 0)), none⟩] [1, 2, 3, 8, 9, 12, 15, 16, 92])
  (.cond (.t 92) (.seq (.reg [⟨some 6, .asg (.c (.bool false)), none⟩] [6])
  (.ret)) (.skip))))
  (.seq (.kp [1, 2, 3, 8, 9, 12, 15] (.seq (.reg [⟨some 93, .mv (.t 16), none⟩,
    ⟨some 94, .mv (.t 15), none⟩,
    ⟨some 95, .bin .neq (.t 93) (.t 94), none⟩] [1, 2, 3, 8, 9, 12, 15, 95])
  (.cond (.t 95) (.seq (.reg [⟨some 6, .asg (.c (.bool false)), none⟩] [6])
  (.ret)) (.skip))))
  (.seq (.reg [⟨some 97, .ld 3 2 true, none⟩,
    ⟨some 98, .call 51 [(.t 97)], none⟩,
    ⟨some 99, .mv (.t 1), none⟩,
    ⟨some 100, .mv (.t 2), none⟩,
    ⟨some 101, .call 27 [(.t 100)], none⟩,
    ⟨some 102, .call 52 [(.t 98), (.t 99), (.t 101)], none⟩,
    ⟨some 96, .mvt 102, none⟩,
    ⟨some 103, .ext 96 0, none⟩,
    ⟨some 104, .ext 96 1, none⟩,
    ⟨some 17, .alloc (.agg [.slice true [], .slice true []]), none⟩,
    ⟨none, .st 17 (.t 103) 2, none⟩,
    ⟨some 18, .asg (.t 104), none⟩] [8, 9, 12, 15, 17, 18])
  (.seq (.kp [12, 15] (.seq (.reg [⟨some 105, .ld 17 2 true, none⟩,
    ⟨some 106, .ld 8 2 true, none⟩,
    ⟨some 107, .call 53 [(.t 105), (.t 106)], none⟩,
    ⟨some 108, .nt (.t 107), none⟩,
    ⟨some 109, .mv (.t 108), none⟩,
    ⟨some 110, .mv (.t 18), some (109, false)⟩,
    ⟨some 111, .mv (.t 9), some (109, false)⟩,
    ⟨some 112, .eqb true (.t 110) (.t 111), some (109, false)⟩,
    ⟨some 113, .pick (.t 109) (.c (.bool true)) (.t 112), none⟩] [12, 15, 113])
  (.cond (.t 113) (.seq (.reg [⟨some 6, .asg (.c (.bool false)), none⟩] [6])
  (.ret)) (.skip))))
  (.seq (.reg [⟨some 16, .asg (.c (.int .i64 1)), none⟩] [12, 15, 16])
  (.seq (.reg [⟨some 114, .ld 12 2 true, none⟩,
    ⟨some 115, .mv (.t 16), none⟩,
    ⟨some 116, .call 55 [(.t 114), (.t 115)], none⟩,
    ⟨some 16, .asg (.t 116), none⟩] [15, 16])
  (.seq (.kp [15, 16] (.seq (.reg [⟨some 117, .mv (.t 16), none⟩,
    ⟨some 118, .bin .lss (.t 117) (.c (.int .i64 0)), none⟩] [15, 16, 118])
  (.cond (.t 118) (.seq (.reg [⟨some 6, .asg (.c (.bool false)), none⟩] [6])
  (.ret)) (.skip))))
  (.seq (.kp [] (.seq (.reg [⟨some 119, .mv (.t 16), none⟩,
    ⟨some 120, .mv (.t 15), none⟩,
    ⟨some 121, .bin .neq (.t 119) (.t 120), none⟩] [121])
  (.cond (.t 121) (.seq (.reg [⟨some 6, .asg (.c (.bool false)), none⟩] [6])
  (.ret)) (.skip))))
  (.seq (.reg [⟨some 6, .asg (.c (.bool true)), none⟩] [6])
  (.ret)))))))))))))))))))))))))))))
theorem con_laws_FnExactGroupCube {v0 : XCube} {v1 : Int} {v2 : (List Int)} {r : Bool} (h : sh_laws_FnExactGroupCube v0 v1 v2 = some r) : Con Try.prog 12 [(cXCube (cLs cI rfl) (cLs cI rfl)).enc v0, cI.enc v1, (cLs cI rfl).enc v2] [] (rs_laws_FnExactGroupCube r) := by
  delta sh_laws_FnExactGroupCube at h
  refine top (out := none) (f := Try.f12) (m := m12) (rs := [.t 6]) (by kernel_rfl) rfl (by kernel_rfl) (by kernel_rfl) (by kernel_rfl) (by kernel_rfl) (by kernel_rfl) ?_
  exact
   ini [(0, .d ((cXCube (cLs cI rfl) (cLs cI rfl)).enc v0)), (1, .d (cI.enc v1)), (2, .d ((cLs cI rfl).enc v2))] rfl <| wpC_seq <| reg_s <| x_box (ss rfl rfl) <| x_asg (sc cB false rfl) <| seqN [(1, .d (cI.enc v1)), (2, .d ((cLs cI rfl).enc v2)), (3, .box ((cXCube (cLs cI rfl) (cLs cI rfl)).enc v0))] (by kernel_rfl) <|
    xn <| wpC_seq <| wpC_kp <| wpC_seq <| reg_s <| st rfl <| mvd rfl rfl <| stw rfl <| lens rfl fun l5 => st rfl <| b_gtr (k := .i64) rfl rfl <| seqN [(1, .d (cI.enc v1)), (2, .d ((cLs cI rfl).enc v2)), (3, .box ((cXCube (cLs cI rfl) (cLs cI rfl)).enc v0)), (21, .d (cB.enc (decide ((1048576 : Int) < (v2.length : Int)))))] (by kernel_rfl) <|
    xn <| cnd rfl h (fun b6 h => wpC_seq <| reg_s <| x_asg (sc cB true rfl) <| seqN [(6, .d (cB.enc true))] (by kernel_rfl) <|
    xn <| wpC_ret <| rt <| rt <| re <| fin h (r1 (ss rfl rfl) <| r0) rfl)
    (fun b6 h => wpC_skip <| kpN [(1, .d (cI.enc v1)), (2, .d ((cLs cI rfl).enc v2)), (3, .box ((cXCube (cLs cI rfl) (cLs cI rfl)).enc v0))] (by kernel_rfl) <| xn <| wpC_seq <| reg_s <| x_asg (sc cI (1048576 : Int) rfl) <| seqN [(1, .d (cI.enc v1)), (2, .d ((cLs cI rfl).enc v2)), (3, .box ((cXCube (cLs cI rfl) (cLs cI rfl)).enc v0)), (7, .d (cI.enc (1048576 : Int)))] (by kernel_rfl) <|
    xn <| wpC_seq <| reg_s <| st rfl <| ldb rfl rfl rfl rfl <| st rfl <| mvd rfl rfl <| bnd h fun x9 e10 h => st rfl <| o_call (a1 (c := (cXCube (cLs cI rfl) (cLs cI rfl))) (tXCube (tLs tK) (tLs tK)) rfl (a1 (c := cI) tK rfl a0)) (con_laws_szCube e10) (.inl (so1 sK so0)) <| x_asg (ss rfl rfl) <| seqN [(1, .d (cI.enc v1)), (2, .d ((cLs cI rfl).enc v2)), (3, .box ((cXCube (cLs cI rfl) (cLs cI rfl)).enc v0)), (7, .d (cI.enc x9))] (by kernel_rfl) <|
    xn <| wpC_seq <| wpC_kp <| wpC_seq <| reg_s <| st rfl <| mvd rfl rfl <| st rfl <| b_lss (k := .i64) rfl rfl <| seqN [(1, .d (cI.enc v1)), (2, .d ((cLs cI rfl).enc v2)), (3, .box ((cXCube (cLs cI rfl) (cLs cI rfl)).enc v0)), (26, .d (cB.enc (decide (x9 < (0 : Int)))))] (by kernel_rfl) <|
    xn <| cnd rfl h (fun b12 h => wpC_seq <| reg_s <| x_asg (sc cB true rfl) <| seqN [(6, .d (cB.enc true))] (by kernel_rfl) <|
    xn <| wpC_ret <| rt <| rt <| re <| fin h (r1 (ss rfl rfl) <| r0) rfl)
    (fun b12 h => wpC_skip <| kpN [(1, .d (cI.enc v1)), (2, .d ((cLs cI rfl).enc v2)), (3, .box ((cXCube (cLs cI rfl) (cLs cI rfl)).enc v0))] (by kernel_rfl) <| xn <| wpC_seq <| reg_s <| st rfl <| ldb rfl rfl rfl rfl <| bnd h fun x19 e20 h => st rfl <| o_call (a1 (c := (cXCube (cLs cI rfl) (cLs cI rfl))) (tXCube (tLs tK) (tLs tK)) rfl a0) (con_laws_toCube e20) (.inl (so1 (sXCube (sLo sK) (sLo sK)) so0)) <| st rfl <| mvd rfl rfl <| st rfl <| mvd rfl rfl <| bnd h fun x21 e22 h => st rfl <| o_call (a1 (c := (cLs cI rfl)) (tLs tK) rfl a0) (con_laws_toIntS e22) (.inl (so1 (sLo sK) so0)) <| bnd h fun x23 e24 h => st rfl <| o_call (a1 (c := (cXCube (cLo cI) (cLo cI))) (tXCube (tLo tK) (tLo tK)) rfl (a1 (c := cI) tK rfl (a1 (c := (cLo cI)) (tLo tK) rfl a0))) (con_spec_GroupCube e24) (.inl (so1 (sXCube (sLo sK) (sLo sK)) (so1 sB so0))) <| x_mvt rfl <| x_ext rfl rfl <| x_ext rfl rfl <| x_all (cXCube (cLo cI) (cLo cI)) (⟨([] : List Int), ([] : List Int)⟩ : XCube) rfl <| x_stb (so rfl rfl) rfl (Cd.h_sz _ _) rfl <| x_asg (ss rfl rfl) <| seqN [(1, .d (cI.enc v1)), (2, .d ((cLs cI rfl).enc v2)), (3, .box ((cXCube (cLs cI rfl) (cLs cI rfl)).enc v0)), (8, .box ((cXCube (cLo cI) (cLo cI)).enc x23.1)), (9, .d (cB.enc x23.2))] (by kernel_rfl) <|
    xn <| wpC_seq <| reg_s <| st rfl <| ldb rfl rfl rfl rfl <| bnd h fun x27 e28 h => st rfl <| o_call (a1 (c := (cXCube (cLs cI rfl) (cLs cI rfl))) (tXCube (tLs tK) (tLs tK)) rfl a0) (con_laws_toCube e28) (.inl (so1 (sXCube (sLo sK) (sLo sK)) so0)) <| x_all (cXCube (cLo cI) (cLo cI)) (⟨([] : List Int), ([] : List Int)⟩ : XCube) rfl <| x_stb (so rfl rfl) rfl (Cd.h_sz _ _) rfl <| seqN [(1, .d (cI.enc v1)), (2, .d ((cLs cI rfl).enc v2)), (3, .box ((cXCube (cLs cI rfl) (cLs cI rfl)).enc v0)), (8, .box ((cXCube (cLo cI) (cLo cI)).enc x23.1)), (9, .d (cB.enc x23.2)), (10, .box ((cXCube (cLo cI) (cLo cI)).enc x27))] (by kernel_rfl) <|
    xn <| wpC_seq <| reg_s <| st rfl <| mvd rfl rfl <| bnd h fun x31 e32 h => st rfl <| o_call (a1 (c := (cLs cI rfl)) (tLs tK) rfl a0) (con_laws_toIntS e32) (.inl (so1 (sLo sK) so0)) <| x_asg (so rfl rfl) <| seqN [(1, .d (cI.enc v1)), (2, .d ((cLs cI rfl).enc v2)), (3, .box ((cXCube (cLs cI rfl) (cLs cI rfl)).enc v0)), (8, .box ((cXCube (cLo cI) (cLo cI)).enc x23.1)), (9, .d (cB.enc x23.2)), (10, .box ((cXCube (cLo cI) (cLo cI)).enc x27)), (11, .d ((cLo cI).enc x31))] (by kernel_rfl) <|
    xn <| wpC_seq <| reg_s <| st rfl <| ldbo rfl rfl rfl rfl <| st rfl <| mvd rfl rfl <| st rfl <| mvo rfl rfl <| bnd h fun x35 e36 h => st rfl <| o_call (a1 (c := (cXCube (cLo cI) (cLo cI))) (tXCube (tLo tK) (tLo tK)) rfl (a1 (c := cI) tK rfl (a1 (c := (cLo cI)) (tLo tK) rfl a0))) (con_impl_GroupCube e36) (.inl (so1 (sXCube (sLo sK) (sLo sK)) (so1 sB so0))) <| x_mvt rfl <| x_ext rfl rfl <| x_ext rfl rfl <| x_all (cXCube (cLo cI) (cLo cI)) (⟨([] : List Int), ([] : List Int)⟩ : XCube) rfl <| x_stb (so rfl rfl) rfl (Cd.h_sz _ _) rfl <| x_asg (ss rfl rfl) <| seqN [(1, .d (cI.enc v1)), (2, .d ((cLs cI rfl).enc v2)), (3, .box ((cXCube (cLs cI rfl) (cLs cI rfl)).enc v0)), (8, .box ((cXCube (cLo cI) (cLo cI)).enc x23.1)), (9, .d (cB.enc x23.2)), (10, .box ((cXCube (cLo cI) (cLo cI)).enc x27)), (11, .d ((cLo cI).enc x31)), (12, .box ((cXCube (cLo cI) (cLo cI)).enc x35.1)), (13, .d (cB.enc x35.2))] (by kernel_rfl) <|
    xn <| wpC_seq <| wpC_kp <| wpC_seq <| reg_s <| st rfl <| ldbo rfl rfl rfl rfl <| st rfl <| ldbo rfl rfl rfl rfl <| bnd h fun x47 e48 h => st rfl <| o_call (a1 (c := (cXCube (cLo cI) (cLo cI))) (tXCube (tLo tK) (tLo tK)) rfl (a1 (c := (cXCube (cLo cI) (cLo cI))) (tXCube (tLo tK) (tLo tK)) rfl a0)) (con_laws_eqCube e48) (.inl (so1 sB so0)) <| st rfl <| o_nt rfl <| st rfl <| mvd rfl rfl <| ite_k h (fun b49 h => gf rfl b49 <| gf rfl b49 <| gf rfl b49 <| st rfl <| pick1 rfl b49 (cd := cB) (v := true) rfl rfl <| seqN [(1, .d (cI.enc v1)), (2, .d ((cLs cI rfl).enc v2)), (3, .box ((cXCube (cLs cI rfl) (cLs cI rfl)).enc v0)), (8, .box ((cXCube (cLo cI) (cLo cI)).enc x23.1)), (9, .d (cB.enc x23.2)), (10, .box ((cXCube (cLo cI) (cLo cI)).enc x27)), (11, .d ((cLo cI).enc x31)), (12, .box ((cXCube (cLo cI) (cLo cI)).enc x35.1)), (13, .d (cB.enc x35.2)), (55, .d (cB.enc true))] (by kernel_rfl) <|
    xn <| cnd1 rfl rfl <| wpC_seq <| reg_s <| x_asg (sc cB false rfl) <| seqN [(6, .d (cB.enc false))] (by kernel_rfl) <|
    xn <| wpC_ret <| rt <| rt <| re <| fin h (r1 (ss rfl rfl) <| r0) rfl)
    (fun b49 h => gt' rfl b49 <| st rfl <| mvd rfl rfl <| gt' rfl b49 <| st rfl <| mvd rfl rfl <| gt' rfl b49 <| st rfl <| eqb1 rfl rfl <| st rfl <| pick0 rfl b49 (cd := cB) (v := (x35.2 != x23.2)) rfl rfl <| seqN [(1, .d (cI.enc v1)), (2, .d ((cLs cI rfl).enc v2)), (3, .box ((cXCube (cLs cI rfl) (cLs cI rfl)).enc v0)), (8, .box ((cXCube (cLo cI) (cLo cI)).enc x23.1)), (9, .d (cB.enc x23.2)), (10, .box ((cXCube (cLo cI) (cLo cI)).enc x27)), (11, .d ((cLo cI).enc x31)), (12, .box ((cXCube (cLo cI) (cLo cI)).enc x35.1)), (13, .d (cB.enc x35.2)), (55, .d (cB.enc (x35.2 != x23.2)))] (by kernel_rfl) <|
    xn <| cnd rfl h (fun b50 h => wpC_seq <| reg_s <| x_asg (sc cB false rfl) <| seqN [(6, .d (cB.enc false))] (by kernel_rfl) <|
    xn <| wpC_ret <| rt <| rt <| re <| fin h (r1 (ss rfl rfl) <| r0) rfl)
    (fun b50 h => wpC_skip <| kpN [(1, .d (cI.enc v1)), (2, .d ((cLs cI rfl).enc v2)), (3, .box ((cXCube (cLs cI rfl) (cLs cI rfl)).enc v0)), (8, .box ((cXCube (cLo cI) (cLo cI)).enc x23.1)), (9, .d (cB.enc x23.2)), (10, .box ((cXCube (cLo cI) (cLo cI)).enc x27)), (11, .d ((cLo cI).enc x31)), (12, .box ((cXCube (cLo cI) (cLo cI)).enc x35.1)), (13, .d (cB.enc x35.2))] (by kernel_rfl) <| xn <| wpC_seq <| wpC_kp <| wpC_seq <| drw_s <| pst rfl <| ldbo rfl rfl rfl rfl ⟨rfl, pst rfl <| ldb rfl rfl rfl rfl ⟨rfl, bndp h fun x64 e65 h => pst rfl <| o_call (a1 (c := (cXCube (cLs cI rfl) (cLs cI rfl))) (tXCube (tLs tK) (tLs tK)) rfl a0) (con_laws_toCube e65) (.inl (so1 (sXCube (sLo sK) (sLo sK)) so0)) ⟨rfl, bndp h fun x66 e67 h => pst rfl <| o_call (a1 (c := (cXCube (cLo cI) (cLo cI))) (tXCube (tLo tK) (tLo tK)) rfl (a1 (c := (cXCube (cLo cI) (cLo cI))) (tXCube (tLo tK) (tLo tK)) rfl a0)) (con_laws_eqCube e67) (.inl (so1 sB so0)) ⟨rfl, pst rfl <| o_nt rfl ⟨rfl, preN <| seqN [(1, .d (cI.enc v1)), (2, .d ((cLs cI rfl).enc v2)), (3, .box ((cXCube (cLs cI rfl) (cLs cI rfl)).enc v0)), (8, .box ((cXCube (cLo cI) (cLo cI)).enc x23.1)), (9, .d (cB.enc x23.2)), (10, .box ((cXCube (cLo cI) (cLo cI)).enc x27)), (11, .d ((cLo cI).enc x31)), (12, .box ((cXCube (cLo cI) (cLo cI)).enc x35.1)), (13, .d (cB.enc x35.2)), (60, .d (cB.enc (!x66)))] (by kernel_rfl) <|
    xn <| cnd rfl h (fun b68 h => wpC_seq <| reg_s <| x_asg (sc cB false rfl) <| seqN [(6, .d (cB.enc false))] (by kernel_rfl) <|
    xn <| wpC_ret <| rt <| rt <| re <| fin h (r1 (ss rfl rfl) <| r0) rfl)
    (fun b68 h => wpC_skip <| kpN [(1, .d (cI.enc v1)), (2, .d ((cLs cI rfl).enc v2)), (3, .box ((cXCube (cLs cI rfl) (cLs cI rfl)).enc v0)), (8, .box ((cXCube (cLo cI) (cLo cI)).enc x23.1)), (9, .d (cB.enc x23.2)), (10, .box ((cXCube (cLo cI) (cLo cI)).enc x27)), (11, .d ((cLo cI).enc x31)), (12, .box ((cXCube (cLo cI) (cLo cI)).enc x35.1)), (13, .d (cB.enc x35.2))] (by kernel_rfl) <| xn <| wpC_seq <| wpC_kp <| wpC_seq <| reg_s <| st rfl <| mvo rfl rfl <| st rfl <| mvd rfl rfl <| bnd h fun x82 e83 h => st rfl <| o_call (a1 (c := (cLs cI rfl)) (tLs tK) rfl a0) (con_laws_toIntS e83) (.inl (so1 (sLo sK) so0)) <| bnd h fun x84 e85 h => st rfl <| o_call (a1 (c := (cLo cI)) (tLo tK) rfl (a1 (c := (cLo cI)) (tLo tK) rfl a0)) (con_laws_eqIntS e85) (.inl (so1 sB so0)) <| st rfl <| o_nt rfl <| seqN [(1, .d (cI.enc v1)), (2, .d ((cLs cI rfl).enc v2)), (3, .box ((cXCube (cLs cI rfl) (cLs cI rfl)).enc v0)), (8, .box ((cXCube (cLo cI) (cLo cI)).enc x23.1)), (9, .d (cB.enc x23.2)), (10, .box ((cXCube (cLo cI) (cLo cI)).enc x27)), (11, .d ((cLo cI).enc x31)), (12, .box ((cXCube (cLo cI) (cLo cI)).enc x35.1)), (13, .d (cB.enc x35.2)), (65, .d (cB.enc (!x84)))] (by kernel_rfl) <|
    xn <| cnd rfl h (fun b86 h => wpC_seq <| reg_s <| x_asg (sc cB false rfl) <| seqN [(6, .d (cB.enc false))] (by kernel_rfl) <|
    xn <| wpC_ret <| rt <| rt <| re <| fin h (r1 (ss rfl rfl) <| r0) rfl)
    (fun b86 h => wpC_skip <| kpN [(1, .d (cI.enc v1)), (2, .d ((cLs cI rfl).enc v2)), (3, .box ((cXCube (cLs cI rfl) (cLs cI rfl)).enc v0)), (8, .box ((cXCube (cLo cI) (cLo cI)).enc x23.1)), (9, .d (cB.enc x23.2)), (10, .box ((cXCube (cLo cI) (cLo cI)).enc x27)), (11, .d ((cLo cI).enc x31)), (12, .box ((cXCube (cLo cI) (cLo cI)).enc x35.1)), (13, .d (cB.enc x35.2))] (by kernel_rfl) <| xn <| wpC_seq <| reg_s <| x_asg (sc cI (1 : Int) rfl) <| seqN [(1, .d (cI.enc v1)), (2, .d ((cLs cI rfl).enc v2)), (3, .box ((cXCube (cLs cI rfl) (cLs cI rfl)).enc v0)), (8, .box ((cXCube (cLo cI) (cLo cI)).enc x23.1)), (9, .d (cB.enc x23.2)), (10, .box ((cXCube (cLo cI) (cLo cI)).enc x27)), (11, .d ((cLo cI).enc x31)), (12, .box ((cXCube (cLo cI) (cLo cI)).enc x35.1)), (13, .d (cB.enc x35.2)), (14, .d (cI.enc (1 : Int)))] (by kernel_rfl) <|
    xn <| wpC_seq <| reg_s <| st rfl <| ldbo rfl rfl rfl rfl <| st rfl <| mvd rfl rfl <| bnd h fun x89 e90 h => x_clr (c := (cXCube (cLo cI) (cLo cI))) (c' := (cXCube (cLo cI) (cLo cI))) ((cXCube (cLo cI) (cLo cI)).enc x89.1) (sXCube (sLo sK) (sLo sK)) rfl (a1 (c := cI) tK rfl a0) rfl Ln.nil (con_laws_markCube e90) rfl rfl (so1 sK so0) <| x_asg (ss rfl rfl) <| seqN [(1, .d (cI.enc v1)), (2, .d ((cLs cI rfl).enc v2)), (3, .box ((cXCube (cLs cI rfl) (cLs cI rfl)).enc v0)), (8, .box ((cXCube (cLo cI) (cLo cI)).enc x23.1)), (9, .d (cB.enc x23.2)), (11, .d ((cLo cI).enc x31)), (12, .box ((cXCube (cLo cI) (cLo cI)).enc x35.1)), (13, .d (cB.enc x35.2)), (14, .d (cI.enc x89.2))] (by kernel_rfl) <|
    xn <| wpC_seq <| reg_s <| st rfl <| mvo rfl rfl <| st rfl <| mvd rfl rfl <| bnd h fun x93 e94 h => x_clr (c := (cLo cI)) (c' := (cLo cI)) ((cLo cI).enc x93.1) (sLo sK) rfl (a1 (c := cI) tK rfl a0) rfl Ln.nil (con_laws_markIntS e94) rfl rfl (so1 sK so0) <| x_asg (ss rfl rfl) <| seqN [(1, .d (cI.enc v1)), (2, .d ((cLs cI rfl).enc v2)), (3, .box ((cXCube (cLs cI rfl) (cLs cI rfl)).enc v0)), (8, .box ((cXCube (cLo cI) (cLo cI)).enc x23.1)), (9, .d (cB.enc x23.2)), (12, .box ((cXCube (cLo cI) (cLo cI)).enc x35.1)), (13, .d (cB.enc x35.2)), (14, .d (cI.enc x93.2))] (by kernel_rfl) <|
    xn <| wpC_seq <| wpC_kp <| wpC_seq <| reg_s <| st rfl <| mvd rfl rfl <| st rfl <| b_lss (k := .i64) rfl rfl <| st rfl <| mvd rfl rfl <| ite_k h (fun b107 h => gf rfl b107 <| gf rfl b107 <| gf rfl b107 <| gf rfl b107 <| st rfl <| pick1 rfl b107 (cd := cB) (v := true) rfl rfl <| st rfl <| mvd rfl rfl <| gf rfl rfl <| gf rfl rfl <| gf rfl rfl <| st rfl <| pick1 rfl rfl (cd := cB) (v := true) rfl rfl <| seqN [(1, .d (cI.enc v1)), (2, .d ((cLs cI rfl).enc v2)), (3, .box ((cXCube (cLs cI rfl) (cLs cI rfl)).enc v0)), (8, .box ((cXCube (cLo cI) (cLo cI)).enc x23.1)), (9, .d (cB.enc x23.2)), (12, .box ((cXCube (cLo cI) (cLo cI)).enc x35.1)), (84, .d (cB.enc true))] (by kernel_rfl) <|
    xn <| cnd1 rfl rfl <| wpC_seq <| reg_s <| x_asg (sc cB false rfl) <| seqN [(6, .d (cB.enc false))] (by kernel_rfl) <|
    xn <| wpC_ret <| rt <| rt <| re <| fin h (r1 (ss rfl rfl) <| r0) rfl)
    (fun b107 h => gt' rfl b107 <| st rfl <| ldbo rfl rfl rfl rfl <| gt' rfl b107 <| st rfl <| ldbo rfl rfl rfl rfl <| gt' rfl b107 <| bnd h fun x108 e109 h => st rfl <| o_call (a1 (c := (cXCube (cLo cI) (cLo cI))) (tXCube (tLo tK) (tLo tK)) rfl (a1 (c := (cXCube (cLo cI) (cLo cI))) (tXCube (tLo tK) (tLo tK)) rfl a0)) (con_laws_eqCube e109) (.inl (so1 sB so0)) <| gt' rfl b107 <| st rfl <| o_nt rfl <| st rfl <| pick0 rfl b107 (cd := cB) (v := (!x108)) rfl rfl <| st rfl <| mvd rfl rfl <| ite_k h (fun b110 h => gf rfl b110 <| gf rfl b110 <| gf rfl b110 <| st rfl <| pick1 rfl b110 (cd := cB) (v := true) rfl rfl <| seqN [(1, .d (cI.enc v1)), (2, .d ((cLs cI rfl).enc v2)), (3, .box ((cXCube (cLs cI rfl) (cLs cI rfl)).enc v0)), (8, .box ((cXCube (cLo cI) (cLo cI)).enc x23.1)), (9, .d (cB.enc x23.2)), (12, .box ((cXCube (cLo cI) (cLo cI)).enc x35.1)), (84, .d (cB.enc true))] (by kernel_rfl) <|
    xn <| cnd1 rfl rfl <| wpC_seq <| reg_s <| x_asg (sc cB false rfl) <| seqN [(6, .d (cB.enc false))] (by kernel_rfl) <|
    xn <| wpC_ret <| rt <| rt <| re <| fin h (r1 (ss rfl rfl) <| r0) rfl)
    (fun b110 h => gt' rfl b110 <| st rfl <| mvd rfl rfl <| gt' rfl b110 <| st rfl <| mvd rfl rfl <| gt' rfl b110 <| st rfl <| eqb1 rfl rfl <| st rfl <| pick0 rfl b110 (cd := cB) (v := (x35.2 != x23.2)) rfl rfl <| seqN [(1, .d (cI.enc v1)), (2, .d ((cLs cI rfl).enc v2)), (3, .box ((cXCube (cLs cI rfl) (cLs cI rfl)).enc v0)), (8, .box ((cXCube (cLo cI) (cLo cI)).enc x23.1)), (9, .d (cB.enc x23.2)), (12, .box ((cXCube (cLo cI) (cLo cI)).enc x35.1)), (84, .d (cB.enc (x35.2 != x23.2)))] (by kernel_rfl) <|
    xn <| cnd0 rfl b50 <| wpC_skip <| kpN [(1, .d (cI.enc v1)), (2, .d ((cLs cI rfl).enc v2)), (3, .box ((cXCube (cLs cI rfl) (cLs cI rfl)).enc v0)), (8, .box ((cXCube (cLo cI) (cLo cI)).enc x23.1)), (9, .d (cB.enc x23.2)), (12, .box ((cXCube (cLo cI) (cLo cI)).enc x35.1))] (by kernel_rfl) <| xn <| wpC_seq <| reg_s <| x_asg (sc cI (1 : Int) rfl) <| seqN [(1, .d (cI.enc v1)), (2, .d ((cLs cI rfl).enc v2)), (3, .box ((cXCube (cLs cI rfl) (cLs cI rfl)).enc v0)), (8, .box ((cXCube (cLo cI) (cLo cI)).enc x23.1)), (9, .d (cB.enc x23.2)), (12, .box ((cXCube (cLo cI) (cLo cI)).enc x35.1)), (15, .d (cI.enc (1 : Int)))] (by kernel_rfl) <|
    xn <| wpC_seq <| reg_s <| st rfl <| ldbo rfl rfl rfl rfl <| st rfl <| mvd rfl rfl <| bnd h fun x113 e114 h => x_clr (c := (cXCube (cLo cI) (cLo cI))) (c' := (cXCube (cLo cI) (cLo cI))) ((cXCube (cLo cI) (cLo cI)).enc x113.1) (sXCube (sLo sK) (sLo sK)) rfl (a1 (c := cI) tK rfl a0) rfl Ln.nil (con_laws_markCube e114) rfl rfl (so1 sK so0) <| x_asg (ss rfl rfl) <| seqN [(1, .d (cI.enc v1)), (2, .d ((cLs cI rfl).enc v2)), (3, .box ((cXCube (cLs cI rfl) (cLs cI rfl)).enc v0)), (8, .box ((cXCube (cLo cI) (cLo cI)).enc x23.1)), (9, .d (cB.enc x23.2)), (12, .box ((cXCube (cLo cI) (cLo cI)).enc x113.1)), (15, .d (cI.enc x113.2))] (by kernel_rfl) <|
    xn <| wpC_seq <| reg_s <| x_asg (sc cI (1 : Int) rfl) <| seqN [(1, .d (cI.enc v1)), (2, .d ((cLs cI rfl).enc v2)), (3, .box ((cXCube (cLs cI rfl) (cLs cI rfl)).enc v0)), (8, .box ((cXCube (cLo cI) (cLo cI)).enc x23.1)), (9, .d (cB.enc x23.2)), (12, .box ((cXCube (cLo cI) (cLo cI)).enc x113.1)), (15, .d (cI.enc x113.2)), (16, .d (cI.enc (1 : Int)))] (by kernel_rfl) <|
    xn <| wpC_seq <| reg_s <| st rfl <| ldbo rfl rfl rfl rfl <| st rfl <| mvd rfl rfl <| bnd h fun x117 e118 h => st rfl <| o_call (a1 (c := (cXCube (cLo cI) (cLo cI))) (tXCube (tLo tK) (tLo tK)) rfl (a1 (c := cI) tK rfl a0)) (con_laws_heldCube e118) (.inl (so1 sK so0)) <| x_asg (ss rfl rfl) <| seqN [(1, .d (cI.enc v1)), (2, .d ((cLs cI rfl).enc v2)), (3, .box ((cXCube (cLs cI rfl) (cLs cI rfl)).enc v0)), (8, .box ((cXCube (cLo cI) (cLo cI)).enc x23.1)), (9, .d (cB.enc x23.2)), (12, .box ((cXCube (cLo cI) (cLo cI)).enc x113.1)), (15, .d (cI.enc x113.2)), (16, .d (cI.enc x117))] (by kernel_rfl) <|
    xn <| wpC_seq <| wpC_kp <| wpC_seq <| reg_s <| st rfl <| mvd rfl rfl <| st rfl <| b_lss (k := .i64) rfl rfl <| seqN [(1, .d (cI.enc v1)), (2, .d ((cLs cI rfl).enc v2)), (3, .box ((cXCube (cLs cI rfl) (cLs cI rfl)).enc v0)), (8, .box ((cXCube (cLo cI) (cLo cI)).enc x23.1)), (9, .d (cB.enc x23.2)), (12, .box ((cXCube (cLo cI) (cLo cI)).enc x113.1)), (15, .d (cI.enc x113.2)), (16, .d (cI.enc x117)), (92, .d (cB.enc (decide (x117 < (0 : Int)))))] (by kernel_rfl) <|
    xn <| cnd rfl h (fun b120 h => wpC_seq <| reg_s <| x_asg (sc cB false rfl) <| seqN [(6, .d (cB.enc false))] (by kernel_rfl) <|
    xn <| wpC_ret <| rt <| rt <| re <| fin h (r1 (ss rfl rfl) <| r0) rfl)
    (fun b120 h => wpC_skip <| kpN [(1, .d (cI.enc v1)), (2, .d ((cLs cI rfl).enc v2)), (3, .box ((cXCube (cLs cI rfl) (cLs cI rfl)).enc v0)), (8, .box ((cXCube (cLo cI) (cLo cI)).enc x23.1)), (9, .d (cB.enc x23.2)), (12, .box ((cXCube (cLo cI) (cLo cI)).enc x113.1)), (15, .d (cI.enc x113.2)), (16, .d (cI.enc x117))] (by kernel_rfl) <| xn <| wpC_seq <| wpC_kp <| wpC_seq <| reg_s <| st rfl <| mvd rfl rfl <| st rfl <| mvd rfl rfl <| st rfl <| b_neq (k := .i64) rfl rfl <| seqN [(1, .d (cI.enc v1)), (2, .d ((cLs cI rfl).enc v2)), (3, .box ((cXCube (cLs cI rfl) (cLs cI rfl)).enc v0)), (8, .box ((cXCube (cLo cI) (cLo cI)).enc x23.1)), (9, .d (cB.enc x23.2)), (12, .box ((cXCube (cLo cI) (cLo cI)).enc x113.1)), (15, .d (cI.enc x113.2)), (95, .d (cB.enc (decide (x117 ≠ x113.2))))] (by kernel_rfl) <|
    xn <| cnd rfl h (fun b122 h => wpC_seq <| reg_s <| x_asg (sc cB false rfl) <| seqN [(6, .d (cB.enc false))] (by kernel_rfl) <|
    xn <| wpC_ret <| rt <| rt <| re <| fin h (r1 (ss rfl rfl) <| r0) rfl)
    (fun b122 h => wpC_skip <| kpN [(1, .d (cI.enc v1)), (2, .d ((cLs cI rfl).enc v2)), (3, .box ((cXCube (cLs cI rfl) (cLs cI rfl)).enc v0)), (8, .box ((cXCube (cLo cI) (cLo cI)).enc x23.1)), (9, .d (cB.enc x23.2)), (12, .box ((cXCube (cLo cI) (cLo cI)).enc x113.1)), (15, .d (cI.enc x113.2))] (by kernel_rfl) <| xn <| wpC_seq <| reg_s <| st rfl <| ldb rfl rfl rfl rfl <| bnd h fun x129 e130 h => st rfl <| o_call (a1 (c := (cXCube (cLs cI rfl) (cLs cI rfl))) (tXCube (tLs tK) (tLs tK)) rfl a0) (con_laws_toCube e130) (.inl (so1 (sXCube (sLo sK) (sLo sK)) so0)) <| st rfl <| mvd rfl rfl <| st rfl <| mvd rfl rfl <| bnd h fun x131 e132 h => st rfl <| o_call (a1 (c := (cLs cI rfl)) (tLs tK) rfl a0) (con_laws_toIntS e132) (.inl (so1 (sLo sK) so0)) <| bnd h fun x133 e134 h => st rfl <| o_call (a1 (c := (cXCube (cLo cI) (cLo cI))) (tXCube (tLo tK) (tLo tK)) rfl (a1 (c := cI) tK rfl (a1 (c := (cLo cI)) (tLo tK) rfl a0))) (con_impl_GroupCube e134) (.inl (so1 (sXCube (sLo sK) (sLo sK)) (so1 sB so0))) <| x_mvt rfl <| x_ext rfl rfl <| x_ext rfl rfl <| x_all (cXCube (cLo cI) (cLo cI)) (⟨([] : List Int), ([] : List Int)⟩ : XCube) rfl <| x_stb (so rfl rfl) rfl (Cd.h_sz _ _) rfl <| x_asg (ss rfl rfl) <| seqN [(8, .box ((cXCube (cLo cI) (cLo cI)).enc x23.1)), (9, .d (cB.enc x23.2)), (12, .box ((cXCube (cLo cI) (cLo cI)).enc x113.1)), (15, .d (cI.enc x113.2)), (17, .box ((cXCube (cLo cI) (cLo cI)).enc x133.1)), (18, .d (cB.enc x133.2))] (by kernel_rfl) <|
    xn <| wpC_seq <| wpC_kp <| wpC_seq <| reg_s <| st rfl <| ldbo rfl rfl rfl rfl <| st rfl <| ldbo rfl rfl rfl rfl <| bnd h fun x145 e146 h => st rfl <| o_call (a1 (c := (cXCube (cLo cI) (cLo cI))) (tXCube (tLo tK) (tLo tK)) rfl (a1 (c := (cXCube (cLo cI) (cLo cI))) (tXCube (tLo tK) (tLo tK)) rfl a0)) (con_laws_eqCube e146) (.inl (so1 sB so0)) <| st rfl <| o_nt rfl <| st rfl <| mvd rfl rfl <| ite_k h (fun b147 h => gf rfl b147 <| gf rfl b147 <| gf rfl b147 <| st rfl <| pick1 rfl b147 (cd := cB) (v := true) rfl rfl <| seqN [(12, .box ((cXCube (cLo cI) (cLo cI)).enc x113.1)), (15, .d (cI.enc x113.2)), (113, .d (cB.enc true))] (by kernel_rfl) <|
    xn <| cnd1 rfl rfl <| wpC_seq <| reg_s <| x_asg (sc cB false rfl) <| seqN [(6, .d (cB.enc false))] (by kernel_rfl) <|
    xn <| wpC_ret <| rt <| rt <| re <| fin h (r1 (ss rfl rfl) <| r0) rfl)
    (fun b147 h => gt' rfl b147 <| st rfl <| mvd rfl rfl <| gt' rfl b147 <| st rfl <| mvd rfl rfl <| gt' rfl b147 <| st rfl <| eqb1 rfl rfl <| st rfl <| pick0 rfl b147 (cd := cB) (v := (x133.2 != x23.2)) rfl rfl <| seqN [(12, .box ((cXCube (cLo cI) (cLo cI)).enc x113.1)), (15, .d (cI.enc x113.2)), (113, .d (cB.enc (x133.2 != x23.2)))] (by kernel_rfl) <|
    xn <| cnd rfl h (fun b148 h => wpC_seq <| reg_s <| x_asg (sc cB false rfl) <| seqN [(6, .d (cB.enc false))] (by kernel_rfl) <|
    xn <| wpC_ret <| rt <| rt <| re <| fin h (r1 (ss rfl rfl) <| r0) rfl)
    (fun b148 h => wpC_skip <| kpN [(12, .box ((cXCube (cLo cI) (cLo cI)).enc x113.1)), (15, .d (cI.enc x113.2))] (by kernel_rfl) <| xn <| wpC_seq <| reg_s <| x_asg (sc cI (1 : Int) rfl) <| seqN [(12, .box ((cXCube (cLo cI) (cLo cI)).enc x113.1)), (15, .d (cI.enc x113.2)), (16, .d (cI.enc (1 : Int)))] (by kernel_rfl) <|
    xn <| wpC_seq <| reg_s <| st rfl <| ldbo rfl rfl rfl rfl <| st rfl <| mvd rfl rfl <| bnd h fun x151 e152 h => st rfl <| o_call (a1 (c := (cXCube (cLo cI) (cLo cI))) (tXCube (tLo tK) (tLo tK)) rfl (a1 (c := cI) tK rfl a0)) (con_laws_heldCube e152) (.inl (so1 sK so0)) <| x_asg (ss rfl rfl) <| seqN [(15, .d (cI.enc x113.2)), (16, .d (cI.enc x151))] (by kernel_rfl) <|
    xn <| wpC_seq <| wpC_kp <| wpC_seq <| reg_s <| st rfl <| mvd rfl rfl <| st rfl <| b_lss (k := .i64) rfl rfl <| seqN [(15, .d (cI.enc x113.2)), (16, .d (cI.enc x151)), (118, .d (cB.enc (decide (x151 < (0 : Int)))))] (by kernel_rfl) <|
    xn <| cnd rfl h (fun b154 h => wpC_seq <| reg_s <| x_asg (sc cB false rfl) <| seqN [(6, .d (cB.enc false))] (by kernel_rfl) <|
    xn <| wpC_ret <| rt <| rt <| re <| fin h (r1 (ss rfl rfl) <| r0) rfl)
    (fun b154 h => wpC_skip <| kpN [(15, .d (cI.enc x113.2)), (16, .d (cI.enc x151))] (by kernel_rfl) <| xn <| wpC_seq <| wpC_kp <| wpC_seq <| reg_s <| st rfl <| mvd rfl rfl <| st rfl <| mvd rfl rfl <| st rfl <| b_neq (k := .i64) rfl rfl <| seqN [(121, .d (cB.enc (decide (x151 ≠ x113.2))))] (by kernel_rfl) <|
    xn <| cnd rfl h (fun b156 h => wpC_seq <| reg_s <| x_asg (sc cB false rfl) <| seqN [(6, .d (cB.enc false))] (by kernel_rfl) <|
    xn <| wpC_ret <| rt <| rt <| re <| fin h (r1 (ss rfl rfl) <| r0) rfl)
    (fun b156 h => wpC_skip <| kpN [] (by kernel_rfl) <| xn <| wpC_seq <| reg_s <| x_asg (sc cB true rfl) <| seqN [(6, .d (cB.enc true))] (by kernel_rfl) <|
    xn <| wpC_ret <| re <| fin h (r1 (ss rfl rfl) <| r0) rfl))))))))))⟩⟩⟩⟩⟩))))
end AS.W
