/- The program computes the plain functions. No condition. -/
import Derived.Test.YtjikhkfmddflhaaQMendDataS
import Derived.Test.YtjikhkfmddflhaaProg
import Derived.Test.YtjikhkfmddflhaaQMendDataL3
set_option maxRecDepth 100000
set_option linter.unusedVariables false
set_option linter.unusedSimpArgs false
namespace AS.W
open Go Go.Proofs
def rs_laws_FnExactMendData (r : Bool) : List D := [cB.enc r]
def m10 : MC := .seq (.reg [q1 8 (.asg (.c (.bool false)))] [0, 1, 2, 3])
 (.seq (.kp [0, 1, 2, 3] (.seq (.reg [q1 26 (.mv (.t 2)),q1 27 (.len false (.t 26)),q1 28 (.bin .gtr (.t 27) (.c (.int .i64 1048576)))] [0, 1, 2, 3, 28])
 (.cond (.t 28) (.seq (.reg [q1 8 (.asg (.c (.bool true)))] [8])
 (.ret)) (.skip))))
 (.seq (.reg [q1 9 (.asg (.c (.int .i64 1048576)))] [0, 1, 2, 3, 9])
 (.seq (.reg [q1 29 (.mv (.t 0)),q1 30 (.mv (.t 9)),q1 31 (.call 13 [(.t 29), (.t 30)]),q1 9 (.asg (.t 31))] [0, 1, 2, 3, 9])
 (.seq (.kp [0, 1, 2, 3, 9] (.seq (.reg [q1 32 (.mv (.t 9)),q1 33 (.bin .lss (.t 32) (.c (.int .i64 0)))] [0, 1, 2, 3, 9, 33])
 (.cond (.t 33) (.seq (.reg [q1 8 (.asg (.c (.bool true)))] [8])
 (.ret)) (.skip))))
 (.seq (.reg [q1 34 (.mv (.t 1)),q1 35 (.mv (.t 9)),q1 36 (.call 14 [(.t 34), (.t 35)]),q1 9 (.asg (.t 36))] [0, 1, 2, 3, 9])
 (.seq (.kp [0, 1, 2, 3, 9] (.seq (.reg [q1 37 (.mv (.t 9)),q1 38 (.bin .lss (.t 37) (.c (.int .i64 0)))] [0, 1, 2, 3, 9, 38])
 (.cond (.t 38) (.seq (.reg [q1 8 (.asg (.c (.bool true)))] [8])
 (.ret)) (.skip))))
 (.seq (.reg [q1 39 (.mv (.t 3)),q1 40 (.mv (.t 9)),q1 41 (.call 39 [(.t 39), (.t 40)]),q1 9 (.asg (.t 41))] [0, 1, 2, 3, 9])
 (.seq (.kp [0, 1, 2, 3] (.seq (.reg [q1 42 (.mv (.t 9)),q1 43 (.bin .lss (.t 42) (.c (.int .i64 0)))] [0, 1, 2, 3, 43])
 (.cond (.t 43) (.seq (.reg [q1 8 (.asg (.c (.bool true)))] [8])
 (.ret)) (.skip))))
 (.seq (.reg [q1 45 (.mv (.t 0)),q1 46 (.call 16 [(.t 45)]),q1 47 (.mv (.t 1)),q1 48 (.call 17 [(.t 47)]),q1 49 (.mv (.t 2)),q1 50 (.call 27 [(.t 49)]),q1 51 (.mv (.t 3)),q1 52 (.call 41 [(.t 51)]),q1 53 (.call 40 [(.t 46), (.t 48), (.t 50), (.t 52)]),q1 44 (.mvt 53),q1 54 (.ext 44 0),q1 55 (.ext 44 1),q1 56 (.ext 44 2),q1 10 (.asg (.t 54)),q1 11 (.asg (.t 55)),q1 12 (.asg (.t 56))] [0, 1, 2, 3, 10, 11, 12])
 (.seq (.reg [q1 57 (.mv (.t 0)),q1 58 (.call 16 [(.t 57)]),q1 13 (.asg (.t 58))] [0, 1, 2, 3, 10, 11, 12, 13])
 (.seq (.reg [q1 59 (.mv (.t 1)),q1 60 (.call 17 [(.t 59)]),q1 14 (.asg (.t 60))] [0, 1, 2, 3, 10, 11, 12, 13, 14])
 (.seq (.reg [q1 61 (.mv (.t 2)),q1 62 (.call 27 [(.t 61)]),q1 15 (.asg (.t 62))] [0, 1, 2, 3, 10, 11, 12, 13, 14, 15])
 (.seq (.reg [q1 63 (.mv (.t 3)),q1 64 (.call 41 [(.t 63)]),q1 16 (.asg (.t 64))] [0, 1, 2, 3, 10, 11, 12, 13, 14, 15, 16])
 (.seq (.reg [q1 66 (.mv (.t 13)),q1 67 (.mv (.t 14)),q1 68 (.mv (.t 15)),q1 69 (.mv (.t 16)),q1 70 (.call 42 [(.t 66), (.t 67), (.t 68), (.t 69)]),q1 65 (.mvt 70),q1 71 (.ext 65 0),q1 72 (.ext 65 1),q1 73 (.ext 65 2),q1 17 (.asg (.t 71)),q1 18 (.asg (.t 72)),q1 19 (.asg (.t 73))] [0, 1, 2, 3, 10, 11, 12, 13, 14, 15, 16, 17, 18, 19])
 (.seq (.kp [0, 1, 2, 3, 10, 11, 12, 13, 14, 15, 16, 17, 18, 19] (.seq (.reg [q1 74 (.mv (.t 17)),q1 75 (.mv (.t 10)),q1 76 (.call 43 [(.t 74), (.t 75)]),q1 77 (.nt (.t 76)),q1 78 (.mv (.t 77)),
  ⟨some 79, .mv (.t 18), some (78, false)⟩,
  ⟨some 80, .mv (.t 11), some (78, false)⟩,
  ⟨some 81, .call 19 [(.t 79), (.t 80)], some (78, false)⟩,
  ⟨some 82, .nt (.t 81), some (78, false)⟩,q1 83 (.pick (.t 78) (.c (.bool true)) (.t 82)),q1 84 (.mv (.t 83)),
  ⟨some 85, .mv (.t 19), some (84, false)⟩,
  ⟨some 86, .mv (.t 12), some (84, false)⟩,
  ⟨some 87, .eqb true (.t 85) (.t 86), some (84, false)⟩,q1 88 (.pick (.t 84) (.c (.bool true)) (.t 87))] [0, 1, 2, 3, 10, 11, 12, 13, 14, 15, 16, 17, 18, 19, 88])
 (.cond (.t 88) (.seq (.reg [q1 8 (.asg (.c (.bool false)))] [8])
 (.ret)) (.skip))))
 (.seq (.kp [0, 1, 2, 3, 10, 11, 12, 13, 14, 15, 16, 17, 18, 19] (.seq (.reg [q1 89 (.mv (.t 13)),q1 90 (.mv (.t 0)),q1 91 (.call 16 [(.t 90)]),q1 92 (.call 20 [(.t 89), (.t 91)]),q1 93 (.nt (.t 92))] [0, 1, 2, 3, 10, 11, 12, 13, 14, 15, 16, 17, 18, 19, 93])
 (.cond (.t 93) (.seq (.reg [q1 8 (.asg (.c (.bool false)))] [8])
 (.ret)) (.skip))))
 (.seq (.kp [0, 1, 2, 3, 10, 11, 12, 13, 14, 15, 16, 17, 18, 19] (.seq (.reg [q1 94 (.mv (.t 14)),q1 95 (.mv (.t 1)),q1 96 (.call 17 [(.t 95)]),q1 97 (.call 21 [(.t 94), (.t 96)]),q1 98 (.nt (.t 97))] [0, 1, 2, 3, 10, 11, 12, 13, 14, 15, 16, 17, 18, 19, 98])
 (.cond (.t 98) (.seq (.reg [q1 8 (.asg (.c (.bool false)))] [8])
 (.ret)) (.skip))))
 (.seq (.kp [0, 1, 2, 3, 10, 11, 12, 13, 14, 15, 16, 17, 18, 19] (.seq (.reg [q1 99 (.mv (.t 15)),q1 100 (.mv (.t 2)),q1 101 (.call 27 [(.t 100)]),q1 102 (.call 19 [(.t 99), (.t 101)]),q1 103 (.nt (.t 102))] [0, 1, 2, 3, 10, 11, 12, 13, 14, 15, 16, 17, 18, 19, 103])
 (.cond (.t 103) (.seq (.reg [q1 8 (.asg (.c (.bool false)))] [8])
 (.ret)) (.skip))))
 (.seq (.kp [0, 1, 2, 3, 10, 11, 12, 13, 14, 15, 16, 17, 18, 19] (.seq (.reg [q1 104 (.mv (.t 16)),q1 105 (.mv (.t 3)),q1 106 (.call 41 [(.t 105)]),q1 107 (.call 43 [(.t 104), (.t 106)]),q1 108 (.nt (.t 107))] [0, 1, 2, 3, 10, 11, 12, 13, 14, 15, 16, 17, 18, 19, 108])
 (.cond (.t 108) (.seq (.reg [q1 8 (.asg (.c (.bool false)))] [8])
 (.ret)) (.skip))))
 (.seq (.reg [q1 20 (.asg (.c (.int .i64 1)))] [0, 1, 2, 3, 10, 11, 12, 13, 14, 15, 16, 17, 18, 19, 20])
 (.seq (.reg [q1 109 (.mv (.t 13)),q1 110 (.mv (.t 20)),q1 111 (.callO 22 [(.t 109), (.t 110)]),q1 20 (.asg (.t 111))] [0, 1, 2, 3, 10, 11, 12, 14, 15, 16, 17, 18, 19, 20])
 (.seq (.reg [q1 112 (.mv (.t 14)),q1 113 (.mv (.t 20)),q1 114 (.callO 23 [(.t 112), (.t 113)]),q1 20 (.asg (.t 114))] [0, 1, 2, 3, 10, 11, 12, 15, 16, 17, 18, 19, 20])
 (.seq (.reg [q1 115 (.mv (.t 15)),q1 116 (.mv (.t 20)),q1 117 (.callO 24 [(.t 115), (.t 116)]),q1 20 (.asg (.t 117))] [0, 1, 2, 3, 10, 11, 12, 16, 17, 18, 19, 20])
 (.seq (.reg [q1 118 (.mv (.t 16)),q1 119 (.mv (.t 20)),q1 120 (.callO 44 [(.t 118), (.t 119)]),q1 20 (.asg (.t 120))] [0, 1, 2, 3, 10, 11, 12, 17, 18, 19, 20])
 (.seq (.kp [0, 1, 2, 3, 10, 11, 12, 17, 18] (.seq (.reg [q1 121 (.mv (.t 20)),q1 122 (.bin .lss (.t 121) (.c (.int .i64 0))),q1 123 (.mv (.t 122)),
  ⟨some 124, .mv (.t 17), some (123, false)⟩,
  ⟨some 125, .mv (.t 10), some (123, false)⟩,
  ⟨some 126, .call 43 [(.t 124), (.t 125)], some (123, false)⟩,
  ⟨some 127, .nt (.t 126), some (123, false)⟩,q1 128 (.pick (.t 123) (.c (.bool true)) (.t 127)),q1 129 (.mv (.t 128)),
  ⟨some 130, .mv (.t 18), some (129, false)⟩,
  ⟨some 131, .mv (.t 11), some (129, false)⟩,
  ⟨some 132, .call 19 [(.t 130), (.t 131)], some (129, false)⟩,
  ⟨some 133, .nt (.t 132), some (129, false)⟩,q1 134 (.pick (.t 129) (.c (.bool true)) (.t 133)),q1 135 (.mv (.t 134)),
  ⟨some 136, .mv (.t 19), some (135, false)⟩,
  ⟨some 137, .mv (.t 12), some (135, false)⟩,
  ⟨some 138, .eqb true (.t 136) (.t 137), some (135, false)⟩,q1 139 (.pick (.t 135) (.c (.bool true)) (.t 138))] [0, 1, 2, 3, 10, 11, 12, 17, 18, 139])
 (.cond (.t 139) (.seq (.reg [q1 8 (.asg (.c (.bool false)))] [8])
 (.ret)) (.skip))))
 (.seq (.reg [q1 21 (.asg (.c (.int .i64 1)))] [0, 1, 2, 3, 10, 11, 12, 17, 18, 21])
 (.seq (.reg [q1 140 (.mv (.t 17)),q1 141 (.mv (.t 21)),q1 142 (.callO 44 [(.t 140), (.t 141)]),q1 21 (.asg (.t 142))] [0, 1, 2, 3, 10, 11, 12, 17, 18, 21])
 (.seq (.reg [q1 143 (.mv (.t 18)),q1 144 (.mv (.t 21)),q1 145 (.callO 24 [(.t 143), (.t 144)]),q1 21 (.asg (.t 145))] [0, 1, 2, 3, 10, 11, 12, 17, 18, 21])
 (.seq (.reg [q1 22 (.asg (.c (.int .i64 1)))] [0, 1, 2, 3, 10, 11, 12, 17, 18, 21, 22])
 (.seq (.reg [q1 146 (.mv (.t 17)),q1 147 (.mv (.t 22)),q1 148 (.call 45 [(.t 146), (.t 147)]),q1 22 (.asg (.t 148))] [0, 1, 2, 3, 10, 11, 12, 17, 18, 21, 22])
 (.seq (.kp [0, 1, 2, 3, 10, 11, 12, 17, 18, 21, 22] (.seq (.reg [q1 149 (.mv (.t 22)),q1 150 (.bin .lss (.t 149) (.c (.int .i64 0)))] [0, 1, 2, 3, 10, 11, 12, 17, 18, 21, 22, 150])
 (.cond (.t 150) (.seq (.reg [q1 8 (.asg (.c (.bool false)))] [8])
 (.ret)) (.skip))))
 (.seq (.reg [q1 151 (.mv (.t 18)),q1 152 (.mv (.t 22)),q1 153 (.call 25 [(.t 151), (.t 152)]),q1 22 (.asg (.t 153))] [0, 1, 2, 3, 10, 11, 12, 17, 18, 21, 22])
 (.seq (.kp [0, 1, 2, 3, 10, 11, 12, 17, 18, 21, 22] (.seq (.reg [q1 154 (.mv (.t 22)),q1 155 (.bin .lss (.t 154) (.c (.int .i64 0)))] [0, 1, 2, 3, 10, 11, 12, 17, 18, 21, 22, 155])
 (.cond (.t 155) (.seq (.reg [q1 8 (.asg (.c (.bool false)))] [8])
 (.ret)) (.skip))))
 (.seq (.kp [0, 1, 2, 3, 10, 11, 12, 17, 18, 21] (.seq (.reg [q1 156 (.mv (.t 22)),q1 157 (.mv (.t 21)),q1 158 (.bin .neq (.t 156) (.t 157))] [0, 1, 2, 3, 10, 11, 12, 17, 18, 21, 158])
 (.cond (.t 158) (.seq (.reg [q1 8 (.asg (.c (.bool false)))] [8])
 (.ret)) (.skip))))
 (.seq (.reg [q1 160 (.mv (.t 0)),q1 161 (.call 16 [(.t 160)]),q1 162 (.mv (.t 1)),q1 163 (.call 17 [(.t 162)]),q1 164 (.mv (.t 2)),q1 165 (.call 27 [(.t 164)]),q1 166 (.mv (.t 3)),q1 167 (.call 41 [(.t 166)]),q1 168 (.call 42 [(.t 161), (.t 163), (.t 165), (.t 167)]),q1 159 (.mvt 168),q1 169 (.ext 159 0),q1 170 (.ext 159 1),q1 171 (.ext 159 2),q1 23 (.asg (.t 169)),q1 24 (.asg (.t 170)),q1 25 (.asg (.t 171))] [10, 11, 12, 17, 18, 21, 23, 24, 25])
 (.seq (.kp [17, 18, 21] (.seq (.reg [q1 172 (.mv (.t 23)),q1 173 (.mv (.t 10)),q1 174 (.call 43 [(.t 172), (.t 173)]),q1 175 (.nt (.t 174)),q1 176 (.mv (.t 175)),
  ⟨some 177, .mv (.t 24), some (176, false)⟩,
  ⟨some 178, .mv (.t 11), some (176, false)⟩,
  ⟨some 179, .call 19 [(.t 177), (.t 178)], some (176, false)⟩,
  ⟨some 180, .nt (.t 179), some (176, false)⟩,q1 181 (.pick (.t 176) (.c (.bool true)) (.t 180)),q1 182 (.mv (.t 181)),
  ⟨some 183, .mv (.t 25), some (182, false)⟩,
  ⟨some 184, .mv (.t 12), some (182, false)⟩,
  ⟨some 185, .eqb true (.t 183) (.t 184), some (182, false)⟩,q1 186 (.pick (.t 182) (.c (.bool true)) (.t 185))] [17, 18, 21, 186])
 (.cond (.t 186) (.seq (.reg [q1 8 (.asg (.c (.bool false)))] [8])
 (.ret)) (.skip))))
 (.seq (.reg [q1 22 (.asg (.c (.int .i64 1)))] [17, 18, 21, 22])
 (.seq (.reg [q1 187 (.mv (.t 17)),q1 188 (.mv (.t 22)),q1 189 (.call 45 [(.t 187), (.t 188)]),q1 22 (.asg (.t 189))] [18, 21, 22])
 (.seq (.kp [18, 21, 22] (.seq (.reg [q1 190 (.mv (.t 22)),q1 191 (.bin .lss (.t 190) (.c (.int .i64 0)))] [18, 21, 22, 191])
 (.cond (.t 191) (.seq (.reg [q1 8 (.asg (.c (.bool false)))] [8])
 (.ret)) (.skip))))
 (.seq (.reg [q1 192 (.mv (.t 18)),q1 193 (.mv (.t 22)),q1 194 (.call 25 [(.t 192), (.t 193)]),q1 22 (.asg (.t 194))] [21, 22])
 (.seq (.kp [21, 22] (.seq (.reg [q1 195 (.mv (.t 22)),q1 196 (.bin .lss (.t 195) (.c (.int .i64 0)))] [21, 22, 196])
 (.cond (.t 196) (.seq (.reg [q1 8 (.asg (.c (.bool false)))] [8])
 (.ret)) (.skip))))
 (.seq (.kp [] (.seq (.reg [q1 197 (.mv (.t 22)),q1 198 (.mv (.t 21)),q1 199 (.bin .neq (.t 197) (.t 198))] [199])
 (.cond (.t 199) (.seq (.reg [q1 8 (.asg (.c (.bool false)))] [8])
 (.ret)) (.skip))))
 (.seq (.reg [q1 8 (.asg (.c (.bool true)))] [8])
 (.ret))))))))))))))))))))))))))))))))))))))))))))
theorem con_laws_FnExactMendData {v0 : (List XVariable)} {v1 : (List XEdit)} {v2 : (List Int)} {v3 : (List XRecord)} {r : Bool} (h : sh_laws_FnExactMendData v0 v1 v2 v3 = some r) : Con Try.prog 10 [cc4.enc v0, cc1.enc v1, cc11.enc v2, cc0.enc v3] [] (rs_laws_FnExactMendData r) := by
 delta sh_laws_FnExactMendData at h
 refine top (out := none) (f := Try.f10) (m := m10) (rs := [.t 8]) (by kernel_rfl) rfl (by kernel_rfl) (by kernel_rfl) (by kernel_rfl) (by kernel_rfl) (by kernel_rfl) ?_
 exact
  ini [q2 0 cc4 v0, q2 1 cc1 v1, q2 2 cc11 v2, q2 3 cc0 v3] rfl <| wpC_seq <| reg_s <| x_asg (sc cB false rfl) <| sq [q2 0 cc4 v0, q2 1 cc1 v1, q2 2 cc11 v2, q2 3 cc0 v3] <|
  xn <| wpC_seq <| wpC_kp <| wpC_seq <| reg_s <| st rfl <| mvd rfl rfl <| stw rfl <| lens rfl fun l5 => st rfl <| b_gtr (k := .i64) rfl rfl <| sq [q2 0 cc4 v0, q2 1 cc1 v1, q2 2 cc11 v2, q2 3 cc0 v3, q2 28 cB (decide ((1048576 : Int) < (v2.length : Int)))] <|
  xn <| cnd rfl h (fun b6 h => wpC_seq <| reg_s <| x_asg (sc cB true rfl) <| sq [q2 8 cB true] <|
  xn <| wpC_ret <| rt <| rt <| re <| fin h (r1 (ss rfl rfl) <| r0) rfl)
  (fun b6 h => wpC_skip <| kpN [q2 0 cc4 v0, q2 1 cc1 v1, q2 2 cc11 v2, q2 3 cc0 v3] (by kernel_rfl) <| xn <| wpC_seq <| reg_s <| x_asg (sc cI (1048576 : Int) rfl) <| sq [q2 0 cc4 v0, q2 1 cc1 v1, q2 2 cc11 v2, q2 3 cc0 v3, q2 9 cI (1048576 : Int)] <|
  xn <| wpC_seq <| reg_s <| st rfl <| mvd rfl rfl <| st rfl <| mvd rfl rfl <| bnd h fun x9 e10 h => st rfl <| o_call (a1 (c := cc4) (tLs (tXVariable tS tK)) rfl (a1 (c := cI) tK rfl a0)) (con_laws_szVariableS e10) (.inl (so1 sK so0)) <| x_asg (ss rfl rfl) <| sq [q2 0 cc4 v0, q2 1 cc1 v1, q2 2 cc11 v2, q2 3 cc0 v3, q2 9 cI x9] <|
  xn <| wpC_seq <| wpC_kp <| wpC_seq <| reg_s <| st rfl <| mvd rfl rfl <| st rfl <| b_lss (k := .i64) rfl rfl <| sq [q2 0 cc4 v0, q2 1 cc1 v1, q2 2 cc11 v2, q2 3 cc0 v3, q2 9 cI x9, q2 33 cB (decide (x9 < (0 : Int)))] <|
  xn <| cnd rfl h (fun b12 h => wpC_seq <| reg_s <| x_asg (sc cB true rfl) <| sq [q2 8 cB true] <|
  xn <| wpC_ret <| rt <| rt <| re <| fin h (r1 (ss rfl rfl) <| r0) rfl)
  (fun b12 h => wpC_skip <| kpN [q2 0 cc4 v0, q2 1 cc1 v1, q2 2 cc11 v2, q2 3 cc0 v3, q2 9 cI x9] (by kernel_rfl) <| xn <| wpC_seq <| reg_s <| st rfl <| mvd rfl rfl <| st rfl <| mvd rfl rfl <| bnd h fun x15 e16 h => st rfl <| o_call (a1 (c := cc1) (tLs (tXEdit (tLs tK))) rfl (a1 (c := cI) tK rfl a0)) (con_laws_szEditS e16) (.inl (so1 sK so0)) <| x_asg (ss rfl rfl) <| sq [q2 0 cc4 v0, q2 1 cc1 v1, q2 2 cc11 v2, q2 3 cc0 v3, q2 9 cI x15] <|
  xn <| wpC_seq <| wpC_kp <| wpC_seq <| reg_s <| st rfl <| mvd rfl rfl <| st rfl <| b_lss (k := .i64) rfl rfl <| sq [q2 0 cc4 v0, q2 1 cc1 v1, q2 2 cc11 v2, q2 3 cc0 v3, q2 9 cI x15, q2 38 cB (decide (x15 < (0 : Int)))] <|
  xn <| cnd rfl h (fun b18 h => wpC_seq <| reg_s <| x_asg (sc cB true rfl) <| sq [q2 8 cB true] <|
  xn <| wpC_ret <| rt <| rt <| re <| fin h (r1 (ss rfl rfl) <| r0) rfl)
  (fun b18 h => wpC_skip <| kpN [q2 0 cc4 v0, q2 1 cc1 v1, q2 2 cc11 v2, q2 3 cc0 v3, q2 9 cI x15] (by kernel_rfl) <| xn <| wpC_seq <| reg_s <| st rfl <| mvd rfl rfl <| st rfl <| mvd rfl rfl <| bnd h fun x21 e22 h => st rfl <| o_call (a1 (c := cc0) (tLs (tXRecord tK tK (tLs tK))) rfl (a1 (c := cI) tK rfl a0)) (con_laws_szRecordS e22) (.inl (so1 sK so0)) <| x_asg (ss rfl rfl) <| sq [q2 0 cc4 v0, q2 1 cc1 v1, q2 2 cc11 v2, q2 3 cc0 v3, q2 9 cI x21] <|
  xn <| wpC_seq <| wpC_kp <| wpC_seq <| reg_s <| st rfl <| mvd rfl rfl <| st rfl <| b_lss (k := .i64) rfl rfl <| sq [q2 0 cc4 v0, q2 1 cc1 v1, q2 2 cc11 v2, q2 3 cc0 v3, q2 43 cB (decide (x21 < (0 : Int)))] <|
  xn <| cnd rfl h (fun b24 h => wpC_seq <| reg_s <| x_asg (sc cB true rfl) <| sq [q2 8 cB true] <|
  xn <| wpC_ret <| rt <| rt <| re <| fin h (r1 (ss rfl rfl) <| r0) rfl)
  (fun b24 h => wpC_skip <| kpN [q2 0 cc4 v0, q2 1 cc1 v1, q2 2 cc11 v2, q2 3 cc0 v3] (by kernel_rfl) <| xn <| wpC_seq <| reg_s <| st rfl <| mvd rfl rfl <| bnd h fun x35 e36 h => st rfl <| o_call (a1 (c := cc4) (tLs (tXVariable tS tK)) rfl a0) (con_laws_toVariableS e36) (.inl (so1 (sLo (sXVariable sS sK)) so0)) <| st rfl <| mvd rfl rfl <| bnd h fun x37 e38 h => st rfl <| o_call (a1 (c := cc1) (tLs (tXEdit (tLs tK))) rfl a0) (con_laws_toEditS e38) (.inl (so1 (sLo (sXEdit (sLo sK))) so0)) <| st rfl <| mvd rfl rfl <| bnd h fun x39 e40 h => st rfl <| o_call (a1 (c := cc11) (tLs tK) rfl a0) (con_laws_toIntS e40) (.inl (so1 (sLo sK) so0)) <| st rfl <| mvd rfl rfl <| bnd h fun x41 e42 h => st rfl <| o_call (a1 (c := cc0) (tLs (tXRecord tK tK (tLs tK))) rfl a0) (con_laws_toRecordS e42) (.inl (so1 (sLo (sXRecord sK sK (sLo sK))) so0)) <| bnd h fun x43 e44 h => st rfl <| o_call (a1 (c := cc6) (tLo (tXVariable tS tK)) rfl (a1 (c := cc7) (tLo (tXEdit (tLo tK))) rfl (a1 (c := cc12) (tLo tK) rfl (a1 (c := cc2) (tLo (tXRecord tK tK (tLo tK))) rfl a0)))) (con_spec_MendData e44) (.inl (so1 (sLo (sXRecord sK sK (sLo sK))) (so1 (sLo sK) (so1 sB so0)))) <| x_mvt rfl <| x_ext rfl rfl <| x_ext rfl rfl <| x_ext rfl rfl <| x_asg (so rfl rfl) <| x_asg (so rfl rfl) <| x_asg (ss rfl rfl) <| sq [q2 0 cc4 v0, q2 1 cc1 v1, q2 2 cc11 v2, q2 3 cc0 v3, q2 10 cc2 x43.1, q2 11 cc12 x43.2.1, q2 12 cB x43.2.2] <|
  xn <| wpC_seq <| reg_s <| st rfl <| mvd rfl rfl <| bnd h fun x47 e48 h => st rfl <| o_call (a1 (c := cc4) (tLs (tXVariable tS tK)) rfl a0) (con_laws_toVariableS e48) (.inl (so1 (sLo (sXVariable sS sK)) so0)) <| x_asg (so rfl rfl) <| sq [q2 0 cc4 v0, q2 1 cc1 v1, q2 2 cc11 v2, q2 3 cc0 v3, q2 10 cc2 x43.1, q2 11 cc12 x43.2.1, q2 12 cB x43.2.2, q2 13 cc6 x47] <|
  xn <| wpC_seq <| reg_s <| st rfl <| mvd rfl rfl <| bnd h fun x51 e52 h => st rfl <| o_call (a1 (c := cc1) (tLs (tXEdit (tLs tK))) rfl a0) (con_laws_toEditS e52) (.inl (so1 (sLo (sXEdit (sLo sK))) so0)) <| x_asg (so rfl rfl) <| sq [q2 0 cc4 v0, q2 1 cc1 v1, q2 2 cc11 v2, q2 3 cc0 v3, q2 10 cc2 x43.1, q2 11 cc12 x43.2.1, q2 12 cB x43.2.2, q2 13 cc6 x47, q2 14 cc7 x51] <|
  xn <| wpC_seq <| reg_s <| st rfl <| mvd rfl rfl <| bnd h fun x55 e56 h => st rfl <| o_call (a1 (c := cc11) (tLs tK) rfl a0) (con_laws_toIntS e56) (.inl (so1 (sLo sK) so0)) <| x_asg (so rfl rfl) <| sq [q2 0 cc4 v0, q2 1 cc1 v1, q2 2 cc11 v2, q2 3 cc0 v3, q2 10 cc2 x43.1, q2 11 cc12 x43.2.1, q2 12 cB x43.2.2, q2 13 cc6 x47, q2 14 cc7 x51, q2 15 cc12 x55] <|
  xn <| wpC_seq <| reg_s <| st rfl <| mvd rfl rfl <| bnd h fun x59 e60 h => st rfl <| o_call (a1 (c := cc0) (tLs (tXRecord tK tK (tLs tK))) rfl a0) (con_laws_toRecordS e60) (.inl (so1 (sLo (sXRecord sK sK (sLo sK))) so0)) <| x_asg (so rfl rfl) <| sq [q2 0 cc4 v0, q2 1 cc1 v1, q2 2 cc11 v2, q2 3 cc0 v3, q2 10 cc2 x43.1, q2 11 cc12 x43.2.1, q2 12 cB x43.2.2, q2 13 cc6 x47, q2 14 cc7 x51, q2 15 cc12 x55, q2 16 cc2 x59] <|
  xn <| wpC_seq <| reg_s <| st rfl <| mvo rfl rfl <| st rfl <| mvo rfl rfl <| st rfl <| mvo rfl rfl <| st rfl <| mvo rfl rfl <| bnd h fun x63 e64 h => st rfl <| o_call (a1 (c := cc6) (tLo (tXVariable tS tK)) rfl (a1 (c := cc7) (tLo (tXEdit (tLo tK))) rfl (a1 (c := cc12) (tLo tK) rfl (a1 (c := cc2) (tLo (tXRecord tK tK (tLo tK))) rfl a0)))) (con_impl_MendData e64) (.inl (so1 (sLo (sXRecord sK sK (sLo sK))) (so1 (sLo sK) (so1 sB so0)))) <| x_mvt rfl <| x_ext rfl rfl <| x_ext rfl rfl <| x_ext rfl rfl <| x_asg (so rfl rfl) <| x_asg (so rfl rfl) <| x_asg (ss rfl rfl) <| sq [q2 0 cc4 v0, q2 1 cc1 v1, q2 2 cc11 v2, q2 3 cc0 v3, q2 10 cc2 x43.1, q2 11 cc12 x43.2.1, q2 12 cB x43.2.2, q2 13 cc6 x47, q2 14 cc7 x51, q2 15 cc12 x55, q2 16 cc2 x59, q2 17 cc2 x63.1, q2 18 cc12 x63.2.1, q2 19 cB x63.2.2] <|
  xn <| wpC_seq <| wpC_kp <| wpC_seq <| reg_s <| st rfl <| mvo rfl rfl <| st rfl <| mvo rfl rfl <| bnd h fun x84 e85 h => st rfl <| o_call (a1 (c := cc2) (tLo (tXRecord tK tK (tLo tK))) rfl (a1 (c := cc2) (tLo (tXRecord tK tK (tLo tK))) rfl a0)) (con_laws_eqRecordS e85) (.inl (so1 sB so0)) <| st rfl <| o_nt rfl <| st rfl <| mvd rfl rfl <| ite_k h (fun b86 h => gf rfl b86 <| gf rfl b86 <| gf rfl b86 <| gf rfl b86 <| st rfl <| pick1 rfl b86 (cd := cB) (v := true) rfl rfl <| st rfl <| mvd rfl rfl <| gf rfl rfl <| gf rfl rfl <| gf rfl rfl <| st rfl <| pick1 rfl rfl (cd := cB) (v := true) rfl rfl <| sq [q2 0 cc4 v0, q2 1 cc1 v1, q2 2 cc11 v2, q2 3 cc0 v3, q2 10 cc2 x43.1, q2 11 cc12 x43.2.1, q2 12 cB x43.2.2, q2 13 cc6 x47, q2 14 cc7 x51, q2 15 cc12 x55, q2 16 cc2 x59, q2 17 cc2 x63.1, q2 18 cc12 x63.2.1, q2 19 cB x63.2.2, q2 88 cB true] <|
  xn <| cnd1 rfl rfl <| wpC_seq <| reg_s <| x_asg (sc cB false rfl) <| sq [q2 8 cB false] <|
  xn <| wpC_ret <| rt <| rt <| re <| fin h (r1 (ss rfl rfl) <| r0) rfl)
  (fun b86 h => gt' rfl b86 <| st rfl <| mvo rfl rfl <| gt' rfl b86 <| st rfl <| mvo rfl rfl <| gt' rfl b86 <| bnd h fun x87 e88 h => st rfl <| o_call (a1 (c := cc12) (tLo tK) rfl (a1 (c := cc12) (tLo tK) rfl a0)) (con_laws_eqIntS e88) (.inl (so1 sB so0)) <| gt' rfl b86 <| st rfl <| o_nt rfl <| st rfl <| pick0 rfl b86 (cd := cB) (v := (!x87)) rfl rfl <| st rfl <| mvd rfl rfl <| ite_k h (fun b89 h => gf rfl b89 <| gf rfl b89 <| gf rfl b89 <| st rfl <| pick1 rfl b89 (cd := cB) (v := true) rfl rfl <| sq [q2 0 cc4 v0, q2 1 cc1 v1, q2 2 cc11 v2, q2 3 cc0 v3, q2 10 cc2 x43.1, q2 11 cc12 x43.2.1, q2 12 cB x43.2.2, q2 13 cc6 x47, q2 14 cc7 x51, q2 15 cc12 x55, q2 16 cc2 x59, q2 17 cc2 x63.1, q2 18 cc12 x63.2.1, q2 19 cB x63.2.2, q2 88 cB true] <|
  xn <| cnd1 rfl rfl <| wpC_seq <| reg_s <| x_asg (sc cB false rfl) <| sq [q2 8 cB false] <|
  xn <| wpC_ret <| rt <| rt <| re <| fin h (r1 (ss rfl rfl) <| r0) rfl)
  (fun b89 h => gt' rfl b89 <| st rfl <| mvd rfl rfl <| gt' rfl b89 <| st rfl <| mvd rfl rfl <| gt' rfl b89 <| st rfl <| eqb1 rfl rfl <| st rfl <| pick0 rfl b89 (cd := cB) (v := (x63.2.2 != x43.2.2)) rfl rfl <| sq [q2 0 cc4 v0, q2 1 cc1 v1, q2 2 cc11 v2, q2 3 cc0 v3, q2 10 cc2 x43.1, q2 11 cc12 x43.2.1, q2 12 cB x43.2.2, q2 13 cc6 x47, q2 14 cc7 x51, q2 15 cc12 x55, q2 16 cc2 x59, q2 17 cc2 x63.1, q2 18 cc12 x63.2.1, q2 19 cB x63.2.2, q2 88 cB (x63.2.2 != x43.2.2)] <|
  xn <| cnd rfl h (fun b90 h => wpC_seq <| reg_s <| x_asg (sc cB false rfl) <| sq [q2 8 cB false] <|
  xn <| wpC_ret <| rt <| rt <| re <| fin h (r1 (ss rfl rfl) <| r0) rfl)
  (fun b90 h => wpC_skip <| kpN [q2 0 cc4 v0, q2 1 cc1 v1, q2 2 cc11 v2, q2 3 cc0 v3, q2 10 cc2 x43.1, q2 11 cc12 x43.2.1, q2 12 cB x43.2.2, q2 13 cc6 x47, q2 14 cc7 x51, q2 15 cc12 x55, q2 16 cc2 x59, q2 17 cc2 x63.1, q2 18 cc12 x63.2.1, q2 19 cB x63.2.2] (by kernel_rfl) <| xn <| wpC_seq <| wpC_kp <| wpC_seq <| reg_s <| st rfl <| mvo rfl rfl <| st rfl <| mvd rfl rfl <| bnd h fun x104 e105 h => st rfl <| o_call (a1 (c := cc4) (tLs (tXVariable tS tK)) rfl a0) (con_laws_toVariableS e105) (.inl (so1 (sLo (sXVariable sS sK)) so0)) <| bnd h fun x106 e107 h => st rfl <| o_call (a1 (c := cc6) (tLo (tXVariable tS tK)) rfl (a1 (c := cc6) (tLo (tXVariable tS tK)) rfl a0)) (con_laws_eqVariableS e107) (.inl (so1 sB so0)) <| st rfl <| o_nt rfl <| sq [q2 0 cc4 v0, q2 1 cc1 v1, q2 2 cc11 v2, q2 3 cc0 v3, q2 10 cc2 x43.1, q2 11 cc12 x43.2.1, q2 12 cB x43.2.2, q2 13 cc6 x47, q2 14 cc7 x51, q2 15 cc12 x55, q2 16 cc2 x59, q2 17 cc2 x63.1, q2 18 cc12 x63.2.1, q2 19 cB x63.2.2, q2 93 cB (!x106)] <|
  xn <| cnd rfl h (fun b108 h => wpC_seq <| reg_s <| x_asg (sc cB false rfl) <| sq [q2 8 cB false] <|
  xn <| wpC_ret <| rt <| rt <| re <| fin h (r1 (ss rfl rfl) <| r0) rfl)
  (fun b108 h => wpC_skip <| kpN [q2 0 cc4 v0, q2 1 cc1 v1, q2 2 cc11 v2, q2 3 cc0 v3, q2 10 cc2 x43.1, q2 11 cc12 x43.2.1, q2 12 cB x43.2.2, q2 13 cc6 x47, q2 14 cc7 x51, q2 15 cc12 x55, q2 16 cc2 x59, q2 17 cc2 x63.1, q2 18 cc12 x63.2.1, q2 19 cB x63.2.2] (by kernel_rfl) <| xn <| wpC_seq <| wpC_kp <| wpC_seq <| reg_s <| st rfl <| mvo rfl rfl <| st rfl <| mvd rfl rfl <| bnd h fun x122 e123 h => st rfl <| o_call (a1 (c := cc1) (tLs (tXEdit (tLs tK))) rfl a0) (con_laws_toEditS e123) (.inl (so1 (sLo (sXEdit (sLo sK))) so0)) <| bnd h fun x124 e125 h => st rfl <| o_call (a1 (c := cc7) (tLo (tXEdit (tLo tK))) rfl (a1 (c := cc7) (tLo (tXEdit (tLo tK))) rfl a0)) (con_laws_eqEditS e125) (.inl (so1 sB so0)) <| st rfl <| o_nt rfl <| sq [q2 0 cc4 v0, q2 1 cc1 v1, q2 2 cc11 v2, q2 3 cc0 v3, q2 10 cc2 x43.1, q2 11 cc12 x43.2.1, q2 12 cB x43.2.2, q2 13 cc6 x47, q2 14 cc7 x51, q2 15 cc12 x55, q2 16 cc2 x59, q2 17 cc2 x63.1, q2 18 cc12 x63.2.1, q2 19 cB x63.2.2, q2 98 cB (!x124)] <|
  xn <| cnd rfl h (fun b126 h => wpC_seq <| reg_s <| x_asg (sc cB false rfl) <| sq [q2 8 cB false] <|
  xn <| wpC_ret <| rt <| rt <| re <| fin h (r1 (ss rfl rfl) <| r0) rfl)
  (fun b126 h => wpC_skip <| kpN [q2 0 cc4 v0, q2 1 cc1 v1, q2 2 cc11 v2, q2 3 cc0 v3, q2 10 cc2 x43.1, q2 11 cc12 x43.2.1, q2 12 cB x43.2.2, q2 13 cc6 x47, q2 14 cc7 x51, q2 15 cc12 x55, q2 16 cc2 x59, q2 17 cc2 x63.1, q2 18 cc12 x63.2.1, q2 19 cB x63.2.2] (by kernel_rfl) <| xn <| wpC_seq <| wpC_kp <| wpC_seq <| reg_s <| st rfl <| mvo rfl rfl <| st rfl <| mvd rfl rfl <| bnd h fun x140 e141 h => st rfl <| o_call (a1 (c := cc11) (tLs tK) rfl a0) (con_laws_toIntS e141) (.inl (so1 (sLo sK) so0)) <| bnd h fun x142 e143 h => st rfl <| o_call (a1 (c := cc12) (tLo tK) rfl (a1 (c := cc12) (tLo tK) rfl a0)) (con_laws_eqIntS e143) (.inl (so1 sB so0)) <| st rfl <| o_nt rfl <| sq [q2 0 cc4 v0, q2 1 cc1 v1, q2 2 cc11 v2, q2 3 cc0 v3, q2 10 cc2 x43.1, q2 11 cc12 x43.2.1, q2 12 cB x43.2.2, q2 13 cc6 x47, q2 14 cc7 x51, q2 15 cc12 x55, q2 16 cc2 x59, q2 17 cc2 x63.1, q2 18 cc12 x63.2.1, q2 19 cB x63.2.2, q2 103 cB (!x142)] <|
  xn <| cnd rfl h (fun b144 h => wpC_seq <| reg_s <| x_asg (sc cB false rfl) <| sq [q2 8 cB false] <|
  xn <| wpC_ret <| rt <| rt <| re <| fin h (r1 (ss rfl rfl) <| r0) rfl)
  (fun b144 h => wpC_skip <| kpN [q2 0 cc4 v0, q2 1 cc1 v1, q2 2 cc11 v2, q2 3 cc0 v3, q2 10 cc2 x43.1, q2 11 cc12 x43.2.1, q2 12 cB x43.2.2, q2 13 cc6 x47, q2 14 cc7 x51, q2 15 cc12 x55, q2 16 cc2 x59, q2 17 cc2 x63.1, q2 18 cc12 x63.2.1, q2 19 cB x63.2.2] (by kernel_rfl) <| xn <| wpC_seq <| wpC_kp <| wpC_seq <| reg_s <| st rfl <| mvo rfl rfl <| st rfl <| mvd rfl rfl <| bnd h fun x158 e159 h => st rfl <| o_call (a1 (c := cc0) (tLs (tXRecord tK tK (tLs tK))) rfl a0) (con_laws_toRecordS e159) (.inl (so1 (sLo (sXRecord sK sK (sLo sK))) so0)) <| bnd h fun x160 e161 h => st rfl <| o_call (a1 (c := cc2) (tLo (tXRecord tK tK (tLo tK))) rfl (a1 (c := cc2) (tLo (tXRecord tK tK (tLo tK))) rfl a0)) (con_laws_eqRecordS e161) (.inl (so1 sB so0)) <| st rfl <| o_nt rfl <| sq [q2 0 cc4 v0, q2 1 cc1 v1, q2 2 cc11 v2, q2 3 cc0 v3, q2 10 cc2 x43.1, q2 11 cc12 x43.2.1, q2 12 cB x43.2.2, q2 13 cc6 x47, q2 14 cc7 x51, q2 15 cc12 x55, q2 16 cc2 x59, q2 17 cc2 x63.1, q2 18 cc12 x63.2.1, q2 19 cB x63.2.2, q2 108 cB (!x160)] <|
  xn <| cnd rfl h (fun b162 h => wpC_seq <| reg_s <| x_asg (sc cB false rfl) <| sq [q2 8 cB false] <|
  xn <| wpC_ret <| rt <| rt <| re <| fin h (r1 (ss rfl rfl) <| r0) rfl)
  (fun b162 h => wpC_skip <| kpN [q2 0 cc4 v0, q2 1 cc1 v1, q2 2 cc11 v2, q2 3 cc0 v3, q2 10 cc2 x43.1, q2 11 cc12 x43.2.1, q2 12 cB x43.2.2, q2 13 cc6 x47, q2 14 cc7 x51, q2 15 cc12 x55, q2 16 cc2 x59, q2 17 cc2 x63.1, q2 18 cc12 x63.2.1, q2 19 cB x63.2.2] (by kernel_rfl) <| xn <| wpC_seq <| reg_s <| x_asg (sc cI (1 : Int) rfl) <| sq [q2 0 cc4 v0, q2 1 cc1 v1, q2 2 cc11 v2, q2 3 cc0 v3, q2 10 cc2 x43.1, q2 11 cc12 x43.2.1, q2 12 cB x43.2.2, q2 13 cc6 x47, q2 14 cc7 x51, q2 15 cc12 x55, q2 16 cc2 x59, q2 17 cc2 x63.1, q2 18 cc12 x63.2.1, q2 19 cB x63.2.2, q2 20 cI (1 : Int)] <|
  xn <| wpC_seq <| reg_s <| st rfl <| mvo rfl rfl <| st rfl <| mvd rfl rfl <| bnd h fun x165 e166 h => x_clr (c := cc6) (c' := cc6) (cc6.enc x165.1) (sLo (sXVariable sS sK)) rfl (a1 (c := cI) tK rfl a0) rfl Ln.nil (con_laws_markVariableS e166) rfl rfl (so1 sK so0) <| x_asg (ss rfl rfl) <| sq [q2 0 cc4 v0, q2 1 cc1 v1, q2 2 cc11 v2, q2 3 cc0 v3, q2 10 cc2 x43.1, q2 11 cc12 x43.2.1, q2 12 cB x43.2.2, q2 14 cc7 x51, q2 15 cc12 x55, q2 16 cc2 x59, q2 17 cc2 x63.1, q2 18 cc12 x63.2.1, q2 19 cB x63.2.2, q2 20 cI x165.2] <|
  xn <| wpC_seq <| reg_s <| st rfl <| mvo rfl rfl <| st rfl <| mvd rfl rfl <| bnd h fun x169 e170 h => x_clr (c := cc7) (c' := cc7) (cc7.enc x169.1) (sLo (sXEdit (sLo sK))) rfl (a1 (c := cI) tK rfl a0) rfl Ln.nil (con_laws_markEditS e170) rfl rfl (so1 sK so0) <| x_asg (ss rfl rfl) <| sq [q2 0 cc4 v0, q2 1 cc1 v1, q2 2 cc11 v2, q2 3 cc0 v3, q2 10 cc2 x43.1, q2 11 cc12 x43.2.1, q2 12 cB x43.2.2, q2 15 cc12 x55, q2 16 cc2 x59, q2 17 cc2 x63.1, q2 18 cc12 x63.2.1, q2 19 cB x63.2.2, q2 20 cI x169.2] <|
  xn <| wpC_seq <| reg_s <| st rfl <| mvo rfl rfl <| st rfl <| mvd rfl rfl <| bnd h fun x173 e174 h => x_clr (c := cc12) (c' := cc12) (cc12.enc x173.1) (sLo sK) rfl (a1 (c := cI) tK rfl a0) rfl Ln.nil (con_laws_markIntS e174) rfl rfl (so1 sK so0) <| x_asg (ss rfl rfl) <| sq [q2 0 cc4 v0, q2 1 cc1 v1, q2 2 cc11 v2, q2 3 cc0 v3, q2 10 cc2 x43.1, q2 11 cc12 x43.2.1, q2 12 cB x43.2.2, q2 16 cc2 x59, q2 17 cc2 x63.1, q2 18 cc12 x63.2.1, q2 19 cB x63.2.2, q2 20 cI x173.2] <|
  xn <| wpC_seq <| reg_s <| st rfl <| mvo rfl rfl <| st rfl <| mvd rfl rfl <| bnd h fun x177 e178 h => x_clr (c := cc2) (c' := cc2) (cc2.enc x177.1) (sLo (sXRecord sK sK (sLo sK))) rfl (a1 (c := cI) tK rfl a0) rfl Ln.nil (con_laws_markRecordS e178) rfl rfl (so1 sK so0) <| x_asg (ss rfl rfl) <| sq [q2 0 cc4 v0, q2 1 cc1 v1, q2 2 cc11 v2, q2 3 cc0 v3, q2 10 cc2 x43.1, q2 11 cc12 x43.2.1, q2 12 cB x43.2.2, q2 17 cc2 x63.1, q2 18 cc12 x63.2.1, q2 19 cB x63.2.2, q2 20 cI x177.2] <|
  xn <| wpC_seq <| wpC_kp <| wpC_seq <| jw (fun (s203 : Bool) => [q2 0 cc4 v0, q2 1 cc1 v1, q2 2 cc11 v2, q2 3 cc0 v3, q2 10 cc2 x43.1, q2 11 cc12 x43.2.1, q2 12 cB x43.2.2, q2 17 cc2 x63.1, q2 18 cc12 x63.2.1, q2 139 cB s203]) h (fun s203 h => xn <| cnd rfl h (fun b205 h => wpC_seq <| reg_s <| x_asg (sc cB false rfl) <| sq [q2 8 cB false] <|
  xn <| wpC_ret <| rt <| rt <| re <| fin h (r1 (ss rfl rfl) <| r0) rfl)
  (fun b205 h => wpC_skip <| kpN [q2 0 cc4 v0, q2 1 cc1 v1, q2 2 cc11 v2, q2 3 cc0 v3, q2 10 cc2 x43.1, q2 11 cc12 x43.2.1, q2 12 cB x43.2.2, q2 17 cc2 x63.1, q2 18 cc12 x63.2.1] (by kernel_rfl) <| xn <| wpC_seq <| reg_s <| x_asg (sc cI (1 : Int) rfl) <| sq [q2 0 cc4 v0, q2 1 cc1 v1, q2 2 cc11 v2, q2 3 cc0 v3, q2 10 cc2 x43.1, q2 11 cc12 x43.2.1, q2 12 cB x43.2.2, q2 17 cc2 x63.1, q2 18 cc12 x63.2.1, q2 21 cI (1 : Int)] <|
  xn <| wpC_seq <| reg_s <| st rfl <| mvo rfl rfl <| st rfl <| mvd rfl rfl <| bnd h fun x208 e209 h => x_clr (c := cc2) (c' := cc2) (cc2.enc x208.1) (sLo (sXRecord sK sK (sLo sK))) rfl (a1 (c := cI) tK rfl a0) rfl Ln.nil (con_laws_markRecordS e209) rfl rfl (so1 sK so0) <| x_asg (ss rfl rfl) <| sq [q2 0 cc4 v0, q2 1 cc1 v1, q2 2 cc11 v2, q2 3 cc0 v3, q2 10 cc2 x43.1, q2 11 cc12 x43.2.1, q2 12 cB x43.2.2, q2 17 cc2 x208.1, q2 18 cc12 x63.2.1, q2 21 cI x208.2] <|
  xn <| wpC_seq <| reg_s <| st rfl <| mvo rfl rfl <| st rfl <| mvd rfl rfl <| bnd h fun x212 e213 h => x_clr (c := cc12) (c' := cc12) (cc12.enc x212.1) (sLo sK) rfl (a1 (c := cI) tK rfl a0) rfl Ln.nil (con_laws_markIntS e213) rfl rfl (so1 sK so0) <| x_asg (ss rfl rfl) <| sq [q2 0 cc4 v0, q2 1 cc1 v1, q2 2 cc11 v2, q2 3 cc0 v3, q2 10 cc2 x43.1, q2 11 cc12 x43.2.1, q2 12 cB x43.2.2, q2 17 cc2 x208.1, q2 18 cc12 x212.1, q2 21 cI x212.2] <|
  xn <| wpC_seq <| reg_s <| x_asg (sc cI (1 : Int) rfl) <| sq [q2 0 cc4 v0, q2 1 cc1 v1, q2 2 cc11 v2, q2 3 cc0 v3, q2 10 cc2 x43.1, q2 11 cc12 x43.2.1, q2 12 cB x43.2.2, q2 17 cc2 x208.1, q2 18 cc12 x212.1, q2 21 cI x212.2, q2 22 cI (1 : Int)] <|
  xn <| wpC_seq <| reg_s <| st rfl <| mvo rfl rfl <| st rfl <| mvd rfl rfl <| bnd h fun x216 e217 h => st rfl <| o_call (a1 (c := cc2) (tLo (tXRecord tK tK (tLo tK))) rfl (a1 (c := cI) tK rfl a0)) (con_laws_heldRecordS e217) (.inl (so1 sK so0)) <| x_asg (ss rfl rfl) <| sq [q2 0 cc4 v0, q2 1 cc1 v1, q2 2 cc11 v2, q2 3 cc0 v3, q2 10 cc2 x43.1, q2 11 cc12 x43.2.1, q2 12 cB x43.2.2, q2 17 cc2 x208.1, q2 18 cc12 x212.1, q2 21 cI x212.2, q2 22 cI x216] <|
  xn <| wpC_seq <| wpC_kp <| wpC_seq <| reg_s <| st rfl <| mvd rfl rfl <| st rfl <| b_lss (k := .i64) rfl rfl <| sq [q2 0 cc4 v0, q2 1 cc1 v1, q2 2 cc11 v2, q2 3 cc0 v3, q2 10 cc2 x43.1, q2 11 cc12 x43.2.1, q2 12 cB x43.2.2, q2 17 cc2 x208.1, q2 18 cc12 x212.1, q2 21 cI x212.2, q2 22 cI x216, q2 150 cB (decide (x216 < (0 : Int)))] <|
  xn <| cnd rfl h (fun b219 h => wpC_seq <| reg_s <| x_asg (sc cB false rfl) <| sq [q2 8 cB false] <|
  xn <| wpC_ret <| rt <| rt <| re <| fin h (r1 (ss rfl rfl) <| r0) rfl)
  (fun b219 h => wpC_skip <| kpN [q2 0 cc4 v0, q2 1 cc1 v1, q2 2 cc11 v2, q2 3 cc0 v3, q2 10 cc2 x43.1, q2 11 cc12 x43.2.1, q2 12 cB x43.2.2, q2 17 cc2 x208.1, q2 18 cc12 x212.1, q2 21 cI x212.2, q2 22 cI x216] (by kernel_rfl) <| xn <| wpC_seq <| reg_s <| st rfl <| mvo rfl rfl <| st rfl <| mvd rfl rfl <| bnd h fun x222 e223 h => st rfl <| o_call (a1 (c := cc12) (tLo tK) rfl (a1 (c := cI) tK rfl a0)) (con_laws_heldIntS e223) (.inl (so1 sK so0)) <| x_asg (ss rfl rfl) <| sq [q2 0 cc4 v0, q2 1 cc1 v1, q2 2 cc11 v2, q2 3 cc0 v3, q2 10 cc2 x43.1, q2 11 cc12 x43.2.1, q2 12 cB x43.2.2, q2 17 cc2 x208.1, q2 18 cc12 x212.1, q2 21 cI x212.2, q2 22 cI x222] <|
  xn <| wpC_seq <| wpC_kp <| wpC_seq <| reg_s <| st rfl <| mvd rfl rfl <| st rfl <| b_lss (k := .i64) rfl rfl <| sq [q2 0 cc4 v0, q2 1 cc1 v1, q2 2 cc11 v2, q2 3 cc0 v3, q2 10 cc2 x43.1, q2 11 cc12 x43.2.1, q2 12 cB x43.2.2, q2 17 cc2 x208.1, q2 18 cc12 x212.1, q2 21 cI x212.2, q2 22 cI x222, q2 155 cB (decide (x222 < (0 : Int)))] <|
  xn <| cnd rfl h (fun b225 h => wpC_seq <| reg_s <| x_asg (sc cB false rfl) <| sq [q2 8 cB false] <|
  xn <| wpC_ret <| rt <| rt <| re <| fin h (r1 (ss rfl rfl) <| r0) rfl)
  (fun b225 h => wpC_skip <| kpN [q2 0 cc4 v0, q2 1 cc1 v1, q2 2 cc11 v2, q2 3 cc0 v3, q2 10 cc2 x43.1, q2 11 cc12 x43.2.1, q2 12 cB x43.2.2, q2 17 cc2 x208.1, q2 18 cc12 x212.1, q2 21 cI x212.2, q2 22 cI x222] (by kernel_rfl) <| xn <| wpC_seq <| wpC_kp <| wpC_seq <| reg_s <| st rfl <| mvd rfl rfl <| st rfl <| mvd rfl rfl <| st rfl <| b_neq (k := .i64) rfl rfl <| sq [q2 0 cc4 v0, q2 1 cc1 v1, q2 2 cc11 v2, q2 3 cc0 v3, q2 10 cc2 x43.1, q2 11 cc12 x43.2.1, q2 12 cB x43.2.2, q2 17 cc2 x208.1, q2 18 cc12 x212.1, q2 21 cI x212.2, q2 158 cB (decide (x222 ≠ x212.2))] <|
  xn <| cnd rfl h (fun b227 h => wpC_seq <| reg_s <| x_asg (sc cB false rfl) <| sq [q2 8 cB false] <|
  xn <| wpC_ret <| rt <| rt <| re <| fin h (r1 (ss rfl rfl) <| r0) rfl)
  (fun b227 h => wpC_skip <| kpN [q2 0 cc4 v0, q2 1 cc1 v1, q2 2 cc11 v2, q2 3 cc0 v3, q2 10 cc2 x43.1, q2 11 cc12 x43.2.1, q2 12 cB x43.2.2, q2 17 cc2 x208.1, q2 18 cc12 x212.1, q2 21 cI x212.2] (by kernel_rfl) <| xn <| wpC_seq <| reg_s <| st rfl <| mvd rfl rfl <| bnd h fun x238 e239 h => st rfl <| o_call (a1 (c := cc4) (tLs (tXVariable tS tK)) rfl a0) (con_laws_toVariableS e239) (.inl (so1 (sLo (sXVariable sS sK)) so0)) <| st rfl <| mvd rfl rfl <| bnd h fun x240 e241 h => st rfl <| o_call (a1 (c := cc1) (tLs (tXEdit (tLs tK))) rfl a0) (con_laws_toEditS e241) (.inl (so1 (sLo (sXEdit (sLo sK))) so0)) <| st rfl <| mvd rfl rfl <| bnd h fun x242 e243 h => st rfl <| o_call (a1 (c := cc11) (tLs tK) rfl a0) (con_laws_toIntS e243) (.inl (so1 (sLo sK) so0)) <| st rfl <| mvd rfl rfl <| bnd h fun x244 e245 h => st rfl <| o_call (a1 (c := cc0) (tLs (tXRecord tK tK (tLs tK))) rfl a0) (con_laws_toRecordS e245) (.inl (so1 (sLo (sXRecord sK sK (sLo sK))) so0)) <| bnd h fun x246 e247 h => st rfl <| o_call (a1 (c := cc6) (tLo (tXVariable tS tK)) rfl (a1 (c := cc7) (tLo (tXEdit (tLo tK))) rfl (a1 (c := cc12) (tLo tK) rfl (a1 (c := cc2) (tLo (tXRecord tK tK (tLo tK))) rfl a0)))) (con_impl_MendData e247) (.inl (so1 (sLo (sXRecord sK sK (sLo sK))) (so1 (sLo sK) (so1 sB so0)))) <| x_mvt rfl <| x_ext rfl rfl <| x_ext rfl rfl <| x_ext rfl rfl <| x_asg (so rfl rfl) <| x_asg (so rfl rfl) <| x_asg (ss rfl rfl) <| sq [q2 10 cc2 x43.1, q2 11 cc12 x43.2.1, q2 12 cB x43.2.2, q2 17 cc2 x208.1, q2 18 cc12 x212.1, q2 21 cI x212.2, q2 23 cc2 x246.1, q2 24 cc12 x246.2.1, q2 25 cB x246.2.2] <|
  xn <| wpC_seq <| wpC_kp <| wpC_seq <| reg_s <| st rfl <| mvo rfl rfl <| st rfl <| mvo rfl rfl <| bnd h fun x267 e268 h => st rfl <| o_call (a1 (c := cc2) (tLo (tXRecord tK tK (tLo tK))) rfl (a1 (c := cc2) (tLo (tXRecord tK tK (tLo tK))) rfl a0)) (con_laws_eqRecordS e268) (.inl (so1 sB so0)) <| st rfl <| o_nt rfl <| st rfl <| mvd rfl rfl <| ite_k h (fun b269 h => gf rfl b269 <| gf rfl b269 <| gf rfl b269 <| gf rfl b269 <| st rfl <| pick1 rfl b269 (cd := cB) (v := true) rfl rfl <| st rfl <| mvd rfl rfl <| gf rfl rfl <| gf rfl rfl <| gf rfl rfl <| st rfl <| pick1 rfl rfl (cd := cB) (v := true) rfl rfl <| sq [q2 17 cc2 x208.1, q2 18 cc12 x212.1, q2 21 cI x212.2, q2 186 cB true] <|
  xn <| cnd1 rfl rfl <| wpC_seq <| reg_s <| x_asg (sc cB false rfl) <| sq [q2 8 cB false] <|
  xn <| wpC_ret <| rt <| rt <| re <| fin h (r1 (ss rfl rfl) <| r0) rfl)
  (fun b269 h => gt' rfl b269 <| st rfl <| mvo rfl rfl <| gt' rfl b269 <| st rfl <| mvo rfl rfl <| gt' rfl b269 <| bnd h fun x270 e271 h => st rfl <| o_call (a1 (c := cc12) (tLo tK) rfl (a1 (c := cc12) (tLo tK) rfl a0)) (con_laws_eqIntS e271) (.inl (so1 sB so0)) <| gt' rfl b269 <| st rfl <| o_nt rfl <| st rfl <| pick0 rfl b269 (cd := cB) (v := (!x270)) rfl rfl <| st rfl <| mvd rfl rfl <| ite_k h (fun b272 h => gf rfl b272 <| gf rfl b272 <| gf rfl b272 <| st rfl <| pick1 rfl b272 (cd := cB) (v := true) rfl rfl <| sq [q2 17 cc2 x208.1, q2 18 cc12 x212.1, q2 21 cI x212.2, q2 186 cB true] <|
  xn <| cnd1 rfl rfl <| wpC_seq <| reg_s <| x_asg (sc cB false rfl) <| sq [q2 8 cB false] <|
  xn <| wpC_ret <| rt <| rt <| re <| fin h (r1 (ss rfl rfl) <| r0) rfl)
  (fun b272 h => gt' rfl b272 <| st rfl <| mvd rfl rfl <| gt' rfl b272 <| st rfl <| mvd rfl rfl <| gt' rfl b272 <| st rfl <| eqb1 rfl rfl <| st rfl <| pick0 rfl b272 (cd := cB) (v := (x246.2.2 != x43.2.2)) rfl rfl <| sq [q2 17 cc2 x208.1, q2 18 cc12 x212.1, q2 21 cI x212.2, q2 186 cB (x246.2.2 != x43.2.2)] <|
  xn <| cnd rfl h (fun b273 h => wpC_seq <| reg_s <| x_asg (sc cB false rfl) <| sq [q2 8 cB false] <|
  xn <| wpC_ret <| rt <| rt <| re <| fin h (r1 (ss rfl rfl) <| r0) rfl)
  (fun b273 h => wpC_skip <| kpN [q2 17 cc2 x208.1, q2 18 cc12 x212.1, q2 21 cI x212.2] (by kernel_rfl) <| xn <| wpC_seq <| reg_s <| x_asg (sc cI (1 : Int) rfl) <| sq [q2 17 cc2 x208.1, q2 18 cc12 x212.1, q2 21 cI x212.2, q2 22 cI (1 : Int)] <|
  xn <| wpC_seq <| reg_s <| st rfl <| mvo rfl rfl <| st rfl <| mvd rfl rfl <| bnd h fun x276 e277 h => st rfl <| o_call (a1 (c := cc2) (tLo (tXRecord tK tK (tLo tK))) rfl (a1 (c := cI) tK rfl a0)) (con_laws_heldRecordS e277) (.inl (so1 sK so0)) <| x_asg (ss rfl rfl) <| sq [q2 18 cc12 x212.1, q2 21 cI x212.2, q2 22 cI x276] <|
  xn <| wpC_seq <| wpC_kp <| wpC_seq <| reg_s <| st rfl <| mvd rfl rfl <| st rfl <| b_lss (k := .i64) rfl rfl <| sq [q2 18 cc12 x212.1, q2 21 cI x212.2, q2 22 cI x276, q2 191 cB (decide (x276 < (0 : Int)))] <|
  xn <| cnd rfl h (fun b279 h => wpC_seq <| reg_s <| x_asg (sc cB false rfl) <| sq [q2 8 cB false] <|
  xn <| wpC_ret <| rt <| rt <| re <| fin h (r1 (ss rfl rfl) <| r0) rfl)
  (fun b279 h => wpC_skip <| kpN [q2 18 cc12 x212.1, q2 21 cI x212.2, q2 22 cI x276] (by kernel_rfl) <| xn <| wpC_seq <| reg_s <| st rfl <| mvo rfl rfl <| st rfl <| mvd rfl rfl <| bnd h fun x282 e283 h => st rfl <| o_call (a1 (c := cc12) (tLo tK) rfl (a1 (c := cI) tK rfl a0)) (con_laws_heldIntS e283) (.inl (so1 sK so0)) <| x_asg (ss rfl rfl) <| sq [q2 21 cI x212.2, q2 22 cI x282] <|
  xn <| wpC_seq <| wpC_kp <| wpC_seq <| reg_s <| st rfl <| mvd rfl rfl <| st rfl <| b_lss (k := .i64) rfl rfl <| sq [q2 21 cI x212.2, q2 22 cI x282, q2 196 cB (decide (x282 < (0 : Int)))] <|
  xn <| cnd rfl h (fun b285 h => wpC_seq <| reg_s <| x_asg (sc cB false rfl) <| sq [q2 8 cB false] <|
  xn <| wpC_ret <| rt <| rt <| re <| fin h (r1 (ss rfl rfl) <| r0) rfl)
  (fun b285 h => wpC_skip <| kpN [q2 21 cI x212.2, q2 22 cI x282] (by kernel_rfl) <| xn <| wpC_seq <| wpC_kp <| wpC_seq <| reg_s <| st rfl <| mvd rfl rfl <| st rfl <| mvd rfl rfl <| st rfl <| b_neq (k := .i64) rfl rfl <| sq [q2 199 cB (decide (x282 ≠ x212.2))] <|
  xn <| cnd rfl h (fun b287 h => wpC_seq <| reg_s <| x_asg (sc cB false rfl) <| sq [q2 8 cB false] <|
  xn <| wpC_ret <| rt <| rt <| re <| fin h (r1 (ss rfl rfl) <| r0) rfl)
  (fun b287 h => wpC_skip <| kpN [] (by kernel_rfl) <| xn <| wpC_seq <| reg_s <| x_asg (sc cB true rfl) <| sq [q2 8 cB true] <|
  xn <| wpC_ret <| re <| fin h (r1 (ss rfl rfl) <| r0) rfl)))))))))))
  fun s203' q204 h => reg_s <| st rfl <| mvd rfl rfl <| st rfl <| b_lss (k := .i64) rfl rfl <| st rfl <| mvd rfl rfl <| ite_k h (fun b288 h => gf rfl b288 <| gf rfl b288 <| gf rfl b288 <| gf rfl b288 <| st rfl <| pick1 rfl b288 (cd := cB) (v := true) rfl rfl <| st rfl <| mvd rfl rfl <| gf rfl rfl <| gf rfl rfl <| gf rfl rfl <| gf rfl rfl <| st rfl <| pick1 rfl rfl (cd := cB) (v := true) rfl rfl <| st rfl <| mvd rfl rfl <| gf rfl rfl <| gf rfl rfl <| gf rfl rfl <| st rfl <| pick1 rfl rfl (cd := cB) (v := true) rfl rfl <| sq [q2 0 cc4 v0, q2 1 cc1 v1, q2 2 cc11 v2, q2 3 cc0 v3, q2 10 cc2 x43.1, q2 11 cc12 x43.2.1, q2 12 cB x43.2.2, q2 17 cc2 x63.1, q2 18 cc12 x63.2.1, q2 139 cB true] <|
  lfn (S := (fun (s203 : Bool) => [q2 0 cc4 v0, q2 1 cc1 v1, q2 2 cc11 v2, q2 3 cc0 v3, q2 10 cc2 x43.1, q2 11 cc12 x43.2.1, q2 12 cB x43.2.2, q2 17 cc2 x63.1, q2 18 cc12 x63.2.1, q2 139 cB s203])) h q204 rfl)
  (fun b288 h => gt' rfl b288 <| st rfl <| mvo rfl rfl <| gt' rfl b288 <| st rfl <| mvo rfl rfl <| gt' rfl b288 <| bnd h fun x289 e290 h => st rfl <| o_call (a1 (c := cc2) (tLo (tXRecord tK tK (tLo tK))) rfl (a1 (c := cc2) (tLo (tXRecord tK tK (tLo tK))) rfl a0)) (con_laws_eqRecordS e290) (.inl (so1 sB so0)) <| gt' rfl b288 <| st rfl <| o_nt rfl <| st rfl <| pick0 rfl b288 (cd := cB) (v := (!x289)) rfl rfl <| st rfl <| mvd rfl rfl <| ite_k h (fun b291 h => gf rfl b291 <| gf rfl b291 <| gf rfl b291 <| gf rfl b291 <| st rfl <| pick1 rfl b291 (cd := cB) (v := true) rfl rfl <| st rfl <| mvd rfl rfl <| gf rfl rfl <| gf rfl rfl <| gf rfl rfl <| st rfl <| pick1 rfl rfl (cd := cB) (v := true) rfl rfl <| sq [q2 0 cc4 v0, q2 1 cc1 v1, q2 2 cc11 v2, q2 3 cc0 v3, q2 10 cc2 x43.1, q2 11 cc12 x43.2.1, q2 12 cB x43.2.2, q2 17 cc2 x63.1, q2 18 cc12 x63.2.1, q2 139 cB true] <|
  lfn (S := (fun (s203 : Bool) => [q2 0 cc4 v0, q2 1 cc1 v1, q2 2 cc11 v2, q2 3 cc0 v3, q2 10 cc2 x43.1, q2 11 cc12 x43.2.1, q2 12 cB x43.2.2, q2 17 cc2 x63.1, q2 18 cc12 x63.2.1, q2 139 cB s203])) h q204 rfl)
  (fun b291 h => gt' rfl b291 <| st rfl <| mvo rfl rfl <| gt' rfl b291 <| st rfl <| mvo rfl rfl <| gt' rfl b291 <| bnd h fun x292 e293 h => st rfl <| o_call (a1 (c := cc12) (tLo tK) rfl (a1 (c := cc12) (tLo tK) rfl a0)) (con_laws_eqIntS e293) (.inl (so1 sB so0)) <| gt' rfl b291 <| st rfl <| o_nt rfl <| st rfl <| pick0 rfl b291 (cd := cB) (v := (!x292)) rfl rfl <| st rfl <| mvd rfl rfl <| ite_k h (fun b294 h => gf rfl b294 <| gf rfl b294 <| gf rfl b294 <| st rfl <| pick1 rfl b294 (cd := cB) (v := true) rfl rfl <| sq [q2 0 cc4 v0, q2 1 cc1 v1, q2 2 cc11 v2, q2 3 cc0 v3, q2 10 cc2 x43.1, q2 11 cc12 x43.2.1, q2 12 cB x43.2.2, q2 17 cc2 x63.1, q2 18 cc12 x63.2.1, q2 139 cB true] <|
  lfn (S := (fun (s203 : Bool) => [q2 0 cc4 v0, q2 1 cc1 v1, q2 2 cc11 v2, q2 3 cc0 v3, q2 10 cc2 x43.1, q2 11 cc12 x43.2.1, q2 12 cB x43.2.2, q2 17 cc2 x63.1, q2 18 cc12 x63.2.1, q2 139 cB s203])) h q204 rfl)
  (fun b294 h => gt' rfl b294 <| st rfl <| mvd rfl rfl <| gt' rfl b294 <| st rfl <| mvd rfl rfl <| gt' rfl b294 <| st rfl <| eqb1 rfl rfl <| st rfl <| pick0 rfl b294 (cd := cB) (v := (x63.2.2 != x43.2.2)) rfl rfl <| sq [q2 0 cc4 v0, q2 1 cc1 v1, q2 2 cc11 v2, q2 3 cc0 v3, q2 10 cc2 x43.1, q2 11 cc12 x43.2.1, q2 12 cB x43.2.2, q2 17 cc2 x63.1, q2 18 cc12 x63.2.1, q2 139 cB (x63.2.2 != x43.2.2)] <|
  lfn (S := (fun (s203 : Bool) => [q2 0 cc4 v0, q2 1 cc1 v1, q2 2 cc11 v2, q2 3 cc0 v3, q2 10 cc2 x43.1, q2 11 cc12 x43.2.1, q2 12 cB x43.2.2, q2 17 cc2 x63.1, q2 18 cc12 x63.2.1, q2 139 cB s203])) h q204 rfl))))))))))))))
end AS.W
