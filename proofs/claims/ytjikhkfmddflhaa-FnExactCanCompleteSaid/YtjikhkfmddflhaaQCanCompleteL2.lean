/- The program computes the plain functions. No condition. -/
import Derived.Test.YtjikhkfmddflhaaQCanCompleteS
import Derived.Test.YtjikhkfmddflhaaProg
import Derived.Test.YtjikhkfmddflhaaQCanCompleteL1
set_option maxRecDepth 100000
set_option linter.unusedVariables false
set_option linter.unusedSimpArgs false
namespace AS.W
open Go Go.Proofs
def rs_laws_FnExactCanComplete (r : Bool) : List D := [cB.enc r]
def m4 : MC := .seq (.reg [⟨some 8, .asg (.c (.bool false)), none⟩] [0, 1, 2, 3])
  (.seq (.kp [0, 1, 2, 3] (.seq (.reg [⟨some 18, .mv (.t 2), none⟩,
    ⟨some 19, .len false (.t 18), none⟩,
    ⟨some 20, .bin .gtr (.t 19) (.c (.int .i64 1048576)), none⟩] [0, 1, 2, 3, 20])
  (.cond (.t 20) (.seq (.reg [⟨some 8, .asg (.c (.bool true)), none⟩] [8])
  (.ret)) (.skip))))
  (.seq (.kp [0, 1, 2, 3] (.seq (.reg [⟨some 21, .mv (.t 3), none⟩,
    ⟨some 22, .len false (.t 21), none⟩,
    ⟨some 23, .bin .gtr (.t 22) (.c (.int .i64 1048576)), none⟩] [0, 1, 2, 3, 23])
  (.cond (.t 23) (.seq (.reg [⟨some 8, .asg (.c (.bool true)), none⟩] [8])
  (.ret)) (.skip))))
  (.seq (.reg [⟨some 9, .asg (.c (.int .i64 1048576)), none⟩] [0, 1, 2, 3, 9])
  (.seq (.reg [⟨some 24, .mv (.t 0), none⟩,
    ⟨some 25, .mv (.t 9), none⟩,
    ⟨some 26, .call 13 [(.t 24), (.t 25)], none⟩,
    ⟨some 9, .asg (.t 26), none⟩] [0, 1, 2, 3, 9])
  (.seq (.kp [0, 1, 2, 3, 9] (.seq (.reg [⟨some 27, .mv (.t 9), none⟩,
    ⟨some 28, .bin .lss (.t 27) (.c (.int .i64 0)), none⟩] [0, 1, 2, 3, 9, 28])
  (.cond (.t 28) (.seq (.reg [⟨some 8, .asg (.c (.bool true)), none⟩] [8])
  (.ret)) (.skip))))
  (.seq (.reg [⟨some 29, .mv (.t 1), none⟩,
    ⟨some 30, .mv (.t 9), none⟩,
    ⟨some 31, .call 14 [(.t 29), (.t 30)], none⟩,
    ⟨some 9, .asg (.t 31), none⟩] [0, 1, 2, 3, 9])
  (.seq (.kp [0, 1, 2, 3] (.seq (.reg [⟨some 32, .mv (.t 9), none⟩,
    ⟨some 33, .bin .lss (.t 32) (.c (.int .i64 0)), none⟩] [0, 1, 2, 3, 33])
  (.cond (.t 33) (.seq (.reg [⟨some 8, .asg (.c (.bool true)), none⟩] [8])
  (.ret)) (.skip))))
  (.seq (.reg [⟨some 35, .mv (.t 0), none⟩,
    ⟨some 36, .call 16 [(.t 35)], none⟩,
    ⟨some 37, .mv (.t 1), none⟩,
    ⟨some 38, .call 17 [(.t 37)], none⟩,
    ⟨some 39, .mv (.t 2), none⟩,
    ⟨some 40, .call 27 [(.t 39)], none⟩,
    ⟨some 41, .mv (.t 3), none⟩,
    ⟨some 42, .call 27 [(.t 41)], none⟩,
    ⟨some 43, .call 26 [(.t 36), (.t 38), (.t 40), (.t 42)], none⟩,
    ⟨some 34, .mvt 43, none⟩,
    ⟨some 44, .ext 34 0, none⟩,
    ⟨some 45, .ext 34 1, none⟩,
    ⟨some 10, .asg (.t 44), none⟩,
    ⟨some 11, .asg (.t 45), none⟩] [0, 1, 2, 3, 10, 11])
  (.seq (.reg [⟨some 46, .mv (.t 0), none⟩,
    ⟨some 47, .call 16 [(.t 46)], none⟩,
    ⟨some 12, .asg (.t 47), none⟩] [0, 1, 2, 3, 10, 11, 12])
  (.seq (.reg [⟨some 48, .mv (.t 1), none⟩,
    ⟨some 49, .call 17 [(.t 48)], none⟩,
    ⟨some 13, .asg (.t 49), none⟩] [0, 1, 2, 3, 10, 11, 12, 13])
  (.seq (.reg [⟨some 50, .mv (.t 2), none⟩,
    ⟨some 51, .call 27 [(.t 50)], none⟩,
    ⟨some 14, .asg (.t 51), none⟩] [0, 1, 2, 3, 10, 11, 12, 13, 14])
  (.seq (.reg [⟨some 52, .mv (.t 3), none⟩,
    ⟨some 53, .call 27 [(.t 52)], none⟩,
    ⟨some 15, .asg (.t 53), none⟩] [0, 1, 2, 3, 10, 11, 12, 13, 14, 15])
  (.seq (.reg [⟨some 55, .mv (.t 12), none⟩,
    ⟨some 56, .mv (.t 13), none⟩,
    ⟨some 57, .mv (.t 14), none⟩,
    ⟨some 58, .mv (.t 15), none⟩,
    ⟨some 59, .call 28 [(.t 55), (.t 56), (.t 57), (.t 58)], none⟩,
    ⟨some 54, .mvt 59, none⟩,
    ⟨some 60, .ext 54 0, none⟩,
    ⟨some 61, .ext 54 1, none⟩,
    ⟨some 16, .asg (.t 60), none⟩,
    ⟨some 17, .asg (.t 61), none⟩] [0, 1, 2, 3, 10, 11, 12, 13, 14, 15, 16, 17])
  (.seq (.kp [0, 1, 2, 3, 12, 13, 14, 15] (.seq (.reg [⟨some 62, .mv (.t 16), none⟩,
    ⟨some 63, .mv (.t 10), none⟩,
    ⟨some 64, .eqb true (.t 62) (.t 63), none⟩,
    ⟨some 65, .mv (.t 64), none⟩,
    ⟨some 66, .mv (.t 17), some (65, false)⟩,
    ⟨some 67, .mv (.t 11), some (65, false)⟩,
    ⟨some 68, .eqb true (.t 66) (.t 67), some (65, false)⟩,
    ⟨some 69, .pick (.t 65) (.c (.bool true)) (.t 68), none⟩] [0, 1, 2, 3, 12, 13, 14, 15, 69])
  (.cond (.t 69) (.seq (.reg [⟨some 8, .asg (.c (.bool false)), none⟩] [8])
  (.ret)) (.skip))))
  (.seq (.kp [1, 2, 3, 13, 14, 15] (.seq (.reg [⟨some 70, .mv (.t 12), none⟩,
    ⟨some 71, .mv (.t 0), none⟩,
    ⟨some 72, .call 16 [(.t 71)], none⟩,
    ⟨some 73, .call 20 [(.t 70), (.t 72)], none⟩,
    ⟨some 74, .nt (.t 73), none⟩] [1, 2, 3, 13, 14, 15, 74])
  (.cond (.t 74) (.seq (.reg [⟨some 8, .asg (.c (.bool false)), none⟩] [8])
  (.ret)) (.skip))))
  (.seq (.kp [2, 3, 14, 15] (.seq (.reg [⟨some 75, .mv (.t 13), none⟩,
    ⟨some 76, .mv (.t 1), none⟩,
    ⟨some 77, .call 17 [(.t 76)], none⟩,
    ⟨some 78, .call 21 [(.t 75), (.t 77)], none⟩,
    ⟨some 79, .nt (.t 78), none⟩] [2, 3, 14, 15, 79])
  (.cond (.t 79) (.seq (.reg [⟨some 8, .asg (.c (.bool false)), none⟩] [8])
  (.ret)) (.skip))))
  (.seq (.kp [3, 15] (.seq (.reg [⟨some 80, .mv (.t 14), none⟩,
    ⟨some 81, .mv (.t 2), none⟩,
    ⟨some 82, .call 27 [(.t 81)], none⟩,
    ⟨some 83, .call 19 [(.t 80), (.t 82)], none⟩,
    ⟨some 84, .nt (.t 83), none⟩] [3, 15, 84])
  (.cond (.t 84) (.seq (.reg [⟨some 8, .asg (.c (.bool false)), none⟩] [8])
  (.ret)) (.skip))))
  (.seq (.kp [] (.seq (.reg [⟨some 85, .mv (.t 15), none⟩,
    ⟨some 86, .mv (.t 3), none⟩,
    ⟨some 87, .call 27 [(.t 86)], none⟩,
    ⟨some 88, .call 19 [(.t 85), (.t 87)], none⟩,
    ⟨some 89, .nt (.t 88), none⟩] [89])
  (.cond (.t 89) (.seq (.reg [⟨some 8, .asg (.c (.bool false)), none⟩] [8])
  (.ret)) (.skip))))
  (.seq (.reg [⟨some 8, .asg (.c (.bool true)), none⟩] [8])
  (.ret))))))))))))))))))))
theorem con_laws_FnExactCanComplete {v0 : (List XVariable)} {v1 : (List XEdit)} {v2 : (List Int)} {v3 : (List Int)} {r : Bool} (h : sh_laws_FnExactCanComplete v0 v1 v2 v3 = some r) : Con Try.prog 4 [(cLs (cXVariable cS cI) rfl).enc v0, (cLs (cXEdit (cLs cI rfl)) rfl).enc v1, (cLs cI rfl).enc v2, (cLs cI rfl).enc v3] [] (rs_laws_FnExactCanComplete r) := by
  delta sh_laws_FnExactCanComplete at h
  refine top (out := none) (f := Try.f4) (m := m4) (rs := [.t 8]) (by kernel_rfl) rfl (by kernel_rfl) (by kernel_rfl) (by kernel_rfl) (by kernel_rfl) (by kernel_rfl) ?_
  exact
   ini [(0, .d ((cLs (cXVariable cS cI) rfl).enc v0)), (1, .d ((cLs (cXEdit (cLs cI rfl)) rfl).enc v1)), (2, .d ((cLs cI rfl).enc v2)), (3, .d ((cLs cI rfl).enc v3))] rfl <| wpC_seq <| reg_s <| x_asg (sc cB false rfl) <| seqN [(0, .d ((cLs (cXVariable cS cI) rfl).enc v0)), (1, .d ((cLs (cXEdit (cLs cI rfl)) rfl).enc v1)), (2, .d ((cLs cI rfl).enc v2)), (3, .d ((cLs cI rfl).enc v3))] (by kernel_rfl) <|
    xn <| wpC_seq <| wpC_kp <| wpC_seq <| reg_s <| st rfl <| mvd rfl rfl <| stw rfl <| lens rfl fun l5 => st rfl <| b_gtr (k := .i64) rfl rfl <| seqN [(0, .d ((cLs (cXVariable cS cI) rfl).enc v0)), (1, .d ((cLs (cXEdit (cLs cI rfl)) rfl).enc v1)), (2, .d ((cLs cI rfl).enc v2)), (3, .d ((cLs cI rfl).enc v3)), (20, .d (cB.enc (decide ((1048576 : Int) < (v2.length : Int)))))] (by kernel_rfl) <|
    xn <| cnd rfl h (fun b6 h => wpC_seq <| reg_s <| x_asg (sc cB true rfl) <| seqN [(8, .d (cB.enc true))] (by kernel_rfl) <|
    xn <| wpC_ret <| rt <| rt <| re <| fin h (r1 (ss rfl rfl) <| r0) rfl)
    (fun b6 h => wpC_skip <| kpN [(0, .d ((cLs (cXVariable cS cI) rfl).enc v0)), (1, .d ((cLs (cXEdit (cLs cI rfl)) rfl).enc v1)), (2, .d ((cLs cI rfl).enc v2)), (3, .d ((cLs cI rfl).enc v3))] (by kernel_rfl) <| xn <| wpC_seq <| wpC_kp <| wpC_seq <| reg_s <| st rfl <| mvd rfl rfl <| stw rfl <| lens rfl fun l11 => st rfl <| b_gtr (k := .i64) rfl rfl <| seqN [(0, .d ((cLs (cXVariable cS cI) rfl).enc v0)), (1, .d ((cLs (cXEdit (cLs cI rfl)) rfl).enc v1)), (2, .d ((cLs cI rfl).enc v2)), (3, .d ((cLs cI rfl).enc v3)), (23, .d (cB.enc (decide ((1048576 : Int) < (v3.length : Int)))))] (by kernel_rfl) <|
    xn <| cnd rfl h (fun b12 h => wpC_seq <| reg_s <| x_asg (sc cB true rfl) <| seqN [(8, .d (cB.enc true))] (by kernel_rfl) <|
    xn <| wpC_ret <| rt <| rt <| re <| fin h (r1 (ss rfl rfl) <| r0) rfl)
    (fun b12 h => wpC_skip <| kpN [(0, .d ((cLs (cXVariable cS cI) rfl).enc v0)), (1, .d ((cLs (cXEdit (cLs cI rfl)) rfl).enc v1)), (2, .d ((cLs cI rfl).enc v2)), (3, .d ((cLs cI rfl).enc v3))] (by kernel_rfl) <| xn <| wpC_seq <| reg_s <| x_asg (sc cI (1048576 : Int) rfl) <| seqN [(0, .d ((cLs (cXVariable cS cI) rfl).enc v0)), (1, .d ((cLs (cXEdit (cLs cI rfl)) rfl).enc v1)), (2, .d ((cLs cI rfl).enc v2)), (3, .d ((cLs cI rfl).enc v3)), (9, .d (cI.enc (1048576 : Int)))] (by kernel_rfl) <|
    xn <| wpC_seq <| reg_s <| st rfl <| mvd rfl rfl <| st rfl <| mvd rfl rfl <| bnd h fun x15 e16 h => st rfl <| o_call (a1 (c := (cLs (cXVariable cS cI) rfl)) (tLs (tXVariable tS tK)) rfl (a1 (c := cI) tK rfl a0)) (con_laws_szVariableS e16) (.inl (so1 sK so0)) <| x_asg (ss rfl rfl) <| seqN [(0, .d ((cLs (cXVariable cS cI) rfl).enc v0)), (1, .d ((cLs (cXEdit (cLs cI rfl)) rfl).enc v1)), (2, .d ((cLs cI rfl).enc v2)), (3, .d ((cLs cI rfl).enc v3)), (9, .d (cI.enc x15))] (by kernel_rfl) <|
    xn <| wpC_seq <| wpC_kp <| wpC_seq <| reg_s <| st rfl <| mvd rfl rfl <| st rfl <| b_lss (k := .i64) rfl rfl <| seqN [(0, .d ((cLs (cXVariable cS cI) rfl).enc v0)), (1, .d ((cLs (cXEdit (cLs cI rfl)) rfl).enc v1)), (2, .d ((cLs cI rfl).enc v2)), (3, .d ((cLs cI rfl).enc v3)), (9, .d (cI.enc x15)), (28, .d (cB.enc (decide (x15 < (0 : Int)))))] (by kernel_rfl) <|
    xn <| cnd rfl h (fun b18 h => wpC_seq <| reg_s <| x_asg (sc cB true rfl) <| seqN [(8, .d (cB.enc true))] (by kernel_rfl) <|
    xn <| wpC_ret <| rt <| rt <| re <| fin h (r1 (ss rfl rfl) <| r0) rfl)
    (fun b18 h => wpC_skip <| kpN [(0, .d ((cLs (cXVariable cS cI) rfl).enc v0)), (1, .d ((cLs (cXEdit (cLs cI rfl)) rfl).enc v1)), (2, .d ((cLs cI rfl).enc v2)), (3, .d ((cLs cI rfl).enc v3)), (9, .d (cI.enc x15))] (by kernel_rfl) <| xn <| wpC_seq <| reg_s <| st rfl <| mvd rfl rfl <| st rfl <| mvd rfl rfl <| bnd h fun x21 e22 h => st rfl <| o_call (a1 (c := (cLs (cXEdit (cLs cI rfl)) rfl)) (tLs (tXEdit (tLs tK))) rfl (a1 (c := cI) tK rfl a0)) (con_laws_szEditS e22) (.inl (so1 sK so0)) <| x_asg (ss rfl rfl) <| seqN [(0, .d ((cLs (cXVariable cS cI) rfl).enc v0)), (1, .d ((cLs (cXEdit (cLs cI rfl)) rfl).enc v1)), (2, .d ((cLs cI rfl).enc v2)), (3, .d ((cLs cI rfl).enc v3)), (9, .d (cI.enc x21))] (by kernel_rfl) <|
    xn <| wpC_seq <| wpC_kp <| wpC_seq <| reg_s <| st rfl <| mvd rfl rfl <| st rfl <| b_lss (k := .i64) rfl rfl <| seqN [(0, .d ((cLs (cXVariable cS cI) rfl).enc v0)), (1, .d ((cLs (cXEdit (cLs cI rfl)) rfl).enc v1)), (2, .d ((cLs cI rfl).enc v2)), (3, .d ((cLs cI rfl).enc v3)), (33, .d (cB.enc (decide (x21 < (0 : Int)))))] (by kernel_rfl) <|
    xn <| cnd rfl h (fun b24 h => wpC_seq <| reg_s <| x_asg (sc cB true rfl) <| seqN [(8, .d (cB.enc true))] (by kernel_rfl) <|
    xn <| wpC_ret <| rt <| rt <| re <| fin h (r1 (ss rfl rfl) <| r0) rfl)
    (fun b24 h => wpC_skip <| kpN [(0, .d ((cLs (cXVariable cS cI) rfl).enc v0)), (1, .d ((cLs (cXEdit (cLs cI rfl)) rfl).enc v1)), (2, .d ((cLs cI rfl).enc v2)), (3, .d ((cLs cI rfl).enc v3))] (by kernel_rfl) <| xn <| wpC_seq <| reg_s <| st rfl <| mvd rfl rfl <| bnd h fun x35 e36 h => st rfl <| o_call (a1 (c := (cLs (cXVariable cS cI) rfl)) (tLs (tXVariable tS tK)) rfl a0) (con_laws_toVariableS e36) (.inl (so1 (sLo (sXVariable sS sK)) so0)) <| st rfl <| mvd rfl rfl <| bnd h fun x37 e38 h => st rfl <| o_call (a1 (c := (cLs (cXEdit (cLs cI rfl)) rfl)) (tLs (tXEdit (tLs tK))) rfl a0) (con_laws_toEditS e38) (.inl (so1 (sLo (sXEdit (sLo sK))) so0)) <| st rfl <| mvd rfl rfl <| bnd h fun x39 e40 h => st rfl <| o_call (a1 (c := (cLs cI rfl)) (tLs tK) rfl a0) (con_laws_toIntS e40) (.inl (so1 (sLo sK) so0)) <| st rfl <| mvd rfl rfl <| bnd h fun x41 e42 h => st rfl <| o_call (a1 (c := (cLs cI rfl)) (tLs tK) rfl a0) (con_laws_toIntS e42) (.inl (so1 (sLo sK) so0)) <| bnd h fun x43 e44 h => st rfl <| o_call (a1 (c := (cLo (cXVariable cS cI))) (tLo (tXVariable tS tK)) rfl (a1 (c := (cLo (cXEdit (cLo cI)))) (tLo (tXEdit (tLo tK))) rfl (a1 (c := (cLo cI)) (tLo tK) rfl (a1 (c := (cLo cI)) (tLo tK) rfl a0)))) (con_spec_CanComplete e44) (.inl (so1 sB (so1 sB so0))) <| x_mvt rfl <| x_ext rfl rfl <| x_ext rfl rfl <| x_asg (ss rfl rfl) <| x_asg (ss rfl rfl) <| seqN [(0, .d ((cLs (cXVariable cS cI) rfl).enc v0)), (1, .d ((cLs (cXEdit (cLs cI rfl)) rfl).enc v1)), (2, .d ((cLs cI rfl).enc v2)), (3, .d ((cLs cI rfl).enc v3)), (10, .d (cB.enc x43.1)), (11, .d (cB.enc x43.2))] (by kernel_rfl) <|
    xn <| wpC_seq <| reg_s <| st rfl <| mvd rfl rfl <| bnd h fun x47 e48 h => st rfl <| o_call (a1 (c := (cLs (cXVariable cS cI) rfl)) (tLs (tXVariable tS tK)) rfl a0) (con_laws_toVariableS e48) (.inl (so1 (sLo (sXVariable sS sK)) so0)) <| x_asg (so rfl rfl) <| seqN [(0, .d ((cLs (cXVariable cS cI) rfl).enc v0)), (1, .d ((cLs (cXEdit (cLs cI rfl)) rfl).enc v1)), (2, .d ((cLs cI rfl).enc v2)), (3, .d ((cLs cI rfl).enc v3)), (10, .d (cB.enc x43.1)), (11, .d (cB.enc x43.2)), (12, .d ((cLo (cXVariable cS cI)).enc x47))] (by kernel_rfl) <|
    xn <| wpC_seq <| reg_s <| st rfl <| mvd rfl rfl <| bnd h fun x51 e52 h => st rfl <| o_call (a1 (c := (cLs (cXEdit (cLs cI rfl)) rfl)) (tLs (tXEdit (tLs tK))) rfl a0) (con_laws_toEditS e52) (.inl (so1 (sLo (sXEdit (sLo sK))) so0)) <| x_asg (so rfl rfl) <| seqN [(0, .d ((cLs (cXVariable cS cI) rfl).enc v0)), (1, .d ((cLs (cXEdit (cLs cI rfl)) rfl).enc v1)), (2, .d ((cLs cI rfl).enc v2)), (3, .d ((cLs cI rfl).enc v3)), (10, .d (cB.enc x43.1)), (11, .d (cB.enc x43.2)), (12, .d ((cLo (cXVariable cS cI)).enc x47)), (13, .d ((cLo (cXEdit (cLo cI))).enc x51))] (by kernel_rfl) <|
    xn <| wpC_seq <| reg_s <| st rfl <| mvd rfl rfl <| bnd h fun x55 e56 h => st rfl <| o_call (a1 (c := (cLs cI rfl)) (tLs tK) rfl a0) (con_laws_toIntS e56) (.inl (so1 (sLo sK) so0)) <| x_asg (so rfl rfl) <| seqN [(0, .d ((cLs (cXVariable cS cI) rfl).enc v0)), (1, .d ((cLs (cXEdit (cLs cI rfl)) rfl).enc v1)), (2, .d ((cLs cI rfl).enc v2)), (3, .d ((cLs cI rfl).enc v3)), (10, .d (cB.enc x43.1)), (11, .d (cB.enc x43.2)), (12, .d ((cLo (cXVariable cS cI)).enc x47)), (13, .d ((cLo (cXEdit (cLo cI))).enc x51)), (14, .d ((cLo cI).enc x55))] (by kernel_rfl) <|
    xn <| wpC_seq <| reg_s <| st rfl <| mvd rfl rfl <| bnd h fun x59 e60 h => st rfl <| o_call (a1 (c := (cLs cI rfl)) (tLs tK) rfl a0) (con_laws_toIntS e60) (.inl (so1 (sLo sK) so0)) <| x_asg (so rfl rfl) <| seqN [(0, .d ((cLs (cXVariable cS cI) rfl).enc v0)), (1, .d ((cLs (cXEdit (cLs cI rfl)) rfl).enc v1)), (2, .d ((cLs cI rfl).enc v2)), (3, .d ((cLs cI rfl).enc v3)), (10, .d (cB.enc x43.1)), (11, .d (cB.enc x43.2)), (12, .d ((cLo (cXVariable cS cI)).enc x47)), (13, .d ((cLo (cXEdit (cLo cI))).enc x51)), (14, .d ((cLo cI).enc x55)), (15, .d ((cLo cI).enc x59))] (by kernel_rfl) <|
    xn <| wpC_seq <| reg_s <| st rfl <| mvo rfl rfl <| st rfl <| mvo rfl rfl <| st rfl <| mvo rfl rfl <| st rfl <| mvo rfl rfl <| bnd h fun x63 e64 h => st rfl <| o_call (a1 (c := (cLo (cXVariable cS cI))) (tLo (tXVariable tS tK)) rfl (a1 (c := (cLo (cXEdit (cLo cI)))) (tLo (tXEdit (tLo tK))) rfl (a1 (c := (cLo cI)) (tLo tK) rfl (a1 (c := (cLo cI)) (tLo tK) rfl a0)))) (con_impl_CanComplete e64) (.inl (so1 sB (so1 sB so0))) <| x_mvt rfl <| x_ext rfl rfl <| x_ext rfl rfl <| x_asg (ss rfl rfl) <| x_asg (ss rfl rfl) <| seqN [(0, .d ((cLs (cXVariable cS cI) rfl).enc v0)), (1, .d ((cLs (cXEdit (cLs cI rfl)) rfl).enc v1)), (2, .d ((cLs cI rfl).enc v2)), (3, .d ((cLs cI rfl).enc v3)), (10, .d (cB.enc x43.1)), (11, .d (cB.enc x43.2)), (12, .d ((cLo (cXVariable cS cI)).enc x47)), (13, .d ((cLo (cXEdit (cLo cI))).enc x51)), (14, .d ((cLo cI).enc x55)), (15, .d ((cLo cI).enc x59)), (16, .d (cB.enc x63.1)), (17, .d (cB.enc x63.2))] (by kernel_rfl) <|
    xn <| wpC_seq <| wpC_kp <| wpC_seq <| reg_s <| st rfl <| mvd rfl rfl <| st rfl <| mvd rfl rfl <| st rfl <| eqb1 rfl rfl <| st rfl <| mvd rfl rfl <| ite_k h (fun b69 h => gf rfl b69 <| gf rfl b69 <| gf rfl b69 <| st rfl <| pick1 rfl b69 (cd := cB) (v := true) rfl rfl <| seqN [(0, .d ((cLs (cXVariable cS cI) rfl).enc v0)), (1, .d ((cLs (cXEdit (cLs cI rfl)) rfl).enc v1)), (2, .d ((cLs cI rfl).enc v2)), (3, .d ((cLs cI rfl).enc v3)), (12, .d ((cLo (cXVariable cS cI)).enc x47)), (13, .d ((cLo (cXEdit (cLo cI))).enc x51)), (14, .d ((cLo cI).enc x55)), (15, .d ((cLo cI).enc x59)), (69, .d (cB.enc true))] (by kernel_rfl) <|
    xn <| cnd1 rfl rfl <| wpC_seq <| reg_s <| x_asg (sc cB false rfl) <| seqN [(8, .d (cB.enc false))] (by kernel_rfl) <|
    xn <| wpC_ret <| rt <| rt <| re <| fin h (r1 (ss rfl rfl) <| r0) rfl)
    (fun b69 h => gt' rfl b69 <| st rfl <| mvd rfl rfl <| gt' rfl b69 <| st rfl <| mvd rfl rfl <| gt' rfl b69 <| st rfl <| eqb1 rfl rfl <| st rfl <| pick0 rfl b69 (cd := cB) (v := (x63.2 != x43.2)) rfl rfl <| seqN [(0, .d ((cLs (cXVariable cS cI) rfl).enc v0)), (1, .d ((cLs (cXEdit (cLs cI rfl)) rfl).enc v1)), (2, .d ((cLs cI rfl).enc v2)), (3, .d ((cLs cI rfl).enc v3)), (12, .d ((cLo (cXVariable cS cI)).enc x47)), (13, .d ((cLo (cXEdit (cLo cI))).enc x51)), (14, .d ((cLo cI).enc x55)), (15, .d ((cLo cI).enc x59)), (69, .d (cB.enc (x63.2 != x43.2)))] (by kernel_rfl) <|
    xn <| cnd rfl h (fun b70 h => wpC_seq <| reg_s <| x_asg (sc cB false rfl) <| seqN [(8, .d (cB.enc false))] (by kernel_rfl) <|
    xn <| wpC_ret <| rt <| rt <| re <| fin h (r1 (ss rfl rfl) <| r0) rfl)
    (fun b70 h => wpC_skip <| kpN [(0, .d ((cLs (cXVariable cS cI) rfl).enc v0)), (1, .d ((cLs (cXEdit (cLs cI rfl)) rfl).enc v1)), (2, .d ((cLs cI rfl).enc v2)), (3, .d ((cLs cI rfl).enc v3)), (12, .d ((cLo (cXVariable cS cI)).enc x47)), (13, .d ((cLo (cXEdit (cLo cI))).enc x51)), (14, .d ((cLo cI).enc x55)), (15, .d ((cLo cI).enc x59))] (by kernel_rfl) <| xn <| wpC_seq <| wpC_kp <| wpC_seq <| reg_s <| st rfl <| mvo rfl rfl <| st rfl <| mvd rfl rfl <| bnd h fun x84 e85 h => st rfl <| o_call (a1 (c := (cLs (cXVariable cS cI) rfl)) (tLs (tXVariable tS tK)) rfl a0) (con_laws_toVariableS e85) (.inl (so1 (sLo (sXVariable sS sK)) so0)) <| bnd h fun x86 e87 h => st rfl <| o_call (a1 (c := (cLo (cXVariable cS cI))) (tLo (tXVariable tS tK)) rfl (a1 (c := (cLo (cXVariable cS cI))) (tLo (tXVariable tS tK)) rfl a0)) (con_laws_eqVariableS e87) (.inl (so1 sB so0)) <| st rfl <| o_nt rfl <| seqN [(1, .d ((cLs (cXEdit (cLs cI rfl)) rfl).enc v1)), (2, .d ((cLs cI rfl).enc v2)), (3, .d ((cLs cI rfl).enc v3)), (13, .d ((cLo (cXEdit (cLo cI))).enc x51)), (14, .d ((cLo cI).enc x55)), (15, .d ((cLo cI).enc x59)), (74, .d (cB.enc (!x86)))] (by kernel_rfl) <|
    xn <| cnd rfl h (fun b88 h => wpC_seq <| reg_s <| x_asg (sc cB false rfl) <| seqN [(8, .d (cB.enc false))] (by kernel_rfl) <|
    xn <| wpC_ret <| rt <| rt <| re <| fin h (r1 (ss rfl rfl) <| r0) rfl)
    (fun b88 h => wpC_skip <| kpN [(1, .d ((cLs (cXEdit (cLs cI rfl)) rfl).enc v1)), (2, .d ((cLs cI rfl).enc v2)), (3, .d ((cLs cI rfl).enc v3)), (13, .d ((cLo (cXEdit (cLo cI))).enc x51)), (14, .d ((cLo cI).enc x55)), (15, .d ((cLo cI).enc x59))] (by kernel_rfl) <| xn <| wpC_seq <| wpC_kp <| wpC_seq <| reg_s <| st rfl <| mvo rfl rfl <| st rfl <| mvd rfl rfl <| bnd h fun x102 e103 h => st rfl <| o_call (a1 (c := (cLs (cXEdit (cLs cI rfl)) rfl)) (tLs (tXEdit (tLs tK))) rfl a0) (con_laws_toEditS e103) (.inl (so1 (sLo (sXEdit (sLo sK))) so0)) <| bnd h fun x104 e105 h => st rfl <| o_call (a1 (c := (cLo (cXEdit (cLo cI)))) (tLo (tXEdit (tLo tK))) rfl (a1 (c := (cLo (cXEdit (cLo cI)))) (tLo (tXEdit (tLo tK))) rfl a0)) (con_laws_eqEditS e105) (.inl (so1 sB so0)) <| st rfl <| o_nt rfl <| seqN [(2, .d ((cLs cI rfl).enc v2)), (3, .d ((cLs cI rfl).enc v3)), (14, .d ((cLo cI).enc x55)), (15, .d ((cLo cI).enc x59)), (79, .d (cB.enc (!x104)))] (by kernel_rfl) <|
    xn <| cnd rfl h (fun b106 h => wpC_seq <| reg_s <| x_asg (sc cB false rfl) <| seqN [(8, .d (cB.enc false))] (by kernel_rfl) <|
    xn <| wpC_ret <| rt <| rt <| re <| fin h (r1 (ss rfl rfl) <| r0) rfl)
    (fun b106 h => wpC_skip <| kpN [(2, .d ((cLs cI rfl).enc v2)), (3, .d ((cLs cI rfl).enc v3)), (14, .d ((cLo cI).enc x55)), (15, .d ((cLo cI).enc x59))] (by kernel_rfl) <| xn <| wpC_seq <| wpC_kp <| wpC_seq <| reg_s <| st rfl <| mvo rfl rfl <| st rfl <| mvd rfl rfl <| bnd h fun x120 e121 h => st rfl <| o_call (a1 (c := (cLs cI rfl)) (tLs tK) rfl a0) (con_laws_toIntS e121) (.inl (so1 (sLo sK) so0)) <| bnd h fun x122 e123 h => st rfl <| o_call (a1 (c := (cLo cI)) (tLo tK) rfl (a1 (c := (cLo cI)) (tLo tK) rfl a0)) (con_laws_eqIntS e123) (.inl (so1 sB so0)) <| st rfl <| o_nt rfl <| seqN [(3, .d ((cLs cI rfl).enc v3)), (15, .d ((cLo cI).enc x59)), (84, .d (cB.enc (!x122)))] (by kernel_rfl) <|
    xn <| cnd rfl h (fun b124 h => wpC_seq <| reg_s <| x_asg (sc cB false rfl) <| seqN [(8, .d (cB.enc false))] (by kernel_rfl) <|
    xn <| wpC_ret <| rt <| rt <| re <| fin h (r1 (ss rfl rfl) <| r0) rfl)
    (fun b124 h => wpC_skip <| kpN [(3, .d ((cLs cI rfl).enc v3)), (15, .d ((cLo cI).enc x59))] (by kernel_rfl) <| xn <| wpC_seq <| wpC_kp <| wpC_seq <| reg_s <| st rfl <| mvo rfl rfl <| st rfl <| mvd rfl rfl <| bnd h fun x138 e139 h => st rfl <| o_call (a1 (c := (cLs cI rfl)) (tLs tK) rfl a0) (con_laws_toIntS e139) (.inl (so1 (sLo sK) so0)) <| bnd h fun x140 e141 h => st rfl <| o_call (a1 (c := (cLo cI)) (tLo tK) rfl (a1 (c := (cLo cI)) (tLo tK) rfl a0)) (con_laws_eqIntS e141) (.inl (so1 sB so0)) <| st rfl <| o_nt rfl <| seqN [(89, .d (cB.enc (!x140)))] (by kernel_rfl) <|
    xn <| cnd rfl h (fun b142 h => wpC_seq <| reg_s <| x_asg (sc cB false rfl) <| seqN [(8, .d (cB.enc false))] (by kernel_rfl) <|
    xn <| wpC_ret <| rt <| rt <| re <| fin h (r1 (ss rfl rfl) <| r0) rfl)
    (fun b142 h => wpC_skip <| kpN [] (by kernel_rfl) <| xn <| wpC_seq <| reg_s <| x_asg (sc cB true rfl) <| seqN [(8, .d (cB.enc true))] (by kernel_rfl) <|
    xn <| wpC_ret <| re <| fin h (r1 (ss rfl rfl) <| r0) rfl))))))))))
end AS.W
