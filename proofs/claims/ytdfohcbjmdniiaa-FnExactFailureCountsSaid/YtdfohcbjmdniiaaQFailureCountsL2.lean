/- The program computes the plain functions. No condition. -/
import Derived.Test.YtdfohcbjmdniiaaQFailureCountsS
import Derived.Test.YtdfohcbjmdniiaaProg
import Derived.Test.YtdfohcbjmdniiaaQFailureCountsL1
set_option maxRecDepth 100000
set_option linter.unusedVariables false
set_option linter.unusedSimpArgs false
namespace AS.W
open Go Go.Proofs
def os_laws_markRecordS (r : ((List XRecord) × Int)) : D := (cLo (cXRecord cI cI (cLo cI))).enc r.1
def rs_laws_markRecordS (r : ((List XRecord) × Int)) : List D := [cI.enc r.2]
def m52 : MC := .seq (.reg [⟨some 4, .asg (.c (.int .i64 0)), none⟩] [0, 1])
  (.seq (.kp [0, 1] (.seq (.reg [⟨some 5, .asg (.c (.int .i64 0)), none⟩] [0, 1, 5])
  (.blk 0 (.loop (.seq (.kp [0, 1, 5] (.seq (.reg [⟨some 6, .mv (.t 5), none⟩,
    ⟨some 7, .mv (.t 0), none⟩,
    ⟨some 8, .len false (.t 7), none⟩,
    ⟨some 9, .bin .lss (.t 6) (.t 8), none⟩] [0, 1, 5, 9])
  (.cond (.t 9) (.skip) (.exit 0))))
  (.seq (.kp [0, 1, 5] (.blk 1 (.seq (.reg [⟨some 12, .mv (.t 0), none⟩,
    ⟨some 13, .mv (.t 5), none⟩,
    ⟨some 14, .mv (.t 1), none⟩,
    ⟨some 15, .ia 12 (.t 13) 3, none⟩,
    ⟨some 16, .fa 15 0 0, none⟩,
    ⟨none, .st 16 (.t 14) 1, none⟩] [0, 1, 5])
  (.seq (.reg [⟨some 17, .mv (.t 1), none⟩,
    ⟨some 18, .bin .add (.t 17) (.c (.int .i64 1)), none⟩,
    ⟨some 1, .asg (.t 18), none⟩] [0, 1, 5])
  (.seq (.reg [⟨some 19, .mv (.t 0), none⟩,
    ⟨some 20, .mv (.t 5), none⟩,
    ⟨some 21, .mv (.t 1), none⟩,
    ⟨some 22, .ia 19 (.t 20) 3, none⟩,
    ⟨some 23, .fa 22 1 1, none⟩,
    ⟨none, .st 23 (.t 21) 1, none⟩] [0, 1, 5])
  (.seq (.reg [⟨some 24, .mv (.t 1), none⟩,
    ⟨some 25, .bin .add (.t 24) (.c (.int .i64 1)), none⟩,
    ⟨some 1, .asg (.t 25), none⟩] [0, 1, 5])
  (.reg [⟨some 26, .mv (.t 0), none⟩,
    ⟨some 27, .mv (.t 5), none⟩,
    ⟨some 28, .ia 26 (.t 27) 3, none⟩,
    ⟨some 29, .fa 28 2 2, none⟩,
    ⟨some 30, .ld 29 1 false, none⟩,
    ⟨some 31, .mv (.t 1), none⟩,
    ⟨some 32, .callO 38 [(.t 30), (.t 31)], none⟩,
    ⟨some 1, .asg (.t 32), none⟩] [0, 1, 5])))))))
  (.reg [⟨some 10, .mv (.t 5), none⟩,
    ⟨some 11, .bin .add (.t 10) (.c (.int .i64 1)), none⟩,
    ⟨some 5, .asg (.t 11), none⟩] [0, 1, 5])))))))
  (.seq (.reg [⟨some 33, .mv (.t 1), none⟩,
    ⟨some 4, .asg (.t 33), none⟩] [0, 4])
  (.ret)))
theorem con_laws_markRecordS {v0 : (List XRecord)} {v1 : Int} {r : ((List XRecord) × Int)} (h : sh_laws_markRecordS v0 v1 = some r) : Con Try.prog 52 [(cLo (cXRecord cI cI (cLo cI))).enc v0, cI.enc v1] (outsOf (some (os_laws_markRecordS r))) (rs_laws_markRecordS r) := by
  delta sh_laws_markRecordS at h
  refine top (out := some (os_laws_markRecordS r)) (f := Try.f52) (m := m52) (rs := [.t 4]) (by kernel_rfl) rfl (by kernel_rfl) (by kernel_rfl) (by kernel_rfl) (by kernel_rfl) (by kernel_rfl) ?_
  exact
   ini [(0, .d ((cLo (cXRecord cI cI (cLo cI))).enc v0)), (1, .d (cI.enc v1))] rfl <| wpC_seq <| reg_s <| x_asg (sc cI (0 : Int) rfl) <| seqN [(0, .d ((cLo (cXRecord cI cI (cLo cI))).enc v0)), (1, .d (cI.enc v1))] (by kernel_rfl) <|
    xn <| wpC_seq <| wpC_kp <| wpC_seq <| reg_s <| x_asg (sc cI (0 : Int) rfl) <| seqN [(0, .d ((cLo (cXRecord cI cI (cLo cI))).enc v0)), (1, .d (cI.enc v1)), (5, .d (cI.enc (0 : Int)))] (by kernel_rfl) <|
    xn <| wpC_blk <| lpF (fun (s156 : ((List XRecord) × Int × Int)) => [(0, .d ((cLo (cXRecord cI cI (cLo cI))).enc s156.1)), (1, .d (cI.enc s156.2.1)), (5, .d (cI.enc s156.2.2))]) (v0, v1, (0 : Int)) rfl h
    fun G261 nx259 s156 hn260 h => wpC_seq <| wpC_kp <| wpC_seq <| reg_s <| st rfl <| mvd rfl rfl <| st rfl <| mvo rfl rfl <| stw rfl <| leno rfl fun l266 => st rfl <| b_lss (k := .i64) rfl rfl <| seqN [(0, .d ((cLo (cXRecord cI cI (cLo cI))).enc s156.1)), (1, .d (cI.enc s156.2.1)), (5, .d (cI.enc s156.2.2)), (9, .d (cB.enc (decide (s156.2.2 < (s156.1.length : Int)))))] (by kernel_rfl) <|
    xn <| cnd rfl h (fun b267 h => wpC_skip <| kpN [(0, .d ((cLo (cXRecord cI cI (cLo cI))).enc s156.1)), (1, .d (cI.enc s156.2.1)), (5, .d (cI.enc s156.2.2))] (by kernel_rfl) <| xn <| wpC_seq <| wpC_kp <| wpC_blk <| wpC_seq <| reg_s <| st rfl <| mvo rfl rfl <| st rfl <| mvd rfl rfl <| st rfl <| mvd rfl rfl <| getO_k h fun x292 i293 g294 h => st rfl <| iar rfl rfl rfl rfl i293 g294 rfl <| st rfl <| faa rfl rfl (Gt.idx g294 Gt.nil) rfl rfl rfl <| x_sta ((cLo (cXRecord cI cI (cLo cI))).enc (s156.1.set (s156.2.2).toNat (⟨s156.2.1, x292.House, x292.Values⟩ : XRecord))) (ss rfl rfl) rfl rfl (Ln.idx g294 (Ln.fld rfl rfl Ln.nil rfl)) (Cd.h_sz cI _) rfl <| seqN [(0, .d ((cLo (cXRecord cI cI (cLo cI))).enc (s156.1.set (s156.2.2).toNat (⟨s156.2.1, x292.House, x292.Values⟩ : XRecord)))), (1, .d (cI.enc s156.2.1)), (5, .d (cI.enc s156.2.2))] (by kernel_rfl) <|
    xn <| wpC_seq <| reg_s <| st rfl <| mvd rfl rfl <| ckI_k h fun i296 h => st rfl <| b_add (k := .i64) rfl rfl i296 <| x_asg (ss rfl rfl) <| seqN [(0, .d ((cLo (cXRecord cI cI (cLo cI))).enc (s156.1.set (s156.2.2).toNat (⟨s156.2.1, x292.House, x292.Values⟩ : XRecord)))), (1, .d (cI.enc (s156.2.1 + (1 : Int)))), (5, .d (cI.enc s156.2.2))] (by kernel_rfl) <|
    xn <| wpC_seq <| reg_s <| st rfl <| mvo rfl rfl <| st rfl <| mvd rfl rfl <| st rfl <| mvd rfl rfl <| getO_k h fun x300 i301 g302 h => st rfl <| iar rfl rfl rfl rfl i301 g302 rfl <| st rfl <| faa rfl rfl (Gt.idx g302 Gt.nil) rfl rfl rfl <| x_sta ((cLo (cXRecord cI cI (cLo cI))).enc ((s156.1.set (s156.2.2).toNat (⟨s156.2.1, x292.House, x292.Values⟩ : XRecord)).set (s156.2.2).toNat (⟨x300.Area, (s156.2.1 + (1 : Int)), x300.Values⟩ : XRecord))) (ss rfl rfl) rfl rfl (Ln.idx g302 (Ln.fld rfl rfl Ln.nil rfl)) (Cd.h_sz cI _) rfl <| seqN [(0, .d ((cLo (cXRecord cI cI (cLo cI))).enc ((s156.1.set (s156.2.2).toNat (⟨s156.2.1, x292.House, x292.Values⟩ : XRecord)).set (s156.2.2).toNat (⟨x300.Area, (s156.2.1 + (1 : Int)), x300.Values⟩ : XRecord)))), (1, .d (cI.enc (s156.2.1 + (1 : Int)))), (5, .d (cI.enc s156.2.2))] (by kernel_rfl) <|
    xn <| wpC_seq <| reg_s <| st rfl <| mvd rfl rfl <| ckI_k h fun i304 h => st rfl <| b_add (k := .i64) rfl rfl i304 <| x_asg (ss rfl rfl) <| seqN [(0, .d ((cLo (cXRecord cI cI (cLo cI))).enc ((s156.1.set (s156.2.2).toNat (⟨s156.2.1, x292.House, x292.Values⟩ : XRecord)).set (s156.2.2).toNat (⟨x300.Area, (s156.2.1 + (1 : Int)), x300.Values⟩ : XRecord)))), (1, .d (cI.enc ((s156.2.1 + (1 : Int)) + (1 : Int)))), (5, .d (cI.enc s156.2.2))] (by kernel_rfl) <|
    xn <| reg_s <| st rfl <| mvo rfl rfl <| st rfl <| mvd rfl rfl <| getO_k h fun x305 i306 g307 h => st rfl <| iar rfl rfl rfl rfl i306 g307 rfl <| st rfl <| faa rfl rfl (Gt.idx g307 Gt.nil) rfl rfl rfl <| st rfl <| ldao rfl rfl (Gt.idx g307 (Gt.fld rfl rfl Gt.nil)) rfl rfl rfl <| st rfl <| mvd rfl rfl <| bnd h fun x308 e309 h => x_clr (c := (cLo cI)) (c' := (cLo cI)) ((cLo (cXRecord cI cI (cLo cI))).enc (((s156.1.set (s156.2.2).toNat (⟨s156.2.1, x292.House, x292.Values⟩ : XRecord)).set (s156.2.2).toNat (⟨x300.Area, (s156.2.1 + (1 : Int)), x300.Values⟩ : XRecord)).set (s156.2.2).toNat (⟨x305.Area, x305.House, x308.1⟩ : XRecord))) (sLo sK) rfl (a1 (c := cI) tK rfl a0) rfl (Ln.idx g307 (Ln.fld rfl rfl Ln.nil rfl)) (con_laws_markIntS e309) rfl rfl (so1 sK so0) <| x_asg (ss rfl rfl) <| seqN [(0, .d ((cLo (cXRecord cI cI (cLo cI))).enc (((s156.1.set (s156.2.2).toNat (⟨s156.2.1, x292.House, x292.Values⟩ : XRecord)).set (s156.2.2).toNat (⟨x300.Area, (s156.2.1 + (1 : Int)), x300.Values⟩ : XRecord)).set (s156.2.2).toNat (⟨x305.Area, x305.House, x308.1⟩ : XRecord)))), (1, .d (cI.enc x308.2)), (5, .d (cI.enc s156.2.2))] (by kernel_rfl) <|
    xbb <| kpN [(0, .d ((cLo (cXRecord cI cI (cLo cI))).enc (((s156.1.set (s156.2.2).toNat (⟨s156.2.1, x292.House, x292.Values⟩ : XRecord)).set (s156.2.2).toNat (⟨x300.Area, (s156.2.1 + (1 : Int)), x300.Values⟩ : XRecord)).set (s156.2.2).toNat (⟨x305.Area, x305.House, x308.1⟩ : XRecord)))), (1, .d (cI.enc x308.2)), (5, .d (cI.enc s156.2.2))] (by kernel_rfl) <| xn <| reg_s <| st rfl <| mvd rfl rfl <| ckI_k h fun i310 h => st rfl <| b_add (k := .i64) rfl rfl i310 <| x_asg (ss rfl rfl) <| seqN [(0, .d ((cLo (cXRecord cI cI (cLo cI))).enc (((s156.1.set (s156.2.2).toNat (⟨s156.2.1, x292.House, x292.Values⟩ : XRecord)).set (s156.2.2).toNat (⟨x300.Area, (s156.2.1 + (1 : Int)), x300.Values⟩ : XRecord)).set (s156.2.2).toNat (⟨x305.Area, x305.House, x308.1⟩ : XRecord)))), (1, .d (cI.enc x308.2)), (5, .d (cI.enc (s156.2.2 + (1 : Int))))] (by kernel_rfl) <|
    xn <| hn260 ((((s156.1.set (s156.2.2).toNat (⟨s156.2.1, x292.House, x292.Values⟩ : XRecord)).set (s156.2.2).toNat (⟨x300.Area, (s156.2.1 + (1 : Int)), x300.Values⟩ : XRecord)).set (s156.2.2).toNat (⟨x305.Area, x305.House, x308.1⟩ : XRecord)), x308.2, (s156.2.2 + (1 : Int))) h)
    (fun b267 h => wpC_exit <| xt <| xt <| xt <| xb <| kpN [(0, .d ((cLo (cXRecord cI cI (cLo cI))).enc s156.1)), (1, .d (cI.enc s156.2.1))] (by kernel_rfl) <| xn <| wpC_seq <| reg_s <| st rfl <| mvd rfl rfl <| x_asg (ss rfl rfl) <| seqN [(0, .d ((cLo (cXRecord cI cI (cLo cI))).enc s156.1)), (4, .d (cI.enc s156.2.1))] (by kernel_rfl) <|
    xn <| wpC_ret <| re <| finO h (r1 (ss rfl rfl) <| r0) rfl rfl)
def rs_laws_FnExactFailureCounts (r : Bool) : List D := [cB.enc r]
def m11 : MC := .seq (.reg [⟨some 6, .asg (.c (.bool false)), none⟩] [0, 1, 2])
  (.seq (.reg [⟨some 7, .asg (.c (.int .i64 1048576)), none⟩] [0, 1, 2, 7])
  (.seq (.reg [⟨some 20, .mv (.t 0), none⟩,
    ⟨some 21, .mv (.t 7), none⟩,
    ⟨some 22, .call 14 [(.t 20), (.t 21)], none⟩,
    ⟨some 7, .asg (.t 22), none⟩] [0, 1, 2, 7])
  (.seq (.kp [0, 1, 2, 7] (.seq (.reg [⟨some 23, .mv (.t 7), none⟩,
    ⟨some 24, .bin .lss (.t 23) (.c (.int .i64 0)), none⟩] [0, 1, 2, 7, 24])
  (.cond (.t 24) (.seq (.reg [⟨some 6, .asg (.c (.bool true)), none⟩] [6])
  (.ret)) (.skip))))
  (.seq (.reg [⟨some 25, .mv (.t 1), none⟩,
    ⟨some 26, .mv (.t 7), none⟩,
    ⟨some 27, .call 25 [(.t 25), (.t 26)], none⟩,
    ⟨some 7, .asg (.t 27), none⟩] [0, 1, 2, 7])
  (.seq (.kp [0, 1, 2, 7] (.seq (.reg [⟨some 28, .mv (.t 7), none⟩,
    ⟨some 29, .bin .lss (.t 28) (.c (.int .i64 0)), none⟩] [0, 1, 2, 7, 29])
  (.cond (.t 29) (.seq (.reg [⟨some 6, .asg (.c (.bool true)), none⟩] [6])
  (.ret)) (.skip))))
  (.seq (.reg [⟨some 30, .mv (.t 2), none⟩,
    ⟨some 31, .mv (.t 7), none⟩,
    ⟨some 32, .call 47 [(.t 30), (.t 31)], none⟩,
    ⟨some 7, .asg (.t 32), none⟩] [0, 1, 2, 7])
  (.seq (.kp [0, 1, 2] (.seq (.reg [⟨some 33, .mv (.t 7), none⟩,
    ⟨some 34, .bin .lss (.t 33) (.c (.int .i64 0)), none⟩] [0, 1, 2, 34])
  (.cond (.t 34) (.seq (.reg [⟨some 6, .asg (.c (.bool true)), none⟩] [6])
  (.ret)) (.skip))))
  (.seq (.reg [⟨some 36, .mv (.t 0), none⟩,
    ⟨some 37, .call 17 [(.t 36)], none⟩,
    ⟨some 38, .mv (.t 1), none⟩,
    ⟨some 39, .call 27 [(.t 38)], none⟩,
    ⟨some 40, .mv (.t 2), none⟩,
    ⟨some 41, .call 49 [(.t 40)], none⟩,
    ⟨some 42, .call 48 [(.t 37), (.t 39), (.t 41)], none⟩,
    ⟨some 35, .mvt 42, none⟩,
    ⟨some 43, .ext 35 0, none⟩,
    ⟨some 44, .ext 35 1, none⟩,
    ⟨some 8, .asg (.t 43), none⟩,
    ⟨some 9, .asg (.t 44), none⟩] [0, 1, 2, 8, 9])
  (.seq (.reg [⟨some 45, .mv (.t 0), none⟩,
    ⟨some 46, .call 17 [(.t 45)], none⟩,
    ⟨some 10, .asg (.t 46), none⟩] [0, 1, 2, 8, 9, 10])
  (.seq (.reg [⟨some 47, .mv (.t 1), none⟩,
    ⟨some 48, .call 27 [(.t 47)], none⟩,
    ⟨some 11, .asg (.t 48), none⟩] [0, 1, 2, 8, 9, 10, 11])
  (.seq (.reg [⟨some 49, .mv (.t 2), none⟩,
    ⟨some 50, .call 49 [(.t 49)], none⟩,
    ⟨some 12, .asg (.t 50), none⟩] [0, 1, 2, 8, 9, 10, 11, 12])
  (.seq (.reg [⟨some 52, .mv (.t 10), none⟩,
    ⟨some 53, .mv (.t 11), none⟩,
    ⟨some 54, .mv (.t 12), none⟩,
    ⟨some 55, .call 50 [(.t 52), (.t 53), (.t 54)], none⟩,
    ⟨some 51, .mvt 55, none⟩,
    ⟨some 56, .ext 51 0, none⟩,
    ⟨some 57, .ext 51 1, none⟩,
    ⟨some 13, .asg (.t 56), none⟩,
    ⟨some 14, .asg (.t 57), none⟩] [0, 1, 2, 8, 9, 10, 11, 12, 13, 14])
  (.seq (.kp [0, 1, 2, 8, 9, 10, 11, 12, 13, 14] (.seq (.reg [⟨some 58, .mv (.t 13), none⟩,
    ⟨some 59, .mv (.t 8), none⟩,
    ⟨some 60, .call 36 [(.t 58), (.t 59)], none⟩,
    ⟨some 61, .nt (.t 60), none⟩,
    ⟨some 62, .mv (.t 61), none⟩,
    ⟨some 63, .mv (.t 14), some (62, false)⟩,
    ⟨some 64, .mv (.t 9), some (62, false)⟩,
    ⟨some 65, .eqb true (.t 63) (.t 64), some (62, false)⟩,
    ⟨some 66, .pick (.t 62) (.c (.bool true)) (.t 65), none⟩] [0, 1, 2, 8, 9, 10, 11, 12, 13, 14, 66])
  (.cond (.t 66) (.seq (.reg [⟨some 6, .asg (.c (.bool false)), none⟩] [6])
  (.ret)) (.skip))))
  (.seq (.kp [0, 1, 2, 8, 9, 10, 11, 12, 13, 14] (.seq (.reg [⟨some 67, .mv (.t 10), none⟩,
    ⟨some 68, .mv (.t 0), none⟩,
    ⟨some 69, .call 17 [(.t 68)], none⟩,
    ⟨some 70, .call 21 [(.t 67), (.t 69)], none⟩,
    ⟨some 71, .nt (.t 70), none⟩] [0, 1, 2, 8, 9, 10, 11, 12, 13, 14, 71])
  (.cond (.t 71) (.seq (.reg [⟨some 6, .asg (.c (.bool false)), none⟩] [6])
  (.ret)) (.skip))))
  (.seq (.kp [0, 1, 2, 8, 9, 10, 11, 12, 13, 14] (.seq (.reg [⟨some 72, .mv (.t 11), none⟩,
    ⟨some 73, .mv (.t 1), none⟩,
    ⟨some 74, .call 27 [(.t 73)], none⟩,
    ⟨some 75, .call 29 [(.t 72), (.t 74)], none⟩,
    ⟨some 76, .nt (.t 75), none⟩] [0, 1, 2, 8, 9, 10, 11, 12, 13, 14, 76])
  (.cond (.t 76) (.seq (.reg [⟨some 6, .asg (.c (.bool false)), none⟩] [6])
  (.ret)) (.skip))))
  (.seq (.kp [0, 1, 2, 8, 9, 10, 11, 12, 13, 14] (.seq (.reg [⟨some 77, .mv (.t 12), none⟩,
    ⟨some 78, .mv (.t 2), none⟩,
    ⟨some 79, .call 49 [(.t 78)], none⟩,
    ⟨some 80, .call 51 [(.t 77), (.t 79)], none⟩,
    ⟨some 81, .nt (.t 80), none⟩] [0, 1, 2, 8, 9, 10, 11, 12, 13, 14, 81])
  (.cond (.t 81) (.seq (.reg [⟨some 6, .asg (.c (.bool false)), none⟩] [6])
  (.ret)) (.skip))))
  (.seq (.reg [⟨some 15, .asg (.c (.int .i64 1)), none⟩] [0, 1, 2, 8, 9, 10, 11, 12, 13, 14, 15])
  (.seq (.reg [⟨some 82, .mv (.t 10), none⟩,
    ⟨some 83, .mv (.t 15), none⟩,
    ⟨some 84, .callO 22 [(.t 82), (.t 83)], none⟩,
    ⟨some 15, .asg (.t 84), none⟩] [0, 1, 2, 8, 9, 11, 12, 13, 14, 15])
  (.seq (.reg [⟨some 85, .mv (.t 11), none⟩,
    ⟨some 86, .mv (.t 15), none⟩,
    ⟨some 87, .callO 37 [(.t 85), (.t 86)], none⟩,
    ⟨some 15, .asg (.t 87), none⟩] [0, 1, 2, 8, 9, 12, 13, 14, 15])
  (.seq (.reg [⟨some 88, .mv (.t 12), none⟩,
    ⟨some 89, .mv (.t 15), none⟩,
    ⟨some 90, .callO 52 [(.t 88), (.t 89)], none⟩,
    ⟨some 15, .asg (.t 90), none⟩] [0, 1, 2, 8, 9, 13, 14, 15])
  (.seq (.kp [0, 1, 2, 8, 9, 13] (.seq (.reg [⟨some 91, .mv (.t 15), none⟩,
    ⟨some 92, .bin .lss (.t 91) (.c (.int .i64 0)), none⟩,
    ⟨some 93, .mv (.t 92), none⟩,
    ⟨some 94, .mv (.t 13), some (93, false)⟩,
    ⟨some 95, .mv (.t 8), some (93, false)⟩,
    ⟨some 96, .call 36 [(.t 94), (.t 95)], some (93, false)⟩,
    ⟨some 97, .nt (.t 96), some (93, false)⟩,
    ⟨some 98, .pick (.t 93) (.c (.bool true)) (.t 97), none⟩,
    ⟨some 99, .mv (.t 98), none⟩,
    ⟨some 100, .mv (.t 14), some (99, false)⟩,
    ⟨some 101, .mv (.t 9), some (99, false)⟩,
    ⟨some 102, .eqb true (.t 100) (.t 101), some (99, false)⟩,
    ⟨some 103, .pick (.t 99) (.c (.bool true)) (.t 102), none⟩] [0, 1, 2, 8, 9, 13, 103])
  (.cond (.t 103) (.seq (.reg [⟨some 6, .asg (.c (.bool false)), none⟩] [6])
  (.ret)) (.skip))))
  (.seq (.reg [⟨some 16, .asg (.c (.int .i64 1)), none⟩] [0, 1, 2, 8, 9, 13, 16])
  (.seq (.reg [⟨some 104, .mv (.t 13), none⟩,
    ⟨some 105, .mv (.t 16), none⟩,
    ⟨some 106, .callO 38 [(.t 104), (.t 105)], none⟩,
    ⟨some 16, .asg (.t 106), none⟩] [0, 1, 2, 8, 9, 13, 16])
  (.seq (.reg [⟨some 17, .asg (.c (.int .i64 1)), none⟩] [0, 1, 2, 8, 9, 13, 16, 17])
  (.seq (.reg [⟨some 107, .mv (.t 13), none⟩,
    ⟨some 108, .mv (.t 17), none⟩,
    ⟨some 109, .call 39 [(.t 107), (.t 108)], none⟩,
    ⟨some 17, .asg (.t 109), none⟩] [0, 1, 2, 8, 9, 13, 16, 17])
  (.seq (.kp [0, 1, 2, 8, 9, 13, 16, 17] (.seq (.reg [⟨some 110, .mv (.t 17), none⟩,
    ⟨some 111, .bin .lss (.t 110) (.c (.int .i64 0)), none⟩] [0, 1, 2, 8, 9, 13, 16, 17, 111])
  (.cond (.t 111) (.seq (.reg [⟨some 6, .asg (.c (.bool false)), none⟩] [6])
  (.ret)) (.skip))))
  (.seq (.kp [0, 1, 2, 8, 9, 13, 16] (.seq (.reg [⟨some 112, .mv (.t 17), none⟩,
    ⟨some 113, .mv (.t 16), none⟩,
    ⟨some 114, .bin .neq (.t 112) (.t 113), none⟩] [0, 1, 2, 8, 9, 13, 16, 114])
  (.cond (.t 114) (.seq (.reg [⟨some 6, .asg (.c (.bool false)), none⟩] [6])
  (.ret)) (.skip))))
  (.seq (.reg [⟨some 116, .mv (.t 0), none⟩,
    ⟨some 117, .call 17 [(.t 116)], none⟩,
    ⟨some 118, .mv (.t 1), none⟩,
    ⟨some 119, .call 27 [(.t 118)], none⟩,
    ⟨some 120, .mv (.t 2), none⟩,
    ⟨some 121, .call 49 [(.t 120)], none⟩,
    ⟨some 122, .call 50 [(.t 117), (.t 119), (.t 121)], none⟩,
    ⟨some 115, .mvt 122, none⟩,
    ⟨some 123, .ext 115 0, none⟩,
    ⟨some 124, .ext 115 1, none⟩,
    ⟨some 18, .asg (.t 123), none⟩,
    ⟨some 19, .asg (.t 124), none⟩] [8, 9, 13, 16, 18, 19])
  (.seq (.kp [13, 16] (.seq (.reg [⟨some 125, .mv (.t 18), none⟩,
    ⟨some 126, .mv (.t 8), none⟩,
    ⟨some 127, .call 36 [(.t 125), (.t 126)], none⟩,
    ⟨some 128, .nt (.t 127), none⟩,
    ⟨some 129, .mv (.t 128), none⟩,
    ⟨some 130, .mv (.t 19), some (129, false)⟩,
    ⟨some 131, .mv (.t 9), some (129, false)⟩,
    ⟨some 132, .eqb true (.t 130) (.t 131), some (129, false)⟩,
    ⟨some 133, .pick (.t 129) (.c (.bool true)) (.t 132), none⟩] [13, 16, 133])
  (.cond (.t 133) (.seq (.reg [⟨some 6, .asg (.c (.bool false)), none⟩] [6])
  (.ret)) (.skip))))
  (.seq (.reg [⟨some 17, .asg (.c (.int .i64 1)), none⟩] [13, 16, 17])
  (.seq (.reg [⟨some 134, .mv (.t 13), none⟩,
    ⟨some 135, .mv (.t 17), none⟩,
    ⟨some 136, .call 39 [(.t 134), (.t 135)], none⟩,
    ⟨some 17, .asg (.t 136), none⟩] [16, 17])
  (.seq (.kp [16, 17] (.seq (.reg [⟨some 137, .mv (.t 17), none⟩,
    ⟨some 138, .bin .lss (.t 137) (.c (.int .i64 0)), none⟩] [16, 17, 138])
  (.cond (.t 138) (.seq (.reg [⟨some 6, .asg (.c (.bool false)), none⟩] [6])
  (.ret)) (.skip))))
  (.seq (.kp [] (.seq (.reg [⟨some 139, .mv (.t 17), none⟩,
    ⟨some 140, .mv (.t 16), none⟩,
    ⟨some 141, .bin .neq (.t 139) (.t 140), none⟩] [141])
  (.cond (.t 141) (.seq (.reg [⟨some 6, .asg (.c (.bool false)), none⟩] [6])
  (.ret)) (.skip))))
  (.seq (.reg [⟨some 6, .asg (.c (.bool true)), none⟩] [6])
  (.ret)))))))))))))))))))))))))))))))))))
theorem con_laws_FnExactFailureCounts {v0 : (List XVariable)} {v1 : (List XEdit)} {v2 : (List XRecord)} {r : Bool} (h : sh_laws_FnExactFailureCounts v0 v1 v2 = some r) : Con Try.prog 11 [(cLs (cXVariable cS cI) rfl).enc v0, (cLs (cXEdit (cLs cI rfl)) rfl).enc v1, (cLs (cXRecord cI cI (cLs cI rfl)) rfl).enc v2] [] (rs_laws_FnExactFailureCounts r) := by
  delta sh_laws_FnExactFailureCounts at h
  refine top (out := none) (f := Try.f11) (m := m11) (rs := [.t 6]) (by kernel_rfl) rfl (by kernel_rfl) (by kernel_rfl) (by kernel_rfl) (by kernel_rfl) (by kernel_rfl) ?_
  exact
   ini [(0, .d ((cLs (cXVariable cS cI) rfl).enc v0)), (1, .d ((cLs (cXEdit (cLs cI rfl)) rfl).enc v1)), (2, .d ((cLs (cXRecord cI cI (cLs cI rfl)) rfl).enc v2))] rfl <| wpC_seq <| reg_s <| x_asg (sc cB false rfl) <| seqN [(0, .d ((cLs (cXVariable cS cI) rfl).enc v0)), (1, .d ((cLs (cXEdit (cLs cI rfl)) rfl).enc v1)), (2, .d ((cLs (cXRecord cI cI (cLs cI rfl)) rfl).enc v2))] (by kernel_rfl) <|
    xn <| wpC_seq <| reg_s <| x_asg (sc cI (1048576 : Int) rfl) <| seqN [(0, .d ((cLs (cXVariable cS cI) rfl).enc v0)), (1, .d ((cLs (cXEdit (cLs cI rfl)) rfl).enc v1)), (2, .d ((cLs (cXRecord cI cI (cLs cI rfl)) rfl).enc v2)), (7, .d (cI.enc (1048576 : Int)))] (by kernel_rfl) <|
    xn <| wpC_seq <| reg_s <| st rfl <| mvd rfl rfl <| st rfl <| mvd rfl rfl <| bnd h fun x3 e4 h => st rfl <| o_call (a1 (c := (cLs (cXVariable cS cI) rfl)) (tLs (tXVariable tS tK)) rfl (a1 (c := cI) tK rfl a0)) (con_laws_szVariableS e4) (.inl (so1 sK so0)) <| x_asg (ss rfl rfl) <| seqN [(0, .d ((cLs (cXVariable cS cI) rfl).enc v0)), (1, .d ((cLs (cXEdit (cLs cI rfl)) rfl).enc v1)), (2, .d ((cLs (cXRecord cI cI (cLs cI rfl)) rfl).enc v2)), (7, .d (cI.enc x3))] (by kernel_rfl) <|
    xn <| wpC_seq <| wpC_kp <| wpC_seq <| reg_s <| st rfl <| mvd rfl rfl <| st rfl <| b_lss (k := .i64) rfl rfl <| seqN [(0, .d ((cLs (cXVariable cS cI) rfl).enc v0)), (1, .d ((cLs (cXEdit (cLs cI rfl)) rfl).enc v1)), (2, .d ((cLs (cXRecord cI cI (cLs cI rfl)) rfl).enc v2)), (7, .d (cI.enc x3)), (24, .d (cB.enc (decide (x3 < (0 : Int)))))] (by kernel_rfl) <|
    xn <| cnd rfl h (fun b6 h => wpC_seq <| reg_s <| x_asg (sc cB true rfl) <| seqN [(6, .d (cB.enc true))] (by kernel_rfl) <|
    xn <| wpC_ret <| rt <| rt <| re <| fin h (r1 (ss rfl rfl) <| r0) rfl)
    (fun b6 h => wpC_skip <| kpN [(0, .d ((cLs (cXVariable cS cI) rfl).enc v0)), (1, .d ((cLs (cXEdit (cLs cI rfl)) rfl).enc v1)), (2, .d ((cLs (cXRecord cI cI (cLs cI rfl)) rfl).enc v2)), (7, .d (cI.enc x3))] (by kernel_rfl) <| xn <| wpC_seq <| reg_s <| st rfl <| mvd rfl rfl <| st rfl <| mvd rfl rfl <| bnd h fun x9 e10 h => st rfl <| o_call (a1 (c := (cLs (cXEdit (cLs cI rfl)) rfl)) (tLs (tXEdit (tLs tK))) rfl (a1 (c := cI) tK rfl a0)) (con_laws_szEditS e10) (.inl (so1 sK so0)) <| x_asg (ss rfl rfl) <| seqN [(0, .d ((cLs (cXVariable cS cI) rfl).enc v0)), (1, .d ((cLs (cXEdit (cLs cI rfl)) rfl).enc v1)), (2, .d ((cLs (cXRecord cI cI (cLs cI rfl)) rfl).enc v2)), (7, .d (cI.enc x9))] (by kernel_rfl) <|
    xn <| wpC_seq <| wpC_kp <| wpC_seq <| reg_s <| st rfl <| mvd rfl rfl <| st rfl <| b_lss (k := .i64) rfl rfl <| seqN [(0, .d ((cLs (cXVariable cS cI) rfl).enc v0)), (1, .d ((cLs (cXEdit (cLs cI rfl)) rfl).enc v1)), (2, .d ((cLs (cXRecord cI cI (cLs cI rfl)) rfl).enc v2)), (7, .d (cI.enc x9)), (29, .d (cB.enc (decide (x9 < (0 : Int)))))] (by kernel_rfl) <|
    xn <| cnd rfl h (fun b12 h => wpC_seq <| reg_s <| x_asg (sc cB true rfl) <| seqN [(6, .d (cB.enc true))] (by kernel_rfl) <|
    xn <| wpC_ret <| rt <| rt <| re <| fin h (r1 (ss rfl rfl) <| r0) rfl)
    (fun b12 h => wpC_skip <| kpN [(0, .d ((cLs (cXVariable cS cI) rfl).enc v0)), (1, .d ((cLs (cXEdit (cLs cI rfl)) rfl).enc v1)), (2, .d ((cLs (cXRecord cI cI (cLs cI rfl)) rfl).enc v2)), (7, .d (cI.enc x9))] (by kernel_rfl) <| xn <| wpC_seq <| reg_s <| st rfl <| mvd rfl rfl <| st rfl <| mvd rfl rfl <| bnd h fun x15 e16 h => st rfl <| o_call (a1 (c := (cLs (cXRecord cI cI (cLs cI rfl)) rfl)) (tLs (tXRecord tK tK (tLs tK))) rfl (a1 (c := cI) tK rfl a0)) (con_laws_szRecordS e16) (.inl (so1 sK so0)) <| x_asg (ss rfl rfl) <| seqN [(0, .d ((cLs (cXVariable cS cI) rfl).enc v0)), (1, .d ((cLs (cXEdit (cLs cI rfl)) rfl).enc v1)), (2, .d ((cLs (cXRecord cI cI (cLs cI rfl)) rfl).enc v2)), (7, .d (cI.enc x15))] (by kernel_rfl) <|
    xn <| wpC_seq <| wpC_kp <| wpC_seq <| reg_s <| st rfl <| mvd rfl rfl <| st rfl <| b_lss (k := .i64) rfl rfl <| seqN [(0, .d ((cLs (cXVariable cS cI) rfl).enc v0)), (1, .d ((cLs (cXEdit (cLs cI rfl)) rfl).enc v1)), (2, .d ((cLs (cXRecord cI cI (cLs cI rfl)) rfl).enc v2)), (34, .d (cB.enc (decide (x15 < (0 : Int)))))] (by kernel_rfl) <|
    xn <| cnd rfl h (fun b18 h => wpC_seq <| reg_s <| x_asg (sc cB true rfl) <| seqN [(6, .d (cB.enc true))] (by kernel_rfl) <|
    xn <| wpC_ret <| rt <| rt <| re <| fin h (r1 (ss rfl rfl) <| r0) rfl)
    (fun b18 h => wpC_skip <| kpN [(0, .d ((cLs (cXVariable cS cI) rfl).enc v0)), (1, .d ((cLs (cXEdit (cLs cI rfl)) rfl).enc v1)), (2, .d ((cLs (cXRecord cI cI (cLs cI rfl)) rfl).enc v2))] (by kernel_rfl) <| xn <| wpC_seq <| reg_s <| st rfl <| mvd rfl rfl <| bnd h fun x27 e28 h => st rfl <| o_call (a1 (c := (cLs (cXVariable cS cI) rfl)) (tLs (tXVariable tS tK)) rfl a0) (con_laws_toVariableS e28) (.inl (so1 (sLo (sXVariable sS sK)) so0)) <| st rfl <| mvd rfl rfl <| bnd h fun x29 e30 h => st rfl <| o_call (a1 (c := (cLs (cXEdit (cLs cI rfl)) rfl)) (tLs (tXEdit (tLs tK))) rfl a0) (con_laws_toEditS e30) (.inl (so1 (sLo (sXEdit (sLo sK))) so0)) <| st rfl <| mvd rfl rfl <| bnd h fun x31 e32 h => st rfl <| o_call (a1 (c := (cLs (cXRecord cI cI (cLs cI rfl)) rfl)) (tLs (tXRecord tK tK (tLs tK))) rfl a0) (con_laws_toRecordS e32) (.inl (so1 (sLo (sXRecord sK sK (sLo sK))) so0)) <| bnd h fun x33 e34 h => st rfl <| o_call (a1 (c := (cLo (cXVariable cS cI))) (tLo (tXVariable tS tK)) rfl (a1 (c := (cLo (cXEdit (cLo cI)))) (tLo (tXEdit (tLo tK))) rfl (a1 (c := (cLo (cXRecord cI cI (cLo cI)))) (tLo (tXRecord tK tK (tLo tK))) rfl a0))) (con_spec_FailureCounts e34) (.inl (so1 (sLo sK) (so1 sB so0))) <| x_mvt rfl <| x_ext rfl rfl <| x_ext rfl rfl <| x_asg (so rfl rfl) <| x_asg (ss rfl rfl) <| seqN [(0, .d ((cLs (cXVariable cS cI) rfl).enc v0)), (1, .d ((cLs (cXEdit (cLs cI rfl)) rfl).enc v1)), (2, .d ((cLs (cXRecord cI cI (cLs cI rfl)) rfl).enc v2)), (8, .d ((cLo cI).enc x33.1)), (9, .d (cB.enc x33.2))] (by kernel_rfl) <|
    xn <| wpC_seq <| reg_s <| st rfl <| mvd rfl rfl <| bnd h fun x37 e38 h => st rfl <| o_call (a1 (c := (cLs (cXVariable cS cI) rfl)) (tLs (tXVariable tS tK)) rfl a0) (con_laws_toVariableS e38) (.inl (so1 (sLo (sXVariable sS sK)) so0)) <| x_asg (so rfl rfl) <| seqN [(0, .d ((cLs (cXVariable cS cI) rfl).enc v0)), (1, .d ((cLs (cXEdit (cLs cI rfl)) rfl).enc v1)), (2, .d ((cLs (cXRecord cI cI (cLs cI rfl)) rfl).enc v2)), (8, .d ((cLo cI).enc x33.1)), (9, .d (cB.enc x33.2)), (10, .d ((cLo (cXVariable cS cI)).enc x37))] (by kernel_rfl) <|
    xn <| wpC_seq <| reg_s <| st rfl <| mvd rfl rfl <| bnd h fun x41 e42 h => st rfl <| o_call (a1 (c := (cLs (cXEdit (cLs cI rfl)) rfl)) (tLs (tXEdit (tLs tK))) rfl a0) (con_laws_toEditS e42) (.inl (so1 (sLo (sXEdit (sLo sK))) so0)) <| x_asg (so rfl rfl) <| seqN [(0, .d ((cLs (cXVariable cS cI) rfl).enc v0)), (1, .d ((cLs (cXEdit (cLs cI rfl)) rfl).enc v1)), (2, .d ((cLs (cXRecord cI cI (cLs cI rfl)) rfl).enc v2)), (8, .d ((cLo cI).enc x33.1)), (9, .d (cB.enc x33.2)), (10, .d ((cLo (cXVariable cS cI)).enc x37)), (11, .d ((cLo (cXEdit (cLo cI))).enc x41))] (by kernel_rfl) <|
    xn <| wpC_seq <| reg_s <| st rfl <| mvd rfl rfl <| bnd h fun x45 e46 h => st rfl <| o_call (a1 (c := (cLs (cXRecord cI cI (cLs cI rfl)) rfl)) (tLs (tXRecord tK tK (tLs tK))) rfl a0) (con_laws_toRecordS e46) (.inl (so1 (sLo (sXRecord sK sK (sLo sK))) so0)) <| x_asg (so rfl rfl) <| seqN [(0, .d ((cLs (cXVariable cS cI) rfl).enc v0)), (1, .d ((cLs (cXEdit (cLs cI rfl)) rfl).enc v1)), (2, .d ((cLs (cXRecord cI cI (cLs cI rfl)) rfl).enc v2)), (8, .d ((cLo cI).enc x33.1)), (9, .d (cB.enc x33.2)), (10, .d ((cLo (cXVariable cS cI)).enc x37)), (11, .d ((cLo (cXEdit (cLo cI))).enc x41)), (12, .d ((cLo (cXRecord cI cI (cLo cI))).enc x45))] (by kernel_rfl) <|
    xn <| wpC_seq <| reg_s <| st rfl <| mvo rfl rfl <| st rfl <| mvo rfl rfl <| st rfl <| mvo rfl rfl <| bnd h fun x49 e50 h => st rfl <| o_call (a1 (c := (cLo (cXVariable cS cI))) (tLo (tXVariable tS tK)) rfl (a1 (c := (cLo (cXEdit (cLo cI)))) (tLo (tXEdit (tLo tK))) rfl (a1 (c := (cLo (cXRecord cI cI (cLo cI)))) (tLo (tXRecord tK tK (tLo tK))) rfl a0))) (con_impl_FailureCounts e50) (.inl (so1 (sLo sK) (so1 sB so0))) <| x_mvt rfl <| x_ext rfl rfl <| x_ext rfl rfl <| x_asg (so rfl rfl) <| x_asg (ss rfl rfl) <| seqN [(0, .d ((cLs (cXVariable cS cI) rfl).enc v0)), (1, .d ((cLs (cXEdit (cLs cI rfl)) rfl).enc v1)), (2, .d ((cLs (cXRecord cI cI (cLs cI rfl)) rfl).enc v2)), (8, .d ((cLo cI).enc x33.1)), (9, .d (cB.enc x33.2)), (10, .d ((cLo (cXVariable cS cI)).enc x37)), (11, .d ((cLo (cXEdit (cLo cI))).enc x41)), (12, .d ((cLo (cXRecord cI cI (cLo cI))).enc x45)), (13, .d ((cLo cI).enc x49.1)), (14, .d (cB.enc x49.2))] (by kernel_rfl) <|
    xn <| wpC_seq <| wpC_kp <| wpC_seq <| reg_s <| st rfl <| mvo rfl rfl <| st rfl <| mvo rfl rfl <| bnd h fun x61 e62 h => st rfl <| o_call (a1 (c := (cLo cI)) (tLo tK) rfl (a1 (c := (cLo cI)) (tLo tK) rfl a0)) (con_laws_eqIntS e62) (.inl (so1 sB so0)) <| st rfl <| o_nt rfl <| st rfl <| mvd rfl rfl <| ite_k h (fun b63 h => gf rfl b63 <| gf rfl b63 <| gf rfl b63 <| st rfl <| pick1 rfl b63 (cd := cB) (v := true) rfl rfl <| seqN [(0, .d ((cLs (cXVariable cS cI) rfl).enc v0)), (1, .d ((cLs (cXEdit (cLs cI rfl)) rfl).enc v1)), (2, .d ((cLs (cXRecord cI cI (cLs cI rfl)) rfl).enc v2)), (8, .d ((cLo cI).enc x33.1)), (9, .d (cB.enc x33.2)), (10, .d ((cLo (cXVariable cS cI)).enc x37)), (11, .d ((cLo (cXEdit (cLo cI))).enc x41)), (12, .d ((cLo (cXRecord cI cI (cLo cI))).enc x45)), (13, .d ((cLo cI).enc x49.1)), (14, .d (cB.enc x49.2)), (66, .d (cB.enc true))] (by kernel_rfl) <|
    xn <| cnd1 rfl rfl <| wpC_seq <| reg_s <| x_asg (sc cB false rfl) <| seqN [(6, .d (cB.enc false))] (by kernel_rfl) <|
    xn <| wpC_ret <| rt <| rt <| re <| fin h (r1 (ss rfl rfl) <| r0) rfl)
    (fun b63 h => gt' rfl b63 <| st rfl <| mvd rfl rfl <| gt' rfl b63 <| st rfl <| mvd rfl rfl <| gt' rfl b63 <| st rfl <| eqb1 rfl rfl <| st rfl <| pick0 rfl b63 (cd := cB) (v := (x49.2 != x33.2)) rfl rfl <| seqN [(0, .d ((cLs (cXVariable cS cI) rfl).enc v0)), (1, .d ((cLs (cXEdit (cLs cI rfl)) rfl).enc v1)), (2, .d ((cLs (cXRecord cI cI (cLs cI rfl)) rfl).enc v2)), (8, .d ((cLo cI).enc x33.1)), (9, .d (cB.enc x33.2)), (10, .d ((cLo (cXVariable cS cI)).enc x37)), (11, .d ((cLo (cXEdit (cLo cI))).enc x41)), (12, .d ((cLo (cXRecord cI cI (cLo cI))).enc x45)), (13, .d ((cLo cI).enc x49.1)), (14, .d (cB.enc x49.2)), (66, .d (cB.enc (x49.2 != x33.2)))] (by kernel_rfl) <|
    xn <| cnd rfl h (fun b64 h => wpC_seq <| reg_s <| x_asg (sc cB false rfl) <| seqN [(6, .d (cB.enc false))] (by kernel_rfl) <|
    xn <| wpC_ret <| rt <| rt <| re <| fin h (r1 (ss rfl rfl) <| r0) rfl)
    (fun b64 h => wpC_skip <| kpN [(0, .d ((cLs (cXVariable cS cI) rfl).enc v0)), (1, .d ((cLs (cXEdit (cLs cI rfl)) rfl).enc v1)), (2, .d ((cLs (cXRecord cI cI (cLs cI rfl)) rfl).enc v2)), (8, .d ((cLo cI).enc x33.1)), (9, .d (cB.enc x33.2)), (10, .d ((cLo (cXVariable cS cI)).enc x37)), (11, .d ((cLo (cXEdit (cLo cI))).enc x41)), (12, .d ((cLo (cXRecord cI cI (cLo cI))).enc x45)), (13, .d ((cLo cI).enc x49.1)), (14, .d (cB.enc x49.2))] (by kernel_rfl) <| xn <| wpC_seq <| wpC_kp <| wpC_seq <| reg_s <| st rfl <| mvo rfl rfl <| st rfl <| mvd rfl rfl <| bnd h fun x78 e79 h => st rfl <| o_call (a1 (c := (cLs (cXVariable cS cI) rfl)) (tLs (tXVariable tS tK)) rfl a0) (con_laws_toVariableS e79) (.inl (so1 (sLo (sXVariable sS sK)) so0)) <| bnd h fun x80 e81 h => st rfl <| o_call (a1 (c := (cLo (cXVariable cS cI))) (tLo (tXVariable tS tK)) rfl (a1 (c := (cLo (cXVariable cS cI))) (tLo (tXVariable tS tK)) rfl a0)) (con_laws_eqVariableS e81) (.inl (so1 sB so0)) <| st rfl <| o_nt rfl <| seqN [(0, .d ((cLs (cXVariable cS cI) rfl).enc v0)), (1, .d ((cLs (cXEdit (cLs cI rfl)) rfl).enc v1)), (2, .d ((cLs (cXRecord cI cI (cLs cI rfl)) rfl).enc v2)), (8, .d ((cLo cI).enc x33.1)), (9, .d (cB.enc x33.2)), (10, .d ((cLo (cXVariable cS cI)).enc x37)), (11, .d ((cLo (cXEdit (cLo cI))).enc x41)), (12, .d ((cLo (cXRecord cI cI (cLo cI))).enc x45)), (13, .d ((cLo cI).enc x49.1)), (14, .d (cB.enc x49.2)), (71, .d (cB.enc (!x80)))] (by kernel_rfl) <|
    xn <| cnd rfl h (fun b82 h => wpC_seq <| reg_s <| x_asg (sc cB false rfl) <| seqN [(6, .d (cB.enc false))] (by kernel_rfl) <|
    xn <| wpC_ret <| rt <| rt <| re <| fin h (r1 (ss rfl rfl) <| r0) rfl)
    (fun b82 h => wpC_skip <| kpN [(0, .d ((cLs (cXVariable cS cI) rfl).enc v0)), (1, .d ((cLs (cXEdit (cLs cI rfl)) rfl).enc v1)), (2, .d ((cLs (cXRecord cI cI (cLs cI rfl)) rfl).enc v2)), (8, .d ((cLo cI).enc x33.1)), (9, .d (cB.enc x33.2)), (10, .d ((cLo (cXVariable cS cI)).enc x37)), (11, .d ((cLo (cXEdit (cLo cI))).enc x41)), (12, .d ((cLo (cXRecord cI cI (cLo cI))).enc x45)), (13, .d ((cLo cI).enc x49.1)), (14, .d (cB.enc x49.2))] (by kernel_rfl) <| xn <| wpC_seq <| wpC_kp <| wpC_seq <| reg_s <| st rfl <| mvo rfl rfl <| st rfl <| mvd rfl rfl <| bnd h fun x96 e97 h => st rfl <| o_call (a1 (c := (cLs (cXEdit (cLs cI rfl)) rfl)) (tLs (tXEdit (tLs tK))) rfl a0) (con_laws_toEditS e97) (.inl (so1 (sLo (sXEdit (sLo sK))) so0)) <| bnd h fun x98 e99 h => st rfl <| o_call (a1 (c := (cLo (cXEdit (cLo cI)))) (tLo (tXEdit (tLo tK))) rfl (a1 (c := (cLo (cXEdit (cLo cI)))) (tLo (tXEdit (tLo tK))) rfl a0)) (con_laws_eqEditS e99) (.inl (so1 sB so0)) <| st rfl <| o_nt rfl <| seqN [(0, .d ((cLs (cXVariable cS cI) rfl).enc v0)), (1, .d ((cLs (cXEdit (cLs cI rfl)) rfl).enc v1)), (2, .d ((cLs (cXRecord cI cI (cLs cI rfl)) rfl).enc v2)), (8, .d ((cLo cI).enc x33.1)), (9, .d (cB.enc x33.2)), (10, .d ((cLo (cXVariable cS cI)).enc x37)), (11, .d ((cLo (cXEdit (cLo cI))).enc x41)), (12, .d ((cLo (cXRecord cI cI (cLo cI))).enc x45)), (13, .d ((cLo cI).enc x49.1)), (14, .d (cB.enc x49.2)), (76, .d (cB.enc (!x98)))] (by kernel_rfl) <|
    xn <| cnd rfl h (fun b100 h => wpC_seq <| reg_s <| x_asg (sc cB false rfl) <| seqN [(6, .d (cB.enc false))] (by kernel_rfl) <|
    xn <| wpC_ret <| rt <| rt <| re <| fin h (r1 (ss rfl rfl) <| r0) rfl)
    (fun b100 h => wpC_skip <| kpN [(0, .d ((cLs (cXVariable cS cI) rfl).enc v0)), (1, .d ((cLs (cXEdit (cLs cI rfl)) rfl).enc v1)), (2, .d ((cLs (cXRecord cI cI (cLs cI rfl)) rfl).enc v2)), (8, .d ((cLo cI).enc x33.1)), (9, .d (cB.enc x33.2)), (10, .d ((cLo (cXVariable cS cI)).enc x37)), (11, .d ((cLo (cXEdit (cLo cI))).enc x41)), (12, .d ((cLo (cXRecord cI cI (cLo cI))).enc x45)), (13, .d ((cLo cI).enc x49.1)), (14, .d (cB.enc x49.2))] (by kernel_rfl) <| xn <| wpC_seq <| wpC_kp <| wpC_seq <| reg_s <| st rfl <| mvo rfl rfl <| st rfl <| mvd rfl rfl <| bnd h fun x114 e115 h => st rfl <| o_call (a1 (c := (cLs (cXRecord cI cI (cLs cI rfl)) rfl)) (tLs (tXRecord tK tK (tLs tK))) rfl a0) (con_laws_toRecordS e115) (.inl (so1 (sLo (sXRecord sK sK (sLo sK))) so0)) <| bnd h fun x116 e117 h => st rfl <| o_call (a1 (c := (cLo (cXRecord cI cI (cLo cI)))) (tLo (tXRecord tK tK (tLo tK))) rfl (a1 (c := (cLo (cXRecord cI cI (cLo cI)))) (tLo (tXRecord tK tK (tLo tK))) rfl a0)) (con_laws_eqRecordS e117) (.inl (so1 sB so0)) <| st rfl <| o_nt rfl <| seqN [(0, .d ((cLs (cXVariable cS cI) rfl).enc v0)), (1, .d ((cLs (cXEdit (cLs cI rfl)) rfl).enc v1)), (2, .d ((cLs (cXRecord cI cI (cLs cI rfl)) rfl).enc v2)), (8, .d ((cLo cI).enc x33.1)), (9, .d (cB.enc x33.2)), (10, .d ((cLo (cXVariable cS cI)).enc x37)), (11, .d ((cLo (cXEdit (cLo cI))).enc x41)), (12, .d ((cLo (cXRecord cI cI (cLo cI))).enc x45)), (13, .d ((cLo cI).enc x49.1)), (14, .d (cB.enc x49.2)), (81, .d (cB.enc (!x116)))] (by kernel_rfl) <|
    xn <| cnd rfl h (fun b118 h => wpC_seq <| reg_s <| x_asg (sc cB false rfl) <| seqN [(6, .d (cB.enc false))] (by kernel_rfl) <|
    xn <| wpC_ret <| rt <| rt <| re <| fin h (r1 (ss rfl rfl) <| r0) rfl)
    (fun b118 h => wpC_skip <| kpN [(0, .d ((cLs (cXVariable cS cI) rfl).enc v0)), (1, .d ((cLs (cXEdit (cLs cI rfl)) rfl).enc v1)), (2, .d ((cLs (cXRecord cI cI (cLs cI rfl)) rfl).enc v2)), (8, .d ((cLo cI).enc x33.1)), (9, .d (cB.enc x33.2)), (10, .d ((cLo (cXVariable cS cI)).enc x37)), (11, .d ((cLo (cXEdit (cLo cI))).enc x41)), (12, .d ((cLo (cXRecord cI cI (cLo cI))).enc x45)), (13, .d ((cLo cI).enc x49.1)), (14, .d (cB.enc x49.2))] (by kernel_rfl) <| xn <| wpC_seq <| reg_s <| x_asg (sc cI (1 : Int) rfl) <| seqN [(0, .d ((cLs (cXVariable cS cI) rfl).enc v0)), (1, .d ((cLs (cXEdit (cLs cI rfl)) rfl).enc v1)), (2, .d ((cLs (cXRecord cI cI (cLs cI rfl)) rfl).enc v2)), (8, .d ((cLo cI).enc x33.1)), (9, .d (cB.enc x33.2)), (10, .d ((cLo (cXVariable cS cI)).enc x37)), (11, .d ((cLo (cXEdit (cLo cI))).enc x41)), (12, .d ((cLo (cXRecord cI cI (cLo cI))).enc x45)), (13, .d ((cLo cI).enc x49.1)), (14, .d (cB.enc x49.2)), (15, .d (cI.enc (1 : Int)))] (by kernel_rfl) <|
    xn <| wpC_seq <| reg_s <| st rfl <| mvo rfl rfl <| st rfl <| mvd rfl rfl <| bnd h fun x121 e122 h => x_clr (c := (cLo (cXVariable cS cI))) (c' := (cLo (cXVariable cS cI))) ((cLo (cXVariable cS cI)).enc x121.1) (sLo (sXVariable sS sK)) rfl (a1 (c := cI) tK rfl a0) rfl Ln.nil (con_laws_markVariableS e122) rfl rfl (so1 sK so0) <| x_asg (ss rfl rfl) <| seqN [(0, .d ((cLs (cXVariable cS cI) rfl).enc v0)), (1, .d ((cLs (cXEdit (cLs cI rfl)) rfl).enc v1)), (2, .d ((cLs (cXRecord cI cI (cLs cI rfl)) rfl).enc v2)), (8, .d ((cLo cI).enc x33.1)), (9, .d (cB.enc x33.2)), (11, .d ((cLo (cXEdit (cLo cI))).enc x41)), (12, .d ((cLo (cXRecord cI cI (cLo cI))).enc x45)), (13, .d ((cLo cI).enc x49.1)), (14, .d (cB.enc x49.2)), (15, .d (cI.enc x121.2))] (by kernel_rfl) <|
    xn <| wpC_seq <| reg_s <| st rfl <| mvo rfl rfl <| st rfl <| mvd rfl rfl <| bnd h fun x125 e126 h => x_clr (c := (cLo (cXEdit (cLo cI)))) (c' := (cLo (cXEdit (cLo cI)))) ((cLo (cXEdit (cLo cI))).enc x125.1) (sLo (sXEdit (sLo sK))) rfl (a1 (c := cI) tK rfl a0) rfl Ln.nil (con_laws_markEditS e126) rfl rfl (so1 sK so0) <| x_asg (ss rfl rfl) <| seqN [(0, .d ((cLs (cXVariable cS cI) rfl).enc v0)), (1, .d ((cLs (cXEdit (cLs cI rfl)) rfl).enc v1)), (2, .d ((cLs (cXRecord cI cI (cLs cI rfl)) rfl).enc v2)), (8, .d ((cLo cI).enc x33.1)), (9, .d (cB.enc x33.2)), (12, .d ((cLo (cXRecord cI cI (cLo cI))).enc x45)), (13, .d ((cLo cI).enc x49.1)), (14, .d (cB.enc x49.2)), (15, .d (cI.enc x125.2))] (by kernel_rfl) <|
    xn <| wpC_seq <| reg_s <| st rfl <| mvo rfl rfl <| st rfl <| mvd rfl rfl <| bnd h fun x129 e130 h => x_clr (c := (cLo (cXRecord cI cI (cLo cI)))) (c' := (cLo (cXRecord cI cI (cLo cI)))) ((cLo (cXRecord cI cI (cLo cI))).enc x129.1) (sLo (sXRecord sK sK (sLo sK))) rfl (a1 (c := cI) tK rfl a0) rfl Ln.nil (con_laws_markRecordS e130) rfl rfl (so1 sK so0) <| x_asg (ss rfl rfl) <| seqN [(0, .d ((cLs (cXVariable cS cI) rfl).enc v0)), (1, .d ((cLs (cXEdit (cLs cI rfl)) rfl).enc v1)), (2, .d ((cLs (cXRecord cI cI (cLs cI rfl)) rfl).enc v2)), (8, .d ((cLo cI).enc x33.1)), (9, .d (cB.enc x33.2)), (13, .d ((cLo cI).enc x49.1)), (14, .d (cB.enc x49.2)), (15, .d (cI.enc x129.2))] (by kernel_rfl) <|
    xn <| wpC_seq <| wpC_kp <| wpC_seq <| reg_s <| st rfl <| mvd rfl rfl <| st rfl <| b_lss (k := .i64) rfl rfl <| st rfl <| mvd rfl rfl <| ite_k h (fun b143 h => gf rfl b143 <| gf rfl b143 <| gf rfl b143 <| gf rfl b143 <| st rfl <| pick1 rfl b143 (cd := cB) (v := true) rfl rfl <| st rfl <| mvd rfl rfl <| gf rfl rfl <| gf rfl rfl <| gf rfl rfl <| st rfl <| pick1 rfl rfl (cd := cB) (v := true) rfl rfl <| seqN [(0, .d ((cLs (cXVariable cS cI) rfl).enc v0)), (1, .d ((cLs (cXEdit (cLs cI rfl)) rfl).enc v1)), (2, .d ((cLs (cXRecord cI cI (cLs cI rfl)) rfl).enc v2)), (8, .d ((cLo cI).enc x33.1)), (9, .d (cB.enc x33.2)), (13, .d ((cLo cI).enc x49.1)), (103, .d (cB.enc true))] (by kernel_rfl) <|
    xn <| cnd1 rfl rfl <| wpC_seq <| reg_s <| x_asg (sc cB false rfl) <| seqN [(6, .d (cB.enc false))] (by kernel_rfl) <|
    xn <| wpC_ret <| rt <| rt <| re <| fin h (r1 (ss rfl rfl) <| r0) rfl)
    (fun b143 h => gt' rfl b143 <| st rfl <| mvo rfl rfl <| gt' rfl b143 <| st rfl <| mvo rfl rfl <| gt' rfl b143 <| bnd h fun x144 e145 h => st rfl <| o_call (a1 (c := (cLo cI)) (tLo tK) rfl (a1 (c := (cLo cI)) (tLo tK) rfl a0)) (con_laws_eqIntS e145) (.inl (so1 sB so0)) <| gt' rfl b143 <| st rfl <| o_nt rfl <| st rfl <| pick0 rfl b143 (cd := cB) (v := (!x144)) rfl rfl <| st rfl <| mvd rfl rfl <| ite_k h (fun b146 h => gf rfl b146 <| gf rfl b146 <| gf rfl b146 <| st rfl <| pick1 rfl b146 (cd := cB) (v := true) rfl rfl <| seqN [(0, .d ((cLs (cXVariable cS cI) rfl).enc v0)), (1, .d ((cLs (cXEdit (cLs cI rfl)) rfl).enc v1)), (2, .d ((cLs (cXRecord cI cI (cLs cI rfl)) rfl).enc v2)), (8, .d ((cLo cI).enc x33.1)), (9, .d (cB.enc x33.2)), (13, .d ((cLo cI).enc x49.1)), (103, .d (cB.enc true))] (by kernel_rfl) <|
    xn <| cnd1 rfl rfl <| wpC_seq <| reg_s <| x_asg (sc cB false rfl) <| seqN [(6, .d (cB.enc false))] (by kernel_rfl) <|
    xn <| wpC_ret <| rt <| rt <| re <| fin h (r1 (ss rfl rfl) <| r0) rfl)
    (fun b146 h => gt' rfl b146 <| st rfl <| mvd rfl rfl <| gt' rfl b146 <| st rfl <| mvd rfl rfl <| gt' rfl b146 <| st rfl <| eqb1 rfl rfl <| st rfl <| pick0 rfl b146 (cd := cB) (v := (x49.2 != x33.2)) rfl rfl <| seqN [(0, .d ((cLs (cXVariable cS cI) rfl).enc v0)), (1, .d ((cLs (cXEdit (cLs cI rfl)) rfl).enc v1)), (2, .d ((cLs (cXRecord cI cI (cLs cI rfl)) rfl).enc v2)), (8, .d ((cLo cI).enc x33.1)), (9, .d (cB.enc x33.2)), (13, .d ((cLo cI).enc x49.1)), (103, .d (cB.enc (x49.2 != x33.2)))] (by kernel_rfl) <|
    xn <| cnd0 rfl b64 <| wpC_skip <| kpN [(0, .d ((cLs (cXVariable cS cI) rfl).enc v0)), (1, .d ((cLs (cXEdit (cLs cI rfl)) rfl).enc v1)), (2, .d ((cLs (cXRecord cI cI (cLs cI rfl)) rfl).enc v2)), (8, .d ((cLo cI).enc x33.1)), (9, .d (cB.enc x33.2)), (13, .d ((cLo cI).enc x49.1))] (by kernel_rfl) <| xn <| wpC_seq <| reg_s <| x_asg (sc cI (1 : Int) rfl) <| seqN [(0, .d ((cLs (cXVariable cS cI) rfl).enc v0)), (1, .d ((cLs (cXEdit (cLs cI rfl)) rfl).enc v1)), (2, .d ((cLs (cXRecord cI cI (cLs cI rfl)) rfl).enc v2)), (8, .d ((cLo cI).enc x33.1)), (9, .d (cB.enc x33.2)), (13, .d ((cLo cI).enc x49.1)), (16, .d (cI.enc (1 : Int)))] (by kernel_rfl) <|
    xn <| wpC_seq <| reg_s <| st rfl <| mvo rfl rfl <| st rfl <| mvd rfl rfl <| bnd h fun x149 e150 h => x_clr (c := (cLo cI)) (c' := (cLo cI)) ((cLo cI).enc x149.1) (sLo sK) rfl (a1 (c := cI) tK rfl a0) rfl Ln.nil (con_laws_markIntS e150) rfl rfl (so1 sK so0) <| x_asg (ss rfl rfl) <| seqN [(0, .d ((cLs (cXVariable cS cI) rfl).enc v0)), (1, .d ((cLs (cXEdit (cLs cI rfl)) rfl).enc v1)), (2, .d ((cLs (cXRecord cI cI (cLs cI rfl)) rfl).enc v2)), (8, .d ((cLo cI).enc x33.1)), (9, .d (cB.enc x33.2)), (13, .d ((cLo cI).enc x149.1)), (16, .d (cI.enc x149.2))] (by kernel_rfl) <|
    xn <| wpC_seq <| reg_s <| x_asg (sc cI (1 : Int) rfl) <| seqN [(0, .d ((cLs (cXVariable cS cI) rfl).enc v0)), (1, .d ((cLs (cXEdit (cLs cI rfl)) rfl).enc v1)), (2, .d ((cLs (cXRecord cI cI (cLs cI rfl)) rfl).enc v2)), (8, .d ((cLo cI).enc x33.1)), (9, .d (cB.enc x33.2)), (13, .d ((cLo cI).enc x149.1)), (16, .d (cI.enc x149.2)), (17, .d (cI.enc (1 : Int)))] (by kernel_rfl) <|
    xn <| wpC_seq <| reg_s <| st rfl <| mvo rfl rfl <| st rfl <| mvd rfl rfl <| bnd h fun x153 e154 h => st rfl <| o_call (a1 (c := (cLo cI)) (tLo tK) rfl (a1 (c := cI) tK rfl a0)) (con_laws_heldIntS e154) (.inl (so1 sK so0)) <| x_asg (ss rfl rfl) <| seqN [(0, .d ((cLs (cXVariable cS cI) rfl).enc v0)), (1, .d ((cLs (cXEdit (cLs cI rfl)) rfl).enc v1)), (2, .d ((cLs (cXRecord cI cI (cLs cI rfl)) rfl).enc v2)), (8, .d ((cLo cI).enc x33.1)), (9, .d (cB.enc x33.2)), (13, .d ((cLo cI).enc x149.1)), (16, .d (cI.enc x149.2)), (17, .d (cI.enc x153))] (by kernel_rfl) <|
    xn <| wpC_seq <| wpC_kp <| wpC_seq <| reg_s <| st rfl <| mvd rfl rfl <| st rfl <| b_lss (k := .i64) rfl rfl <| seqN [(0, .d ((cLs (cXVariable cS cI) rfl).enc v0)), (1, .d ((cLs (cXEdit (cLs cI rfl)) rfl).enc v1)), (2, .d ((cLs (cXRecord cI cI (cLs cI rfl)) rfl).enc v2)), (8, .d ((cLo cI).enc x33.1)), (9, .d (cB.enc x33.2)), (13, .d ((cLo cI).enc x149.1)), (16, .d (cI.enc x149.2)), (17, .d (cI.enc x153)), (111, .d (cB.enc (decide (x153 < (0 : Int)))))] (by kernel_rfl) <|
    xn <| cnd rfl h (fun b156 h => wpC_seq <| reg_s <| x_asg (sc cB false rfl) <| seqN [(6, .d (cB.enc false))] (by kernel_rfl) <|
    xn <| wpC_ret <| rt <| rt <| re <| fin h (r1 (ss rfl rfl) <| r0) rfl)
    (fun b156 h => wpC_skip <| kpN [(0, .d ((cLs (cXVariable cS cI) rfl).enc v0)), (1, .d ((cLs (cXEdit (cLs cI rfl)) rfl).enc v1)), (2, .d ((cLs (cXRecord cI cI (cLs cI rfl)) rfl).enc v2)), (8, .d ((cLo cI).enc x33.1)), (9, .d (cB.enc x33.2)), (13, .d ((cLo cI).enc x149.1)), (16, .d (cI.enc x149.2)), (17, .d (cI.enc x153))] (by kernel_rfl) <| xn <| wpC_seq <| wpC_kp <| wpC_seq <| reg_s <| st rfl <| mvd rfl rfl <| st rfl <| mvd rfl rfl <| st rfl <| b_neq (k := .i64) rfl rfl <| seqN [(0, .d ((cLs (cXVariable cS cI) rfl).enc v0)), (1, .d ((cLs (cXEdit (cLs cI rfl)) rfl).enc v1)), (2, .d ((cLs (cXRecord cI cI (cLs cI rfl)) rfl).enc v2)), (8, .d ((cLo cI).enc x33.1)), (9, .d (cB.enc x33.2)), (13, .d ((cLo cI).enc x149.1)), (16, .d (cI.enc x149.2)), (114, .d (cB.enc (decide (x153 ≠ x149.2))))] (by kernel_rfl) <|
    xn <| cnd rfl h (fun b158 h => wpC_seq <| reg_s <| x_asg (sc cB false rfl) <| seqN [(6, .d (cB.enc false))] (by kernel_rfl) <|
    xn <| wpC_ret <| rt <| rt <| re <| fin h (r1 (ss rfl rfl) <| r0) rfl)
    (fun b158 h => wpC_skip <| kpN [(0, .d ((cLs (cXVariable cS cI) rfl).enc v0)), (1, .d ((cLs (cXEdit (cLs cI rfl)) rfl).enc v1)), (2, .d ((cLs (cXRecord cI cI (cLs cI rfl)) rfl).enc v2)), (8, .d ((cLo cI).enc x33.1)), (9, .d (cB.enc x33.2)), (13, .d ((cLo cI).enc x149.1)), (16, .d (cI.enc x149.2))] (by kernel_rfl) <| xn <| wpC_seq <| reg_s <| st rfl <| mvd rfl rfl <| bnd h fun x167 e168 h => st rfl <| o_call (a1 (c := (cLs (cXVariable cS cI) rfl)) (tLs (tXVariable tS tK)) rfl a0) (con_laws_toVariableS e168) (.inl (so1 (sLo (sXVariable sS sK)) so0)) <| st rfl <| mvd rfl rfl <| bnd h fun x169 e170 h => st rfl <| o_call (a1 (c := (cLs (cXEdit (cLs cI rfl)) rfl)) (tLs (tXEdit (tLs tK))) rfl a0) (con_laws_toEditS e170) (.inl (so1 (sLo (sXEdit (sLo sK))) so0)) <| st rfl <| mvd rfl rfl <| bnd h fun x171 e172 h => st rfl <| o_call (a1 (c := (cLs (cXRecord cI cI (cLs cI rfl)) rfl)) (tLs (tXRecord tK tK (tLs tK))) rfl a0) (con_laws_toRecordS e172) (.inl (so1 (sLo (sXRecord sK sK (sLo sK))) so0)) <| bnd h fun x173 e174 h => st rfl <| o_call (a1 (c := (cLo (cXVariable cS cI))) (tLo (tXVariable tS tK)) rfl (a1 (c := (cLo (cXEdit (cLo cI)))) (tLo (tXEdit (tLo tK))) rfl (a1 (c := (cLo (cXRecord cI cI (cLo cI)))) (tLo (tXRecord tK tK (tLo tK))) rfl a0))) (con_impl_FailureCounts e174) (.inl (so1 (sLo sK) (so1 sB so0))) <| x_mvt rfl <| x_ext rfl rfl <| x_ext rfl rfl <| x_asg (so rfl rfl) <| x_asg (ss rfl rfl) <| seqN [(8, .d ((cLo cI).enc x33.1)), (9, .d (cB.enc x33.2)), (13, .d ((cLo cI).enc x149.1)), (16, .d (cI.enc x149.2)), (18, .d ((cLo cI).enc x173.1)), (19, .d (cB.enc x173.2))] (by kernel_rfl) <|
    xn <| wpC_seq <| wpC_kp <| wpC_seq <| reg_s <| st rfl <| mvo rfl rfl <| st rfl <| mvo rfl rfl <| bnd h fun x185 e186 h => st rfl <| o_call (a1 (c := (cLo cI)) (tLo tK) rfl (a1 (c := (cLo cI)) (tLo tK) rfl a0)) (con_laws_eqIntS e186) (.inl (so1 sB so0)) <| st rfl <| o_nt rfl <| st rfl <| mvd rfl rfl <| ite_k h (fun b187 h => gf rfl b187 <| gf rfl b187 <| gf rfl b187 <| st rfl <| pick1 rfl b187 (cd := cB) (v := true) rfl rfl <| seqN [(13, .d ((cLo cI).enc x149.1)), (16, .d (cI.enc x149.2)), (133, .d (cB.enc true))] (by kernel_rfl) <|
    xn <| cnd1 rfl rfl <| wpC_seq <| reg_s <| x_asg (sc cB false rfl) <| seqN [(6, .d (cB.enc false))] (by kernel_rfl) <|
    xn <| wpC_ret <| rt <| rt <| re <| fin h (r1 (ss rfl rfl) <| r0) rfl)
    (fun b187 h => gt' rfl b187 <| st rfl <| mvd rfl rfl <| gt' rfl b187 <| st rfl <| mvd rfl rfl <| gt' rfl b187 <| st rfl <| eqb1 rfl rfl <| st rfl <| pick0 rfl b187 (cd := cB) (v := (x173.2 != x33.2)) rfl rfl <| seqN [(13, .d ((cLo cI).enc x149.1)), (16, .d (cI.enc x149.2)), (133, .d (cB.enc (x173.2 != x33.2)))] (by kernel_rfl) <|
    xn <| cnd rfl h (fun b188 h => wpC_seq <| reg_s <| x_asg (sc cB false rfl) <| seqN [(6, .d (cB.enc false))] (by kernel_rfl) <|
    xn <| wpC_ret <| rt <| rt <| re <| fin h (r1 (ss rfl rfl) <| r0) rfl)
    (fun b188 h => wpC_skip <| kpN [(13, .d ((cLo cI).enc x149.1)), (16, .d (cI.enc x149.2))] (by kernel_rfl) <| xn <| wpC_seq <| reg_s <| x_asg (sc cI (1 : Int) rfl) <| seqN [(13, .d ((cLo cI).enc x149.1)), (16, .d (cI.enc x149.2)), (17, .d (cI.enc (1 : Int)))] (by kernel_rfl) <|
    xn <| wpC_seq <| reg_s <| st rfl <| mvo rfl rfl <| st rfl <| mvd rfl rfl <| bnd h fun x191 e192 h => st rfl <| o_call (a1 (c := (cLo cI)) (tLo tK) rfl (a1 (c := cI) tK rfl a0)) (con_laws_heldIntS e192) (.inl (so1 sK so0)) <| x_asg (ss rfl rfl) <| seqN [(16, .d (cI.enc x149.2)), (17, .d (cI.enc x191))] (by kernel_rfl) <|
    xn <| wpC_seq <| wpC_kp <| wpC_seq <| reg_s <| st rfl <| mvd rfl rfl <| st rfl <| b_lss (k := .i64) rfl rfl <| seqN [(16, .d (cI.enc x149.2)), (17, .d (cI.enc x191)), (138, .d (cB.enc (decide (x191 < (0 : Int)))))] (by kernel_rfl) <|
    xn <| cnd rfl h (fun b194 h => wpC_seq <| reg_s <| x_asg (sc cB false rfl) <| seqN [(6, .d (cB.enc false))] (by kernel_rfl) <|
    xn <| wpC_ret <| rt <| rt <| re <| fin h (r1 (ss rfl rfl) <| r0) rfl)
    (fun b194 h => wpC_skip <| kpN [(16, .d (cI.enc x149.2)), (17, .d (cI.enc x191))] (by kernel_rfl) <| xn <| wpC_seq <| wpC_kp <| wpC_seq <| reg_s <| st rfl <| mvd rfl rfl <| st rfl <| mvd rfl rfl <| st rfl <| b_neq (k := .i64) rfl rfl <| seqN [(141, .d (cB.enc (decide (x191 ≠ x149.2))))] (by kernel_rfl) <|
    xn <| cnd rfl h (fun b196 h => wpC_seq <| reg_s <| x_asg (sc cB false rfl) <| seqN [(6, .d (cB.enc false))] (by kernel_rfl) <|
    xn <| wpC_ret <| rt <| rt <| re <| fin h (r1 (ss rfl rfl) <| r0) rfl)
    (fun b196 h => wpC_skip <| kpN [] (by kernel_rfl) <| xn <| wpC_seq <| reg_s <| x_asg (sc cB true rfl) <| seqN [(6, .d (cB.enc true))] (by kernel_rfl) <|
    xn <| wpC_ret <| re <| fin h (r1 (ss rfl rfl) <| r0) rfl))))))))))))))))
end AS.W
