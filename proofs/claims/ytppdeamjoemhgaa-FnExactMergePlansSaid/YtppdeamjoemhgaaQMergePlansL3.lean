/- The program computes the plain functions. No condition. -/
import Derived.Test.YtppdeamjoemhgaaQMergePlansS
import Derived.Test.YtppdeamjoemhgaaProg
import Derived.Test.YtppdeamjoemhgaaQMergePlansX
import Derived.Test.YtppdeamjoemhgaaQMergePlansL2
set_option maxRecDepth 100000
set_option linter.unusedVariables false
set_option linter.unusedSimpArgs false
namespace AS.W
open Go Go.Proofs
def rs_laws_heldTableS (r : Int) : List D := [cI.enc r]
def m18 : MC := .seq (.reg [⟨some 4, .asg (.c (.int .i64 0)), none⟩] [0, 1])
  (.seq (.kp [1] (.seq (.reg [⟨some 5, .asg (.c (.int .i64 0)), none⟩] [0, 1, 5])
  (.blk 0 (.loop (.seq (.kp [0, 1, 5] (.seq (.reg [⟨some 6, .mv (.t 5), none⟩,
    ⟨some 7, .mv (.t 0), none⟩,
    ⟨some 8, .len false (.t 7), none⟩,
    ⟨some 9, .bin .lss (.t 6) (.t 8), none⟩] [0, 1, 5, 9])
  (.cond (.t 9) (.skip) (.exit 0))))
  (.seq (.kp [0, 1, 5] (.blk 1 (.seq (.kp [0, 1, 5] (.seq (.reg [⟨some 12, .mv (.t 0), none⟩,
    ⟨some 13, .mv (.t 5), none⟩,
    ⟨some 14, .ia 12 (.t 13) 4, none⟩,
    ⟨some 15, .fa 14 0 0, none⟩,
    ⟨some 16, .ld 15 1 false, none⟩,
    ⟨some 17, .mv (.t 1), none⟩,
    ⟨some 18, .bin .neq (.t 16) (.t 17), none⟩] [0, 1, 5, 18])
  (.cond (.t 18) (.seq (.reg [⟨some 4, .asg (.c (.int .i64 (-1))), none⟩] [4])
  (.ret)) (.skip))))
  (.seq (.reg [⟨some 19, .mv (.t 1), none⟩,
    ⟨some 20, .bin .add (.t 19) (.c (.int .i64 1)), none⟩,
    ⟨some 1, .asg (.t 20), none⟩] [0, 1, 5])
  (.seq (.reg [⟨some 21, .mv (.t 0), none⟩,
    ⟨some 22, .mv (.t 5), none⟩,
    ⟨some 23, .ia 21 (.t 22) 4, none⟩,
    ⟨some 24, .fa 23 1 1, none⟩,
    ⟨some 25, .ld 24 1 false, none⟩,
    ⟨some 26, .mv (.t 1), none⟩,
    ⟨some 27, .call 39 [(.t 25), (.t 26)], none⟩,
    ⟨some 1, .asg (.t 27), none⟩] [0, 1, 5])
  (.seq (.kp [0, 1, 5] (.seq (.reg [⟨some 28, .mv (.t 1), none⟩,
    ⟨some 29, .bin .lss (.t 28) (.c (.int .i64 0)), none⟩] [0, 1, 5, 29])
  (.cond (.t 29) (.seq (.reg [⟨some 4, .asg (.c (.int .i64 (-1))), none⟩] [4])
  (.ret)) (.skip))))
  (.seq (.reg [⟨some 30, .mv (.t 0), none⟩,
    ⟨some 31, .mv (.t 5), none⟩,
    ⟨some 32, .ia 30 (.t 31) 4, none⟩,
    ⟨some 33, .fa 32 2 2, none⟩,
    ⟨some 34, .ld 33 1 false, none⟩,
    ⟨some 35, .mv (.t 1), none⟩,
    ⟨some 36, .call 39 [(.t 34), (.t 35)], none⟩,
    ⟨some 1, .asg (.t 36), none⟩] [0, 1, 5])
  (.seq (.kp [0, 1, 5] (.seq (.reg [⟨some 37, .mv (.t 1), none⟩,
    ⟨some 38, .bin .lss (.t 37) (.c (.int .i64 0)), none⟩] [0, 1, 5, 38])
  (.cond (.t 38) (.seq (.reg [⟨some 4, .asg (.c (.int .i64 (-1))), none⟩] [4])
  (.ret)) (.skip))))
  (.seq (.kp [0, 1, 5] (.seq (.reg [⟨some 39, .mv (.t 0), none⟩,
    ⟨some 40, .mv (.t 5), none⟩,
    ⟨some 41, .ia 39 (.t 40) 4, none⟩,
    ⟨some 42, .fa 41 3 3, none⟩,
    ⟨some 43, .ld 42 1 false, none⟩,
    ⟨some 44, .mv (.t 1), none⟩,
    ⟨some 45, .bin .neq (.t 43) (.t 44), none⟩] [0, 1, 5, 45])
  (.cond (.t 45) (.seq (.reg [⟨some 4, .asg (.c (.int .i64 (-1))), none⟩] [4])
  (.ret)) (.skip))))
  (.reg [⟨some 46, .mv (.t 1), none⟩,
    ⟨some 47, .bin .add (.t 46) (.c (.int .i64 1)), none⟩,
    ⟨some 1, .asg (.t 47), none⟩] [0, 1, 5]))))))))))
  (.reg [⟨some 10, .mv (.t 5), none⟩,
    ⟨some 11, .bin .add (.t 10) (.c (.int .i64 1)), none⟩,
    ⟨some 5, .asg (.t 11), none⟩] [0, 1, 5])))))))
  (.seq (.reg [⟨some 48, .mv (.t 1), none⟩,
    ⟨some 4, .asg (.t 48), none⟩] [4])
  (.ret)))
theorem con_laws_heldTableS {v0 : (List XTable)} {v1 : Int} {r : Int} (h : sh_laws_heldTableS v0 v1 = some r) : Con Try.prog 18 [(cLs (cXTable cI (cLs cI rfl) (cLs cI rfl) cI) rfl).enc v0, cI.enc v1] [] (rs_laws_heldTableS r) := by
  delta sh_laws_heldTableS at h
  refine top (out := none) (f := Try.f18) (m := m18) (rs := [.t 4]) (by kernel_rfl) rfl (by kernel_rfl) (by kernel_rfl) (by kernel_rfl) (by kernel_rfl) (by kernel_rfl) ?_
  exact
   ini [(0, .d ((cLs (cXTable cI (cLs cI rfl) (cLs cI rfl) cI) rfl).enc v0)), (1, .d (cI.enc v1))] rfl <| wpC_seq <| reg_s <| x_asg (sc cI (0 : Int) rfl) <| seqN [(0, .d ((cLs (cXTable cI (cLs cI rfl) (cLs cI rfl) cI) rfl).enc v0)), (1, .d (cI.enc v1))] (by kernel_rfl) <|
    xn <| wpC_seq <| wpC_kp <| wpC_seq <| reg_s <| x_asg (sc cI (0 : Int) rfl) <| seqN [(0, .d ((cLs (cXTable cI (cLs cI rfl) (cLs cI rfl) cI) rfl).enc v0)), (1, .d (cI.enc v1)), (5, .d (cI.enc (0 : Int)))] (by kernel_rfl) <|
    xn <| wpC_blk <| lpF (fun (s216 : (Int × Int)) => [(0, .d ((cLs (cXTable cI (cLs cI rfl) (cLs cI rfl) cI) rfl).enc v0)), (1, .d (cI.enc s216.1)), (5, .d (cI.enc s216.2))]) (v1, (0 : Int)) rfl h
    fun G361 nx359 s216 hn360 h => wpC_seq <| wpC_kp <| wpC_seq <| reg_s <| st rfl <| mvd rfl rfl <| st rfl <| mvd rfl rfl <| stw rfl <| lens rfl fun l366 => st rfl <| b_lss (k := .i64) rfl rfl <| seqN [(0, .d ((cLs (cXTable cI (cLs cI rfl) (cLs cI rfl) cI) rfl).enc v0)), (1, .d (cI.enc s216.1)), (5, .d (cI.enc s216.2)), (9, .d (cB.enc (decide (s216.2 < (v0.length : Int)))))] (by kernel_rfl) <|
    xn <| cnd rfl h (fun b367 h => wpC_skip <| kpN [(0, .d ((cLs (cXTable cI (cLs cI rfl) (cLs cI rfl) cI) rfl).enc v0)), (1, .d (cI.enc s216.1)), (5, .d (cI.enc s216.2))] (by kernel_rfl) <| xn <| wpC_seq <| wpC_kp <| wpC_blk <| wpC_seq <| wpC_kp <| wpC_seq <| reg_s <| st rfl <| mvd rfl rfl <| st rfl <| mvd rfl rfl <| getO_k h fun x409 i410 g411 h => st rfl <| ias rfl rfl i410 g411 rfl <| st rfl <| fai rfl rfl rfl rfl <| st rfl <| ldi rfl rfl rfl rfl <| st rfl <| mvd rfl rfl <| st rfl <| b_neq (k := .i64) rfl rfl <| seqN [(0, .d ((cLs (cXTable cI (cLs cI rfl) (cLs cI rfl) cI) rfl).enc v0)), (1, .d (cI.enc s216.1)), (5, .d (cI.enc s216.2)), (18, .d (cB.enc (decide (x409.Level ≠ s216.1))))] (by kernel_rfl) <|
    xn <| cnd rfl h (fun b412 h => wpC_seq <| reg_s <| x_asg (sc cI (-1 : Int) rfl) <| seqN [(4, .d (cI.enc (-1 : Int)))] (by kernel_rfl) <|
    xn <| wpC_ret <| rt <| rt <| rb <| rt <| rt <| rt <| rb <| rt <| rt <| re <| fin h (r1 (ss rfl rfl) <| r0) rfl)
    (fun b412 h => wpC_skip <| kpN [(0, .d ((cLs (cXTable cI (cLs cI rfl) (cLs cI rfl) cI) rfl).enc v0)), (1, .d (cI.enc s216.1)), (5, .d (cI.enc s216.2))] (by kernel_rfl) <| xn <| wpC_seq <| reg_s <| st rfl <| mvd rfl rfl <| ckI_k h fun i414 h => st rfl <| b_add (k := .i64) rfl rfl i414 <| x_asg (ss rfl rfl) <| seqN [(0, .d ((cLs (cXTable cI (cLs cI rfl) (cLs cI rfl) cI) rfl).enc v0)), (1, .d (cI.enc (s216.1 + (1 : Int)))), (5, .d (cI.enc s216.2))] (by kernel_rfl) <|
    xn <| wpC_seq <| reg_s <| st rfl <| mvd rfl rfl <| st rfl <| mvd rfl rfl <| st rfl <| ias rfl rfl i410 g411 rfl <| st rfl <| fai rfl rfl rfl rfl <| st rfl <| ldi rfl rfl rfl rfl <| st rfl <| mvd rfl rfl <| bnd h fun x417 e418 h => st rfl <| o_call (a1 (c := (cLs cI rfl)) (tLs tK) rfl (a1 (c := cI) tK rfl a0)) (con_laws_heldIntS e418) (.inl (so1 sK so0)) <| x_asg (ss rfl rfl) <| seqN [(0, .d ((cLs (cXTable cI (cLs cI rfl) (cLs cI rfl) cI) rfl).enc v0)), (1, .d (cI.enc x417)), (5, .d (cI.enc s216.2))] (by kernel_rfl) <|
    xn <| wpC_seq <| wpC_kp <| wpC_seq <| reg_s <| st rfl <| mvd rfl rfl <| st rfl <| b_lss (k := .i64) rfl rfl <| seqN [(0, .d ((cLs (cXTable cI (cLs cI rfl) (cLs cI rfl) cI) rfl).enc v0)), (1, .d (cI.enc x417)), (5, .d (cI.enc s216.2)), (29, .d (cB.enc (decide (x417 < (0 : Int)))))] (by kernel_rfl) <|
    xn <| cnd rfl h (fun b420 h => wpC_seq <| reg_s <| x_asg (sc cI (-1 : Int) rfl) <| seqN [(4, .d (cI.enc (-1 : Int)))] (by kernel_rfl) <|
    xn <| wpC_ret <| rt <| rt <| rb <| rt <| rt <| rt <| rb <| rt <| rt <| re <| fin h (r1 (ss rfl rfl) <| r0) rfl)
    (fun b420 h => wpC_skip <| kpN [(0, .d ((cLs (cXTable cI (cLs cI rfl) (cLs cI rfl) cI) rfl).enc v0)), (1, .d (cI.enc x417)), (5, .d (cI.enc s216.2))] (by kernel_rfl) <| xn <| wpC_seq <| reg_s <| st rfl <| mvd rfl rfl <| st rfl <| mvd rfl rfl <| st rfl <| ias rfl rfl i410 g411 rfl <| st rfl <| fai rfl rfl rfl rfl <| st rfl <| ldi rfl rfl rfl rfl <| st rfl <| mvd rfl rfl <| bnd h fun x423 e424 h => st rfl <| o_call (a1 (c := (cLs cI rfl)) (tLs tK) rfl (a1 (c := cI) tK rfl a0)) (con_laws_heldIntS e424) (.inl (so1 sK so0)) <| x_asg (ss rfl rfl) <| seqN [(0, .d ((cLs (cXTable cI (cLs cI rfl) (cLs cI rfl) cI) rfl).enc v0)), (1, .d (cI.enc x423)), (5, .d (cI.enc s216.2))] (by kernel_rfl) <|
    xn <| wpC_seq <| wpC_kp <| wpC_seq <| reg_s <| st rfl <| mvd rfl rfl <| st rfl <| b_lss (k := .i64) rfl rfl <| seqN [(0, .d ((cLs (cXTable cI (cLs cI rfl) (cLs cI rfl) cI) rfl).enc v0)), (1, .d (cI.enc x423)), (5, .d (cI.enc s216.2)), (38, .d (cB.enc (decide (x423 < (0 : Int)))))] (by kernel_rfl) <|
    xn <| cnd rfl h (fun b426 h => wpC_seq <| reg_s <| x_asg (sc cI (-1 : Int) rfl) <| seqN [(4, .d (cI.enc (-1 : Int)))] (by kernel_rfl) <|
    xn <| wpC_ret <| rt <| rt <| rb <| rt <| rt <| rt <| rb <| rt <| rt <| re <| fin h (r1 (ss rfl rfl) <| r0) rfl)
    (fun b426 h => wpC_skip <| kpN [(0, .d ((cLs (cXTable cI (cLs cI rfl) (cLs cI rfl) cI) rfl).enc v0)), (1, .d (cI.enc x423)), (5, .d (cI.enc s216.2))] (by kernel_rfl) <| xn <| wpC_seq <| wpC_kp <| wpC_seq <| reg_s <| st rfl <| mvd rfl rfl <| st rfl <| mvd rfl rfl <| st rfl <| ias rfl rfl i410 g411 rfl <| st rfl <| fai rfl rfl rfl rfl <| st rfl <| ldi rfl rfl rfl rfl <| st rfl <| mvd rfl rfl <| st rfl <| b_neq (k := .i64) rfl rfl <| seqN [(0, .d ((cLs (cXTable cI (cLs cI rfl) (cLs cI rfl) cI) rfl).enc v0)), (1, .d (cI.enc x423)), (5, .d (cI.enc s216.2)), (45, .d (cB.enc (decide (x409.Sum ≠ x423))))] (by kernel_rfl) <|
    xn <| cnd rfl h (fun b428 h => wpC_seq <| reg_s <| x_asg (sc cI (-1 : Int) rfl) <| seqN [(4, .d (cI.enc (-1 : Int)))] (by kernel_rfl) <|
    xn <| wpC_ret <| rt <| rt <| rb <| rt <| rt <| rt <| rb <| rt <| rt <| re <| fin h (r1 (ss rfl rfl) <| r0) rfl)
    (fun b428 h => wpC_skip <| kpN [(0, .d ((cLs (cXTable cI (cLs cI rfl) (cLs cI rfl) cI) rfl).enc v0)), (1, .d (cI.enc x423)), (5, .d (cI.enc s216.2))] (by kernel_rfl) <| xn <| reg_s <| st rfl <| mvd rfl rfl <| ckI_k h fun i429 h => st rfl <| b_add (k := .i64) rfl rfl i429 <| x_asg (ss rfl rfl) <| seqN [(0, .d ((cLs (cXTable cI (cLs cI rfl) (cLs cI rfl) cI) rfl).enc v0)), (1, .d (cI.enc (x423 + (1 : Int)))), (5, .d (cI.enc s216.2))] (by kernel_rfl) <|
    xbb <| kpN [(0, .d ((cLs (cXTable cI (cLs cI rfl) (cLs cI rfl) cI) rfl).enc v0)), (1, .d (cI.enc (x423 + (1 : Int)))), (5, .d (cI.enc s216.2))] (by kernel_rfl) <| xn <| reg_s <| st rfl <| mvd rfl rfl <| ckI_k h fun i430 h => st rfl <| b_add (k := .i64) rfl rfl i430 <| x_asg (ss rfl rfl) <| seqN [(0, .d ((cLs (cXTable cI (cLs cI rfl) (cLs cI rfl) cI) rfl).enc v0)), (1, .d (cI.enc (x423 + (1 : Int)))), (5, .d (cI.enc (s216.2 + (1 : Int))))] (by kernel_rfl) <|
    xn <| hn360 ((x423 + (1 : Int)), (s216.2 + (1 : Int))) h)))))
    (fun b367 h => wpC_exit <| xt <| xt <| xt <| xb <| kpN [(1, .d (cI.enc s216.1))] (by kernel_rfl) <| xn <| wpC_seq <| reg_s <| st rfl <| mvd rfl rfl <| x_asg (ss rfl rfl) <| seqN [(4, .d (cI.enc s216.1))] (by kernel_rfl) <|
    xn <| wpC_ret <| re <| fin h (r1 (ss rfl rfl) <| r0) rfl)

def rs_laws_FnExactMergePlans (r : Bool) : List D := [cB.enc r]
def m3 : MC := .seq (.reg [⟨some 4, .box (.t 0), none⟩,
    ⟨some 8, .asg (.c (.bool false)), none⟩] [1, 2, 3, 4])
  (.seq (.reg [⟨some 9, .asg (.c (.int .i64 1048576)), none⟩] [1, 2, 3, 4, 9])
  (.seq (.reg [⟨some 23, .ld 4 1 true, none⟩,
    ⟨some 24, .mv (.t 9), none⟩,
    ⟨some 25, .call 4 [(.t 23), (.t 24)], none⟩,
    ⟨some 9, .asg (.t 25), none⟩] [1, 2, 3, 4, 9])
  (.seq (.kp [1, 2, 3, 4, 9] (.seq (.reg [⟨some 26, .mv (.t 9), none⟩,
    ⟨some 27, .bin .lss (.t 26) (.c (.int .i64 0)), none⟩] [1, 2, 3, 4, 9, 27])
  (.cond (.t 27) (.seq (.reg [⟨some 8, .asg (.c (.bool true)), none⟩] [8])
  (.ret)) (.skip))))
  (.seq (.reg [⟨some 28, .mv (.t 1), none⟩,
    ⟨some 29, .mv (.t 9), none⟩,
    ⟨some 30, .call 5 [(.t 28), (.t 29)], none⟩,
    ⟨some 9, .asg (.t 30), none⟩] [1, 2, 3, 4, 9])
  (.seq (.kp [1, 2, 3, 4, 9] (.seq (.reg [⟨some 31, .mv (.t 9), none⟩,
    ⟨some 32, .bin .lss (.t 31) (.c (.int .i64 0)), none⟩] [1, 2, 3, 4, 9, 32])
  (.cond (.t 32) (.seq (.reg [⟨some 8, .asg (.c (.bool true)), none⟩] [8])
  (.ret)) (.skip))))
  (.seq (.reg [⟨some 33, .mv (.t 2), none⟩,
    ⟨some 34, .mv (.t 9), none⟩,
    ⟨some 35, .call 6 [(.t 33), (.t 34)], none⟩,
    ⟨some 9, .asg (.t 35), none⟩] [1, 2, 3, 4, 9])
  (.seq (.kp [1, 2, 3, 4, 9] (.seq (.reg [⟨some 36, .mv (.t 9), none⟩,
    ⟨some 37, .bin .lss (.t 36) (.c (.int .i64 0)), none⟩] [1, 2, 3, 4, 9, 37])
  (.cond (.t 37) (.seq (.reg [⟨some 8, .asg (.c (.bool true)), none⟩] [8])
  (.ret)) (.skip))))
  (.seq (.reg [⟨some 38, .mv (.t 3), none⟩,
    ⟨some 39, .mv (.t 9), none⟩,
    ⟨some 40, .call 6 [(.t 38), (.t 39)], none⟩,
    ⟨some 9, .asg (.t 40), none⟩] [1, 2, 3, 4, 9])
  (.seq (.kp [1, 2, 3, 4] (.seq (.reg [⟨some 41, .mv (.t 9), none⟩,
    ⟨some 42, .bin .lss (.t 41) (.c (.int .i64 0)), none⟩] [1, 2, 3, 4, 42])
  (.cond (.t 42) (.seq (.reg [⟨some 8, .asg (.c (.bool true)), none⟩] [8])
  (.ret)) (.skip))))
  (.seq (.reg [⟨some 44, .ld 4 1 true, none⟩,
    ⟨some 45, .call 8 [(.t 44)], none⟩,
    ⟨some 46, .mv (.t 1), none⟩,
    ⟨some 47, .call 9 [(.t 46)], none⟩,
    ⟨some 48, .mv (.t 2), none⟩,
    ⟨some 49, .call 10 [(.t 48)], none⟩,
    ⟨some 50, .mv (.t 3), none⟩,
    ⟨some 51, .call 10 [(.t 50)], none⟩,
    ⟨some 52, .call 7 [(.t 45), (.t 47), (.t 49), (.t 51)], none⟩,
    ⟨some 43, .mvt 52, none⟩,
    ⟨some 53, .ext 43 0, none⟩,
    ⟨some 54, .ext 43 1, none⟩,
    ⟨some 10, .asg (.t 53), none⟩,
    ⟨some 11, .asg (.t 54), none⟩] [1, 2, 3, 4, 10, 11])
  (.seq (.reg [⟨some 55, .ld 4 1 true, none⟩,
    ⟨some 56, .call 8 [(.t 55)], none⟩,
    ⟨some 12, .alloc (.agg [.slice true []]), none⟩,
    ⟨none, .st 12 (.t 56) 1, none⟩] [1, 2, 3, 4, 10, 11, 12])
  (.seq (.reg [⟨some 57, .mv (.t 1), none⟩,
    ⟨some 58, .call 9 [(.t 57)], none⟩,
    ⟨some 13, .asg (.t 58), none⟩] [1, 2, 3, 4, 10, 11, 12, 13])
  (.seq (.reg [⟨some 59, .mv (.t 2), none⟩,
    ⟨some 60, .call 10 [(.t 59)], none⟩,
    ⟨some 14, .asg (.t 60), none⟩] [1, 2, 3, 4, 10, 11, 12, 13, 14])
  (.seq (.reg [⟨some 61, .mv (.t 3), none⟩,
    ⟨some 62, .call 10 [(.t 61)], none⟩,
    ⟨some 15, .asg (.t 62), none⟩] [1, 2, 3, 4, 10, 11, 12, 13, 14, 15])
  (.seq (.reg [⟨some 64, .ld 12 1 true, none⟩,
    ⟨some 65, .mv (.t 13), none⟩,
    ⟨some 66, .mv (.t 14), none⟩,
    ⟨some 67, .mv (.t 15), none⟩,
    ⟨some 68, .call 11 [(.t 64), (.t 65), (.t 66), (.t 67)], none⟩,
    ⟨some 63, .mvt 68, none⟩,
    ⟨some 69, .ext 63 0, none⟩,
    ⟨some 70, .ext 63 1, none⟩,
    ⟨some 16, .asg (.t 69), none⟩,
    ⟨some 17, .asg (.t 70), none⟩] [1, 2, 3, 4, 10, 11, 12, 13, 14, 15, 16, 17])
  (.seq (.kp [1, 2, 3, 4, 10, 11, 12, 13, 14, 15, 16, 17] (.seq (.reg [⟨some 71, .mv (.t 16), none⟩,
    ⟨some 72, .mv (.t 10), none⟩,
    ⟨some 73, .call 12 [(.t 71), (.t 72)], none⟩,
    ⟨some 74, .nt (.t 73), none⟩,
    ⟨some 75, .mv (.t 74), none⟩,
    ⟨some 76, .mv (.t 17), some (75, false)⟩,
    ⟨some 77, .mv (.t 11), some (75, false)⟩,
    ⟨some 78, .eqb true (.t 76) (.t 77), some (75, false)⟩,
    ⟨some 79, .pick (.t 75) (.c (.bool true)) (.t 78), none⟩] [1, 2, 3, 4, 10, 11, 12, 13, 14, 15, 16, 17, 79])
  (.cond (.t 79) (.seq (.reg [⟨some 8, .asg (.c (.bool false)), none⟩] [8])
  (.ret)) (.skip))))
  (.seq (.kp [1, 2, 3, 4, 10, 11, 12, 13, 14, 15, 16, 17] (.seq (.drw [⟨0, ⟨some 80, .ld 12 1 true, none⟩, [81, 82, 83, 84]⟩,
    ⟨1, ⟨some 81, .ld 4 1 true, none⟩, [80, 82, 83, 84]⟩,
    ⟨2, ⟨some 82, .call 8 [(.t 81)], none⟩, [80, 83, 84]⟩,
    ⟨3, ⟨some 83, .call 13 [(.t 80), (.t 82)], none⟩, [84]⟩,
    ⟨4, ⟨some 84, .nt (.t 83), none⟩, []⟩]
    [] [1, 2, 3, 4, 10, 11, 12, 13, 14, 15, 16, 17, 84])
  (.cond (.t 84) (.seq (.reg [⟨some 8, .asg (.c (.bool false)), none⟩] [8])
  (.ret)) (.skip))))
  (.seq (.kp [1, 2, 3, 4, 10, 11, 12, 13, 14, 15, 16, 17] (.seq (.reg [⟨some 85, .mv (.t 13), none⟩,
    ⟨some 86, .mv (.t 1), none⟩,
    ⟨some 87, .call 9 [(.t 86)], none⟩,
    ⟨some 88, .call 14 [(.t 85), (.t 87)], none⟩,
    ⟨some 89, .nt (.t 88), none⟩] [1, 2, 3, 4, 10, 11, 12, 13, 14, 15, 16, 17, 89])
  (.cond (.t 89) (.seq (.reg [⟨some 8, .asg (.c (.bool false)), none⟩] [8])
  (.ret)) (.skip))))
  (.seq (.kp [1, 2, 3, 4, 10, 11, 12, 13, 14, 15, 16, 17] (.seq (.reg [⟨some 90, .mv (.t 14), none⟩,
    ⟨some 91, .mv (.t 2), none⟩,
    ⟨some 92, .call 10 [(.t 91)], none⟩,
    ⟨some 93, .call 12 [(.t 90), (.t 92)], none⟩,
    ⟨some 94, .nt (.t 93), none⟩] [1, 2, 3, 4, 10, 11, 12, 13, 14, 15, 16, 17, 94])
  (.cond (.t 94) (.seq (.reg [⟨some 8, .asg (.c (.bool false)), none⟩] [8])
  (.ret)) (.skip))))
  (.seq (.kp [1, 2, 3, 4, 10, 11, 12, 13, 14, 15, 16, 17] (.seq (.reg [⟨some 95, .mv (.t 15), none⟩,
    ⟨some 96, .mv (.t 3), none⟩,
    ⟨some 97, .call 10 [(.t 96)], none⟩,
    ⟨some 98, .call 12 [(.t 95), (.t 97)], none⟩,
    ⟨some 99, .nt (.t 98), none⟩] [1, 2, 3, 4, 10, 11, 12, 13, 14, 15, 16, 17, 99])
  (.cond (.t 99) (.seq (.reg [⟨some 8, .asg (.c (.bool false)), none⟩] [8])
  (.ret)) (.skip))))
  (.seq (.reg [⟨some 18, .asg (.c (.int .i64 1)), none⟩] [1, 2, 3, 4, 10, 11, 12, 13, 14, 15, 16, 17, 18])
  (.seq (.reg [⟨some 100, .ld 12 1 true, none⟩,
    ⟨some 101, .mv (.t 18), none⟩,
    ⟨some 102, .callO 15 [(.t 100), (.t 101)], none⟩,
    ⟨some 18, .asg (.t 102), none⟩] [1, 2, 3, 4, 10, 11, 13, 14, 15, 16, 17, 18])
  (.seq (.reg [⟨some 103, .mv (.t 13), none⟩,
    ⟨some 104, .mv (.t 18), none⟩,
    ⟨some 105, .callO 16 [(.t 103), (.t 104)], none⟩,
    ⟨some 18, .asg (.t 105), none⟩] [1, 2, 3, 4, 10, 11, 14, 15, 16, 17, 18])
  (.seq (.reg [⟨some 106, .mv (.t 14), none⟩,
    ⟨some 107, .mv (.t 18), none⟩,
    ⟨some 108, .callO 17 [(.t 106), (.t 107)], none⟩,
    ⟨some 18, .asg (.t 108), none⟩] [1, 2, 3, 4, 10, 11, 15, 16, 17, 18])
  (.seq (.reg [⟨some 109, .mv (.t 15), none⟩,
    ⟨some 110, .mv (.t 18), none⟩,
    ⟨some 111, .callO 17 [(.t 109), (.t 110)], none⟩,
    ⟨some 18, .asg (.t 111), none⟩] [1, 2, 3, 4, 10, 11, 16, 17, 18])
  (.seq (.kp [1, 2, 3, 4, 10, 11, 16] (.seq (.reg [⟨some 112, .mv (.t 18), none⟩,
    ⟨some 113, .bin .lss (.t 112) (.c (.int .i64 0)), none⟩,
    ⟨some 114, .mv (.t 113), none⟩,
    ⟨some 115, .mv (.t 16), some (114, false)⟩,
    ⟨some 116, .mv (.t 10), some (114, false)⟩,
    ⟨some 117, .call 12 [(.t 115), (.t 116)], some (114, false)⟩,
    ⟨some 118, .nt (.t 117), some (114, false)⟩,
    ⟨some 119, .pick (.t 114) (.c (.bool true)) (.t 118), none⟩,
    ⟨some 120, .mv (.t 119), none⟩,
    ⟨some 121, .mv (.t 17), some (120, false)⟩,
    ⟨some 122, .mv (.t 11), some (120, false)⟩,
    ⟨some 123, .eqb true (.t 121) (.t 122), some (120, false)⟩,
    ⟨some 124, .pick (.t 120) (.c (.bool true)) (.t 123), none⟩] [1, 2, 3, 4, 10, 11, 16, 124])
  (.cond (.t 124) (.seq (.reg [⟨some 8, .asg (.c (.bool false)), none⟩] [8])
  (.ret)) (.skip))))
  (.seq (.reg [⟨some 19, .asg (.c (.int .i64 1)), none⟩] [1, 2, 3, 4, 10, 11, 16, 19])
  (.seq (.reg [⟨some 125, .mv (.t 16), none⟩,
    ⟨some 126, .mv (.t 19), none⟩,
    ⟨some 127, .callO 17 [(.t 125), (.t 126)], none⟩,
    ⟨some 19, .asg (.t 127), none⟩] [1, 2, 3, 4, 10, 11, 16, 19])
  (.seq (.reg [⟨some 20, .asg (.c (.int .i64 1)), none⟩] [1, 2, 3, 4, 10, 11, 16, 19, 20])
  (.seq (.reg [⟨some 128, .mv (.t 16), none⟩,
    ⟨some 129, .mv (.t 20), none⟩,
    ⟨some 130, .call 18 [(.t 128), (.t 129)], none⟩,
    ⟨some 20, .asg (.t 130), none⟩] [1, 2, 3, 4, 10, 11, 16, 19, 20])
  (.seq (.kp [1, 2, 3, 4, 10, 11, 16, 19, 20] (.seq (.reg [⟨some 131, .mv (.t 20), none⟩,
    ⟨some 132, .bin .lss (.t 131) (.c (.int .i64 0)), none⟩] [1, 2, 3, 4, 10, 11, 16, 19, 20, 132])
  (.cond (.t 132) (.seq (.reg [⟨some 8, .asg (.c (.bool false)), none⟩] [8])
  (.ret)) (.skip))))
  (.seq (.kp [1, 2, 3, 4, 10, 11, 16, 19] (.seq (.reg [⟨some 133, .mv (.t 20), none⟩,
    ⟨some 134, .mv (.t 19), none⟩,
    ⟨some 135, .bin .neq (.t 133) (.t 134), none⟩] [1, 2, 3, 4, 10, 11, 16, 19, 135])
  (.cond (.t 135) (.seq (.reg [⟨some 8, .asg (.c (.bool false)), none⟩] [8])
  (.ret)) (.skip))))
  (.seq (.reg [⟨some 137, .ld 4 1 true, none⟩,
    ⟨some 138, .call 8 [(.t 137)], none⟩,
    ⟨some 139, .mv (.t 1), none⟩,
    ⟨some 140, .call 9 [(.t 139)], none⟩,
    ⟨some 141, .mv (.t 2), none⟩,
    ⟨some 142, .call 10 [(.t 141)], none⟩,
    ⟨some 143, .mv (.t 3), none⟩,
    ⟨some 144, .call 10 [(.t 143)], none⟩,
    ⟨some 145, .call 11 [(.t 138), (.t 140), (.t 142), (.t 144)], none⟩,
    ⟨some 136, .mvt 145, none⟩,
    ⟨some 146, .ext 136 0, none⟩,
    ⟨some 147, .ext 136 1, none⟩,
    ⟨some 21, .asg (.t 146), none⟩,
    ⟨some 22, .asg (.t 147), none⟩] [10, 11, 16, 19, 21, 22])
  (.seq (.kp [16, 19] (.seq (.reg [⟨some 148, .mv (.t 21), none⟩,
    ⟨some 149, .mv (.t 10), none⟩,
    ⟨some 150, .call 12 [(.t 148), (.t 149)], none⟩,
    ⟨some 151, .nt (.t 150), none⟩,
    ⟨some 152, .mv (.t 151), none⟩,
    ⟨some 153, .mv (.t 22), some (152, false)⟩,
    ⟨some 154, .mv (.t 11), some (152, false)⟩,
    ⟨some 155, .eqb true (.t 153) (.t 154), some (152, false)⟩,
    ⟨some 156, .pick (.t 152) (.c (.bool true)) (.t 155), none⟩] [16, 19, 156])
  (.cond (.t 156) (.seq (.reg [⟨some 8, .asg (.c (.bool false)), none⟩] [8])
  (.ret)) (.skip))))
  (.seq (.reg [⟨some 20, .asg (.c (.int .i64 1)), none⟩] [16, 19, 20])
  (.seq (.reg [⟨some 157, .mv (.t 16), none⟩,
    ⟨some 158, .mv (.t 20), none⟩,
    ⟨some 159, .call 18 [(.t 157), (.t 158)], none⟩,
    ⟨some 20, .asg (.t 159), none⟩] [19, 20])
  (.seq (.kp [19, 20] (.seq (.reg [⟨some 160, .mv (.t 20), none⟩,
    ⟨some 161, .bin .lss (.t 160) (.c (.int .i64 0)), none⟩] [19, 20, 161])
  (.cond (.t 161) (.seq (.reg [⟨some 8, .asg (.c (.bool false)), none⟩] [8])
  (.ret)) (.skip))))
  (.seq (.kp [] (.seq (.reg [⟨some 162, .mv (.t 20), none⟩,
    ⟨some 163, .mv (.t 19), none⟩,
    ⟨some 164, .bin .neq (.t 162) (.t 163), none⟩] [164])
  (.cond (.t 164) (.seq (.reg [⟨some 8, .asg (.c (.bool false)), none⟩] [8])
  (.ret)) (.skip))))
  (.seq (.reg [⟨some 8, .asg (.c (.bool true)), none⟩] [8])
  (.ret))))))))))))))))))))))))))))))))))))))))
theorem con_laws_FnExactMergePlans {v0 : XGeo} {v1 : (List XVariable)} {v2 : (List XTable)} {v3 : (List XTable)} {r : Bool} (h : sh_laws_FnExactMergePlans v0 v1 v2 v3 = some r) : Con Try.prog 3 [(cXGeo (cLs cI rfl)).enc v0, (cLs (cXVariable cS cI) rfl).enc v1, (cLs (cXTable cI (cLs cI rfl) (cLs cI rfl) cI) rfl).enc v2, (cLs (cXTable cI (cLs cI rfl) (cLs cI rfl) cI) rfl).enc v3] [] (rs_laws_FnExactMergePlans r) := by
  delta sh_laws_FnExactMergePlans at h
  refine top (out := none) (f := Try.f3) (m := m3) (rs := [.t 8]) (by kernel_rfl) rfl (by kernel_rfl) (by kernel_rfl) (by kernel_rfl) (by kernel_rfl) (by kernel_rfl) ?_
  exact
   ini [(0, .d ((cXGeo (cLs cI rfl)).enc v0)), (1, .d ((cLs (cXVariable cS cI) rfl).enc v1)), (2, .d ((cLs (cXTable cI (cLs cI rfl) (cLs cI rfl) cI) rfl).enc v2)), (3, .d ((cLs (cXTable cI (cLs cI rfl) (cLs cI rfl) cI) rfl).enc v3))] rfl <| wpC_seq <| reg_s <| x_box (ss rfl rfl) <| x_asg (sc cB false rfl) <| seqN [(1, .d ((cLs (cXVariable cS cI) rfl).enc v1)), (2, .d ((cLs (cXTable cI (cLs cI rfl) (cLs cI rfl) cI) rfl).enc v2)), (3, .d ((cLs (cXTable cI (cLs cI rfl) (cLs cI rfl) cI) rfl).enc v3)), (4, .box ((cXGeo (cLs cI rfl)).enc v0))] (by kernel_rfl) <|
    xn <| wpC_seq <| reg_s <| x_asg (sc cI (1048576 : Int) rfl) <| seqN [(1, .d ((cLs (cXVariable cS cI) rfl).enc v1)), (2, .d ((cLs (cXTable cI (cLs cI rfl) (cLs cI rfl) cI) rfl).enc v2)), (3, .d ((cLs (cXTable cI (cLs cI rfl) (cLs cI rfl) cI) rfl).enc v3)), (4, .box ((cXGeo (cLs cI rfl)).enc v0)), (9, .d (cI.enc (1048576 : Int)))] (by kernel_rfl) <|
    xn <| wpC_seq <| reg_s <| st rfl <| ldb rfl rfl rfl rfl <| st rfl <| mvd rfl rfl <| bnd h fun x3 e4 h => st rfl <| o_call (a1 (c := (cXGeo (cLs cI rfl))) (tXGeo (tLs tK)) rfl (a1 (c := cI) tK rfl a0)) (con_laws_szGeo e4) (.inl (so1 sK so0)) <| x_asg (ss rfl rfl) <| seqN [(1, .d ((cLs (cXVariable cS cI) rfl).enc v1)), (2, .d ((cLs (cXTable cI (cLs cI rfl) (cLs cI rfl) cI) rfl).enc v2)), (3, .d ((cLs (cXTable cI (cLs cI rfl) (cLs cI rfl) cI) rfl).enc v3)), (4, .box ((cXGeo (cLs cI rfl)).enc v0)), (9, .d (cI.enc x3))] (by kernel_rfl) <|
    xn <| wpC_seq <| wpC_kp <| wpC_seq <| reg_s <| st rfl <| mvd rfl rfl <| st rfl <| b_lss (k := .i64) rfl rfl <| seqN [(1, .d ((cLs (cXVariable cS cI) rfl).enc v1)), (2, .d ((cLs (cXTable cI (cLs cI rfl) (cLs cI rfl) cI) rfl).enc v2)), (3, .d ((cLs (cXTable cI (cLs cI rfl) (cLs cI rfl) cI) rfl).enc v3)), (4, .box ((cXGeo (cLs cI rfl)).enc v0)), (9, .d (cI.enc x3)), (27, .d (cB.enc (decide (x3 < (0 : Int)))))] (by kernel_rfl) <|
    xn <| cnd rfl h (fun b6 h => wpC_seq <| reg_s <| x_asg (sc cB true rfl) <| seqN [(8, .d (cB.enc true))] (by kernel_rfl) <|
    xn <| wpC_ret <| rt <| rt <| re <| fin h (r1 (ss rfl rfl) <| r0) rfl)
    (fun b6 h => wpC_skip <| kpN [(1, .d ((cLs (cXVariable cS cI) rfl).enc v1)), (2, .d ((cLs (cXTable cI (cLs cI rfl) (cLs cI rfl) cI) rfl).enc v2)), (3, .d ((cLs (cXTable cI (cLs cI rfl) (cLs cI rfl) cI) rfl).enc v3)), (4, .box ((cXGeo (cLs cI rfl)).enc v0)), (9, .d (cI.enc x3))] (by kernel_rfl) <| xn <| wpC_seq <| reg_s <| st rfl <| mvd rfl rfl <| st rfl <| mvd rfl rfl <| bnd h fun x9 e10 h => st rfl <| o_call (a1 (c := (cLs (cXVariable cS cI) rfl)) (tLs (tXVariable tS tK)) rfl (a1 (c := cI) tK rfl a0)) (con_laws_szVariableS e10) (.inl (so1 sK so0)) <| x_asg (ss rfl rfl) <| seqN [(1, .d ((cLs (cXVariable cS cI) rfl).enc v1)), (2, .d ((cLs (cXTable cI (cLs cI rfl) (cLs cI rfl) cI) rfl).enc v2)), (3, .d ((cLs (cXTable cI (cLs cI rfl) (cLs cI rfl) cI) rfl).enc v3)), (4, .box ((cXGeo (cLs cI rfl)).enc v0)), (9, .d (cI.enc x9))] (by kernel_rfl) <|
    xn <| wpC_seq <| wpC_kp <| wpC_seq <| reg_s <| st rfl <| mvd rfl rfl <| st rfl <| b_lss (k := .i64) rfl rfl <| seqN [(1, .d ((cLs (cXVariable cS cI) rfl).enc v1)), (2, .d ((cLs (cXTable cI (cLs cI rfl) (cLs cI rfl) cI) rfl).enc v2)), (3, .d ((cLs (cXTable cI (cLs cI rfl) (cLs cI rfl) cI) rfl).enc v3)), (4, .box ((cXGeo (cLs cI rfl)).enc v0)), (9, .d (cI.enc x9)), (32, .d (cB.enc (decide (x9 < (0 : Int)))))] (by kernel_rfl) <|
    xn <| cnd rfl h (fun b12 h => wpC_seq <| reg_s <| x_asg (sc cB true rfl) <| seqN [(8, .d (cB.enc true))] (by kernel_rfl) <|
    xn <| wpC_ret <| rt <| rt <| re <| fin h (r1 (ss rfl rfl) <| r0) rfl)
    (fun b12 h => wpC_skip <| kpN [(1, .d ((cLs (cXVariable cS cI) rfl).enc v1)), (2, .d ((cLs (cXTable cI (cLs cI rfl) (cLs cI rfl) cI) rfl).enc v2)), (3, .d ((cLs (cXTable cI (cLs cI rfl) (cLs cI rfl) cI) rfl).enc v3)), (4, .box ((cXGeo (cLs cI rfl)).enc v0)), (9, .d (cI.enc x9))] (by kernel_rfl) <| xn <| wpC_seq <| reg_s <| st rfl <| mvd rfl rfl <| st rfl <| mvd rfl rfl <| bnd h fun x15 e16 h => st rfl <| o_call (a1 (c := (cLs (cXTable cI (cLs cI rfl) (cLs cI rfl) cI) rfl)) (tLs (tXTable tK (tLs tK) (tLs tK) tK)) rfl (a1 (c := cI) tK rfl a0)) (con_laws_szTableS e16) (.inl (so1 sK so0)) <| x_asg (ss rfl rfl) <| seqN [(1, .d ((cLs (cXVariable cS cI) rfl).enc v1)), (2, .d ((cLs (cXTable cI (cLs cI rfl) (cLs cI rfl) cI) rfl).enc v2)), (3, .d ((cLs (cXTable cI (cLs cI rfl) (cLs cI rfl) cI) rfl).enc v3)), (4, .box ((cXGeo (cLs cI rfl)).enc v0)), (9, .d (cI.enc x15))] (by kernel_rfl) <|
    xn <| wpC_seq <| wpC_kp <| wpC_seq <| reg_s <| st rfl <| mvd rfl rfl <| st rfl <| b_lss (k := .i64) rfl rfl <| seqN [(1, .d ((cLs (cXVariable cS cI) rfl).enc v1)), (2, .d ((cLs (cXTable cI (cLs cI rfl) (cLs cI rfl) cI) rfl).enc v2)), (3, .d ((cLs (cXTable cI (cLs cI rfl) (cLs cI rfl) cI) rfl).enc v3)), (4, .box ((cXGeo (cLs cI rfl)).enc v0)), (9, .d (cI.enc x15)), (37, .d (cB.enc (decide (x15 < (0 : Int)))))] (by kernel_rfl) <|
    xn <| cnd rfl h (fun b18 h => wpC_seq <| reg_s <| x_asg (sc cB true rfl) <| seqN [(8, .d (cB.enc true))] (by kernel_rfl) <|
    xn <| wpC_ret <| rt <| rt <| re <| fin h (r1 (ss rfl rfl) <| r0) rfl)
    (fun b18 h => wpC_skip <| kpN [(1, .d ((cLs (cXVariable cS cI) rfl).enc v1)), (2, .d ((cLs (cXTable cI (cLs cI rfl) (cLs cI rfl) cI) rfl).enc v2)), (3, .d ((cLs (cXTable cI (cLs cI rfl) (cLs cI rfl) cI) rfl).enc v3)), (4, .box ((cXGeo (cLs cI rfl)).enc v0)), (9, .d (cI.enc x15))] (by kernel_rfl) <| xn <| wpC_seq <| reg_s <| st rfl <| mvd rfl rfl <| st rfl <| mvd rfl rfl <| bnd h fun x21 e22 h => st rfl <| o_call (a1 (c := (cLs (cXTable cI (cLs cI rfl) (cLs cI rfl) cI) rfl)) (tLs (tXTable tK (tLs tK) (tLs tK) tK)) rfl (a1 (c := cI) tK rfl a0)) (con_laws_szTableS e22) (.inl (so1 sK so0)) <| x_asg (ss rfl rfl) <| seqN [(1, .d ((cLs (cXVariable cS cI) rfl).enc v1)), (2, .d ((cLs (cXTable cI (cLs cI rfl) (cLs cI rfl) cI) rfl).enc v2)), (3, .d ((cLs (cXTable cI (cLs cI rfl) (cLs cI rfl) cI) rfl).enc v3)), (4, .box ((cXGeo (cLs cI rfl)).enc v0)), (9, .d (cI.enc x21))] (by kernel_rfl) <|
    xn <| wpC_seq <| wpC_kp <| wpC_seq <| reg_s <| st rfl <| mvd rfl rfl <| st rfl <| b_lss (k := .i64) rfl rfl <| seqN [(1, .d ((cLs (cXVariable cS cI) rfl).enc v1)), (2, .d ((cLs (cXTable cI (cLs cI rfl) (cLs cI rfl) cI) rfl).enc v2)), (3, .d ((cLs (cXTable cI (cLs cI rfl) (cLs cI rfl) cI) rfl).enc v3)), (4, .box ((cXGeo (cLs cI rfl)).enc v0)), (42, .d (cB.enc (decide (x21 < (0 : Int)))))] (by kernel_rfl) <|
    xn <| cnd rfl h (fun b24 h => wpC_seq <| reg_s <| x_asg (sc cB true rfl) <| seqN [(8, .d (cB.enc true))] (by kernel_rfl) <|
    xn <| wpC_ret <| rt <| rt <| re <| fin h (r1 (ss rfl rfl) <| r0) rfl)
    (fun b24 h => wpC_skip <| kpN [(1, .d ((cLs (cXVariable cS cI) rfl).enc v1)), (2, .d ((cLs (cXTable cI (cLs cI rfl) (cLs cI rfl) cI) rfl).enc v2)), (3, .d ((cLs (cXTable cI (cLs cI rfl) (cLs cI rfl) cI) rfl).enc v3)), (4, .box ((cXGeo (cLs cI rfl)).enc v0))] (by kernel_rfl) <| xn <| wpC_seq <| reg_s <| st rfl <| ldb rfl rfl rfl rfl <| bnd h fun x35 e36 h => st rfl <| o_call (a1 (c := (cXGeo (cLs cI rfl))) (tXGeo (tLs tK)) rfl a0) (con_laws_toGeo e36) (.inl (so1 (sXGeo (sLo sK)) so0)) <| st rfl <| mvd rfl rfl <| bnd h fun x37 e38 h => st rfl <| o_call (a1 (c := (cLs (cXVariable cS cI) rfl)) (tLs (tXVariable tS tK)) rfl a0) (con_laws_toVariableS e38) (.inl (so1 (sLo (sXVariable sS sK)) so0)) <| st rfl <| mvd rfl rfl <| bnd h fun x39 e40 h => st rfl <| o_call (a1 (c := (cLs (cXTable cI (cLs cI rfl) (cLs cI rfl) cI) rfl)) (tLs (tXTable tK (tLs tK) (tLs tK) tK)) rfl a0) (con_laws_toTableS e40) (.inl (so1 (sLo (sXTable sK (sLo sK) (sLo sK) sK)) so0)) <| st rfl <| mvd rfl rfl <| bnd h fun x41 e42 h => st rfl <| o_call (a1 (c := (cLs (cXTable cI (cLs cI rfl) (cLs cI rfl) cI) rfl)) (tLs (tXTable tK (tLs tK) (tLs tK) tK)) rfl a0) (con_laws_toTableS e42) (.inl (so1 (sLo (sXTable sK (sLo sK) (sLo sK) sK)) so0)) <| bnd h fun x43 e44 h => st rfl <| o_call (a1 (c := (cXGeo (cLo cI))) (tXGeo (tLo tK)) rfl (a1 (c := (cLo (cXVariable cS cI))) (tLo (tXVariable tS tK)) rfl (a1 (c := (cLo (cXTable cI (cLo cI) (cLo cI) cI))) (tLo (tXTable tK (tLo tK) (tLo tK) tK)) rfl (a1 (c := (cLo (cXTable cI (cLo cI) (cLo cI) cI))) (tLo (tXTable tK (tLo tK) (tLo tK) tK)) rfl a0)))) (con_spec_MergePlans e44) (.inl (so1 (sLo (sXTable sK (sLo sK) (sLo sK) sK)) (so1 sB so0))) <| x_mvt rfl <| x_ext rfl rfl <| x_ext rfl rfl <| x_asg (so rfl rfl) <| x_asg (ss rfl rfl) <| seqN [(1, .d ((cLs (cXVariable cS cI) rfl).enc v1)), (2, .d ((cLs (cXTable cI (cLs cI rfl) (cLs cI rfl) cI) rfl).enc v2)), (3, .d ((cLs (cXTable cI (cLs cI rfl) (cLs cI rfl) cI) rfl).enc v3)), (4, .box ((cXGeo (cLs cI rfl)).enc v0)), (10, .d ((cLo (cXTable cI (cLo cI) (cLo cI) cI)).enc x43.1)), (11, .d (cB.enc x43.2))] (by kernel_rfl) <|
    xn <| wpC_seq <| reg_s <| st rfl <| ldb rfl rfl rfl rfl <| bnd h fun x47 e48 h => st rfl <| o_call (a1 (c := (cXGeo (cLs cI rfl))) (tXGeo (tLs tK)) rfl a0) (con_laws_toGeo e48) (.inl (so1 (sXGeo (sLo sK)) so0)) <| x_all (cXGeo (cLo cI)) (⟨([] : List Int)⟩ : XGeo) rfl <| x_stb (so rfl rfl) rfl (Cd.h_sz _ _) rfl <| seqN [(1, .d ((cLs (cXVariable cS cI) rfl).enc v1)), (2, .d ((cLs (cXTable cI (cLs cI rfl) (cLs cI rfl) cI) rfl).enc v2)), (3, .d ((cLs (cXTable cI (cLs cI rfl) (cLs cI rfl) cI) rfl).enc v3)), (4, .box ((cXGeo (cLs cI rfl)).enc v0)), (10, .d ((cLo (cXTable cI (cLo cI) (cLo cI) cI)).enc x43.1)), (11, .d (cB.enc x43.2)), (12, .box ((cXGeo (cLo cI)).enc x47))] (by kernel_rfl) <|
    xn <| wpC_seq <| reg_s <| st rfl <| mvd rfl rfl <| bnd h fun x51 e52 h => st rfl <| o_call (a1 (c := (cLs (cXVariable cS cI) rfl)) (tLs (tXVariable tS tK)) rfl a0) (con_laws_toVariableS e52) (.inl (so1 (sLo (sXVariable sS sK)) so0)) <| x_asg (so rfl rfl) <| seqN [(1, .d ((cLs (cXVariable cS cI) rfl).enc v1)), (2, .d ((cLs (cXTable cI (cLs cI rfl) (cLs cI rfl) cI) rfl).enc v2)), (3, .d ((cLs (cXTable cI (cLs cI rfl) (cLs cI rfl) cI) rfl).enc v3)), (4, .box ((cXGeo (cLs cI rfl)).enc v0)), (10, .d ((cLo (cXTable cI (cLo cI) (cLo cI) cI)).enc x43.1)), (11, .d (cB.enc x43.2)), (12, .box ((cXGeo (cLo cI)).enc x47)), (13, .d ((cLo (cXVariable cS cI)).enc x51))] (by kernel_rfl) <|
    xn <| wpC_seq <| reg_s <| st rfl <| mvd rfl rfl <| bnd h fun x55 e56 h => st rfl <| o_call (a1 (c := (cLs (cXTable cI (cLs cI rfl) (cLs cI rfl) cI) rfl)) (tLs (tXTable tK (tLs tK) (tLs tK) tK)) rfl a0) (con_laws_toTableS e56) (.inl (so1 (sLo (sXTable sK (sLo sK) (sLo sK) sK)) so0)) <| x_asg (so rfl rfl) <| seqN [(1, .d ((cLs (cXVariable cS cI) rfl).enc v1)), (2, .d ((cLs (cXTable cI (cLs cI rfl) (cLs cI rfl) cI) rfl).enc v2)), (3, .d ((cLs (cXTable cI (cLs cI rfl) (cLs cI rfl) cI) rfl).enc v3)), (4, .box ((cXGeo (cLs cI rfl)).enc v0)), (10, .d ((cLo (cXTable cI (cLo cI) (cLo cI) cI)).enc x43.1)), (11, .d (cB.enc x43.2)), (12, .box ((cXGeo (cLo cI)).enc x47)), (13, .d ((cLo (cXVariable cS cI)).enc x51)), (14, .d ((cLo (cXTable cI (cLo cI) (cLo cI) cI)).enc x55))] (by kernel_rfl) <|
    xn <| wpC_seq <| reg_s <| st rfl <| mvd rfl rfl <| bnd h fun x59 e60 h => st rfl <| o_call (a1 (c := (cLs (cXTable cI (cLs cI rfl) (cLs cI rfl) cI) rfl)) (tLs (tXTable tK (tLs tK) (tLs tK) tK)) rfl a0) (con_laws_toTableS e60) (.inl (so1 (sLo (sXTable sK (sLo sK) (sLo sK) sK)) so0)) <| x_asg (so rfl rfl) <| seqN [(1, .d ((cLs (cXVariable cS cI) rfl).enc v1)), (2, .d ((cLs (cXTable cI (cLs cI rfl) (cLs cI rfl) cI) rfl).enc v2)), (3, .d ((cLs (cXTable cI (cLs cI rfl) (cLs cI rfl) cI) rfl).enc v3)), (4, .box ((cXGeo (cLs cI rfl)).enc v0)), (10, .d ((cLo (cXTable cI (cLo cI) (cLo cI) cI)).enc x43.1)), (11, .d (cB.enc x43.2)), (12, .box ((cXGeo (cLo cI)).enc x47)), (13, .d ((cLo (cXVariable cS cI)).enc x51)), (14, .d ((cLo (cXTable cI (cLo cI) (cLo cI) cI)).enc x55)), (15, .d ((cLo (cXTable cI (cLo cI) (cLo cI) cI)).enc x59))] (by kernel_rfl) <|
    xn <| wpC_seq <| reg_s <| st rfl <| ldbo rfl rfl rfl rfl <| st rfl <| mvo rfl rfl <| st rfl <| mvo rfl rfl <| st rfl <| mvo rfl rfl <| bnd h fun x63 e64 h => st rfl <| o_call (a1 (c := (cXGeo (cLo cI))) (tXGeo (tLo tK)) rfl (a1 (c := (cLo (cXVariable cS cI))) (tLo (tXVariable tS tK)) rfl (a1 (c := (cLo (cXTable cI (cLo cI) (cLo cI) cI))) (tLo (tXTable tK (tLo tK) (tLo tK) tK)) rfl (a1 (c := (cLo (cXTable cI (cLo cI) (cLo cI) cI))) (tLo (tXTable tK (tLo tK) (tLo tK) tK)) rfl a0)))) (con_impl_MergePlans e64) (.inl (so1 (sLo (sXTable sK (sLo sK) (sLo sK) sK)) (so1 sB so0))) <| x_mvt rfl <| x_ext rfl rfl <| x_ext rfl rfl <| x_asg (so rfl rfl) <| x_asg (ss rfl rfl) <| seqN [(1, .d ((cLs (cXVariable cS cI) rfl).enc v1)), (2, .d ((cLs (cXTable cI (cLs cI rfl) (cLs cI rfl) cI) rfl).enc v2)), (3, .d ((cLs (cXTable cI (cLs cI rfl) (cLs cI rfl) cI) rfl).enc v3)), (4, .box ((cXGeo (cLs cI rfl)).enc v0)), (10, .d ((cLo (cXTable cI (cLo cI) (cLo cI) cI)).enc x43.1)), (11, .d (cB.enc x43.2)), (12, .box ((cXGeo (cLo cI)).enc x47)), (13, .d ((cLo (cXVariable cS cI)).enc x51)), (14, .d ((cLo (cXTable cI (cLo cI) (cLo cI) cI)).enc x55)), (15, .d ((cLo (cXTable cI (cLo cI) (cLo cI) cI)).enc x59)), (16, .d ((cLo (cXTable cI (cLo cI) (cLo cI) cI)).enc x63.1)), (17, .d (cB.enc x63.2))] (by kernel_rfl) <|
    xn <| wpC_seq <| wpC_kp <| wpC_seq <| reg_s <| st rfl <| mvo rfl rfl <| st rfl <| mvo rfl rfl <| bnd h fun x75 e76 h => st rfl <| o_call (a1 (c := (cLo (cXTable cI (cLo cI) (cLo cI) cI))) (tLo (tXTable tK (tLo tK) (tLo tK) tK)) rfl (a1 (c := (cLo (cXTable cI (cLo cI) (cLo cI) cI))) (tLo (tXTable tK (tLo tK) (tLo tK) tK)) rfl a0)) (con_laws_eqTableS e76) (.inl (so1 sB so0)) <| st rfl <| o_nt rfl <| st rfl <| mvd rfl rfl <| ite_k h (fun b77 h => gf rfl b77 <| gf rfl b77 <| gf rfl b77 <| st rfl <| pick1 rfl b77 (cd := cB) (v := true) rfl rfl <| seqN [(1, .d ((cLs (cXVariable cS cI) rfl).enc v1)), (2, .d ((cLs (cXTable cI (cLs cI rfl) (cLs cI rfl) cI) rfl).enc v2)), (3, .d ((cLs (cXTable cI (cLs cI rfl) (cLs cI rfl) cI) rfl).enc v3)), (4, .box ((cXGeo (cLs cI rfl)).enc v0)), (10, .d ((cLo (cXTable cI (cLo cI) (cLo cI) cI)).enc x43.1)), (11, .d (cB.enc x43.2)), (12, .box ((cXGeo (cLo cI)).enc x47)), (13, .d ((cLo (cXVariable cS cI)).enc x51)), (14, .d ((cLo (cXTable cI (cLo cI) (cLo cI) cI)).enc x55)), (15, .d ((cLo (cXTable cI (cLo cI) (cLo cI) cI)).enc x59)), (16, .d ((cLo (cXTable cI (cLo cI) (cLo cI) cI)).enc x63.1)), (17, .d (cB.enc x63.2)), (79, .d (cB.enc true))] (by kernel_rfl) <|
    xn <| cnd1 rfl rfl <| wpC_seq <| reg_s <| x_asg (sc cB false rfl) <| seqN [(8, .d (cB.enc false))] (by kernel_rfl) <|
    xn <| wpC_ret <| rt <| rt <| re <| fin h (r1 (ss rfl rfl) <| r0) rfl)
    (fun b77 h => gt' rfl b77 <| st rfl <| mvd rfl rfl <| gt' rfl b77 <| st rfl <| mvd rfl rfl <| gt' rfl b77 <| st rfl <| eqb1 rfl rfl <| st rfl <| pick0 rfl b77 (cd := cB) (v := (x63.2 != x43.2)) rfl rfl <| seqN [(1, .d ((cLs (cXVariable cS cI) rfl).enc v1)), (2, .d ((cLs (cXTable cI (cLs cI rfl) (cLs cI rfl) cI) rfl).enc v2)), (3, .d ((cLs (cXTable cI (cLs cI rfl) (cLs cI rfl) cI) rfl).enc v3)), (4, .box ((cXGeo (cLs cI rfl)).enc v0)), (10, .d ((cLo (cXTable cI (cLo cI) (cLo cI) cI)).enc x43.1)), (11, .d (cB.enc x43.2)), (12, .box ((cXGeo (cLo cI)).enc x47)), (13, .d ((cLo (cXVariable cS cI)).enc x51)), (14, .d ((cLo (cXTable cI (cLo cI) (cLo cI) cI)).enc x55)), (15, .d ((cLo (cXTable cI (cLo cI) (cLo cI) cI)).enc x59)), (16, .d ((cLo (cXTable cI (cLo cI) (cLo cI) cI)).enc x63.1)), (17, .d (cB.enc x63.2)), (79, .d (cB.enc (x63.2 != x43.2)))] (by kernel_rfl) <|
    xn <| cnd rfl h (fun b78 h => wpC_seq <| reg_s <| x_asg (sc cB false rfl) <| seqN [(8, .d (cB.enc false))] (by kernel_rfl) <|
    xn <| wpC_ret <| rt <| rt <| re <| fin h (r1 (ss rfl rfl) <| r0) rfl)
    (fun b78 h => wpC_skip <| kpN [(1, .d ((cLs (cXVariable cS cI) rfl).enc v1)), (2, .d ((cLs (cXTable cI (cLs cI rfl) (cLs cI rfl) cI) rfl).enc v2)), (3, .d ((cLs (cXTable cI (cLs cI rfl) (cLs cI rfl) cI) rfl).enc v3)), (4, .box ((cXGeo (cLs cI rfl)).enc v0)), (10, .d ((cLo (cXTable cI (cLo cI) (cLo cI) cI)).enc x43.1)), (11, .d (cB.enc x43.2)), (12, .box ((cXGeo (cLo cI)).enc x47)), (13, .d ((cLo (cXVariable cS cI)).enc x51)), (14, .d ((cLo (cXTable cI (cLo cI) (cLo cI) cI)).enc x55)), (15, .d ((cLo (cXTable cI (cLo cI) (cLo cI) cI)).enc x59)), (16, .d ((cLo (cXTable cI (cLo cI) (cLo cI) cI)).enc x63.1)), (17, .d (cB.enc x63.2))] (by kernel_rfl) <| xn <| wpC_seq <| wpC_kp <| wpC_seq <| drw_s <| pst rfl <| ldbo rfl rfl rfl rfl ⟨rfl, pst rfl <| ldb rfl rfl rfl rfl ⟨rfl, bndp h fun x92 e93 h => pst rfl <| o_call (a1 (c := (cXGeo (cLs cI rfl))) (tXGeo (tLs tK)) rfl a0) (con_laws_toGeo e93) (.inl (so1 (sXGeo (sLo sK)) so0)) ⟨rfl, bndp h fun x94 e95 h => pst rfl <| o_call (a1 (c := (cXGeo (cLo cI))) (tXGeo (tLo tK)) rfl (a1 (c := (cXGeo (cLo cI))) (tXGeo (tLo tK)) rfl a0)) (con_laws_eqGeo e95) (.inl (so1 sB so0)) ⟨rfl, pst rfl <| o_nt rfl ⟨rfl, preN <| seqN [(1, .d ((cLs (cXVariable cS cI) rfl).enc v1)), (2, .d ((cLs (cXTable cI (cLs cI rfl) (cLs cI rfl) cI) rfl).enc v2)), (3, .d ((cLs (cXTable cI (cLs cI rfl) (cLs cI rfl) cI) rfl).enc v3)), (4, .box ((cXGeo (cLs cI rfl)).enc v0)), (10, .d ((cLo (cXTable cI (cLo cI) (cLo cI) cI)).enc x43.1)), (11, .d (cB.enc x43.2)), (12, .box ((cXGeo (cLo cI)).enc x47)), (13, .d ((cLo (cXVariable cS cI)).enc x51)), (14, .d ((cLo (cXTable cI (cLo cI) (cLo cI) cI)).enc x55)), (15, .d ((cLo (cXTable cI (cLo cI) (cLo cI) cI)).enc x59)), (16, .d ((cLo (cXTable cI (cLo cI) (cLo cI) cI)).enc x63.1)), (17, .d (cB.enc x63.2)), (84, .d (cB.enc (!x94)))] (by kernel_rfl) <|
    xn <| cnd rfl h (fun b96 h => wpC_seq <| reg_s <| x_asg (sc cB false rfl) <| seqN [(8, .d (cB.enc false))] (by kernel_rfl) <|
    xn <| wpC_ret <| rt <| rt <| re <| fin h (r1 (ss rfl rfl) <| r0) rfl)
    (fun b96 h => wpC_skip <| kpN [(1, .d ((cLs (cXVariable cS cI) rfl).enc v1)), (2, .d ((cLs (cXTable cI (cLs cI rfl) (cLs cI rfl) cI) rfl).enc v2)), (3, .d ((cLs (cXTable cI (cLs cI rfl) (cLs cI rfl) cI) rfl).enc v3)), (4, .box ((cXGeo (cLs cI rfl)).enc v0)), (10, .d ((cLo (cXTable cI (cLo cI) (cLo cI) cI)).enc x43.1)), (11, .d (cB.enc x43.2)), (12, .box ((cXGeo (cLo cI)).enc x47)), (13, .d ((cLo (cXVariable cS cI)).enc x51)), (14, .d ((cLo (cXTable cI (cLo cI) (cLo cI) cI)).enc x55)), (15, .d ((cLo (cXTable cI (cLo cI) (cLo cI) cI)).enc x59)), (16, .d ((cLo (cXTable cI (cLo cI) (cLo cI) cI)).enc x63.1)), (17, .d (cB.enc x63.2))] (by kernel_rfl) <| xn <| wpC_seq <| wpC_kp <| wpC_seq <| reg_s <| st rfl <| mvo rfl rfl <| st rfl <| mvd rfl rfl <| bnd h fun x110 e111 h => st rfl <| o_call (a1 (c := (cLs (cXVariable cS cI) rfl)) (tLs (tXVariable tS tK)) rfl a0) (con_laws_toVariableS e111) (.inl (so1 (sLo (sXVariable sS sK)) so0)) <| bnd h fun x112 e113 h => st rfl <| o_call (a1 (c := (cLo (cXVariable cS cI))) (tLo (tXVariable tS tK)) rfl (a1 (c := (cLo (cXVariable cS cI))) (tLo (tXVariable tS tK)) rfl a0)) (con_laws_eqVariableS e113) (.inl (so1 sB so0)) <| st rfl <| o_nt rfl <| seqN [(1, .d ((cLs (cXVariable cS cI) rfl).enc v1)), (2, .d ((cLs (cXTable cI (cLs cI rfl) (cLs cI rfl) cI) rfl).enc v2)), (3, .d ((cLs (cXTable cI (cLs cI rfl) (cLs cI rfl) cI) rfl).enc v3)), (4, .box ((cXGeo (cLs cI rfl)).enc v0)), (10, .d ((cLo (cXTable cI (cLo cI) (cLo cI) cI)).enc x43.1)), (11, .d (cB.enc x43.2)), (12, .box ((cXGeo (cLo cI)).enc x47)), (13, .d ((cLo (cXVariable cS cI)).enc x51)), (14, .d ((cLo (cXTable cI (cLo cI) (cLo cI) cI)).enc x55)), (15, .d ((cLo (cXTable cI (cLo cI) (cLo cI) cI)).enc x59)), (16, .d ((cLo (cXTable cI (cLo cI) (cLo cI) cI)).enc x63.1)), (17, .d (cB.enc x63.2)), (89, .d (cB.enc (!x112)))] (by kernel_rfl) <|
    xn <| cnd rfl h (fun b114 h => wpC_seq <| reg_s <| x_asg (sc cB false rfl) <| seqN [(8, .d (cB.enc false))] (by kernel_rfl) <|
    xn <| wpC_ret <| rt <| rt <| re <| fin h (r1 (ss rfl rfl) <| r0) rfl)
    (fun b114 h => wpC_skip <| kpN [(1, .d ((cLs (cXVariable cS cI) rfl).enc v1)), (2, .d ((cLs (cXTable cI (cLs cI rfl) (cLs cI rfl) cI) rfl).enc v2)), (3, .d ((cLs (cXTable cI (cLs cI rfl) (cLs cI rfl) cI) rfl).enc v3)), (4, .box ((cXGeo (cLs cI rfl)).enc v0)), (10, .d ((cLo (cXTable cI (cLo cI) (cLo cI) cI)).enc x43.1)), (11, .d (cB.enc x43.2)), (12, .box ((cXGeo (cLo cI)).enc x47)), (13, .d ((cLo (cXVariable cS cI)).enc x51)), (14, .d ((cLo (cXTable cI (cLo cI) (cLo cI) cI)).enc x55)), (15, .d ((cLo (cXTable cI (cLo cI) (cLo cI) cI)).enc x59)), (16, .d ((cLo (cXTable cI (cLo cI) (cLo cI) cI)).enc x63.1)), (17, .d (cB.enc x63.2))] (by kernel_rfl) <| xn <| wpC_seq <| wpC_kp <| wpC_seq <| reg_s <| st rfl <| mvo rfl rfl <| st rfl <| mvd rfl rfl <| bnd h fun x128 e129 h => st rfl <| o_call (a1 (c := (cLs (cXTable cI (cLs cI rfl) (cLs cI rfl) cI) rfl)) (tLs (tXTable tK (tLs tK) (tLs tK) tK)) rfl a0) (con_laws_toTableS e129) (.inl (so1 (sLo (sXTable sK (sLo sK) (sLo sK) sK)) so0)) <| bnd h fun x130 e131 h => st rfl <| o_call (a1 (c := (cLo (cXTable cI (cLo cI) (cLo cI) cI))) (tLo (tXTable tK (tLo tK) (tLo tK) tK)) rfl (a1 (c := (cLo (cXTable cI (cLo cI) (cLo cI) cI))) (tLo (tXTable tK (tLo tK) (tLo tK) tK)) rfl a0)) (con_laws_eqTableS e131) (.inl (so1 sB so0)) <| st rfl <| o_nt rfl <| seqN [(1, .d ((cLs (cXVariable cS cI) rfl).enc v1)), (2, .d ((cLs (cXTable cI (cLs cI rfl) (cLs cI rfl) cI) rfl).enc v2)), (3, .d ((cLs (cXTable cI (cLs cI rfl) (cLs cI rfl) cI) rfl).enc v3)), (4, .box ((cXGeo (cLs cI rfl)).enc v0)), (10, .d ((cLo (cXTable cI (cLo cI) (cLo cI) cI)).enc x43.1)), (11, .d (cB.enc x43.2)), (12, .box ((cXGeo (cLo cI)).enc x47)), (13, .d ((cLo (cXVariable cS cI)).enc x51)), (14, .d ((cLo (cXTable cI (cLo cI) (cLo cI) cI)).enc x55)), (15, .d ((cLo (cXTable cI (cLo cI) (cLo cI) cI)).enc x59)), (16, .d ((cLo (cXTable cI (cLo cI) (cLo cI) cI)).enc x63.1)), (17, .d (cB.enc x63.2)), (94, .d (cB.enc (!x130)))] (by kernel_rfl) <|
    xn <| cnd rfl h (fun b132 h => wpC_seq <| reg_s <| x_asg (sc cB false rfl) <| seqN [(8, .d (cB.enc false))] (by kernel_rfl) <|
    xn <| wpC_ret <| rt <| rt <| re <| fin h (r1 (ss rfl rfl) <| r0) rfl)
    (fun b132 h => wpC_skip <| kpN [(1, .d ((cLs (cXVariable cS cI) rfl).enc v1)), (2, .d ((cLs (cXTable cI (cLs cI rfl) (cLs cI rfl) cI) rfl).enc v2)), (3, .d ((cLs (cXTable cI (cLs cI rfl) (cLs cI rfl) cI) rfl).enc v3)), (4, .box ((cXGeo (cLs cI rfl)).enc v0)), (10, .d ((cLo (cXTable cI (cLo cI) (cLo cI) cI)).enc x43.1)), (11, .d (cB.enc x43.2)), (12, .box ((cXGeo (cLo cI)).enc x47)), (13, .d ((cLo (cXVariable cS cI)).enc x51)), (14, .d ((cLo (cXTable cI (cLo cI) (cLo cI) cI)).enc x55)), (15, .d ((cLo (cXTable cI (cLo cI) (cLo cI) cI)).enc x59)), (16, .d ((cLo (cXTable cI (cLo cI) (cLo cI) cI)).enc x63.1)), (17, .d (cB.enc x63.2))] (by kernel_rfl) <| xn <| wpC_seq <| wpC_kp <| wpC_seq <| reg_s <| st rfl <| mvo rfl rfl <| st rfl <| mvd rfl rfl <| bnd h fun x146 e147 h => st rfl <| o_call (a1 (c := (cLs (cXTable cI (cLs cI rfl) (cLs cI rfl) cI) rfl)) (tLs (tXTable tK (tLs tK) (tLs tK) tK)) rfl a0) (con_laws_toTableS e147) (.inl (so1 (sLo (sXTable sK (sLo sK) (sLo sK) sK)) so0)) <| bnd h fun x148 e149 h => st rfl <| o_call (a1 (c := (cLo (cXTable cI (cLo cI) (cLo cI) cI))) (tLo (tXTable tK (tLo tK) (tLo tK) tK)) rfl (a1 (c := (cLo (cXTable cI (cLo cI) (cLo cI) cI))) (tLo (tXTable tK (tLo tK) (tLo tK) tK)) rfl a0)) (con_laws_eqTableS e149) (.inl (so1 sB so0)) <| st rfl <| o_nt rfl <| seqN [(1, .d ((cLs (cXVariable cS cI) rfl).enc v1)), (2, .d ((cLs (cXTable cI (cLs cI rfl) (cLs cI rfl) cI) rfl).enc v2)), (3, .d ((cLs (cXTable cI (cLs cI rfl) (cLs cI rfl) cI) rfl).enc v3)), (4, .box ((cXGeo (cLs cI rfl)).enc v0)), (10, .d ((cLo (cXTable cI (cLo cI) (cLo cI) cI)).enc x43.1)), (11, .d (cB.enc x43.2)), (12, .box ((cXGeo (cLo cI)).enc x47)), (13, .d ((cLo (cXVariable cS cI)).enc x51)), (14, .d ((cLo (cXTable cI (cLo cI) (cLo cI) cI)).enc x55)), (15, .d ((cLo (cXTable cI (cLo cI) (cLo cI) cI)).enc x59)), (16, .d ((cLo (cXTable cI (cLo cI) (cLo cI) cI)).enc x63.1)), (17, .d (cB.enc x63.2)), (99, .d (cB.enc (!x148)))] (by kernel_rfl) <|
    xn <| cnd rfl h (fun b150 h => wpC_seq <| reg_s <| x_asg (sc cB false rfl) <| seqN [(8, .d (cB.enc false))] (by kernel_rfl) <|
    xn <| wpC_ret <| rt <| rt <| re <| fin h (r1 (ss rfl rfl) <| r0) rfl)
    (fun b150 h => wpC_skip <| kpN [(1, .d ((cLs (cXVariable cS cI) rfl).enc v1)), (2, .d ((cLs (cXTable cI (cLs cI rfl) (cLs cI rfl) cI) rfl).enc v2)), (3, .d ((cLs (cXTable cI (cLs cI rfl) (cLs cI rfl) cI) rfl).enc v3)), (4, .box ((cXGeo (cLs cI rfl)).enc v0)), (10, .d ((cLo (cXTable cI (cLo cI) (cLo cI) cI)).enc x43.1)), (11, .d (cB.enc x43.2)), (12, .box ((cXGeo (cLo cI)).enc x47)), (13, .d ((cLo (cXVariable cS cI)).enc x51)), (14, .d ((cLo (cXTable cI (cLo cI) (cLo cI) cI)).enc x55)), (15, .d ((cLo (cXTable cI (cLo cI) (cLo cI) cI)).enc x59)), (16, .d ((cLo (cXTable cI (cLo cI) (cLo cI) cI)).enc x63.1)), (17, .d (cB.enc x63.2))] (by kernel_rfl) <| xn <| wpC_seq <| reg_s <| x_asg (sc cI (1 : Int) rfl) <| seqN [(1, .d ((cLs (cXVariable cS cI) rfl).enc v1)), (2, .d ((cLs (cXTable cI (cLs cI rfl) (cLs cI rfl) cI) rfl).enc v2)), (3, .d ((cLs (cXTable cI (cLs cI rfl) (cLs cI rfl) cI) rfl).enc v3)), (4, .box ((cXGeo (cLs cI rfl)).enc v0)), (10, .d ((cLo (cXTable cI (cLo cI) (cLo cI) cI)).enc x43.1)), (11, .d (cB.enc x43.2)), (12, .box ((cXGeo (cLo cI)).enc x47)), (13, .d ((cLo (cXVariable cS cI)).enc x51)), (14, .d ((cLo (cXTable cI (cLo cI) (cLo cI) cI)).enc x55)), (15, .d ((cLo (cXTable cI (cLo cI) (cLo cI) cI)).enc x59)), (16, .d ((cLo (cXTable cI (cLo cI) (cLo cI) cI)).enc x63.1)), (17, .d (cB.enc x63.2)), (18, .d (cI.enc (1 : Int)))] (by kernel_rfl) <|
    xn <| wpC_seq <| reg_s <| st rfl <| ldbo rfl rfl rfl rfl <| st rfl <| mvd rfl rfl <| bnd h fun x153 e154 h => x_clr (c := (cXGeo (cLo cI))) (c' := (cXGeo (cLo cI))) ((cXGeo (cLo cI)).enc x153.1) (sXGeo (sLo sK)) rfl (a1 (c := cI) tK rfl a0) rfl Ln.nil (con_laws_markGeo e154) rfl rfl (so1 sK so0) <| x_asg (ss rfl rfl) <| seqN [(1, .d ((cLs (cXVariable cS cI) rfl).enc v1)), (2, .d ((cLs (cXTable cI (cLs cI rfl) (cLs cI rfl) cI) rfl).enc v2)), (3, .d ((cLs (cXTable cI (cLs cI rfl) (cLs cI rfl) cI) rfl).enc v3)), (4, .box ((cXGeo (cLs cI rfl)).enc v0)), (10, .d ((cLo (cXTable cI (cLo cI) (cLo cI) cI)).enc x43.1)), (11, .d (cB.enc x43.2)), (13, .d ((cLo (cXVariable cS cI)).enc x51)), (14, .d ((cLo (cXTable cI (cLo cI) (cLo cI) cI)).enc x55)), (15, .d ((cLo (cXTable cI (cLo cI) (cLo cI) cI)).enc x59)), (16, .d ((cLo (cXTable cI (cLo cI) (cLo cI) cI)).enc x63.1)), (17, .d (cB.enc x63.2)), (18, .d (cI.enc x153.2))] (by kernel_rfl) <|
    xn <| wpC_seq <| reg_s <| st rfl <| mvo rfl rfl <| st rfl <| mvd rfl rfl <| bnd h fun x157 e158 h => x_clr (c := (cLo (cXVariable cS cI))) (c' := (cLo (cXVariable cS cI))) ((cLo (cXVariable cS cI)).enc x157.1) (sLo (sXVariable sS sK)) rfl (a1 (c := cI) tK rfl a0) rfl Ln.nil (con_laws_markVariableS e158) rfl rfl (so1 sK so0) <| x_asg (ss rfl rfl) <| seqN [(1, .d ((cLs (cXVariable cS cI) rfl).enc v1)), (2, .d ((cLs (cXTable cI (cLs cI rfl) (cLs cI rfl) cI) rfl).enc v2)), (3, .d ((cLs (cXTable cI (cLs cI rfl) (cLs cI rfl) cI) rfl).enc v3)), (4, .box ((cXGeo (cLs cI rfl)).enc v0)), (10, .d ((cLo (cXTable cI (cLo cI) (cLo cI) cI)).enc x43.1)), (11, .d (cB.enc x43.2)), (14, .d ((cLo (cXTable cI (cLo cI) (cLo cI) cI)).enc x55)), (15, .d ((cLo (cXTable cI (cLo cI) (cLo cI) cI)).enc x59)), (16, .d ((cLo (cXTable cI (cLo cI) (cLo cI) cI)).enc x63.1)), (17, .d (cB.enc x63.2)), (18, .d (cI.enc x157.2))] (by kernel_rfl) <|
    xn <| wpC_seq <| reg_s <| st rfl <| mvo rfl rfl <| st rfl <| mvd rfl rfl <| bnd h fun x161 e162 h => x_clr (c := (cLo (cXTable cI (cLo cI) (cLo cI) cI))) (c' := (cLo (cXTable cI (cLo cI) (cLo cI) cI))) ((cLo (cXTable cI (cLo cI) (cLo cI) cI)).enc x161.1) (sLo (sXTable sK (sLo sK) (sLo sK) sK)) rfl (a1 (c := cI) tK rfl a0) rfl Ln.nil (con_laws_markTableS e162) rfl rfl (so1 sK so0) <| x_asg (ss rfl rfl) <| seqN [(1, .d ((cLs (cXVariable cS cI) rfl).enc v1)), (2, .d ((cLs (cXTable cI (cLs cI rfl) (cLs cI rfl) cI) rfl).enc v2)), (3, .d ((cLs (cXTable cI (cLs cI rfl) (cLs cI rfl) cI) rfl).enc v3)), (4, .box ((cXGeo (cLs cI rfl)).enc v0)), (10, .d ((cLo (cXTable cI (cLo cI) (cLo cI) cI)).enc x43.1)), (11, .d (cB.enc x43.2)), (15, .d ((cLo (cXTable cI (cLo cI) (cLo cI) cI)).enc x59)), (16, .d ((cLo (cXTable cI (cLo cI) (cLo cI) cI)).enc x63.1)), (17, .d (cB.enc x63.2)), (18, .d (cI.enc x161.2))] (by kernel_rfl) <|
    xn <| wpC_seq <| reg_s <| st rfl <| mvo rfl rfl <| st rfl <| mvd rfl rfl <| bnd h fun x165 e166 h => x_clr (c := (cLo (cXTable cI (cLo cI) (cLo cI) cI))) (c' := (cLo (cXTable cI (cLo cI) (cLo cI) cI))) ((cLo (cXTable cI (cLo cI) (cLo cI) cI)).enc x165.1) (sLo (sXTable sK (sLo sK) (sLo sK) sK)) rfl (a1 (c := cI) tK rfl a0) rfl Ln.nil (con_laws_markTableS e166) rfl rfl (so1 sK so0) <| x_asg (ss rfl rfl) <| seqN [(1, .d ((cLs (cXVariable cS cI) rfl).enc v1)), (2, .d ((cLs (cXTable cI (cLs cI rfl) (cLs cI rfl) cI) rfl).enc v2)), (3, .d ((cLs (cXTable cI (cLs cI rfl) (cLs cI rfl) cI) rfl).enc v3)), (4, .box ((cXGeo (cLs cI rfl)).enc v0)), (10, .d ((cLo (cXTable cI (cLo cI) (cLo cI) cI)).enc x43.1)), (11, .d (cB.enc x43.2)), (16, .d ((cLo (cXTable cI (cLo cI) (cLo cI) cI)).enc x63.1)), (17, .d (cB.enc x63.2)), (18, .d (cI.enc x165.2))] (by kernel_rfl) <|
    xn <| wpC_seq <| wpC_kp <| wpC_seq <| reg_s <| st rfl <| mvd rfl rfl <| st rfl <| b_lss (k := .i64) rfl rfl <| st rfl <| mvd rfl rfl <| ite_k h (fun b179 h => gf rfl b179 <| gf rfl b179 <| gf rfl b179 <| gf rfl b179 <| st rfl <| pick1 rfl b179 (cd := cB) (v := true) rfl rfl <| st rfl <| mvd rfl rfl <| gf rfl rfl <| gf rfl rfl <| gf rfl rfl <| st rfl <| pick1 rfl rfl (cd := cB) (v := true) rfl rfl <| seqN [(1, .d ((cLs (cXVariable cS cI) rfl).enc v1)), (2, .d ((cLs (cXTable cI (cLs cI rfl) (cLs cI rfl) cI) rfl).enc v2)), (3, .d ((cLs (cXTable cI (cLs cI rfl) (cLs cI rfl) cI) rfl).enc v3)), (4, .box ((cXGeo (cLs cI rfl)).enc v0)), (10, .d ((cLo (cXTable cI (cLo cI) (cLo cI) cI)).enc x43.1)), (11, .d (cB.enc x43.2)), (16, .d ((cLo (cXTable cI (cLo cI) (cLo cI) cI)).enc x63.1)), (124, .d (cB.enc true))] (by kernel_rfl) <|
    xn <| cnd1 rfl rfl <| wpC_seq <| reg_s <| x_asg (sc cB false rfl) <| seqN [(8, .d (cB.enc false))] (by kernel_rfl) <|
    xn <| wpC_ret <| rt <| rt <| re <| fin h (r1 (ss rfl rfl) <| r0) rfl)
    (fun b179 h => gt' rfl b179 <| st rfl <| mvo rfl rfl <| gt' rfl b179 <| st rfl <| mvo rfl rfl <| gt' rfl b179 <| bnd h fun x180 e181 h => st rfl <| o_call (a1 (c := (cLo (cXTable cI (cLo cI) (cLo cI) cI))) (tLo (tXTable tK (tLo tK) (tLo tK) tK)) rfl (a1 (c := (cLo (cXTable cI (cLo cI) (cLo cI) cI))) (tLo (tXTable tK (tLo tK) (tLo tK) tK)) rfl a0)) (con_laws_eqTableS e181) (.inl (so1 sB so0)) <| gt' rfl b179 <| st rfl <| o_nt rfl <| st rfl <| pick0 rfl b179 (cd := cB) (v := (!x180)) rfl rfl <| st rfl <| mvd rfl rfl <| ite_k h (fun b182 h => gf rfl b182 <| gf rfl b182 <| gf rfl b182 <| st rfl <| pick1 rfl b182 (cd := cB) (v := true) rfl rfl <| seqN [(1, .d ((cLs (cXVariable cS cI) rfl).enc v1)), (2, .d ((cLs (cXTable cI (cLs cI rfl) (cLs cI rfl) cI) rfl).enc v2)), (3, .d ((cLs (cXTable cI (cLs cI rfl) (cLs cI rfl) cI) rfl).enc v3)), (4, .box ((cXGeo (cLs cI rfl)).enc v0)), (10, .d ((cLo (cXTable cI (cLo cI) (cLo cI) cI)).enc x43.1)), (11, .d (cB.enc x43.2)), (16, .d ((cLo (cXTable cI (cLo cI) (cLo cI) cI)).enc x63.1)), (124, .d (cB.enc true))] (by kernel_rfl) <|
    xn <| cnd1 rfl rfl <| wpC_seq <| reg_s <| x_asg (sc cB false rfl) <| seqN [(8, .d (cB.enc false))] (by kernel_rfl) <|
    xn <| wpC_ret <| rt <| rt <| re <| fin h (r1 (ss rfl rfl) <| r0) rfl)
    (fun b182 h => gt' rfl b182 <| st rfl <| mvd rfl rfl <| gt' rfl b182 <| st rfl <| mvd rfl rfl <| gt' rfl b182 <| st rfl <| eqb1 rfl rfl <| st rfl <| pick0 rfl b182 (cd := cB) (v := (x63.2 != x43.2)) rfl rfl <| seqN [(1, .d ((cLs (cXVariable cS cI) rfl).enc v1)), (2, .d ((cLs (cXTable cI (cLs cI rfl) (cLs cI rfl) cI) rfl).enc v2)), (3, .d ((cLs (cXTable cI (cLs cI rfl) (cLs cI rfl) cI) rfl).enc v3)), (4, .box ((cXGeo (cLs cI rfl)).enc v0)), (10, .d ((cLo (cXTable cI (cLo cI) (cLo cI) cI)).enc x43.1)), (11, .d (cB.enc x43.2)), (16, .d ((cLo (cXTable cI (cLo cI) (cLo cI) cI)).enc x63.1)), (124, .d (cB.enc (x63.2 != x43.2)))] (by kernel_rfl) <|
    xn <| cnd0 rfl b78 <| wpC_skip <| kpN [(1, .d ((cLs (cXVariable cS cI) rfl).enc v1)), (2, .d ((cLs (cXTable cI (cLs cI rfl) (cLs cI rfl) cI) rfl).enc v2)), (3, .d ((cLs (cXTable cI (cLs cI rfl) (cLs cI rfl) cI) rfl).enc v3)), (4, .box ((cXGeo (cLs cI rfl)).enc v0)), (10, .d ((cLo (cXTable cI (cLo cI) (cLo cI) cI)).enc x43.1)), (11, .d (cB.enc x43.2)), (16, .d ((cLo (cXTable cI (cLo cI) (cLo cI) cI)).enc x63.1))] (by kernel_rfl) <| xn <| wpC_seq <| reg_s <| x_asg (sc cI (1 : Int) rfl) <| seqN [(1, .d ((cLs (cXVariable cS cI) rfl).enc v1)), (2, .d ((cLs (cXTable cI (cLs cI rfl) (cLs cI rfl) cI) rfl).enc v2)), (3, .d ((cLs (cXTable cI (cLs cI rfl) (cLs cI rfl) cI) rfl).enc v3)), (4, .box ((cXGeo (cLs cI rfl)).enc v0)), (10, .d ((cLo (cXTable cI (cLo cI) (cLo cI) cI)).enc x43.1)), (11, .d (cB.enc x43.2)), (16, .d ((cLo (cXTable cI (cLo cI) (cLo cI) cI)).enc x63.1)), (19, .d (cI.enc (1 : Int)))] (by kernel_rfl) <|
    xn <| wpC_seq <| reg_s <| st rfl <| mvo rfl rfl <| st rfl <| mvd rfl rfl <| bnd h fun x185 e186 h => x_clr (c := (cLo (cXTable cI (cLo cI) (cLo cI) cI))) (c' := (cLo (cXTable cI (cLo cI) (cLo cI) cI))) ((cLo (cXTable cI (cLo cI) (cLo cI) cI)).enc x185.1) (sLo (sXTable sK (sLo sK) (sLo sK) sK)) rfl (a1 (c := cI) tK rfl a0) rfl Ln.nil (con_laws_markTableS e186) rfl rfl (so1 sK so0) <| x_asg (ss rfl rfl) <| seqN [(1, .d ((cLs (cXVariable cS cI) rfl).enc v1)), (2, .d ((cLs (cXTable cI (cLs cI rfl) (cLs cI rfl) cI) rfl).enc v2)), (3, .d ((cLs (cXTable cI (cLs cI rfl) (cLs cI rfl) cI) rfl).enc v3)), (4, .box ((cXGeo (cLs cI rfl)).enc v0)), (10, .d ((cLo (cXTable cI (cLo cI) (cLo cI) cI)).enc x43.1)), (11, .d (cB.enc x43.2)), (16, .d ((cLo (cXTable cI (cLo cI) (cLo cI) cI)).enc x185.1)), (19, .d (cI.enc x185.2))] (by kernel_rfl) <|
    xn <| wpC_seq <| reg_s <| x_asg (sc cI (1 : Int) rfl) <| seqN [(1, .d ((cLs (cXVariable cS cI) rfl).enc v1)), (2, .d ((cLs (cXTable cI (cLs cI rfl) (cLs cI rfl) cI) rfl).enc v2)), (3, .d ((cLs (cXTable cI (cLs cI rfl) (cLs cI rfl) cI) rfl).enc v3)), (4, .box ((cXGeo (cLs cI rfl)).enc v0)), (10, .d ((cLo (cXTable cI (cLo cI) (cLo cI) cI)).enc x43.1)), (11, .d (cB.enc x43.2)), (16, .d ((cLo (cXTable cI (cLo cI) (cLo cI) cI)).enc x185.1)), (19, .d (cI.enc x185.2)), (20, .d (cI.enc (1 : Int)))] (by kernel_rfl) <|
    xn <| wpC_seq <| reg_s <| st rfl <| mvo rfl rfl <| st rfl <| mvd rfl rfl <| bnd h fun x189 e190 h => st rfl <| o_call (a1 (c := (cLo (cXTable cI (cLo cI) (cLo cI) cI))) (tLo (tXTable tK (tLo tK) (tLo tK) tK)) rfl (a1 (c := cI) tK rfl a0)) (con_laws_heldTableS e190) (.inl (so1 sK so0)) <| x_asg (ss rfl rfl) <| seqN [(1, .d ((cLs (cXVariable cS cI) rfl).enc v1)), (2, .d ((cLs (cXTable cI (cLs cI rfl) (cLs cI rfl) cI) rfl).enc v2)), (3, .d ((cLs (cXTable cI (cLs cI rfl) (cLs cI rfl) cI) rfl).enc v3)), (4, .box ((cXGeo (cLs cI rfl)).enc v0)), (10, .d ((cLo (cXTable cI (cLo cI) (cLo cI) cI)).enc x43.1)), (11, .d (cB.enc x43.2)), (16, .d ((cLo (cXTable cI (cLo cI) (cLo cI) cI)).enc x185.1)), (19, .d (cI.enc x185.2)), (20, .d (cI.enc x189))] (by kernel_rfl) <|
    xn <| wpC_seq <| wpC_kp <| wpC_seq <| reg_s <| st rfl <| mvd rfl rfl <| st rfl <| b_lss (k := .i64) rfl rfl <| seqN [(1, .d ((cLs (cXVariable cS cI) rfl).enc v1)), (2, .d ((cLs (cXTable cI (cLs cI rfl) (cLs cI rfl) cI) rfl).enc v2)), (3, .d ((cLs (cXTable cI (cLs cI rfl) (cLs cI rfl) cI) rfl).enc v3)), (4, .box ((cXGeo (cLs cI rfl)).enc v0)), (10, .d ((cLo (cXTable cI (cLo cI) (cLo cI) cI)).enc x43.1)), (11, .d (cB.enc x43.2)), (16, .d ((cLo (cXTable cI (cLo cI) (cLo cI) cI)).enc x185.1)), (19, .d (cI.enc x185.2)), (20, .d (cI.enc x189)), (132, .d (cB.enc (decide (x189 < (0 : Int)))))] (by kernel_rfl) <|
    xn <| cnd rfl h (fun b192 h => wpC_seq <| reg_s <| x_asg (sc cB false rfl) <| seqN [(8, .d (cB.enc false))] (by kernel_rfl) <|
    xn <| wpC_ret <| rt <| rt <| re <| fin h (r1 (ss rfl rfl) <| r0) rfl)
    (fun b192 h => wpC_skip <| kpN [(1, .d ((cLs (cXVariable cS cI) rfl).enc v1)), (2, .d ((cLs (cXTable cI (cLs cI rfl) (cLs cI rfl) cI) rfl).enc v2)), (3, .d ((cLs (cXTable cI (cLs cI rfl) (cLs cI rfl) cI) rfl).enc v3)), (4, .box ((cXGeo (cLs cI rfl)).enc v0)), (10, .d ((cLo (cXTable cI (cLo cI) (cLo cI) cI)).enc x43.1)), (11, .d (cB.enc x43.2)), (16, .d ((cLo (cXTable cI (cLo cI) (cLo cI) cI)).enc x185.1)), (19, .d (cI.enc x185.2)), (20, .d (cI.enc x189))] (by kernel_rfl) <| xn <| wpC_seq <| wpC_kp <| wpC_seq <| reg_s <| st rfl <| mvd rfl rfl <| st rfl <| mvd rfl rfl <| st rfl <| b_neq (k := .i64) rfl rfl <| seqN [(1, .d ((cLs (cXVariable cS cI) rfl).enc v1)), (2, .d ((cLs (cXTable cI (cLs cI rfl) (cLs cI rfl) cI) rfl).enc v2)), (3, .d ((cLs (cXTable cI (cLs cI rfl) (cLs cI rfl) cI) rfl).enc v3)), (4, .box ((cXGeo (cLs cI rfl)).enc v0)), (10, .d ((cLo (cXTable cI (cLo cI) (cLo cI) cI)).enc x43.1)), (11, .d (cB.enc x43.2)), (16, .d ((cLo (cXTable cI (cLo cI) (cLo cI) cI)).enc x185.1)), (19, .d (cI.enc x185.2)), (135, .d (cB.enc (decide (x189 ≠ x185.2))))] (by kernel_rfl) <|
    xn <| cnd rfl h (fun b194 h => wpC_seq <| reg_s <| x_asg (sc cB false rfl) <| seqN [(8, .d (cB.enc false))] (by kernel_rfl) <|
    xn <| wpC_ret <| rt <| rt <| re <| fin h (r1 (ss rfl rfl) <| r0) rfl)
    (fun b194 h => wpC_skip <| kpN [(1, .d ((cLs (cXVariable cS cI) rfl).enc v1)), (2, .d ((cLs (cXTable cI (cLs cI rfl) (cLs cI rfl) cI) rfl).enc v2)), (3, .d ((cLs (cXTable cI (cLs cI rfl) (cLs cI rfl) cI) rfl).enc v3)), (4, .box ((cXGeo (cLs cI rfl)).enc v0)), (10, .d ((cLo (cXTable cI (cLo cI) (cLo cI) cI)).enc x43.1)), (11, .d (cB.enc x43.2)), (16, .d ((cLo (cXTable cI (cLo cI) (cLo cI) cI)).enc x185.1)), (19, .d (cI.enc x185.2))] (by kernel_rfl) <| xn <| wpC_seq <| reg_s <| st rfl <| ldb rfl rfl rfl rfl <| bnd h fun x205 e206 h => st rfl <| o_call (a1 (c := (cXGeo (cLs cI rfl))) (tXGeo (tLs tK)) rfl a0) (con_laws_toGeo e206) (.inl (so1 (sXGeo (sLo sK)) so0)) <| st rfl <| mvd rfl rfl <| bnd h fun x207 e208 h => st rfl <| o_call (a1 (c := (cLs (cXVariable cS cI) rfl)) (tLs (tXVariable tS tK)) rfl a0) (con_laws_toVariableS e208) (.inl (so1 (sLo (sXVariable sS sK)) so0)) <| st rfl <| mvd rfl rfl <| bnd h fun x209 e210 h => st rfl <| o_call (a1 (c := (cLs (cXTable cI (cLs cI rfl) (cLs cI rfl) cI) rfl)) (tLs (tXTable tK (tLs tK) (tLs tK) tK)) rfl a0) (con_laws_toTableS e210) (.inl (so1 (sLo (sXTable sK (sLo sK) (sLo sK) sK)) so0)) <| st rfl <| mvd rfl rfl <| bnd h fun x211 e212 h => st rfl <| o_call (a1 (c := (cLs (cXTable cI (cLs cI rfl) (cLs cI rfl) cI) rfl)) (tLs (tXTable tK (tLs tK) (tLs tK) tK)) rfl a0) (con_laws_toTableS e212) (.inl (so1 (sLo (sXTable sK (sLo sK) (sLo sK) sK)) so0)) <| bnd h fun x213 e214 h => st rfl <| o_call (a1 (c := (cXGeo (cLo cI))) (tXGeo (tLo tK)) rfl (a1 (c := (cLo (cXVariable cS cI))) (tLo (tXVariable tS tK)) rfl (a1 (c := (cLo (cXTable cI (cLo cI) (cLo cI) cI))) (tLo (tXTable tK (tLo tK) (tLo tK) tK)) rfl (a1 (c := (cLo (cXTable cI (cLo cI) (cLo cI) cI))) (tLo (tXTable tK (tLo tK) (tLo tK) tK)) rfl a0)))) (con_impl_MergePlans e214) (.inl (so1 (sLo (sXTable sK (sLo sK) (sLo sK) sK)) (so1 sB so0))) <| x_mvt rfl <| x_ext rfl rfl <| x_ext rfl rfl <| x_asg (so rfl rfl) <| x_asg (ss rfl rfl) <| seqN [(10, .d ((cLo (cXTable cI (cLo cI) (cLo cI) cI)).enc x43.1)), (11, .d (cB.enc x43.2)), (16, .d ((cLo (cXTable cI (cLo cI) (cLo cI) cI)).enc x185.1)), (19, .d (cI.enc x185.2)), (21, .d ((cLo (cXTable cI (cLo cI) (cLo cI) cI)).enc x213.1)), (22, .d (cB.enc x213.2))] (by kernel_rfl) <|
    xn <| wpC_seq <| wpC_kp <| wpC_seq <| reg_s <| st rfl <| mvo rfl rfl <| st rfl <| mvo rfl rfl <| bnd h fun x225 e226 h => st rfl <| o_call (a1 (c := (cLo (cXTable cI (cLo cI) (cLo cI) cI))) (tLo (tXTable tK (tLo tK) (tLo tK) tK)) rfl (a1 (c := (cLo (cXTable cI (cLo cI) (cLo cI) cI))) (tLo (tXTable tK (tLo tK) (tLo tK) tK)) rfl a0)) (con_laws_eqTableS e226) (.inl (so1 sB so0)) <| st rfl <| o_nt rfl <| st rfl <| mvd rfl rfl <| ite_k h (fun b227 h => gf rfl b227 <| gf rfl b227 <| gf rfl b227 <| st rfl <| pick1 rfl b227 (cd := cB) (v := true) rfl rfl <| seqN [(16, .d ((cLo (cXTable cI (cLo cI) (cLo cI) cI)).enc x185.1)), (19, .d (cI.enc x185.2)), (156, .d (cB.enc true))] (by kernel_rfl) <|
    xn <| cnd1 rfl rfl <| wpC_seq <| reg_s <| x_asg (sc cB false rfl) <| seqN [(8, .d (cB.enc false))] (by kernel_rfl) <|
    xn <| wpC_ret <| rt <| rt <| re <| fin h (r1 (ss rfl rfl) <| r0) rfl)
    (fun b227 h => gt' rfl b227 <| st rfl <| mvd rfl rfl <| gt' rfl b227 <| st rfl <| mvd rfl rfl <| gt' rfl b227 <| st rfl <| eqb1 rfl rfl <| st rfl <| pick0 rfl b227 (cd := cB) (v := (x213.2 != x43.2)) rfl rfl <| seqN [(16, .d ((cLo (cXTable cI (cLo cI) (cLo cI) cI)).enc x185.1)), (19, .d (cI.enc x185.2)), (156, .d (cB.enc (x213.2 != x43.2)))] (by kernel_rfl) <|
    xn <| cnd rfl h (fun b228 h => wpC_seq <| reg_s <| x_asg (sc cB false rfl) <| seqN [(8, .d (cB.enc false))] (by kernel_rfl) <|
    xn <| wpC_ret <| rt <| rt <| re <| fin h (r1 (ss rfl rfl) <| r0) rfl)
    (fun b228 h => wpC_skip <| kpN [(16, .d ((cLo (cXTable cI (cLo cI) (cLo cI) cI)).enc x185.1)), (19, .d (cI.enc x185.2))] (by kernel_rfl) <| xn <| wpC_seq <| reg_s <| x_asg (sc cI (1 : Int) rfl) <| seqN [(16, .d ((cLo (cXTable cI (cLo cI) (cLo cI) cI)).enc x185.1)), (19, .d (cI.enc x185.2)), (20, .d (cI.enc (1 : Int)))] (by kernel_rfl) <|
    xn <| wpC_seq <| reg_s <| st rfl <| mvo rfl rfl <| st rfl <| mvd rfl rfl <| bnd h fun x231 e232 h => st rfl <| o_call (a1 (c := (cLo (cXTable cI (cLo cI) (cLo cI) cI))) (tLo (tXTable tK (tLo tK) (tLo tK) tK)) rfl (a1 (c := cI) tK rfl a0)) (con_laws_heldTableS e232) (.inl (so1 sK so0)) <| x_asg (ss rfl rfl) <| seqN [(19, .d (cI.enc x185.2)), (20, .d (cI.enc x231))] (by kernel_rfl) <|
    xn <| wpC_seq <| wpC_kp <| wpC_seq <| reg_s <| st rfl <| mvd rfl rfl <| st rfl <| b_lss (k := .i64) rfl rfl <| seqN [(19, .d (cI.enc x185.2)), (20, .d (cI.enc x231)), (161, .d (cB.enc (decide (x231 < (0 : Int)))))] (by kernel_rfl) <|
    xn <| cnd rfl h (fun b234 h => wpC_seq <| reg_s <| x_asg (sc cB false rfl) <| seqN [(8, .d (cB.enc false))] (by kernel_rfl) <|
    xn <| wpC_ret <| rt <| rt <| re <| fin h (r1 (ss rfl rfl) <| r0) rfl)
    (fun b234 h => wpC_skip <| kpN [(19, .d (cI.enc x185.2)), (20, .d (cI.enc x231))] (by kernel_rfl) <| xn <| wpC_seq <| wpC_kp <| wpC_seq <| reg_s <| st rfl <| mvd rfl rfl <| st rfl <| mvd rfl rfl <| st rfl <| b_neq (k := .i64) rfl rfl <| seqN [(164, .d (cB.enc (decide (x231 ≠ x185.2))))] (by kernel_rfl) <|
    xn <| cnd rfl h (fun b236 h => wpC_seq <| reg_s <| x_asg (sc cB false rfl) <| seqN [(8, .d (cB.enc false))] (by kernel_rfl) <|
    xn <| wpC_ret <| rt <| rt <| re <| fin h (r1 (ss rfl rfl) <| r0) rfl)
    (fun b236 h => wpC_skip <| kpN [] (by kernel_rfl) <| xn <| wpC_seq <| reg_s <| x_asg (sc cB true rfl) <| seqN [(8, .d (cB.enc true))] (by kernel_rfl) <|
    xn <| wpC_ret <| re <| fin h (r1 (ss rfl rfl) <| r0) rfl))))))))))))⟩⟩⟩⟩⟩))))))
end AS.W
