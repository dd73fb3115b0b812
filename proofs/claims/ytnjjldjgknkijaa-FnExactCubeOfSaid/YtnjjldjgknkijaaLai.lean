/- The program computes the plain functions. No condition. -/
import Derived.Test.YtnjjldjgknkijaaSai
import Derived.Test.YtnjjldjgknkijaaProg
import Derived.Test.YtnjjldjgknkijaaLaa
import Derived.Test.YtnjjldjgknkijaaLab
import Derived.Test.YtnjjldjgknkijaaLad
import Derived.Test.YtnjjldjgknkijaaLae
set_option maxRecDepth 100000
set_option linter.unusedVariables false
set_option linter.unusedSimpArgs false
namespace AS.W
open Go Go.Proofs
def rs_spec_cbBase (r : (List Int)) : List D := [(cLo cI).enc r]
def m86 : MC := .seq (.reg [⟨some 2, .asg (.c (.slice true [])), none⟩] [0])
  (.seq (.reg [⟨some 3, .asg (.c (.slice true [])), none⟩] [0, 3])
  (.seq (.kp [3] (.seq (.reg [⟨some 4, .asg (.c (.int .i64 0)), none⟩] [0, 3, 4])
  (.blk 0 (.loop (.seq (.kp [0, 3, 4] (.seq (.reg [⟨some 8, .mv (.t 4), none⟩,
    ⟨some 9, .mv (.t 0), none⟩,
    ⟨some 10, .call 59 [(.t 9)], none⟩,
    ⟨some 11, .bin .lss (.t 8) (.t 10), none⟩] [0, 3, 4, 11])
  (.cond (.t 11) (.skip) (.exit 0))))
  (.seq (.kp [0, 3, 4] (.blk 1 (.seq (.reg [⟨some 5, .asg (.c (.bool true)), none⟩] [0, 3, 4, 5])
  (.seq (.kp [0, 3, 4, 5] (.seq (.reg [⟨some 14, .mv (.t 0), none⟩,
    ⟨some 15, .mv (.t 4), none⟩,
    ⟨some 16, .call 60 [(.t 14), (.t 15)], none⟩,
    ⟨some 17, .len false (.t 16), none⟩,
    ⟨some 18, .mv (.c (.int .i64 0)), none⟩] [0, 3, 4, 5, 16, 17, 18])
  (.blk 2 (.loop (.seq (.reg [⟨some 19, .bin .lss (.t 18) (.t 17), none⟩] [0, 3, 4, 5, 16, 17, 18, 19])
  (.seq (.kp [0, 3, 4, 5, 16, 17, 18] (.cond (.t 19) (.skip) (.exit 2)))
  (.seq (.kp [0, 3, 4, 5, 16, 17, 18] (.blk 3 (.seq (.reg [⟨some 20, .mv (.t 18), none⟩,
    ⟨some 21, .ia 16 (.t 18) 1, none⟩,
    ⟨some 22, .ld 21 1 false, none⟩,
    ⟨some 6, .asg (.t 20), none⟩,
    ⟨some 7, .asg (.t 22), none⟩] [0, 3, 4, 5, 6, 7, 16, 17, 18])
  (.reg [⟨some 23, .mv (.t 5), none⟩,
    ⟨some 24, .mv (.t 23), none⟩,
    ⟨some 25, .mv (.t 7), some (24, true)⟩,
    ⟨some 26, .mv (.t 0), some (24, true)⟩,
    ⟨some 27, .mv (.t 6), some (24, true)⟩,
    ⟨some 28, .ia 26 (.t 27) 1, some (24, true)⟩,
    ⟨some 29, .ld 28 1 false, some (24, true)⟩,
    ⟨some 30, .bin .lss (.t 25) (.t 29), some (24, true)⟩,
    ⟨some 31, .pick (.t 24) (.t 30) (.c (.bool false)), none⟩,
    ⟨some 5, .asg (.t 31), none⟩] [0, 3, 4, 5, 16, 17, 18]))))
  (.reg [⟨some 32, .bin .add (.t 18) (.c (.int .i64 1)), none⟩,
    ⟨some 18, .mv (.t 32), none⟩] [0, 3, 4, 5, 16, 17, 18]))))))))
  (.seq (.reg [⟨some 33, .mv (.t 5), none⟩] [0, 3, 4, 33])
  (.cond (.t 33) (.reg [⟨some 34, .mv (.t 3), none⟩,
    ⟨some 35, .mv (.t 4), none⟩,
    ⟨some 36, .bsl [(.t 35)] 1, none⟩,
    ⟨some 37, .app (.t 34) (.t 36) 1, none⟩,
    ⟨some 3, .asg (.t 37), none⟩] [0, 3, 4]) (.skip)))))))
  (.reg [⟨some 12, .mv (.t 4), none⟩,
    ⟨some 13, .bin .add (.t 12) (.c (.int .i64 1)), none⟩,
    ⟨some 4, .asg (.t 13), none⟩] [0, 3, 4])))))))
  (.seq (.reg [⟨some 38, .mv (.t 3), none⟩,
    ⟨some 2, .asg (.t 38), none⟩] [2])
  (.ret))))
theorem con_spec_cbBase {v0 : (List Int)} {r : (List Int)} (h : sh_spec_cbBase v0 = some r) : Con Try.prog 86 [(cLs cI rfl).enc v0] [] (rs_spec_cbBase r) := by
  delta sh_spec_cbBase at h
  refine top (out := none) (f := Try.f86) (m := m86) (rs := [.t 2]) (by kernel_rfl) rfl (by kernel_rfl) (by kernel_rfl) (by kernel_rfl) (by kernel_rfl) (by kernel_rfl) ?_
  exact
   ini [(0, .d ((cLs cI rfl).enc v0))] rfl <| wpC_seq <| reg_s <| x_asg (sc (cLo cI) ([] : List Int) rfl) <| seqN [(0, .d ((cLs cI rfl).enc v0))] (by kernel_rfl) <|
    xn <| wpC_seq <| reg_s <| x_asg (sc (cLo cI) ([] : List Int) rfl) <| seqN [(0, .d ((cLs cI rfl).enc v0)), (3, .d ((cLo cI).enc ([] : List Int)))] (by kernel_rfl) <|
    xn <| wpC_seq <| wpC_kp <| wpC_seq <| reg_s <| x_asg (sc cI (0 : Int) rfl) <| seqN [(0, .d ((cLs cI rfl).enc v0)), (3, .d ((cLo cI).enc ([] : List Int))), (4, .d (cI.enc (0 : Int)))] (by kernel_rfl) <|
    xn <| wpC_blk <| lpF (fun (s489 : ((List Int) × Int)) => [(0, .d ((cLs cI rfl).enc v0)), (3, .d ((cLo cI).enc s489.1)), (4, .d (cI.enc s489.2))]) (([] : List Int), (0 : Int)) rfl h
    fun G816 nx814 s489 hn815 h => wpC_seq <| wpC_kp <| wpC_seq <| reg_s <| st rfl <| mvd rfl rfl <| st rfl <| mvd rfl rfl <| bnd h fun x824 e825 h => st rfl <| o_call (a1 (c := (cLs cI rfl)) (tLs tK) rfl a0) (con_spec_cbCount e825) (.inl (so1 sK so0)) <| st rfl <| b_lss (k := .i64) rfl rfl <| seqN [(0, .d ((cLs cI rfl).enc v0)), (3, .d ((cLo cI).enc s489.1)), (4, .d (cI.enc s489.2)), (11, .d (cB.enc (decide (s489.2 < x824))))] (by kernel_rfl) <|
    xn <| cnd rfl h (fun b826 h => wpC_skip <| kpN [(0, .d ((cLs cI rfl).enc v0)), (3, .d ((cLo cI).enc s489.1)), (4, .d (cI.enc s489.2))] (by kernel_rfl) <| xn <| wpC_seq <| wpC_kp <| wpC_blk <| wpC_seq <| reg_s <| x_asg (sc cB true rfl) <| seqN [(0, .d ((cLs cI rfl).enc v0)), (3, .d ((cLo cI).enc s489.1)), (4, .d (cI.enc s489.2)), (5, .d (cB.enc true))] (by kernel_rfl) <|
    xn <| wpC_seq <| wpC_kp <| wpC_seq <| reg_s <| st rfl <| mvd rfl rfl <| st rfl <| mvd rfl rfl <| bnd h fun x940 e941 h => st rfl <| o_call (a1 (c := (cLs cI rfl)) (tLs tK) rfl (a1 (c := cI) tK rfl a0)) (con_spec_cbIndices e941) (.inl (so1 (sLo sK) so0)) <| stw rfl <| leno rfl fun l942 => st rfl <| mvc cI (0 : Int) rfl <| seqN [(0, .d ((cLs cI rfl).enc v0)), (3, .d ((cLo cI).enc s489.1)), (4, .d (cI.enc s489.2)), (5, .d (cB.enc true)), (16, .d ((cLo cI).enc x940)), (17, .d (cI.enc (x940.length : Int))), (18, .d (cI.enc (0 : Int)))] (by kernel_rfl) <|
    xn <| wpC_blk <| lpR (fun (k944 : Nat) (s943 : Bool) => [(0, .d ((cLs cI rfl).enc v0)), (3, .d ((cLo cI).enc s489.1)), (4, .d (cI.enc s489.2)), (5, .d (cB.enc s943)), (16, .d ((cLo cI).enc x940)), (17, .d (cI.enc (x940.length : Int))), (18, .d (cI.enc (k944 : Int)))]) true rfl h
    (fun G964 s943 h => wpC_seq <| reg_s <| st rfl <| b_lss (k := .i64) rfl rfl <| seqN [(0, .d ((cLs cI rfl).enc v0)), (3, .d ((cLo cI).enc s489.1)), (4, .d (cI.enc s489.2)), (5, .d (cB.enc s943)), (16, .d ((cLo cI).enc x940)), (17, .d (cI.enc (x940.length : Int))), (18, .d (cI.enc (x940.length : Int))), (19, .d (cB.enc (decide ((x940.length : Int) < (x940.length : Int)))))] (by kernel_rfl) <|
    xn <| wpC_seq <| wpC_kp <| cnd0 rfl (dlf _) <| wpC_exit <| xt <| xt <| xt <| xb <| kpN [(0, .d ((cLs cI rfl).enc v0)), (3, .d ((cLo cI).enc s489.1)), (4, .d (cI.enc s489.2)), (5, .d (cB.enc s943))] (by kernel_rfl) <| xn <| wpC_seq <| reg_s <| st rfl <| mvd rfl rfl <| seqN [(0, .d ((cLs cI rfl).enc v0)), (3, .d ((cLo cI).enc s489.1)), (4, .d (cI.enc s489.2)), (33, .d (cB.enc s943))] (by kernel_rfl) <|
    xn <| cnd rfl h (fun b965 h => reg_s <| st rfl <| mvo rfl rfl <| st rfl <| mvd rfl rfl <| x_bsl cI [s489.2] (t1 (ss rfl rfl) rfl t0) rfl rfl <| lnO_k h fun l966 h => x_app (sr rfl rfl) (to rfl rfl) l966 rfl <| x_asg (so rfl rfl) <| seqN [(0, .d ((cLs cI rfl).enc v0)), (3, .d ((cLo cI).enc (s489.1 ++ [s489.2]))), (4, .d (cI.enc s489.2))] (by kernel_rfl) <|
    xbb <| kpN [(0, .d ((cLs cI rfl).enc v0)), (3, .d ((cLo cI).enc (s489.1 ++ [s489.2]))), (4, .d (cI.enc s489.2))] (by kernel_rfl) <| xn <| reg_s <| st rfl <| mvd rfl rfl <| ckI_k h fun i967 h => st rfl <| b_add (k := .i64) rfl rfl i967 <| x_asg (ss rfl rfl) <| seqN [(0, .d ((cLs cI rfl).enc v0)), (3, .d ((cLo cI).enc (s489.1 ++ [s489.2]))), (4, .d (cI.enc (s489.2 + (1 : Int))))] (by kernel_rfl) <|
    xn <| hn815 ((s489.1 ++ [s489.2]), (s489.2 + (1 : Int))) h)
    (fun b965 h => wpC_skip <| xbb <| kpN [(0, .d ((cLs cI rfl).enc v0)), (3, .d ((cLo cI).enc s489.1)), (4, .d (cI.enc s489.2))] (by kernel_rfl) <| xn <| reg_s <| st rfl <| mvd rfl rfl <| ckI_k h fun i968 h => st rfl <| b_add (k := .i64) rfl rfl i968 <| x_asg (ss rfl rfl) <| seqN [(0, .d ((cLs cI rfl).enc v0)), (3, .d ((cLo cI).enc s489.1)), (4, .d (cI.enc (s489.2 + (1 : Int))))] (by kernel_rfl) <|
    xn <| hn815 (s489.1, (s489.2 + (1 : Int))) h))
    (fun G964 nx962 k944 s943 x945 hk946 hx947 hn963 h => wpC_seq <| reg_s <| st rfl <| b_lss (k := .i64) rfl rfl <| seqN [(0, .d ((cLs cI rfl).enc v0)), (3, .d ((cLo cI).enc s489.1)), (4, .d (cI.enc s489.2)), (5, .d (cB.enc s943)), (16, .d ((cLo cI).enc x940)), (17, .d (cI.enc (x940.length : Int))), (18, .d (cI.enc (k944 : Int))), (19, .d (cB.enc (decide ((k944 : Int) < (x940.length : Int)))))] (by kernel_rfl) <|
    xn <| wpC_seq <| wpC_kp <| cnd1 rfl (dlt hk946) <| wpC_skip <| kpN [(0, .d ((cLs cI rfl).enc v0)), (3, .d ((cLo cI).enc s489.1)), (4, .d (cI.enc s489.2)), (5, .d (cB.enc s943)), (16, .d ((cLo cI).enc x940)), (17, .d (cI.enc (x940.length : Int))), (18, .d (cI.enc (k944 : Int)))] (by kernel_rfl) <| xn <| wpC_seq <| wpC_kp <| wpC_blk <| wpC_seq <| reg_s <| st rfl <| mvd rfl rfl <| st rfl <| iao rfl rfl (Int.natCast_nonneg _) hx947 rfl <| st rfl <| lda rfl rfl (Gt.idx hx947 Gt.nil) rfl rfl rfl <| x_asg (ss rfl rfl) <| x_asg (ss rfl rfl) <| seqN [(0, .d ((cLs cI rfl).enc v0)), (3, .d ((cLo cI).enc s489.1)), (4, .d (cI.enc s489.2)), (5, .d (cB.enc s943)), (6, .d (cI.enc (k944 : Int))), (7, .d (cI.enc x945)), (16, .d ((cLo cI).enc x940)), (17, .d (cI.enc (x940.length : Int))), (18, .d (cI.enc (k944 : Int)))] (by kernel_rfl) <|
    xn <| reg_s <| st rfl <| mvd rfl rfl <| st rfl <| mvd rfl rfl <| ite_k h (fun b973 h => gt' rfl b973 <| st rfl <| mvd rfl rfl <| gt' rfl b973 <| st rfl <| mvd rfl rfl <| gt' rfl b973 <| st rfl <| mvd rfl rfl <| gt' rfl b973 <| getO_k h fun x974 i975 g976 h => st rfl <| ias rfl rfl i975 g976 rfl <| gt' rfl b973 <| st rfl <| ldi rfl rfl rfl rfl <| gt' rfl b973 <| st rfl <| b_lss (k := .i64) rfl rfl <| st rfl <| pick1 rfl b973 (cd := cB) (v := (decide (x945 < x974))) rfl rfl <| x_asg (ss rfl rfl) <| seqN [(0, .d ((cLs cI rfl).enc v0)), (3, .d ((cLo cI).enc s489.1)), (4, .d (cI.enc s489.2)), (5, .d (cB.enc (decide (x945 < x974)))), (16, .d ((cLo cI).enc x940)), (17, .d (cI.enc (x940.length : Int))), (18, .d (cI.enc (k944 : Int)))] (by kernel_rfl) <|
    xbb <| kpN [(0, .d ((cLs cI rfl).enc v0)), (3, .d ((cLo cI).enc s489.1)), (4, .d (cI.enc s489.2)), (5, .d (cB.enc (decide (x945 < x974)))), (16, .d ((cLo cI).enc x940)), (17, .d (cI.enc (x940.length : Int))), (18, .d (cI.enc (k944 : Int)))] (by kernel_rfl) <| xn <| reg_s <| st rfl <| b_inc rfl rfl l942 hk946 <| st rfl <| mvd rfl rfl <| seqN [(0, .d ((cLs cI rfl).enc v0)), (3, .d ((cLo cI).enc s489.1)), (4, .d (cI.enc s489.2)), (5, .d (cB.enc (decide (x945 < x974)))), (16, .d ((cLo cI).enc x940)), (17, .d (cI.enc (x940.length : Int))), (18, .d (cI.enc ((k944 + 1 : Nat) : Int)))] (by kernel_rfl) <|
    xn <| hn963 (decide (x945 < x974)) h)
    (fun b973 h => gf rfl b973 <| gf rfl b973 <| gf rfl b973 <| gf rfl b973 <| gf rfl b973 <| gf rfl b973 <| st rfl <| pick0 rfl b973 (cd := cB) (v := false) rfl rfl <| x_asg (ss rfl rfl) <| seqN [(0, .d ((cLs cI rfl).enc v0)), (3, .d ((cLo cI).enc s489.1)), (4, .d (cI.enc s489.2)), (5, .d (cB.enc false)), (16, .d ((cLo cI).enc x940)), (17, .d (cI.enc (x940.length : Int))), (18, .d (cI.enc (k944 : Int)))] (by kernel_rfl) <|
    xbb <| kpN [(0, .d ((cLs cI rfl).enc v0)), (3, .d ((cLo cI).enc s489.1)), (4, .d (cI.enc s489.2)), (5, .d (cB.enc false)), (16, .d ((cLo cI).enc x940)), (17, .d (cI.enc (x940.length : Int))), (18, .d (cI.enc (k944 : Int)))] (by kernel_rfl) <| xn <| reg_s <| st rfl <| b_inc rfl rfl l942 hk946 <| st rfl <| mvd rfl rfl <| seqN [(0, .d ((cLs cI rfl).enc v0)), (3, .d ((cLo cI).enc s489.1)), (4, .d (cI.enc s489.2)), (5, .d (cB.enc false)), (16, .d ((cLo cI).enc x940)), (17, .d (cI.enc (x940.length : Int))), (18, .d (cI.enc ((k944 + 1 : Nat) : Int)))] (by kernel_rfl) <|
    xn <| hn963 false h)))
    (fun b826 h => wpC_exit <| xt <| xt <| xt <| xb <| kpN [(3, .d ((cLo cI).enc s489.1))] (by kernel_rfl) <| xn <| wpC_seq <| reg_s <| st rfl <| mvo rfl rfl <| x_asg (sr rfl rfl) <| seqN [(2, .d ((cLo cI).enc s489.1))] (by kernel_rfl) <|
    xn <| wpC_ret <| re <| fin h (r1 (so rfl rfl) <| r0) rfl)

def rs_spec_cbValues (r : (List Int)) : List D := [(cLo cI).enc r]
def m84 : MC := .seq (.reg [⟨some 1, .box (.t 0), none⟩,
    ⟨some 2, .asg (.c (.slice true [])), none⟩] [1])
  (.seq (.reg [⟨some 3, .asg (.c (.slice true [])), none⟩] [1, 3])
  (.seq (.kp [3] (.seq (.reg [⟨some 6, .fa 1 0 0, none⟩,
    ⟨some 7, .ld 6 1 false, none⟩,
    ⟨some 8, .call 86 [(.t 7)], none⟩,
    ⟨some 9, .len false (.t 8), none⟩,
    ⟨some 10, .mv (.c (.int .i64 0)), none⟩] [1, 3, 8, 9, 10])
  (.blk 0 (.loop (.seq (.reg [⟨some 11, .bin .lss (.t 10) (.t 9), none⟩] [1, 3, 8, 9, 10, 11])
  (.seq (.kp [1, 3, 8, 9, 10] (.cond (.t 11) (.skip) (.exit 0)))
  (.seq (.kp [1, 3, 8, 9, 10] (.blk 1 (.seq (.reg [⟨some 12, .ia 8 (.t 10) 1, none⟩,
    ⟨some 13, .ld 12 1 false, none⟩,
    ⟨some 5, .asg (.t 13), none⟩] [1, 3, 5, 8, 9, 10])
  (.reg [⟨some 14, .mv (.t 3), none⟩,
    ⟨some 15, .fa 1 1 1, none⟩,
    ⟨some 16, .ld 15 1 false, none⟩,
    ⟨some 17, .mv (.t 5), none⟩,
    ⟨some 18, .ia 16 (.t 17) 1, none⟩,
    ⟨some 19, .ld 18 1 false, none⟩,
    ⟨some 20, .bsl [(.t 19)] 1, none⟩,
    ⟨some 21, .app (.t 14) (.t 20) 1, none⟩,
    ⟨some 3, .asg (.t 21), none⟩] [1, 3, 8, 9, 10]))))
  (.reg [⟨some 22, .bin .add (.t 10) (.c (.int .i64 1)), none⟩,
    ⟨some 10, .mv (.t 22), none⟩] [1, 3, 8, 9, 10]))))))))
  (.seq (.reg [⟨some 23, .mv (.t 3), none⟩,
    ⟨some 2, .asg (.t 23), none⟩] [2])
  (.ret))))
theorem con_spec_cbValues {v0 : XCube} {r : (List Int)} (h : sh_spec_cbValues v0 = some r) : Con Try.prog 84 [(cXCube (cLs cI rfl) (cLs cI rfl)).enc v0] [] (rs_spec_cbValues r) := by
  delta sh_spec_cbValues at h
  refine top (out := none) (f := Try.f84) (m := m84) (rs := [.t 2]) (by kernel_rfl) rfl (by kernel_rfl) (by kernel_rfl) (by kernel_rfl) (by kernel_rfl) (by kernel_rfl) ?_
  exact
   ini [(0, .d ((cXCube (cLs cI rfl) (cLs cI rfl)).enc v0))] rfl <| wpC_seq <| reg_s <| x_box (ss rfl rfl) <| x_asg (sc (cLo cI) ([] : List Int) rfl) <| seqN [(1, .box ((cXCube (cLs cI rfl) (cLs cI rfl)).enc v0))] (by kernel_rfl) <|
    xn <| wpC_seq <| reg_s <| x_asg (sc (cLo cI) ([] : List Int) rfl) <| seqN [(1, .box ((cXCube (cLs cI rfl) (cLs cI rfl)).enc v0)), (3, .d ((cLo cI).enc ([] : List Int)))] (by kernel_rfl) <|
    xn <| wpC_seq <| wpC_kp <| wpC_seq <| reg_s <| st rfl <| fab rfl rfl rfl rfl <| st rfl <| lda rfl rfl rfl rfl rfl rfl <| bnd h fun x42 e43 h => st rfl <| o_call (a1 (c := (cLs cI rfl)) (tLs tK) rfl a0) (con_spec_cbBase e43) (.inl (so1 (sLo sK) so0)) <| stw rfl <| leno rfl fun l44 => st rfl <| mvc cI (0 : Int) rfl <| seqN [(1, .box ((cXCube (cLs cI rfl) (cLs cI rfl)).enc v0)), (3, .d ((cLo cI).enc ([] : List Int))), (8, .d ((cLo cI).enc x42)), (9, .d (cI.enc (x42.length : Int))), (10, .d (cI.enc (0 : Int)))] (by kernel_rfl) <|
    xn <| wpC_blk <| lpR (fun (k46 : Nat) (s45 : (List Int)) => [(1, .box ((cXCube (cLs cI rfl) (cLs cI rfl)).enc v0)), (3, .d ((cLo cI).enc s45)), (8, .d ((cLo cI).enc x42)), (9, .d (cI.enc (x42.length : Int))), (10, .d (cI.enc (k46 : Int)))]) ([] : List Int) rfl h
    (fun G68 s45 h => wpC_seq <| reg_s <| st rfl <| b_lss (k := .i64) rfl rfl <| seqN [(1, .box ((cXCube (cLs cI rfl) (cLs cI rfl)).enc v0)), (3, .d ((cLo cI).enc s45)), (8, .d ((cLo cI).enc x42)), (9, .d (cI.enc (x42.length : Int))), (10, .d (cI.enc (x42.length : Int))), (11, .d (cB.enc (decide ((x42.length : Int) < (x42.length : Int)))))] (by kernel_rfl) <|
    xn <| wpC_seq <| wpC_kp <| cnd0 rfl (dlf _) <| wpC_exit <| xt <| xt <| xt <| xb <| kpN [(3, .d ((cLo cI).enc s45))] (by kernel_rfl) <| xn <| wpC_seq <| reg_s <| st rfl <| mvo rfl rfl <| x_asg (sr rfl rfl) <| seqN [(2, .d ((cLo cI).enc s45))] (by kernel_rfl) <|
    xn <| wpC_ret <| re <| fin h (r1 (so rfl rfl) <| r0) rfl)
    (fun G68 nx66 k46 s45 x47 hk48 hx49 hn67 h => wpC_seq <| reg_s <| st rfl <| b_lss (k := .i64) rfl rfl <| seqN [(1, .box ((cXCube (cLs cI rfl) (cLs cI rfl)).enc v0)), (3, .d ((cLo cI).enc s45)), (8, .d ((cLo cI).enc x42)), (9, .d (cI.enc (x42.length : Int))), (10, .d (cI.enc (k46 : Int))), (11, .d (cB.enc (decide ((k46 : Int) < (x42.length : Int)))))] (by kernel_rfl) <|
    xn <| wpC_seq <| wpC_kp <| cnd1 rfl (dlt hk48) <| wpC_skip <| kpN [(1, .box ((cXCube (cLs cI rfl) (cLs cI rfl)).enc v0)), (3, .d ((cLo cI).enc s45)), (8, .d ((cLo cI).enc x42)), (9, .d (cI.enc (x42.length : Int))), (10, .d (cI.enc (k46 : Int)))] (by kernel_rfl) <| xn <| wpC_seq <| wpC_kp <| wpC_blk <| wpC_seq <| reg_s <| st rfl <| iao rfl rfl (Int.natCast_nonneg _) hx49 rfl <| st rfl <| lda rfl rfl (Gt.idx hx49 Gt.nil) rfl rfl rfl <| x_asg (ss rfl rfl) <| seqN [(1, .box ((cXCube (cLs cI rfl) (cLs cI rfl)).enc v0)), (3, .d ((cLo cI).enc s45)), (5, .d (cI.enc x47)), (8, .d ((cLo cI).enc x42)), (9, .d (cI.enc (x42.length : Int))), (10, .d (cI.enc (k46 : Int)))] (by kernel_rfl) <|
    xn <| reg_s <| st rfl <| mvo rfl rfl <| st rfl <| fab rfl rfl rfl rfl <| st rfl <| lda rfl rfl rfl rfl rfl rfl <| st rfl <| mvd rfl rfl <| getO_k h fun x73 i74 g75 h => st rfl <| ias rfl rfl i74 g75 rfl <| st rfl <| ldi rfl rfl rfl rfl <| x_bsl cI [x73] (t1 (ss rfl rfl) rfl t0) rfl rfl <| lnO_k h fun l76 h => x_app (sr rfl rfl) (to rfl rfl) l76 rfl <| x_asg (so rfl rfl) <| seqN [(1, .box ((cXCube (cLs cI rfl) (cLs cI rfl)).enc v0)), (3, .d ((cLo cI).enc (s45 ++ [x73]))), (8, .d ((cLo cI).enc x42)), (9, .d (cI.enc (x42.length : Int))), (10, .d (cI.enc (k46 : Int)))] (by kernel_rfl) <|
    xbb <| kpN [(1, .box ((cXCube (cLs cI rfl) (cLs cI rfl)).enc v0)), (3, .d ((cLo cI).enc (s45 ++ [x73]))), (8, .d ((cLo cI).enc x42)), (9, .d (cI.enc (x42.length : Int))), (10, .d (cI.enc (k46 : Int)))] (by kernel_rfl) <| xn <| reg_s <| st rfl <| b_inc rfl rfl l44 hk48 <| st rfl <| mvd rfl rfl <| seqN [(1, .box ((cXCube (cLs cI rfl) (cLs cI rfl)).enc v0)), (3, .d ((cLo cI).enc (s45 ++ [x73]))), (8, .d ((cLo cI).enc x42)), (9, .d (cI.enc (x42.length : Int))), (10, .d (cI.enc ((k46 + 1 : Nat) : Int)))] (by kernel_rfl) <|
    xn <| hn67 (s45 ++ [x73]) h)

def rs_spec_BaseOf (r : ((List Int) × Bool)) : List D := [(cLo cI).enc r.1, cB.enc r.2]
def m40 : MC := .seq (.reg [⟨some 1, .box (.t 0), none⟩,
    ⟨some 2, .asg (.c (.slice true [])), none⟩,
    ⟨some 3, .asg (.c (.bool false)), none⟩] [1])
  (.seq (.kp [1] (.seq (.reg [⟨some 4, .ld 1 2 true, none⟩,
    ⟨some 5, .call 66 [(.t 4)], none⟩,
    ⟨some 6, .nt (.t 5), none⟩] [1, 6])
  (.cond (.t 6) (.seq (.reg [⟨some 2, .asg (.c (.slice true [])), none⟩,
    ⟨some 3, .asg (.c (.bool false)), none⟩] [2, 3])
  (.ret)) (.skip))))
  (.seq (.reg [⟨some 7, .ld 1 2 true, none⟩,
    ⟨some 8, .call 84 [(.t 7)], none⟩,
    ⟨some 2, .asg (.t 8), none⟩,
    ⟨some 3, .asg (.c (.bool true)), none⟩] [2, 3])
  (.ret)))
theorem con_spec_BaseOf {v0 : XCube} {r : ((List Int) × Bool)} (h : sh_spec_BaseOf v0 = some r) : Con Try.prog 40 [(cXCube (cLs cI rfl) (cLs cI rfl)).enc v0] [] (rs_spec_BaseOf r) := by
  delta sh_spec_BaseOf at h
  refine top (out := none) (f := Try.f40) (m := m40) (rs := [.t 2, .t 3]) (by kernel_rfl) rfl (by kernel_rfl) (by kernel_rfl) (by kernel_rfl) (by kernel_rfl) (by kernel_rfl) ?_
  exact
   ini [(0, .d ((cXCube (cLs cI rfl) (cLs cI rfl)).enc v0))] rfl <| wpC_seq <| reg_s <| x_box (ss rfl rfl) <| x_asg (sc (cLo cI) ([] : List Int) rfl) <| x_asg (sc cB false rfl) <| seqN [(1, .box ((cXCube (cLs cI rfl) (cLs cI rfl)).enc v0))] (by kernel_rfl) <|
    xn <| wpC_seq <| wpC_kp <| wpC_seq <| reg_s <| st rfl <| ldb rfl rfl rfl rfl <| bnd h fun x8 e9 h => st rfl <| o_call (a1 (c := (cXCube (cLs cI rfl) (cLs cI rfl))) (tXCube (tLs tK) (tLs tK)) rfl a0) (con_spec_cbGood e9) (.inl (so1 sB so0)) <| st rfl <| o_nt rfl <| seqN [(1, .box ((cXCube (cLs cI rfl) (cLs cI rfl)).enc v0)), (6, .d (cB.enc (!x8)))] (by kernel_rfl) <|
    xn <| cnd rfl h (fun b10 h => wpC_seq <| reg_s <| x_asg (sc (cLo cI) ([] : List Int) rfl) <| x_asg (sc cB false rfl) <| seqN [(2, .d ((cLo cI).enc ([] : List Int))), (3, .d (cB.enc false))] (by kernel_rfl) <|
    xn <| wpC_ret <| rt <| rt <| re <| fin h (r1 (so rfl rfl) <| r1 (ss rfl rfl) <| r0) rfl)
    (fun b10 h => wpC_skip <| kpN [(1, .box ((cXCube (cLs cI rfl) (cLs cI rfl)).enc v0))] (by kernel_rfl) <| xn <| wpC_seq <| reg_s <| st rfl <| ldb rfl rfl rfl rfl <| bnd h fun x13 e14 h => st rfl <| o_call (a1 (c := (cXCube (cLs cI rfl) (cLs cI rfl))) (tXCube (tLs tK) (tLs tK)) rfl a0) (con_spec_cbValues e14) (.inl (so1 (sLo sK) so0)) <| x_asg (so rfl rfl) <| x_asg (sc cB true rfl) <| seqN [(2, .d ((cLo cI).enc x13)), (3, .d (cB.enc true))] (by kernel_rfl) <|
    xn <| wpC_ret <| re <| fin h (r1 (so rfl rfl) <| r1 (ss rfl rfl) <| r0) rfl)

def rs_impl_isBase (r : Bool) : List D := [cB.enc r]
def m102 : MC := .seq (.reg [⟨some 4, .asg (.c (.bool false)), none⟩] [0, 1])
  (.seq (.kp [] (.seq (.reg [⟨some 7, .mv (.t 1), none⟩,
    ⟨some 8, .len false (.t 7), none⟩,
    ⟨some 9, .mv (.c (.int .i64 0)), none⟩] [0, 1, 7, 8, 9])
  (.blk 0 (.loop (.seq (.reg [⟨some 10, .bin .lss (.t 9) (.t 8), none⟩] [0, 1, 7, 8, 9, 10])
  (.seq (.kp [0, 1, 7, 8, 9] (.cond (.t 10) (.skip) (.exit 0)))
  (.seq (.kp [0, 1, 7, 8, 9] (.blk 1 (.seq (.reg [⟨some 11, .mv (.t 9), none⟩,
    ⟨some 12, .ia 7 (.t 9) 1, none⟩,
    ⟨some 13, .ld 12 1 false, none⟩,
    ⟨some 5, .asg (.t 11), none⟩,
    ⟨some 6, .asg (.t 13), none⟩] [0, 1, 5, 6, 7, 8, 9])
  (.seq (.reg [⟨some 14, .mv (.t 6), none⟩,
    ⟨some 15, .mv (.t 0), none⟩,
    ⟨some 16, .mv (.t 5), none⟩,
    ⟨some 17, .ia 15 (.t 16) 1, none⟩,
    ⟨some 18, .ld 17 1 false, none⟩,
    ⟨some 19, .bin .eql (.t 14) (.t 18), none⟩] [0, 1, 7, 8, 9, 19])
  (.cond (.t 19) (.seq (.reg [⟨some 4, .asg (.c (.bool false)), none⟩] [4])
  (.ret)) (.skip))))))
  (.reg [⟨some 20, .bin .add (.t 9) (.c (.int .i64 1)), none⟩,
    ⟨some 9, .mv (.t 20), none⟩] [0, 1, 7, 8, 9]))))))))
  (.seq (.reg [⟨some 4, .asg (.c (.bool true)), none⟩] [4])
  (.ret)))
theorem con_impl_isBase {v0 : (List Int)} {v1 : (List Int)} {r : Bool} (h : sh_impl_isBase v0 v1 = some r) : Con Try.prog 102 [(cLs cI rfl).enc v0, (cLs cI rfl).enc v1] [] (rs_impl_isBase r) := by
  delta sh_impl_isBase at h
  refine top (out := none) (f := Try.f102) (m := m102) (rs := [.t 4]) (by kernel_rfl) rfl (by kernel_rfl) (by kernel_rfl) (by kernel_rfl) (by kernel_rfl) (by kernel_rfl) ?_
  exact
   ini [(0, .d ((cLs cI rfl).enc v0)), (1, .d ((cLs cI rfl).enc v1))] rfl <| wpC_seq <| reg_s <| x_asg (sc cB false rfl) <| seqN [(0, .d ((cLs cI rfl).enc v0)), (1, .d ((cLs cI rfl).enc v1))] (by kernel_rfl) <|
    xn <| wpC_seq <| wpC_kp <| wpC_seq <| reg_s <| st rfl <| mvd rfl rfl <| stw rfl <| lens rfl fun l40 => st rfl <| mvc cI (0 : Int) rfl <| seqN [(0, .d ((cLs cI rfl).enc v0)), (1, .d ((cLs cI rfl).enc v1)), (7, .d ((cLs cI rfl).enc v1)), (8, .d (cI.enc (v1.length : Int))), (9, .d (cI.enc (0 : Int)))] (by kernel_rfl) <|
    xn <| wpC_blk <| lpR (fun (k42 : Nat) (s41 : Unit) => [(0, .d ((cLs cI rfl).enc v0)), (1, .d ((cLs cI rfl).enc v1)), (7, .d ((cLs cI rfl).enc v1)), (8, .d (cI.enc (v1.length : Int))), (9, .d (cI.enc (k42 : Int)))]) () rfl h
    (fun G62 s41 h => wpC_seq <| reg_s <| st rfl <| b_lss (k := .i64) rfl rfl <| seqN [(0, .d ((cLs cI rfl).enc v0)), (1, .d ((cLs cI rfl).enc v1)), (7, .d ((cLs cI rfl).enc v1)), (8, .d (cI.enc (v1.length : Int))), (9, .d (cI.enc (v1.length : Int))), (10, .d (cB.enc (decide ((v1.length : Int) < (v1.length : Int)))))] (by kernel_rfl) <|
    xn <| wpC_seq <| wpC_kp <| cnd0 rfl (dlf _) <| wpC_exit <| xt <| xt <| xt <| xb <| kpN [] (by kernel_rfl) <| xn <| wpC_seq <| reg_s <| x_asg (sc cB true rfl) <| seqN [(4, .d (cB.enc true))] (by kernel_rfl) <|
    xn <| wpC_ret <| re <| fin h (r1 (ss rfl rfl) <| r0) rfl)
    (fun G62 nx60 k42 s41 x43 hk44 hx45 hn61 h => wpC_seq <| reg_s <| st rfl <| b_lss (k := .i64) rfl rfl <| seqN [(0, .d ((cLs cI rfl).enc v0)), (1, .d ((cLs cI rfl).enc v1)), (7, .d ((cLs cI rfl).enc v1)), (8, .d (cI.enc (v1.length : Int))), (9, .d (cI.enc (k42 : Int))), (10, .d (cB.enc (decide ((k42 : Int) < (v1.length : Int)))))] (by kernel_rfl) <|
    xn <| wpC_seq <| wpC_kp <| cnd1 rfl (dlt hk44) <| wpC_skip <| kpN [(0, .d ((cLs cI rfl).enc v0)), (1, .d ((cLs cI rfl).enc v1)), (7, .d ((cLs cI rfl).enc v1)), (8, .d (cI.enc (v1.length : Int))), (9, .d (cI.enc (k42 : Int)))] (by kernel_rfl) <| xn <| wpC_seq <| wpC_kp <| wpC_blk <| wpC_seq <| reg_s <| st rfl <| mvd rfl rfl <| st rfl <| ias rfl rfl (Int.natCast_nonneg _) hx45 rfl <| st rfl <| ldi rfl rfl rfl rfl <| x_asg (ss rfl rfl) <| x_asg (ss rfl rfl) <| seqN [(0, .d ((cLs cI rfl).enc v0)), (1, .d ((cLs cI rfl).enc v1)), (5, .d (cI.enc (k42 : Int))), (6, .d (cI.enc x43)), (7, .d ((cLs cI rfl).enc v1)), (8, .d (cI.enc (v1.length : Int))), (9, .d (cI.enc (k42 : Int)))] (by kernel_rfl) <|
    xn <| wpC_seq <| reg_s <| st rfl <| mvd rfl rfl <| st rfl <| mvd rfl rfl <| st rfl <| mvd rfl rfl <| getO_k h fun x73 i74 g75 h => st rfl <| ias rfl rfl i74 g75 rfl <| st rfl <| ldi rfl rfl rfl rfl <| st rfl <| b_eql (k := .i64) rfl rfl <| seqN [(0, .d ((cLs cI rfl).enc v0)), (1, .d ((cLs cI rfl).enc v1)), (7, .d ((cLs cI rfl).enc v1)), (8, .d (cI.enc (v1.length : Int))), (9, .d (cI.enc (k42 : Int))), (19, .d (cB.enc (decide (x43 = x73))))] (by kernel_rfl) <|
    xn <| cnd rfl h (fun b76 h => wpC_seq <| reg_s <| x_asg (sc cB false rfl) <| seqN [(4, .d (cB.enc false))] (by kernel_rfl) <|
    xn <| wpC_ret <| rb <| rt <| rt <| rt <| rb <| rt <| rt <| re <| fin h (r1 (ss rfl rfl) <| r0) rfl)
    (fun b76 h => wpC_skip <| xbb <| kpN [(0, .d ((cLs cI rfl).enc v0)), (1, .d ((cLs cI rfl).enc v1)), (7, .d ((cLs cI rfl).enc v1)), (8, .d (cI.enc (v1.length : Int))), (9, .d (cI.enc (k42 : Int)))] (by kernel_rfl) <| xn <| reg_s <| st rfl <| b_inc rfl rfl l40 hk44 <| st rfl <| mvd rfl rfl <| seqN [(0, .d ((cLs cI rfl).enc v0)), (1, .d ((cLs cI rfl).enc v1)), (7, .d ((cLs cI rfl).enc v1)), (8, .d (cI.enc (v1.length : Int))), (9, .d (cI.enc ((k42 + 1 : Nat) : Int)))] (by kernel_rfl) <|
    xn <| hn61 () h))

def rs_impl_baseOf (r : (List Int)) : List D := [(cLo cI).enc r]
def m85 : MC := .seq (.reg [⟨some 1, .box (.t 0), none⟩,
    ⟨some 2, .asg (.c (.slice true [])), none⟩] [1])
  (.seq (.reg [⟨some 3, .asg (.c (.slice true [])), none⟩] [1, 3])
  (.seq (.kp [3] (.seq (.reg [⟨some 6, .fa 1 1 1, none⟩,
    ⟨some 7, .ld 6 1 false, none⟩,
    ⟨some 8, .len false (.t 7), none⟩,
    ⟨some 9, .mv (.c (.int .i64 0)), none⟩] [1, 3, 6, 7, 8, 9])
  (.blk 0 (.loop (.seq (.reg [⟨some 10, .bin .lss (.t 9) (.t 8), none⟩] [1, 3, 6, 7, 8, 9, 10])
  (.seq (.kp [1, 3, 6, 7, 8, 9] (.cond (.t 10) (.skip) (.exit 0)))
  (.seq (.kp [1, 3, 6, 7, 8, 9] (.blk 1 (.seq (.reg [⟨some 11, .mv (.t 9), none⟩,
    ⟨some 12, .ia 7 (.t 9) 1, none⟩,
    ⟨some 13, .ld 12 1 false, none⟩,
    ⟨some 4, .asg (.t 11), none⟩,
    ⟨some 5, .asg (.t 13), none⟩] [1, 3, 4, 5, 6, 7, 8, 9])
  (.seq (.drw [⟨0, ⟨some 14, .fa 1 0 0, none⟩, [15, 16, 17, 18, 19, 20]⟩,
    ⟨1, ⟨some 15, .ld 14 1 false, none⟩, [16, 17, 18, 19, 20]⟩,
    ⟨2, ⟨some 16, .fa 1 0 0, none⟩, [14, 15, 17, 18, 19, 20]⟩,
    ⟨3, ⟨some 17, .ld 16 1 false, none⟩, [14, 15, 18, 19, 20]⟩,
    ⟨4, ⟨some 18, .mv (.t 4), none⟩, [14, 15, 16, 17, 19, 20]⟩,
    ⟨5, ⟨some 19, .call 64 [(.t 17), (.t 18)], none⟩, [14, 15, 20]⟩,
    ⟨6, ⟨some 20, .call 102 [(.t 15), (.t 19)], none⟩, []⟩]
    [] [1, 3, 5, 6, 7, 8, 9, 20])
  (.cond (.t 20) (.reg [⟨some 21, .mv (.t 3), none⟩,
    ⟨some 22, .mv (.t 5), none⟩,
    ⟨some 23, .bsl [(.t 22)] 1, none⟩,
    ⟨some 24, .app (.t 21) (.t 23) 1, none⟩,
    ⟨some 3, .asg (.t 24), none⟩] [1, 3, 6, 7, 8, 9]) (.skip))))))
  (.reg [⟨some 25, .bin .add (.t 9) (.c (.int .i64 1)), none⟩,
    ⟨some 9, .mv (.t 25), none⟩] [1, 3, 6, 7, 8, 9]))))))))
  (.seq (.reg [⟨some 26, .mv (.t 3), none⟩,
    ⟨some 2, .asg (.t 26), none⟩] [2])
  (.ret))))
theorem con_impl_baseOf {v0 : XCube} {r : (List Int)} (h : sh_impl_baseOf v0 = some r) : Con Try.prog 85 [(cXCube (cLs cI rfl) (cLs cI rfl)).enc v0] [] (rs_impl_baseOf r) := by
  delta sh_impl_baseOf at h
  refine top (out := none) (f := Try.f85) (m := m85) (rs := [.t 2]) (by kernel_rfl) rfl (by kernel_rfl) (by kernel_rfl) (by kernel_rfl) (by kernel_rfl) (by kernel_rfl) ?_
  exact
   ini [(0, .d ((cXCube (cLs cI rfl) (cLs cI rfl)).enc v0))] rfl <| wpC_seq <| reg_s <| x_box (ss rfl rfl) <| x_asg (sc (cLo cI) ([] : List Int) rfl) <| seqN [(1, .box ((cXCube (cLs cI rfl) (cLs cI rfl)).enc v0))] (by kernel_rfl) <|
    xn <| wpC_seq <| reg_s <| x_asg (sc (cLo cI) ([] : List Int) rfl) <| seqN [(1, .box ((cXCube (cLs cI rfl) (cLs cI rfl)).enc v0)), (3, .d ((cLo cI).enc ([] : List Int)))] (by kernel_rfl) <|
    xn <| wpC_seq <| wpC_kp <| wpC_seq <| reg_s <| st rfl <| fab rfl rfl rfl rfl <| st rfl <| lda rfl rfl rfl rfl rfl rfl <| stw rfl <| lens rfl fun l72 => st rfl <| mvc cI (0 : Int) rfl <| seqN [(1, .box ((cXCube (cLs cI rfl) (cLs cI rfl)).enc v0)), (3, .d ((cLo cI).enc ([] : List Int))), (6, .adr 1 [.fld 1]), (7, .d ((cLs cI rfl).enc v0.Cells)), (8, .d (cI.enc (v0.Cells.length : Int))), (9, .d (cI.enc (0 : Int)))] (by kernel_rfl) <|
    xn <| wpC_blk <| lpR (fun (k74 : Nat) (s73 : (List Int)) => [(1, .box ((cXCube (cLs cI rfl) (cLs cI rfl)).enc v0)), (3, .d ((cLo cI).enc s73)), (6, .adr 1 [.fld 1]), (7, .d ((cLs cI rfl).enc v0.Cells)), (8, .d (cI.enc (v0.Cells.length : Int))), (9, .d (cI.enc (k74 : Int)))]) ([] : List Int) rfl h
    (fun G120 s73 h => wpC_seq <| reg_s <| st rfl <| b_lss (k := .i64) rfl rfl <| seqN [(1, .box ((cXCube (cLs cI rfl) (cLs cI rfl)).enc v0)), (3, .d ((cLo cI).enc s73)), (6, .adr 1 [.fld 1]), (7, .d ((cLs cI rfl).enc v0.Cells)), (8, .d (cI.enc (v0.Cells.length : Int))), (9, .d (cI.enc (v0.Cells.length : Int))), (10, .d (cB.enc (decide ((v0.Cells.length : Int) < (v0.Cells.length : Int)))))] (by kernel_rfl) <|
    xn <| wpC_seq <| wpC_kp <| cnd0 rfl (dlf _) <| wpC_exit <| xt <| xt <| xt <| xb <| kpN [(3, .d ((cLo cI).enc s73))] (by kernel_rfl) <| xn <| wpC_seq <| reg_s <| st rfl <| mvo rfl rfl <| x_asg (sr rfl rfl) <| seqN [(2, .d ((cLo cI).enc s73))] (by kernel_rfl) <|
    xn <| wpC_ret <| re <| fin h (r1 (so rfl rfl) <| r0) rfl)
    (fun G120 nx118 k74 s73 x75 hk76 hx77 hn119 h => wpC_seq <| reg_s <| st rfl <| b_lss (k := .i64) rfl rfl <| seqN [(1, .box ((cXCube (cLs cI rfl) (cLs cI rfl)).enc v0)), (3, .d ((cLo cI).enc s73)), (6, .adr 1 [.fld 1]), (7, .d ((cLs cI rfl).enc v0.Cells)), (8, .d (cI.enc (v0.Cells.length : Int))), (9, .d (cI.enc (k74 : Int))), (10, .d (cB.enc (decide ((k74 : Int) < (v0.Cells.length : Int)))))] (by kernel_rfl) <|
    xn <| wpC_seq <| wpC_kp <| cnd1 rfl (dlt hk76) <| wpC_skip <| kpN [(1, .box ((cXCube (cLs cI rfl) (cLs cI rfl)).enc v0)), (3, .d ((cLo cI).enc s73)), (6, .adr 1 [.fld 1]), (7, .d ((cLs cI rfl).enc v0.Cells)), (8, .d (cI.enc (v0.Cells.length : Int))), (9, .d (cI.enc (k74 : Int)))] (by kernel_rfl) <| xn <| wpC_seq <| wpC_kp <| wpC_blk <| wpC_seq <| reg_s <| st rfl <| mvd rfl rfl <| st rfl <| ias rfl rfl (Int.natCast_nonneg _) hx77 rfl <| st rfl <| ldi rfl rfl rfl rfl <| x_asg (ss rfl rfl) <| x_asg (ss rfl rfl) <| seqN [(1, .box ((cXCube (cLs cI rfl) (cLs cI rfl)).enc v0)), (3, .d ((cLo cI).enc s73)), (4, .d (cI.enc (k74 : Int))), (5, .d (cI.enc x75)), (6, .adr 1 [.fld 1]), (7, .d ((cLs cI rfl).enc v0.Cells)), (8, .d (cI.enc (v0.Cells.length : Int))), (9, .d (cI.enc (k74 : Int)))] (by kernel_rfl) <|
    xn <| wpC_seq <| drw_s <| pst rfl <| fab rfl rfl rfl rfl ⟨rfl, pst rfl <| lda rfl rfl rfl rfl rfl rfl ⟨rfl, pst rfl <| fab rfl rfl rfl rfl ⟨rfl, pst rfl <| lda rfl rfl rfl rfl rfl rfl ⟨rfl, pst rfl <| mvd rfl rfl ⟨rfl, bndp h fun x135 e136 h => pst rfl <| o_call (a1 (c := (cLs cI rfl)) (tLs tK) rfl (a1 (c := cI) tK rfl a0)) (con_impl_indexOf e136) (.inl (so1 (sLo sK) so0)) ⟨rfl, bndp h fun x137 e138 h => pst rfl <| o_call (a1 (c := (cLs cI rfl)) (tLs tK) rfl (a1 (c := (cLo cI)) (tLo tK) rfl a0)) (con_impl_isBase e138) (.inl (so1 sB so0)) ⟨rfl, preN <| seqN [(1, .box ((cXCube (cLs cI rfl) (cLs cI rfl)).enc v0)), (3, .d ((cLo cI).enc s73)), (5, .d (cI.enc x75)), (6, .adr 1 [.fld 1]), (7, .d ((cLs cI rfl).enc v0.Cells)), (8, .d (cI.enc (v0.Cells.length : Int))), (9, .d (cI.enc (k74 : Int))), (20, .d (cB.enc x137))] (by kernel_rfl) <|
    xn <| cnd rfl h (fun b139 h => reg_s <| st rfl <| mvo rfl rfl <| st rfl <| mvd rfl rfl <| x_bsl cI [x75] (t1 (ss rfl rfl) rfl t0) rfl rfl <| lnO_k h fun l140 h => x_app (sr rfl rfl) (to rfl rfl) l140 rfl <| x_asg (so rfl rfl) <| seqN [(1, .box ((cXCube (cLs cI rfl) (cLs cI rfl)).enc v0)), (3, .d ((cLo cI).enc (s73 ++ [x75]))), (6, .adr 1 [.fld 1]), (7, .d ((cLs cI rfl).enc v0.Cells)), (8, .d (cI.enc (v0.Cells.length : Int))), (9, .d (cI.enc (k74 : Int)))] (by kernel_rfl) <|
    xbb <| kpN [(1, .box ((cXCube (cLs cI rfl) (cLs cI rfl)).enc v0)), (3, .d ((cLo cI).enc (s73 ++ [x75]))), (6, .adr 1 [.fld 1]), (7, .d ((cLs cI rfl).enc v0.Cells)), (8, .d (cI.enc (v0.Cells.length : Int))), (9, .d (cI.enc (k74 : Int)))] (by kernel_rfl) <| xn <| reg_s <| st rfl <| b_inc rfl rfl l72 hk76 <| st rfl <| mvd rfl rfl <| seqN [(1, .box ((cXCube (cLs cI rfl) (cLs cI rfl)).enc v0)), (3, .d ((cLo cI).enc (s73 ++ [x75]))), (6, .adr 1 [.fld 1]), (7, .d ((cLs cI rfl).enc v0.Cells)), (8, .d (cI.enc (v0.Cells.length : Int))), (9, .d (cI.enc ((k74 + 1 : Nat) : Int)))] (by kernel_rfl) <|
    xn <| hn119 (s73 ++ [x75]) h)
    (fun b139 h => wpC_skip <| xbb <| kpN [(1, .box ((cXCube (cLs cI rfl) (cLs cI rfl)).enc v0)), (3, .d ((cLo cI).enc s73)), (6, .adr 1 [.fld 1]), (7, .d ((cLs cI rfl).enc v0.Cells)), (8, .d (cI.enc (v0.Cells.length : Int))), (9, .d (cI.enc (k74 : Int)))] (by kernel_rfl) <| xn <| reg_s <| st rfl <| b_inc rfl rfl l72 hk76 <| st rfl <| mvd rfl rfl <| seqN [(1, .box ((cXCube (cLs cI rfl) (cLs cI rfl)).enc v0)), (3, .d ((cLo cI).enc s73)), (6, .adr 1 [.fld 1]), (7, .d ((cLs cI rfl).enc v0.Cells)), (8, .d (cI.enc (v0.Cells.length : Int))), (9, .d (cI.enc ((k74 + 1 : Nat) : Int)))] (by kernel_rfl) <|
    xn <| hn119 s73 h)⟩⟩⟩⟩⟩⟩⟩)

def rs_impl_BaseOf (r : ((List Int) × Bool)) : List D := [(cLo cI).enc r.1, cB.enc r.2]
def m41 : MC := .seq (.reg [⟨some 1, .box (.t 0), none⟩,
    ⟨some 2, .asg (.c (.slice true [])), none⟩,
    ⟨some 3, .asg (.c (.bool false)), none⟩] [1])
  (.seq (.kp [1] (.seq (.reg [⟨some 4, .ld 1 2 true, none⟩,
    ⟨some 5, .call 29 [(.t 4)], none⟩,
    ⟨some 6, .nt (.t 5), none⟩] [1, 6])
  (.cond (.t 6) (.seq (.reg [⟨some 2, .asg (.c (.slice true [])), none⟩,
    ⟨some 3, .asg (.c (.bool false)), none⟩] [2, 3])
  (.ret)) (.skip))))
  (.seq (.reg [⟨some 7, .ld 1 2 true, none⟩,
    ⟨some 8, .call 85 [(.t 7)], none⟩,
    ⟨some 2, .asg (.t 8), none⟩,
    ⟨some 3, .asg (.c (.bool true)), none⟩] [2, 3])
  (.ret)))
theorem con_impl_BaseOf {v0 : XCube} {r : ((List Int) × Bool)} (h : sh_impl_BaseOf v0 = some r) : Con Try.prog 41 [(cXCube (cLs cI rfl) (cLs cI rfl)).enc v0] [] (rs_impl_BaseOf r) := by
  delta sh_impl_BaseOf at h
  refine top (out := none) (f := Try.f41) (m := m41) (rs := [.t 2, .t 3]) (by kernel_rfl) rfl (by kernel_rfl) (by kernel_rfl) (by kernel_rfl) (by kernel_rfl) (by kernel_rfl) ?_
  exact
   ini [(0, .d ((cXCube (cLs cI rfl) (cLs cI rfl)).enc v0))] rfl <| wpC_seq <| reg_s <| x_box (ss rfl rfl) <| x_asg (sc (cLo cI) ([] : List Int) rfl) <| x_asg (sc cB false rfl) <| seqN [(1, .box ((cXCube (cLs cI rfl) (cLs cI rfl)).enc v0))] (by kernel_rfl) <|
    xn <| wpC_seq <| wpC_kp <| wpC_seq <| reg_s <| st rfl <| ldb rfl rfl rfl rfl <| bnd h fun x8 e9 h => st rfl <| o_call (a1 (c := (cXCube (cLs cI rfl) (cLs cI rfl))) (tXCube (tLs tK) (tLs tK)) rfl a0) (con_impl_IsCube e9) (.inl (so1 sB so0)) <| st rfl <| o_nt rfl <| seqN [(1, .box ((cXCube (cLs cI rfl) (cLs cI rfl)).enc v0)), (6, .d (cB.enc (!x8)))] (by kernel_rfl) <|
    xn <| cnd rfl h (fun b10 h => wpC_seq <| reg_s <| x_asg (sc (cLo cI) ([] : List Int) rfl) <| x_asg (sc cB false rfl) <| seqN [(2, .d ((cLo cI).enc ([] : List Int))), (3, .d (cB.enc false))] (by kernel_rfl) <|
    xn <| wpC_ret <| rt <| rt <| re <| fin h (r1 (so rfl rfl) <| r1 (ss rfl rfl) <| r0) rfl)
    (fun b10 h => wpC_skip <| kpN [(1, .box ((cXCube (cLs cI rfl) (cLs cI rfl)).enc v0))] (by kernel_rfl) <| xn <| wpC_seq <| reg_s <| st rfl <| ldb rfl rfl rfl rfl <| bnd h fun x13 e14 h => st rfl <| o_call (a1 (c := (cXCube (cLs cI rfl) (cLs cI rfl))) (tXCube (tLs tK) (tLs tK)) rfl a0) (con_impl_baseOf e14) (.inl (so1 (sLo sK) so0)) <| x_asg (so rfl rfl) <| x_asg (sc cB true rfl) <| seqN [(2, .d ((cLo cI).enc x13)), (3, .d (cB.enc true))] (by kernel_rfl) <|
    xn <| wpC_ret <| re <| fin h (r1 (so rfl rfl) <| r1 (ss rfl rfl) <| r0) rfl)

def rs_laws_FnExactBaseOf (r : Bool) : List D := [cB.enc r]
def m9 : MC := .seq (.reg [⟨some 1, .box (.t 0), none⟩,
    ⟨some 2, .asg (.c (.bool false)), none⟩] [1])
  (.seq (.reg [⟨some 3, .asg (.c (.int .i64 1048576)), none⟩] [1, 3])
  (.seq (.reg [⟨some 14, .ld 1 2 true, none⟩,
    ⟨some 15, .mv (.t 3), none⟩,
    ⟨some 16, .call 26 [(.t 14), (.t 15)], none⟩,
    ⟨some 3, .asg (.t 16), none⟩] [1, 3])
  (.seq (.kp [1] (.seq (.reg [⟨some 17, .mv (.t 3), none⟩,
    ⟨some 18, .bin .lss (.t 17) (.c (.int .i64 0)), none⟩] [1, 18])
  (.cond (.t 18) (.seq (.reg [⟨some 2, .asg (.c (.bool true)), none⟩] [2])
  (.ret)) (.skip))))
  (.seq (.reg [⟨some 20, .ld 1 2 true, none⟩,
    ⟨some 21, .call 28 [(.t 20)], none⟩,
    ⟨some 22, .call 40 [(.t 21)], none⟩,
    ⟨some 19, .mvt 22, none⟩,
    ⟨some 23, .ext 19 0, none⟩,
    ⟨some 24, .ext 19 1, none⟩,
    ⟨some 4, .asg (.t 23), none⟩,
    ⟨some 5, .asg (.t 24), none⟩] [1, 4, 5])
  (.seq (.reg [⟨some 25, .ld 1 2 true, none⟩,
    ⟨some 26, .call 28 [(.t 25)], none⟩,
    ⟨some 6, .alloc (.agg [.slice true [], .slice true []]), none⟩,
    ⟨none, .st 6 (.t 26) 2, none⟩] [1, 4, 5, 6])
  (.seq (.reg [⟨some 28, .ld 6 2 true, none⟩,
    ⟨some 29, .call 41 [(.t 28)], none⟩,
    ⟨some 27, .mvt 29, none⟩,
    ⟨some 30, .ext 27 0, none⟩,
    ⟨some 31, .ext 27 1, none⟩,
    ⟨some 7, .asg (.t 30), none⟩,
    ⟨some 8, .asg (.t 31), none⟩] [1, 4, 5, 6, 7, 8])
  (.seq (.kp [1, 4, 5, 6, 7, 8] (.seq (.reg [⟨some 32, .mv (.t 7), none⟩,
    ⟨some 33, .mv (.t 4), none⟩,
    ⟨some 34, .call 18 [(.t 32), (.t 33)], none⟩,
    ⟨some 35, .nt (.t 34), none⟩,
    ⟨some 36, .mv (.t 35), none⟩,
    ⟨some 37, .mv (.t 8), some (36, false)⟩,
    ⟨some 38, .mv (.t 5), some (36, false)⟩,
    ⟨some 39, .eqb true (.t 37) (.t 38), some (36, false)⟩,
    ⟨some 40, .pick (.t 36) (.c (.bool true)) (.t 39), none⟩] [1, 4, 5, 6, 7, 8, 40])
  (.cond (.t 40) (.seq (.reg [⟨some 2, .asg (.c (.bool false)), none⟩] [2])
  (.ret)) (.skip))))
  (.seq (.kp [1, 4, 5, 6, 7, 8] (.seq (.drw [⟨0, ⟨some 41, .ld 6 2 true, none⟩, [42, 43, 44, 45]⟩,
    ⟨1, ⟨some 42, .ld 1 2 true, none⟩, [41, 43, 44, 45]⟩,
    ⟨2, ⟨some 43, .call 28 [(.t 42)], none⟩, [41, 44, 45]⟩,
    ⟨3, ⟨some 44, .call 30 [(.t 41), (.t 43)], none⟩, [45]⟩,
    ⟨4, ⟨some 45, .nt (.t 44), none⟩, []⟩]
    [] [1, 4, 5, 6, 7, 8, 45])
  (.cond (.t 45) (.seq (.reg [⟨some 2, .asg (.c (.bool false)), none⟩] [2])
  (.ret)) (.skip))))
  (.seq (.reg [⟨some 9, .asg (.c (.int .i64 1)), none⟩] [1, 4, 5, 6, 7, 8, 9])
  (.seq (.reg [⟨some 46, .ld 6 2 true, none⟩,
    ⟨some 47, .mv (.t 9), none⟩,
    ⟨some 48, .callO 42 [(.t 46), (.t 47)], none⟩,
    ⟨some 9, .asg (.t 48), none⟩] [1, 4, 5, 7, 8, 9])
  (.seq (.kp [1, 4, 5, 7] (.seq (.reg [⟨some 49, .mv (.t 9), none⟩,
    ⟨some 50, .bin .lss (.t 49) (.c (.int .i64 0)), none⟩,
    ⟨some 51, .mv (.t 50), none⟩,
    ⟨some 52, .mv (.t 7), some (51, false)⟩,
    ⟨some 53, .mv (.t 4), some (51, false)⟩,
    ⟨some 54, .call 18 [(.t 52), (.t 53)], some (51, false)⟩,
    ⟨some 55, .nt (.t 54), some (51, false)⟩,
    ⟨some 56, .pick (.t 51) (.c (.bool true)) (.t 55), none⟩,
    ⟨some 57, .mv (.t 56), none⟩,
    ⟨some 58, .mv (.t 8), some (57, false)⟩,
    ⟨some 59, .mv (.t 5), some (57, false)⟩,
    ⟨some 60, .eqb true (.t 58) (.t 59), some (57, false)⟩,
    ⟨some 61, .pick (.t 57) (.c (.bool true)) (.t 60), none⟩] [1, 4, 5, 7, 61])
  (.cond (.t 61) (.seq (.reg [⟨some 2, .asg (.c (.bool false)), none⟩] [2])
  (.ret)) (.skip))))
  (.seq (.reg [⟨some 10, .asg (.c (.int .i64 1)), none⟩] [1, 4, 5, 7, 10])
  (.seq (.reg [⟨some 62, .mv (.t 7), none⟩,
    ⟨some 63, .mv (.t 10), none⟩,
    ⟨some 64, .callO 19 [(.t 62), (.t 63)], none⟩,
    ⟨some 10, .asg (.t 64), none⟩] [1, 4, 5, 7, 10])
  (.seq (.reg [⟨some 11, .asg (.c (.int .i64 1)), none⟩] [1, 4, 5, 7, 10, 11])
  (.seq (.reg [⟨some 65, .mv (.t 7), none⟩,
    ⟨some 66, .mv (.t 11), none⟩,
    ⟨some 67, .call 20 [(.t 65), (.t 66)], none⟩,
    ⟨some 11, .asg (.t 67), none⟩] [1, 4, 5, 7, 10, 11])
  (.seq (.kp [1, 4, 5, 7, 10, 11] (.seq (.reg [⟨some 68, .mv (.t 11), none⟩,
    ⟨some 69, .bin .lss (.t 68) (.c (.int .i64 0)), none⟩] [1, 4, 5, 7, 10, 11, 69])
  (.cond (.t 69) (.seq (.reg [⟨some 2, .asg (.c (.bool false)), none⟩] [2])
  (.ret)) (.skip))))
  (.seq (.kp [1, 4, 5, 7, 10] (.seq (.reg [⟨some 70, .mv (.t 11), none⟩,
    ⟨some 71, .mv (.t 10), none⟩,
    ⟨some 72, .bin .neq (.t 70) (.t 71), none⟩] [1, 4, 5, 7, 10, 72])
  (.cond (.t 72) (.seq (.reg [⟨some 2, .asg (.c (.bool false)), none⟩] [2])
  (.ret)) (.skip))))
  (.seq (.reg [⟨some 74, .ld 1 2 true, none⟩,
    ⟨some 75, .call 28 [(.t 74)], none⟩,
    ⟨some 76, .call 41 [(.t 75)], none⟩,
    ⟨some 73, .mvt 76, none⟩,
    ⟨some 77, .ext 73 0, none⟩,
    ⟨some 78, .ext 73 1, none⟩,
    ⟨some 12, .asg (.t 77), none⟩,
    ⟨some 13, .asg (.t 78), none⟩] [4, 5, 7, 10, 12, 13])
  (.seq (.kp [7, 10] (.seq (.reg [⟨some 79, .mv (.t 12), none⟩,
    ⟨some 80, .mv (.t 4), none⟩,
    ⟨some 81, .call 18 [(.t 79), (.t 80)], none⟩,
    ⟨some 82, .nt (.t 81), none⟩,
    ⟨some 83, .mv (.t 82), none⟩,
    ⟨some 84, .mv (.t 13), some (83, false)⟩,
    ⟨some 85, .mv (.t 5), some (83, false)⟩,
    ⟨some 86, .eqb true (.t 84) (.t 85), some (83, false)⟩,
    ⟨some 87, .pick (.t 83) (.c (.bool true)) (.t 86), none⟩] [7, 10, 87])
  (.cond (.t 87) (.seq (.reg [⟨some 2, .asg (.c (.bool false)), none⟩] [2])
  (.ret)) (.skip))))
  (.seq (.reg [⟨some 11, .asg (.c (.int .i64 1)), none⟩] [7, 10, 11])
  (.seq (.reg [⟨some 88, .mv (.t 7), none⟩,
    ⟨some 89, .mv (.t 11), none⟩,
    ⟨some 90, .call 20 [(.t 88), (.t 89)], none⟩,
    ⟨some 11, .asg (.t 90), none⟩] [10, 11])
  (.seq (.kp [10, 11] (.seq (.reg [⟨some 91, .mv (.t 11), none⟩,
    ⟨some 92, .bin .lss (.t 91) (.c (.int .i64 0)), none⟩] [10, 11, 92])
  (.cond (.t 92) (.seq (.reg [⟨some 2, .asg (.c (.bool false)), none⟩] [2])
  (.ret)) (.skip))))
  (.seq (.kp [] (.seq (.reg [⟨some 93, .mv (.t 11), none⟩,
    ⟨some 94, .mv (.t 10), none⟩,
    ⟨some 95, .bin .neq (.t 93) (.t 94), none⟩] [95])
  (.cond (.t 95) (.seq (.reg [⟨some 2, .asg (.c (.bool false)), none⟩] [2])
  (.ret)) (.skip))))
  (.seq (.reg [⟨some 2, .asg (.c (.bool true)), none⟩] [2])
  (.ret)))))))))))))))))))))))))
theorem con_laws_FnExactBaseOf {v0 : XCube} {r : Bool} (h : sh_laws_FnExactBaseOf v0 = some r) : Con Try.prog 9 [(cXCube (cLs cI rfl) (cLs cI rfl)).enc v0] [] (rs_laws_FnExactBaseOf r) := by
  delta sh_laws_FnExactBaseOf at h
  refine top (out := none) (f := Try.f9) (m := m9) (rs := [.t 2]) (by kernel_rfl) rfl (by kernel_rfl) (by kernel_rfl) (by kernel_rfl) (by kernel_rfl) (by kernel_rfl) ?_
  exact
   ini [(0, .d ((cXCube (cLs cI rfl) (cLs cI rfl)).enc v0))] rfl <| wpC_seq <| reg_s <| x_box (ss rfl rfl) <| x_asg (sc cB false rfl) <| seqN [(1, .box ((cXCube (cLs cI rfl) (cLs cI rfl)).enc v0))] (by kernel_rfl) <|
    xn <| wpC_seq <| reg_s <| x_asg (sc cI (1048576 : Int) rfl) <| seqN [(1, .box ((cXCube (cLs cI rfl) (cLs cI rfl)).enc v0)), (3, .d (cI.enc (1048576 : Int)))] (by kernel_rfl) <|
    xn <| wpC_seq <| reg_s <| st rfl <| ldb rfl rfl rfl rfl <| st rfl <| mvd rfl rfl <| bnd h fun x3 e4 h => st rfl <| o_call (a1 (c := (cXCube (cLs cI rfl) (cLs cI rfl))) (tXCube (tLs tK) (tLs tK)) rfl (a1 (c := cI) tK rfl a0)) (con_laws_szCube e4) (.inl (so1 sK so0)) <| x_asg (ss rfl rfl) <| seqN [(1, .box ((cXCube (cLs cI rfl) (cLs cI rfl)).enc v0)), (3, .d (cI.enc x3))] (by kernel_rfl) <|
    xn <| wpC_seq <| wpC_kp <| wpC_seq <| reg_s <| st rfl <| mvd rfl rfl <| st rfl <| b_lss (k := .i64) rfl rfl <| seqN [(1, .box ((cXCube (cLs cI rfl) (cLs cI rfl)).enc v0)), (18, .d (cB.enc (decide (x3 < (0 : Int)))))] (by kernel_rfl) <|
    xn <| cnd rfl h (fun b6 h => wpC_seq <| reg_s <| x_asg (sc cB true rfl) <| seqN [(2, .d (cB.enc true))] (by kernel_rfl) <|
    xn <| wpC_ret <| rt <| rt <| re <| fin h (r1 (ss rfl rfl) <| r0) rfl)
    (fun b6 h => wpC_skip <| kpN [(1, .box ((cXCube (cLs cI rfl) (cLs cI rfl)).enc v0))] (by kernel_rfl) <| xn <| wpC_seq <| reg_s <| st rfl <| ldb rfl rfl rfl rfl <| bnd h fun x11 e12 h => st rfl <| o_call (a1 (c := (cXCube (cLs cI rfl) (cLs cI rfl))) (tXCube (tLs tK) (tLs tK)) rfl a0) (con_laws_toCube e12) (.inl (so1 (sXCube (sLo sK) (sLo sK)) so0)) <| bnd h fun x13 e14 h => st rfl <| o_call (a1 (c := (cXCube (cLo cI) (cLo cI))) (tXCube (tLo tK) (tLo tK)) rfl a0) (con_spec_BaseOf e14) (.inl (so1 (sLo sK) (so1 sB so0))) <| x_mvt rfl <| x_ext rfl rfl <| x_ext rfl rfl <| x_asg (so rfl rfl) <| x_asg (ss rfl rfl) <| seqN [(1, .box ((cXCube (cLs cI rfl) (cLs cI rfl)).enc v0)), (4, .d ((cLo cI).enc x13.1)), (5, .d (cB.enc x13.2))] (by kernel_rfl) <|
    xn <| wpC_seq <| reg_s <| st rfl <| ldb rfl rfl rfl rfl <| bnd h fun x17 e18 h => st rfl <| o_call (a1 (c := (cXCube (cLs cI rfl) (cLs cI rfl))) (tXCube (tLs tK) (tLs tK)) rfl a0) (con_laws_toCube e18) (.inl (so1 (sXCube (sLo sK) (sLo sK)) so0)) <| x_all (cXCube (cLo cI) (cLo cI)) (⟨([] : List Int), ([] : List Int)⟩ : XCube) rfl <| x_stb (so rfl rfl) rfl (Cd.h_sz _ _) rfl <| seqN [(1, .box ((cXCube (cLs cI rfl) (cLs cI rfl)).enc v0)), (4, .d ((cLo cI).enc x13.1)), (5, .d (cB.enc x13.2)), (6, .box ((cXCube (cLo cI) (cLo cI)).enc x17))] (by kernel_rfl) <|
    xn <| wpC_seq <| reg_s <| st rfl <| ldbo rfl rfl rfl rfl <| bnd h fun x21 e22 h => st rfl <| o_call (a1 (c := (cXCube (cLo cI) (cLo cI))) (tXCube (tLo tK) (tLo tK)) rfl a0) (con_impl_BaseOf e22) (.inl (so1 (sLo sK) (so1 sB so0))) <| x_mvt rfl <| x_ext rfl rfl <| x_ext rfl rfl <| x_asg (so rfl rfl) <| x_asg (ss rfl rfl) <| seqN [(1, .box ((cXCube (cLs cI rfl) (cLs cI rfl)).enc v0)), (4, .d ((cLo cI).enc x13.1)), (5, .d (cB.enc x13.2)), (6, .box ((cXCube (cLo cI) (cLo cI)).enc x17)), (7, .d ((cLo cI).enc x21.1)), (8, .d (cB.enc x21.2))] (by kernel_rfl) <|
    xn <| wpC_seq <| wpC_kp <| wpC_seq <| reg_s <| st rfl <| mvo rfl rfl <| st rfl <| mvo rfl rfl <| bnd h fun x33 e34 h => st rfl <| o_call (a1 (c := (cLo cI)) (tLo tK) rfl (a1 (c := (cLo cI)) (tLo tK) rfl a0)) (con_laws_eqIntS e34) (.inl (so1 sB so0)) <| st rfl <| o_nt rfl <| st rfl <| mvd rfl rfl <| ite_k h (fun b35 h => gf rfl b35 <| gf rfl b35 <| gf rfl b35 <| st rfl <| pick1 rfl b35 (cd := cB) (v := true) rfl rfl <| seqN [(1, .box ((cXCube (cLs cI rfl) (cLs cI rfl)).enc v0)), (4, .d ((cLo cI).enc x13.1)), (5, .d (cB.enc x13.2)), (6, .box ((cXCube (cLo cI) (cLo cI)).enc x17)), (7, .d ((cLo cI).enc x21.1)), (8, .d (cB.enc x21.2)), (40, .d (cB.enc true))] (by kernel_rfl) <|
    xn <| cnd1 rfl rfl <| wpC_seq <| reg_s <| x_asg (sc cB false rfl) <| seqN [(2, .d (cB.enc false))] (by kernel_rfl) <|
    xn <| wpC_ret <| rt <| rt <| re <| fin h (r1 (ss rfl rfl) <| r0) rfl)
    (fun b35 h => gt' rfl b35 <| st rfl <| mvd rfl rfl <| gt' rfl b35 <| st rfl <| mvd rfl rfl <| gt' rfl b35 <| st rfl <| eqb1 rfl rfl <| st rfl <| pick0 rfl b35 (cd := cB) (v := (x21.2 != x13.2)) rfl rfl <| seqN [(1, .box ((cXCube (cLs cI rfl) (cLs cI rfl)).enc v0)), (4, .d ((cLo cI).enc x13.1)), (5, .d (cB.enc x13.2)), (6, .box ((cXCube (cLo cI) (cLo cI)).enc x17)), (7, .d ((cLo cI).enc x21.1)), (8, .d (cB.enc x21.2)), (40, .d (cB.enc (x21.2 != x13.2)))] (by kernel_rfl) <|
    xn <| cnd rfl h (fun b36 h => wpC_seq <| reg_s <| x_asg (sc cB false rfl) <| seqN [(2, .d (cB.enc false))] (by kernel_rfl) <|
    xn <| wpC_ret <| rt <| rt <| re <| fin h (r1 (ss rfl rfl) <| r0) rfl)
    (fun b36 h => wpC_skip <| kpN [(1, .box ((cXCube (cLs cI rfl) (cLs cI rfl)).enc v0)), (4, .d ((cLo cI).enc x13.1)), (5, .d (cB.enc x13.2)), (6, .box ((cXCube (cLo cI) (cLo cI)).enc x17)), (7, .d ((cLo cI).enc x21.1)), (8, .d (cB.enc x21.2))] (by kernel_rfl) <| xn <| wpC_seq <| wpC_kp <| wpC_seq <| drw_s <| pst rfl <| ldbo rfl rfl rfl rfl ⟨rfl, pst rfl <| ldb rfl rfl rfl rfl ⟨rfl, bndp h fun x50 e51 h => pst rfl <| o_call (a1 (c := (cXCube (cLs cI rfl) (cLs cI rfl))) (tXCube (tLs tK) (tLs tK)) rfl a0) (con_laws_toCube e51) (.inl (so1 (sXCube (sLo sK) (sLo sK)) so0)) ⟨rfl, bndp h fun x52 e53 h => pst rfl <| o_call (a1 (c := (cXCube (cLo cI) (cLo cI))) (tXCube (tLo tK) (tLo tK)) rfl (a1 (c := (cXCube (cLo cI) (cLo cI))) (tXCube (tLo tK) (tLo tK)) rfl a0)) (con_laws_eqCube e53) (.inl (so1 sB so0)) ⟨rfl, pst rfl <| o_nt rfl ⟨rfl, preN <| seqN [(1, .box ((cXCube (cLs cI rfl) (cLs cI rfl)).enc v0)), (4, .d ((cLo cI).enc x13.1)), (5, .d (cB.enc x13.2)), (6, .box ((cXCube (cLo cI) (cLo cI)).enc x17)), (7, .d ((cLo cI).enc x21.1)), (8, .d (cB.enc x21.2)), (45, .d (cB.enc (!x52)))] (by kernel_rfl) <|
    xn <| cnd rfl h (fun b54 h => wpC_seq <| reg_s <| x_asg (sc cB false rfl) <| seqN [(2, .d (cB.enc false))] (by kernel_rfl) <|
    xn <| wpC_ret <| rt <| rt <| re <| fin h (r1 (ss rfl rfl) <| r0) rfl)
    (fun b54 h => wpC_skip <| kpN [(1, .box ((cXCube (cLs cI rfl) (cLs cI rfl)).enc v0)), (4, .d ((cLo cI).enc x13.1)), (5, .d (cB.enc x13.2)), (6, .box ((cXCube (cLo cI) (cLo cI)).enc x17)), (7, .d ((cLo cI).enc x21.1)), (8, .d (cB.enc x21.2))] (by kernel_rfl) <| xn <| wpC_seq <| reg_s <| x_asg (sc cI (1 : Int) rfl) <| seqN [(1, .box ((cXCube (cLs cI rfl) (cLs cI rfl)).enc v0)), (4, .d ((cLo cI).enc x13.1)), (5, .d (cB.enc x13.2)), (6, .box ((cXCube (cLo cI) (cLo cI)).enc x17)), (7, .d ((cLo cI).enc x21.1)), (8, .d (cB.enc x21.2)), (9, .d (cI.enc (1 : Int)))] (by kernel_rfl) <|
    xn <| wpC_seq <| reg_s <| st rfl <| ldbo rfl rfl rfl rfl <| st rfl <| mvd rfl rfl <| bnd h fun x57 e58 h => x_clr (c := (cXCube (cLo cI) (cLo cI))) (c' := (cXCube (cLo cI) (cLo cI))) ((cXCube (cLo cI) (cLo cI)).enc x57.1) (sXCube (sLo sK) (sLo sK)) rfl (a1 (c := cI) tK rfl a0) rfl Ln.nil (con_laws_markCube e58) rfl rfl (so1 sK so0) <| x_asg (ss rfl rfl) <| seqN [(1, .box ((cXCube (cLs cI rfl) (cLs cI rfl)).enc v0)), (4, .d ((cLo cI).enc x13.1)), (5, .d (cB.enc x13.2)), (7, .d ((cLo cI).enc x21.1)), (8, .d (cB.enc x21.2)), (9, .d (cI.enc x57.2))] (by kernel_rfl) <|
    xn <| wpC_seq <| wpC_kp <| wpC_seq <| reg_s <| st rfl <| mvd rfl rfl <| st rfl <| b_lss (k := .i64) rfl rfl <| st rfl <| mvd rfl rfl <| ite_k h (fun b71 h => gf rfl b71 <| gf rfl b71 <| gf rfl b71 <| gf rfl b71 <| st rfl <| pick1 rfl b71 (cd := cB) (v := true) rfl rfl <| st rfl <| mvd rfl rfl <| gf rfl rfl <| gf rfl rfl <| gf rfl rfl <| st rfl <| pick1 rfl rfl (cd := cB) (v := true) rfl rfl <| seqN [(1, .box ((cXCube (cLs cI rfl) (cLs cI rfl)).enc v0)), (4, .d ((cLo cI).enc x13.1)), (5, .d (cB.enc x13.2)), (7, .d ((cLo cI).enc x21.1)), (61, .d (cB.enc true))] (by kernel_rfl) <|
    xn <| cnd1 rfl rfl <| wpC_seq <| reg_s <| x_asg (sc cB false rfl) <| seqN [(2, .d (cB.enc false))] (by kernel_rfl) <|
    xn <| wpC_ret <| rt <| rt <| re <| fin h (r1 (ss rfl rfl) <| r0) rfl)
    (fun b71 h => gt' rfl b71 <| st rfl <| mvo rfl rfl <| gt' rfl b71 <| st rfl <| mvo rfl rfl <| gt' rfl b71 <| bnd h fun x72 e73 h => st rfl <| o_call (a1 (c := (cLo cI)) (tLo tK) rfl (a1 (c := (cLo cI)) (tLo tK) rfl a0)) (con_laws_eqIntS e73) (.inl (so1 sB so0)) <| gt' rfl b71 <| st rfl <| o_nt rfl <| st rfl <| pick0 rfl b71 (cd := cB) (v := (!x72)) rfl rfl <| st rfl <| mvd rfl rfl <| ite_k h (fun b74 h => gf rfl b74 <| gf rfl b74 <| gf rfl b74 <| st rfl <| pick1 rfl b74 (cd := cB) (v := true) rfl rfl <| seqN [(1, .box ((cXCube (cLs cI rfl) (cLs cI rfl)).enc v0)), (4, .d ((cLo cI).enc x13.1)), (5, .d (cB.enc x13.2)), (7, .d ((cLo cI).enc x21.1)), (61, .d (cB.enc true))] (by kernel_rfl) <|
    xn <| cnd1 rfl rfl <| wpC_seq <| reg_s <| x_asg (sc cB false rfl) <| seqN [(2, .d (cB.enc false))] (by kernel_rfl) <|
    xn <| wpC_ret <| rt <| rt <| re <| fin h (r1 (ss rfl rfl) <| r0) rfl)
    (fun b74 h => gt' rfl b74 <| st rfl <| mvd rfl rfl <| gt' rfl b74 <| st rfl <| mvd rfl rfl <| gt' rfl b74 <| st rfl <| eqb1 rfl rfl <| st rfl <| pick0 rfl b74 (cd := cB) (v := (x21.2 != x13.2)) rfl rfl <| seqN [(1, .box ((cXCube (cLs cI rfl) (cLs cI rfl)).enc v0)), (4, .d ((cLo cI).enc x13.1)), (5, .d (cB.enc x13.2)), (7, .d ((cLo cI).enc x21.1)), (61, .d (cB.enc (x21.2 != x13.2)))] (by kernel_rfl) <|
    xn <| cnd0 rfl b36 <| wpC_skip <| kpN [(1, .box ((cXCube (cLs cI rfl) (cLs cI rfl)).enc v0)), (4, .d ((cLo cI).enc x13.1)), (5, .d (cB.enc x13.2)), (7, .d ((cLo cI).enc x21.1))] (by kernel_rfl) <| xn <| wpC_seq <| reg_s <| x_asg (sc cI (1 : Int) rfl) <| seqN [(1, .box ((cXCube (cLs cI rfl) (cLs cI rfl)).enc v0)), (4, .d ((cLo cI).enc x13.1)), (5, .d (cB.enc x13.2)), (7, .d ((cLo cI).enc x21.1)), (10, .d (cI.enc (1 : Int)))] (by kernel_rfl) <|
    xn <| wpC_seq <| reg_s <| st rfl <| mvo rfl rfl <| st rfl <| mvd rfl rfl <| bnd h fun x77 e78 h => x_clr (c := (cLo cI)) (c' := (cLo cI)) ((cLo cI).enc x77.1) (sLo sK) rfl (a1 (c := cI) tK rfl a0) rfl Ln.nil (con_laws_markIntS e78) rfl rfl (so1 sK so0) <| x_asg (ss rfl rfl) <| seqN [(1, .box ((cXCube (cLs cI rfl) (cLs cI rfl)).enc v0)), (4, .d ((cLo cI).enc x13.1)), (5, .d (cB.enc x13.2)), (7, .d ((cLo cI).enc x77.1)), (10, .d (cI.enc x77.2))] (by kernel_rfl) <|
    xn <| wpC_seq <| reg_s <| x_asg (sc cI (1 : Int) rfl) <| seqN [(1, .box ((cXCube (cLs cI rfl) (cLs cI rfl)).enc v0)), (4, .d ((cLo cI).enc x13.1)), (5, .d (cB.enc x13.2)), (7, .d ((cLo cI).enc x77.1)), (10, .d (cI.enc x77.2)), (11, .d (cI.enc (1 : Int)))] (by kernel_rfl) <|
    xn <| wpC_seq <| reg_s <| st rfl <| mvo rfl rfl <| st rfl <| mvd rfl rfl <| bnd h fun x81 e82 h => st rfl <| o_call (a1 (c := (cLo cI)) (tLo tK) rfl (a1 (c := cI) tK rfl a0)) (con_laws_heldIntS e82) (.inl (so1 sK so0)) <| x_asg (ss rfl rfl) <| seqN [(1, .box ((cXCube (cLs cI rfl) (cLs cI rfl)).enc v0)), (4, .d ((cLo cI).enc x13.1)), (5, .d (cB.enc x13.2)), (7, .d ((cLo cI).enc x77.1)), (10, .d (cI.enc x77.2)), (11, .d (cI.enc x81))] (by kernel_rfl) <|
    xn <| wpC_seq <| wpC_kp <| wpC_seq <| reg_s <| st rfl <| mvd rfl rfl <| st rfl <| b_lss (k := .i64) rfl rfl <| seqN [(1, .box ((cXCube (cLs cI rfl) (cLs cI rfl)).enc v0)), (4, .d ((cLo cI).enc x13.1)), (5, .d (cB.enc x13.2)), (7, .d ((cLo cI).enc x77.1)), (10, .d (cI.enc x77.2)), (11, .d (cI.enc x81)), (69, .d (cB.enc (decide (x81 < (0 : Int)))))] (by kernel_rfl) <|
    xn <| cnd rfl h (fun b84 h => wpC_seq <| reg_s <| x_asg (sc cB false rfl) <| seqN [(2, .d (cB.enc false))] (by kernel_rfl) <|
    xn <| wpC_ret <| rt <| rt <| re <| fin h (r1 (ss rfl rfl) <| r0) rfl)
    (fun b84 h => wpC_skip <| kpN [(1, .box ((cXCube (cLs cI rfl) (cLs cI rfl)).enc v0)), (4, .d ((cLo cI).enc x13.1)), (5, .d (cB.enc x13.2)), (7, .d ((cLo cI).enc x77.1)), (10, .d (cI.enc x77.2)), (11, .d (cI.enc x81))] (by kernel_rfl) <| xn <| wpC_seq <| wpC_kp <| wpC_seq <| reg_s <| st rfl <| mvd rfl rfl <| st rfl <| mvd rfl rfl <| st rfl <| b_neq (k := .i64) rfl rfl <| seqN [(1, .box ((cXCube (cLs cI rfl) (cLs cI rfl)).enc v0)), (4, .d ((cLo cI).enc x13.1)), (5, .d (cB.enc x13.2)), (7, .d ((cLo cI).enc x77.1)), (10, .d (cI.enc x77.2)), (72, .d (cB.enc (decide (x81 ≠ x77.2))))] (by kernel_rfl) <|
    xn <| cnd rfl h (fun b86 h => wpC_seq <| reg_s <| x_asg (sc cB false rfl) <| seqN [(2, .d (cB.enc false))] (by kernel_rfl) <|
    xn <| wpC_ret <| rt <| rt <| re <| fin h (r1 (ss rfl rfl) <| r0) rfl)
    (fun b86 h => wpC_skip <| kpN [(1, .box ((cXCube (cLs cI rfl) (cLs cI rfl)).enc v0)), (4, .d ((cLo cI).enc x13.1)), (5, .d (cB.enc x13.2)), (7, .d ((cLo cI).enc x77.1)), (10, .d (cI.enc x77.2))] (by kernel_rfl) <| xn <| wpC_seq <| reg_s <| st rfl <| ldb rfl rfl rfl rfl <| bnd h fun x91 e92 h => st rfl <| o_call (a1 (c := (cXCube (cLs cI rfl) (cLs cI rfl))) (tXCube (tLs tK) (tLs tK)) rfl a0) (con_laws_toCube e92) (.inl (so1 (sXCube (sLo sK) (sLo sK)) so0)) <| bnd h fun x93 e94 h => st rfl <| o_call (a1 (c := (cXCube (cLo cI) (cLo cI))) (tXCube (tLo tK) (tLo tK)) rfl a0) (con_impl_BaseOf e94) (.inl (so1 (sLo sK) (so1 sB so0))) <| x_mvt rfl <| x_ext rfl rfl <| x_ext rfl rfl <| x_asg (so rfl rfl) <| x_asg (ss rfl rfl) <| seqN [(4, .d ((cLo cI).enc x13.1)), (5, .d (cB.enc x13.2)), (7, .d ((cLo cI).enc x77.1)), (10, .d (cI.enc x77.2)), (12, .d ((cLo cI).enc x93.1)), (13, .d (cB.enc x93.2))] (by kernel_rfl) <|
    xn <| wpC_seq <| wpC_kp <| wpC_seq <| reg_s <| st rfl <| mvo rfl rfl <| st rfl <| mvo rfl rfl <| bnd h fun x105 e106 h => st rfl <| o_call (a1 (c := (cLo cI)) (tLo tK) rfl (a1 (c := (cLo cI)) (tLo tK) rfl a0)) (con_laws_eqIntS e106) (.inl (so1 sB so0)) <| st rfl <| o_nt rfl <| st rfl <| mvd rfl rfl <| ite_k h (fun b107 h => gf rfl b107 <| gf rfl b107 <| gf rfl b107 <| st rfl <| pick1 rfl b107 (cd := cB) (v := true) rfl rfl <| seqN [(7, .d ((cLo cI).enc x77.1)), (10, .d (cI.enc x77.2)), (87, .d (cB.enc true))] (by kernel_rfl) <|
    xn <| cnd1 rfl rfl <| wpC_seq <| reg_s <| x_asg (sc cB false rfl) <| seqN [(2, .d (cB.enc false))] (by kernel_rfl) <|
    xn <| wpC_ret <| rt <| rt <| re <| fin h (r1 (ss rfl rfl) <| r0) rfl)
    (fun b107 h => gt' rfl b107 <| st rfl <| mvd rfl rfl <| gt' rfl b107 <| st rfl <| mvd rfl rfl <| gt' rfl b107 <| st rfl <| eqb1 rfl rfl <| st rfl <| pick0 rfl b107 (cd := cB) (v := (x93.2 != x13.2)) rfl rfl <| seqN [(7, .d ((cLo cI).enc x77.1)), (10, .d (cI.enc x77.2)), (87, .d (cB.enc (x93.2 != x13.2)))] (by kernel_rfl) <|
    xn <| cnd rfl h (fun b108 h => wpC_seq <| reg_s <| x_asg (sc cB false rfl) <| seqN [(2, .d (cB.enc false))] (by kernel_rfl) <|
    xn <| wpC_ret <| rt <| rt <| re <| fin h (r1 (ss rfl rfl) <| r0) rfl)
    (fun b108 h => wpC_skip <| kpN [(7, .d ((cLo cI).enc x77.1)), (10, .d (cI.enc x77.2))] (by kernel_rfl) <| xn <| wpC_seq <| reg_s <| x_asg (sc cI (1 : Int) rfl) <| seqN [(7, .d ((cLo cI).enc x77.1)), (10, .d (cI.enc x77.2)), (11, .d (cI.enc (1 : Int)))] (by kernel_rfl) <|
    xn <| wpC_seq <| reg_s <| st rfl <| mvo rfl rfl <| st rfl <| mvd rfl rfl <| bnd h fun x111 e112 h => st rfl <| o_call (a1 (c := (cLo cI)) (tLo tK) rfl (a1 (c := cI) tK rfl a0)) (con_laws_heldIntS e112) (.inl (so1 sK so0)) <| x_asg (ss rfl rfl) <| seqN [(10, .d (cI.enc x77.2)), (11, .d (cI.enc x111))] (by kernel_rfl) <|
    xn <| wpC_seq <| wpC_kp <| wpC_seq <| reg_s <| st rfl <| mvd rfl rfl <| st rfl <| b_lss (k := .i64) rfl rfl <| seqN [(10, .d (cI.enc x77.2)), (11, .d (cI.enc x111)), (92, .d (cB.enc (decide (x111 < (0 : Int)))))] (by kernel_rfl) <|
    xn <| cnd rfl h (fun b114 h => wpC_seq <| reg_s <| x_asg (sc cB false rfl) <| seqN [(2, .d (cB.enc false))] (by kernel_rfl) <|
    xn <| wpC_ret <| rt <| rt <| re <| fin h (r1 (ss rfl rfl) <| r0) rfl)
    (fun b114 h => wpC_skip <| kpN [(10, .d (cI.enc x77.2)), (11, .d (cI.enc x111))] (by kernel_rfl) <| xn <| wpC_seq <| wpC_kp <| wpC_seq <| reg_s <| st rfl <| mvd rfl rfl <| st rfl <| mvd rfl rfl <| st rfl <| b_neq (k := .i64) rfl rfl <| seqN [(95, .d (cB.enc (decide (x111 ≠ x77.2))))] (by kernel_rfl) <|
    xn <| cnd rfl h (fun b116 h => wpC_seq <| reg_s <| x_asg (sc cB false rfl) <| seqN [(2, .d (cB.enc false))] (by kernel_rfl) <|
    xn <| wpC_ret <| rt <| rt <| re <| fin h (r1 (ss rfl rfl) <| r0) rfl)
    (fun b116 h => wpC_skip <| kpN [] (by kernel_rfl) <| xn <| wpC_seq <| reg_s <| x_asg (sc cB true rfl) <| seqN [(2, .d (cB.enc true))] (by kernel_rfl) <|
    xn <| wpC_ret <| re <| fin h (r1 (ss rfl rfl) <| r0) rfl)))))))))⟩⟩⟩⟩⟩)))
end AS.W
