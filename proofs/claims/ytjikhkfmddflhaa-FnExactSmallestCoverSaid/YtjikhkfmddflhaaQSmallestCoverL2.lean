/- The program computes the plain functions. No condition. -/
import Derived.Test.YtjikhkfmddflhaaQSmallestCoverS
import Derived.Test.YtjikhkfmddflhaaProg
import Derived.Test.YtjikhkfmddflhaaQSmallestCoverL1
set_option maxRecDepth 100000
set_option linter.unusedVariables false
set_option linter.unusedSimpArgs false
namespace AS.W
open Go Go.Proofs
def os_impl_passing_impl_completionOf_1 (v0 : (List XVariable)) (v1 : (List XEdit)) (v2 : ((List Int) × (List Int) × (Option (List Int)))) (r : ((Option (List Int)) × Unit)) : D := (cFn 130 (fun (v : ((List Int) × (List Int) × (Option (List Int)))) => [.ptr false ((cLs cI rfl).enc v.1), .ptr false ((cLs cI rfl).enc v.2.1), .ptr true ((cNo cI).enc v.2.2)]) false (fun _ => (iml (iml imo)))).enc (v2.1, v2.2.1, r.1)
def rs_impl_passing_impl_completionOf_1 (r : ((Option (List Int)) × Unit)) : List D := []
def m66_130 : MC := .seq (.reg [⟨some 8, .mv (.t 0), none⟩,
    ⟨some 9, .call 65 [(.t 8)], none⟩,
    ⟨some 10, .mv (.c (.int .i64 0)), none⟩] [0, 1, 2, 9, 10])
  (.blk 0 (.loop (.seq (.reg [⟨some 11, .bin .lss (.t 10) (.t 9), none⟩] [0, 1, 2, 9, 10, 11])
  (.seq (.kp [0, 1, 2, 9, 10] (.cond (.t 11) (.skip) (.exit 0)))
  (.seq (.kp [0, 1, 2, 9, 10] (.blk 1 (.seq (.reg [⟨some 12, .mv (.t 10), none⟩,
    ⟨some 6, .asg (.t 12), none⟩] [0, 1, 2, 6, 9, 10])
  (.seq (.reg [⟨some 13, .mv (.t 0), none⟩,
    ⟨some 14, .mv (.t 6), none⟩,
    ⟨some 15, .call 128 [(.t 13), (.t 14)], none⟩,
    ⟨some 7, .asg (.t 15), none⟩] [0, 1, 2, 7, 9, 10])
  (.seq (.reg [⟨some 16, .mv (.t 1), none⟩,
    ⟨some 17, .mv (.t 7), none⟩,
    ⟨some 18, .call 93 [(.t 16), (.t 17)], none⟩,
    ⟨some 19, .nt (.t 18), none⟩,
    ⟨some 20, .mv (.t 19), none⟩,
    ⟨some 21, .mv (.t 2), some (20, true)⟩,
    ⟨some 22, .mv (.t 7), some (20, true)⟩,
    ⟨some 23, .callf 21 [(true, (.t 22))], some (20, true)⟩,
    ⟨some 24, .nt (.t 23), some (20, true)⟩,
    ⟨some 25, .pick (.t 20) (.t 24) (.c (.bool false)), none⟩] [0, 1, 2, 9, 10, 25])
  (.cond (.t 25) (.ret) (.skip)))))))
  (.reg [⟨some 26, .bin .add (.t 10) (.c (.int .i64 1)), none⟩,
    ⟨some 10, .mv (.t 26), none⟩] [0, 1, 2, 9, 10]))))))
theorem con_impl_passing_impl_completionOf_1 {v0 : (List XVariable)} {v1 : (List XEdit)} {v2 : ((List Int) × (List Int) × (Option (List Int)))} {r : ((Option (List Int)) × Unit)} (h : sh_impl_passing_impl_completionOf_1 v0 v1 v2 = some r) : Con Try.prog 66 [(cLs (cXVariable cS cI) rfl).enc v0, (cLs (cXEdit (cLs cI rfl)) rfl).enc v1, (cFn 130 (fun (v : ((List Int) × (List Int) × (Option (List Int)))) => [.ptr false ((cLs cI rfl).enc v.1), .ptr false ((cLs cI rfl).enc v.2.1), .ptr true ((cNo cI).enc v.2.2)]) false (fun _ => (iml (iml imo)))).enc v2] (outsOf (some (2, os_impl_passing_impl_completionOf_1 v0 v1 v2 r))) (rs_impl_passing_impl_completionOf_1 r) := by
  delta sh_impl_passing_impl_completionOf_1 at h
  refine top (out := some (2, os_impl_passing_impl_completionOf_1 v0 v1 v2 r)) (f := Try.f66) (m := m66_130) (rs := []) (by kernel_rfl) rfl (by kernel_rfl) (by kernel_rfl) (by kernel_rfl) (by kernel_rfl) (by kernel_rfl) ?_
  exact
   ini [(0, .d ((cLs (cXVariable cS cI) rfl).enc v0)), (1, .d ((cLs (cXEdit (cLs cI rfl)) rfl).enc v1)), (2, .d ((cFn 130 (fun (v : ((List Int) × (List Int) × (Option (List Int)))) => [.ptr false ((cLs cI rfl).enc v.1), .ptr false ((cLs cI rfl).enc v.2.1), .ptr true ((cNo cI).enc v.2.2)]) false (fun _ => (iml (iml imo)))).enc (v2.1, v2.2.1, v2.2.2)))] rfl <| wpC_seq <| reg_s <| st rfl <| mvd rfl rfl <| bnd h fun x3 e4 h => st rfl <| o_call (a1 (c := (cLs (cXVariable cS cI) rfl)) (tLs (tXVariable tS tK)) rfl a0) (con_impl_combinations e4) (.inl (so1 sK so0)) <| st rfl <| mvc cI (0 : Int) rfl <| seqN [(0, .d ((cLs (cXVariable cS cI) rfl).enc v0)), (1, .d ((cLs (cXEdit (cLs cI rfl)) rfl).enc v1)), (2, .d ((cFn 130 (fun (v : ((List Int) × (List Int) × (Option (List Int)))) => [.ptr false ((cLs cI rfl).enc v.1), .ptr false ((cLs cI rfl).enc v.2.1), .ptr true ((cNo cI).enc v.2.2)]) false (fun _ => (iml (iml imo)))).enc (v2.1, v2.2.1, v2.2.2))), (9, .d (cI.enc x3)), (10, .d (cI.enc (0 : Int)))] (by kernel_rfl) <|
    xn <| wpC_blk <| lpF (fun (s5 : ((Option (List Int)) × Int)) => [(0, .d ((cLs (cXVariable cS cI) rfl).enc v0)), (1, .d ((cLs (cXEdit (cLs cI rfl)) rfl).enc v1)), (2, .d ((cFn 130 (fun (v : ((List Int) × (List Int) × (Option (List Int)))) => [.ptr false ((cLs cI rfl).enc v.1), .ptr false ((cLs cI rfl).enc v.2.1), .ptr true ((cNo cI).enc v.2.2)]) false (fun _ => (iml (iml imo)))).enc (v2.1, v2.2.1, s5.1))), (9, .d (cI.enc x3)), (10, .d (cI.enc s5.2))]) (v2.2.2, (0 : Int)) rfl h
    fun G80 nx78 s5 hn79 h => wpC_seq <| reg_s <| st rfl <| b_lss (k := .i64) rfl rfl <| seqN [(0, .d ((cLs (cXVariable cS cI) rfl).enc v0)), (1, .d ((cLs (cXEdit (cLs cI rfl)) rfl).enc v1)), (2, .d ((cFn 130 (fun (v : ((List Int) × (List Int) × (Option (List Int)))) => [.ptr false ((cLs cI rfl).enc v.1), .ptr false ((cLs cI rfl).enc v.2.1), .ptr true ((cNo cI).enc v.2.2)]) false (fun _ => (iml (iml imo)))).enc (v2.1, v2.2.1, s5.1))), (9, .d (cI.enc x3)), (10, .d (cI.enc s5.2)), (11, .d (cB.enc (decide (s5.2 < x3))))] (by kernel_rfl) <|
    xn <| wpC_seq <| wpC_kp <| cnd rfl h (fun b82 h => wpC_skip <| kpN [(0, .d ((cLs (cXVariable cS cI) rfl).enc v0)), (1, .d ((cLs (cXEdit (cLs cI rfl)) rfl).enc v1)), (2, .d ((cFn 130 (fun (v : ((List Int) × (List Int) × (Option (List Int)))) => [.ptr false ((cLs cI rfl).enc v.1), .ptr false ((cLs cI rfl).enc v.2.1), .ptr true ((cNo cI).enc v.2.2)]) false (fun _ => (iml (iml imo)))).enc (v2.1, v2.2.1, s5.1))), (9, .d (cI.enc x3)), (10, .d (cI.enc s5.2))] (by kernel_rfl) <| xn <| wpC_seq <| wpC_kp <| wpC_blk <| wpC_seq <| reg_s <| st rfl <| mvd rfl rfl <| x_asg (ss rfl rfl) <| seqN [(0, .d ((cLs (cXVariable cS cI) rfl).enc v0)), (1, .d ((cLs (cXEdit (cLs cI rfl)) rfl).enc v1)), (2, .d ((cFn 130 (fun (v : ((List Int) × (List Int) × (Option (List Int)))) => [.ptr false ((cLs cI rfl).enc v.1), .ptr false ((cLs cI rfl).enc v.2.1), .ptr true ((cNo cI).enc v.2.2)]) false (fun _ => (iml (iml imo)))).enc (v2.1, v2.2.1, s5.1))), (6, .d (cI.enc s5.2)), (9, .d (cI.enc x3)), (10, .d (cI.enc s5.2))] (by kernel_rfl) <|
    xn <| wpC_seq <| reg_s <| st rfl <| mvd rfl rfl <| st rfl <| mvd rfl rfl <| bnd h fun x100 e101 h => st rfl <| o_call (a1 (c := (cLs (cXVariable cS cI) rfl)) (tLs (tXVariable tS tK)) rfl (a1 (c := cI) tK rfl a0)) (con_impl_valuesAt e101) (.inl (so1 (sLo sK) so0)) <| x_asg (so rfl rfl) <| seqN [(0, .d ((cLs (cXVariable cS cI) rfl).enc v0)), (1, .d ((cLs (cXEdit (cLs cI rfl)) rfl).enc v1)), (2, .d ((cFn 130 (fun (v : ((List Int) × (List Int) × (Option (List Int)))) => [.ptr false ((cLs cI rfl).enc v.1), .ptr false ((cLs cI rfl).enc v.2.1), .ptr true ((cNo cI).enc v.2.2)]) false (fun _ => (iml (iml imo)))).enc (v2.1, v2.2.1, s5.1))), (7, .d ((cLo cI).enc x100)), (9, .d (cI.enc x3)), (10, .d (cI.enc s5.2))] (by kernel_rfl) <|
    xn <| wpC_seq <| reg_s <| st rfl <| mvd rfl rfl <| st rfl <| mvo rfl rfl <| bnd h fun x107 e108 h => st rfl <| o_call (a1 (c := (cLs (cXEdit (cLs cI rfl)) rfl)) (tLs (tXEdit (tLs tK))) rfl (a1 (c := (cLo cI)) (tLo tK) rfl a0)) (con_impl_failsOne e108) (.inl (so1 sB so0)) <| st rfl <| o_nt rfl <| st rfl <| mvd rfl rfl <| ite_k h (fun b109 h => gt' rfl b109 <| st rfl <| mvo rfl rfl <| gt' rfl b109 <| st rfl <| mvo rfl rfl <| gt' rfl b109 <| bnd h fun x110 e111 h => x_cf (cFn 130 (fun (v : ((List Int) × (List Int) × (Option (List Int)))) => [.ptr false ((cLs cI rfl).enc v.1), .ptr false ((cLs cI rfl).enc v.2.1), .ptr true ((cNo cI).enc v.2.2)]) false (fun _ => (iml (iml imo)))) (v2.1, v2.2.1, x110.1) (far rfl rfl rfl) (k1 (sr rfl rfl) k0) (m1 m0) rfl (con_impl_completionOf_1 e111) (cls rfl (cls rfl (clo (sNo sK) cl0))) (so1 sB so0) <| gt' rfl b109 <| st rfl <| o_nt rfl <| st rfl <| pick1 rfl b109 (cd := cB) (v := (!x110.2)) rfl rfl <| seqN [(0, .d ((cLs (cXVariable cS cI) rfl).enc v0)), (1, .d ((cLs (cXEdit (cLs cI rfl)) rfl).enc v1)), (2, .d ((cFn 130 (fun (v : ((List Int) × (List Int) × (Option (List Int)))) => [.ptr false ((cLs cI rfl).enc v.1), .ptr false ((cLs cI rfl).enc v.2.1), .ptr true ((cNo cI).enc v.2.2)]) false (fun _ => (iml (iml imo)))).enc (v2.1, v2.2.1, x110.1))), (9, .d (cI.enc x3)), (10, .d (cI.enc s5.2)), (25, .d (cB.enc (!x110.2)))] (by kernel_rfl) <|
    xn <| cnd rfl h (fun b112 h => wpC_ret <| rb <| rt <| rt <| rt <| rb <| re <| finO h r0 rfl rfl)
    (fun b112 h => wpC_skip <| xbb <| kpN [(0, .d ((cLs (cXVariable cS cI) rfl).enc v0)), (1, .d ((cLs (cXEdit (cLs cI rfl)) rfl).enc v1)), (2, .d ((cFn 130 (fun (v : ((List Int) × (List Int) × (Option (List Int)))) => [.ptr false ((cLs cI rfl).enc v.1), .ptr false ((cLs cI rfl).enc v.2.1), .ptr true ((cNo cI).enc v.2.2)]) false (fun _ => (iml (iml imo)))).enc (v2.1, v2.2.1, x110.1))), (9, .d (cI.enc x3)), (10, .d (cI.enc s5.2))] (by kernel_rfl) <| xn <| reg_s <| ckI_k h fun i113 h => st rfl <| b_add (k := .i64) rfl rfl i113 <| st rfl <| mvd rfl rfl <| seqN [(0, .d ((cLs (cXVariable cS cI) rfl).enc v0)), (1, .d ((cLs (cXEdit (cLs cI rfl)) rfl).enc v1)), (2, .d ((cFn 130 (fun (v : ((List Int) × (List Int) × (Option (List Int)))) => [.ptr false ((cLs cI rfl).enc v.1), .ptr false ((cLs cI rfl).enc v.2.1), .ptr true ((cNo cI).enc v.2.2)]) false (fun _ => (iml (iml imo)))).enc (v2.1, v2.2.1, x110.1))), (9, .d (cI.enc x3)), (10, .d (cI.enc (s5.2 + (1 : Int))))] (by kernel_rfl) <|
    xn <| hn79 (x110.1, (s5.2 + (1 : Int))) h))
    (fun b109 h => gf rfl b109 <| gf rfl b109 <| gf rfl b109 <| gf rfl b109 <| st rfl <| pick0 rfl b109 (cd := cB) (v := false) rfl rfl <| seqN [(0, .d ((cLs (cXVariable cS cI) rfl).enc v0)), (1, .d ((cLs (cXEdit (cLs cI rfl)) rfl).enc v1)), (2, .d ((cFn 130 (fun (v : ((List Int) × (List Int) × (Option (List Int)))) => [.ptr false ((cLs cI rfl).enc v.1), .ptr false ((cLs cI rfl).enc v.2.1), .ptr true ((cNo cI).enc v.2.2)]) false (fun _ => (iml (iml imo)))).enc (v2.1, v2.2.1, s5.1))), (9, .d (cI.enc x3)), (10, .d (cI.enc s5.2)), (25, .d (cB.enc false))] (by kernel_rfl) <|
    xn <| cnd0 rfl rfl <| wpC_skip <| xbb <| kpN [(0, .d ((cLs (cXVariable cS cI) rfl).enc v0)), (1, .d ((cLs (cXEdit (cLs cI rfl)) rfl).enc v1)), (2, .d ((cFn 130 (fun (v : ((List Int) × (List Int) × (Option (List Int)))) => [.ptr false ((cLs cI rfl).enc v.1), .ptr false ((cLs cI rfl).enc v.2.1), .ptr true ((cNo cI).enc v.2.2)]) false (fun _ => (iml (iml imo)))).enc (v2.1, v2.2.1, s5.1))), (9, .d (cI.enc x3)), (10, .d (cI.enc s5.2))] (by kernel_rfl) <| xn <| reg_s <| ckI_k h fun i114 h => st rfl <| b_add (k := .i64) rfl rfl i114 <| st rfl <| mvd rfl rfl <| seqN [(0, .d ((cLs (cXVariable cS cI) rfl).enc v0)), (1, .d ((cLs (cXEdit (cLs cI rfl)) rfl).enc v1)), (2, .d ((cFn 130 (fun (v : ((List Int) × (List Int) × (Option (List Int)))) => [.ptr false ((cLs cI rfl).enc v.1), .ptr false ((cLs cI rfl).enc v.2.1), .ptr true ((cNo cI).enc v.2.2)]) false (fun _ => (iml (iml imo)))).enc (v2.1, v2.2.1, s5.1))), (9, .d (cI.enc x3)), (10, .d (cI.enc (s5.2 + (1 : Int))))] (by kernel_rfl) <|
    xn <| hn79 (s5.1, (s5.2 + (1 : Int))) h))
    (fun b82 h => wpC_exit <| xt <| xt <| xt <| xb <| ren <| finO h r0 rfl rfl)

def rs_impl_completionOf (r : (Option (List Int))) : List D := [(cNo cI).enc r]
def m76 : MC := .seq (.reg [⟨some 6, .box (.t 2), none⟩,
    ⟨some 7, .box (.t 3), none⟩,
    ⟨some 8, .asg (.c (.slice true [])), none⟩] [0, 1, 6, 7, 12])
  (.fzb 6 (.fzb 7 (.seq (.reg [⟨some 9, .alloc (.nilo), none⟩] [0, 1, 6, 7, 9, 12])
  (.seq (.reg [⟨some 10, .mv (.t 0), none⟩,
    ⟨some 11, .mv (.t 1), none⟩,
    ⟨some 12, .mkf 130 [(false, 6), (false, 7), (true, 9)], none⟩,
    ⟨some 13, .callP 66 [(.t 10), (.t 11)] 12 [], none⟩] [9, 12])
  (.seq (.reg [⟨some 14, .ld 9 1 false, none⟩,
    ⟨some 8, .asg (.t 14), none⟩] [8])
  (.ret))))))
theorem con_impl_completionOf {v0 : (List XVariable)} {v1 : (List XEdit)} {v2 : (List Int)} {v3 : (List Int)} {r : (Option (List Int))} (h : sh_impl_completionOf v0 v1 v2 v3 = some r) : Con Try.prog 76 [(cLs (cXVariable cS cI) rfl).enc v0, (cLs (cXEdit (cLs cI rfl)) rfl).enc v1, (cLs cI rfl).enc v2, (cLs cI rfl).enc v3] [] (rs_impl_completionOf r) := by
  delta sh_impl_completionOf at h
  refine top (out := none) (f := Try.f76) (m := m76) (rs := [.t 8]) (by kernel_rfl) rfl (by kernel_rfl) (by kernel_rfl) (by kernel_rfl) (by kernel_rfl) (by kernel_rfl) ?_
  exact
   ini [(0, .d ((cLs (cXVariable cS cI) rfl).enc v0)), (1, .d ((cLs (cXEdit (cLs cI rfl)) rfl).enc v1)), (2, .d ((cLs cI rfl).enc v2)), (3, .d ((cLs cI rfl).enc v3))] rfl <| wpC_seq <| reg_s <| x_box (ss rfl rfl) <| x_box (ss rfl rfl) <| x_asg (sc (cLo cI) ([] : List Int) rfl) <| seqN [(0, .d ((cLs (cXVariable cS cI) rfl).enc v0)), (1, .d ((cLs (cXEdit (cLs cI rfl)) rfl).enc v1)), (6, .box ((cLs cI rfl).enc v2)), (7, .box ((cLs cI rfl).enc v3)), (12, .un)] (by kernel_rfl) <|
    xn <| fzb_s (tLs tK) rfl <| fzb_s (tLs tK) rfl <| wpC_seq <| reg_s <| x_all (cNo cI) (none : Option (List Int)) rfl <| seqN [(0, .d ((cLs (cXVariable cS cI) rfl).enc v0)), (1, .d ((cLs (cXEdit (cLs cI rfl)) rfl).enc v1)), (6, .ima ((cLs cI rfl).enc v2)), (7, .ima ((cLs cI rfl).enc v3)), (9, .box ((cNo cI).enc (none : Option (List Int)))), (12, .un)] (by kernel_rfl) <|
    xn <| wpC_seq <| reg_s <| st rfl <| mvd rfl rfl <| st rfl <| mvd rfl rfl <| x_mkf (cFn 130 (fun (v : ((List Int) × (List Int) × (Option (List Int)))) => [.ptr false ((cLs cI rfl).enc v.1), .ptr false ((cLs cI rfl).enc v.2.1), .ptr true ((cNo cI).enc v.2.2)]) false (fun _ => (iml (iml imo)))) (v2, v3, (none : Option (List Int))) (cpi rfl (cpi rfl (cpo rfl cp0))) rfl rfl <| bnd h fun x3 e4 h => x_cp (cFn 130 (fun (v : ((List Int) × (List Int) × (Option (List Int)))) => [.ptr false ((cLs cI rfl).enc v.1), .ptr false ((cLs cI rfl).enc v.2.1), .ptr true ((cNo cI).enc v.2.2)]) false (fun _ => (iml (iml imo)))) (v2, v3, x3.1) rfl rfl (a1 (c := (cLs (cXVariable cS cI) rfl)) (tLs (tXVariable tS tK)) rfl (a1 (c := (cLs (cXEdit (cLs cI rfl)) rfl)) (tLs (tXEdit (tLs tK))) rfl a0)) a0 rfl rfl (con_impl_passing_impl_completionOf_1 e4) (cls rfl (cls rfl (clo (sNo sK) cl0))) so0 <| seqN [(9, .adr 12 [.cap 2, .dr]), (12, .d ((cFn 130 (fun (v : ((List Int) × (List Int) × (Option (List Int)))) => [.ptr false ((cLs cI rfl).enc v.1), .ptr false ((cLs cI rfl).enc v.2.1), .ptr true ((cNo cI).enc v.2.2)]) false (fun _ => (iml (iml imo)))).enc (v2, v3, x3.1)))] (by kernel_rfl) <|
    xn <| wpC_seq <| reg_s <| st rfl <| ldao rfl rfl rfl rfl rfl rfl <| x_asg (spN ((cFn 130 (fun (v : ((List Int) × (List Int) × (Option (List Int)))) => [.ptr false ((cLs cI rfl).enc v.1), .ptr false ((cLs cI rfl).enc v.2.1), .ptr true ((cH (α := (Option (List Int)))).enc v.2.2)]) false (fun _ => (iml (iml imo)))).enc (v2, v3, x3.1)) rfl rfl (Ln.cap rfl rfl (Ln.dr rfl Ln.nil rfl) rfl)) <| seqN [(8, .d ((cNo cI).enc x3.1))] (by kernel_rfl) <|
    xn <| wpC_ret <| re <| fin h (r1 (so rfl rfl) <| r0) rfl

def rs_spec_eLevels (r : (List Int)) : List D := [(cLo cI).enc r]
def m77 : MC := .seq (.reg [⟨some 2, .asg (.c (.slice true [])), none⟩] [0])
  (.seq (.reg [⟨some 3, .asg (.c (.slice true [])), none⟩] [0, 3])
  (.seq (.kp [3] (.seq (.reg [⟨some 4, .asg (.c (.int .i64 0)), none⟩] [0, 3, 4])
  (.blk 0 (.loop (.seq (.kp [0, 3, 4] (.seq (.reg [⟨some 5, .mv (.t 0), none⟩,
    ⟨some 6, .mv (.t 4), none⟩,
    ⟨some 7, .cvi .u64 (.t 6), none⟩,
    ⟨some 8, .bin .shr (.t 5) (.t 7), none⟩,
    ⟨some 9, .bin .gtr (.t 8) (.c (.int .i64 0)), none⟩] [0, 3, 4, 9])
  (.cond (.t 9) (.skip) (.exit 0))))
  (.seq (.kp [0, 3, 4] (.blk 1 (.seq (.reg [⟨some 12, .mv (.t 0), none⟩,
    ⟨some 13, .mv (.t 4), none⟩,
    ⟨some 14, .cvi .u64 (.t 13), none⟩,
    ⟨some 15, .bin .shr (.t 12) (.t 14), none⟩,
    ⟨some 16, .bin .and (.t 15) (.c (.int .i64 1)), none⟩,
    ⟨some 17, .bin .eql (.t 16) (.c (.int .i64 1)), none⟩] [0, 3, 4, 17])
  (.cond (.t 17) (.reg [⟨some 18, .mv (.t 3), none⟩,
    ⟨some 19, .mv (.t 4), none⟩,
    ⟨some 20, .bsl [(.t 19)] 1, none⟩,
    ⟨some 21, .app (.t 18) (.t 20) 1, none⟩,
    ⟨some 3, .asg (.t 21), none⟩] [0, 3, 4]) (.skip)))))
  (.reg [⟨some 10, .mv (.t 4), none⟩,
    ⟨some 11, .bin .add (.t 10) (.c (.int .i64 1)), none⟩,
    ⟨some 4, .asg (.t 11), none⟩] [0, 3, 4])))))))
  (.seq (.reg [⟨some 22, .mv (.t 3), none⟩,
    ⟨some 2, .asg (.t 22), none⟩] [2])
  (.ret))))
theorem con_spec_eLevels {v0 : Int} {r : (List Int)} (h : sh_spec_eLevels v0 = some r) : Con Try.prog 77 [cI.enc v0] [] (rs_spec_eLevels r) := by
  delta sh_spec_eLevels at h
  refine top (out := none) (f := Try.f77) (m := m77) (rs := [.t 2]) (by kernel_rfl) rfl (by kernel_rfl) (by kernel_rfl) (by kernel_rfl) (by kernel_rfl) (by kernel_rfl) ?_
  exact
   ini [(0, .d (cI.enc v0))] rfl <| wpC_seq <| reg_s <| x_asg (sc (cLo cI) ([] : List Int) rfl) <| seqN [(0, .d (cI.enc v0))] (by kernel_rfl) <|
    xn <| wpC_seq <| reg_s <| x_asg (sc (cLo cI) ([] : List Int) rfl) <| seqN [(0, .d (cI.enc v0)), (3, .d ((cLo cI).enc ([] : List Int)))] (by kernel_rfl) <|
    xn <| wpC_seq <| wpC_kp <| wpC_seq <| reg_s <| x_asg (sc cI (0 : Int) rfl) <| seqN [(0, .d (cI.enc v0)), (3, .d ((cLo cI).enc ([] : List Int))), (4, .d (cI.enc (0 : Int)))] (by kernel_rfl) <|
    xn <| wpC_blk <| lpF (fun (s129 : ((List Int) × Int)) => [(0, .d (cI.enc v0)), (3, .d ((cLo cI).enc s129.1)), (4, .d (cI.enc s129.2))]) (([] : List Int), (0 : Int)) rfl h
    fun G216 nx214 s129 hn215 h => wpC_seq <| wpC_kp <| wpC_seq <| reg_s <| st rfl <| mvd rfl rfl <| st rfl <| mvd rfl rfl <| ckK_k h fun i224 h => st rfl <| o_cvi (k := .i64) (k' := .u64) rfl i224 <| ck_k h fun i225 h => st rfl <| b_shr (k := .i64) (k' := .u64) rfl rfl i225 rfl <| st rfl <| b_gtr (k := .i64) rfl rfl <| seqN [(0, .d (cI.enc v0)), (3, .d ((cLo cI).enc s129.1)), (4, .d (cI.enc s129.2)), (9, .d (cB.enc (decide ((0 : Int) < (v0 / 2 ^ (s129.2).toNat)))))] (by kernel_rfl) <|
    xn <| cnd rfl h (fun b226 h => wpC_skip <| kpN [(0, .d (cI.enc v0)), (3, .d ((cLo cI).enc s129.1)), (4, .d (cI.enc s129.2))] (by kernel_rfl) <| xn <| wpC_seq <| wpC_kp <| wpC_blk <| wpC_seq <| reg_s <| st rfl <| mvd rfl rfl <| st rfl <| mvd rfl rfl <| ckK_k h fun i247 h => st rfl <| o_cvi (k := .i64) (k' := .u64) rfl i247 <| ck_k h fun i248 h => st rfl <| b_shr (k := .i64) (k' := .u64) rfl rfl i248 rfl <| ck_k h fun i249 h => ckK_k h fun i250 h => ck_k h fun i251 h => ckK_k h fun i252 h => st rfl <| b_and (k := .i64) rfl rfl ⟨i249, i250⟩ ⟨i251, i252⟩ <| st rfl <| b_eql (k := .i64) rfl rfl <| seqN [(0, .d (cI.enc v0)), (3, .d ((cLo cI).enc s129.1)), (4, .d (cI.enc s129.2)), (17, .d (cB.enc (decide ((((v0 / 2 ^ (s129.2).toNat).toNat &&& (1 : Int).toNat : Nat) : Int) = (1 : Int)))))] (by kernel_rfl) <|
    xn <| cnd rfl h (fun b253 h => reg_s <| st rfl <| mvo rfl rfl <| st rfl <| mvd rfl rfl <| x_bsl cI [s129.2] (t1 (ss rfl rfl) rfl t0) rfl rfl <| lnO_k h fun l254 h => x_app (sr rfl rfl) (to rfl rfl) l254 rfl <| x_asg (so rfl rfl) <| seqN [(0, .d (cI.enc v0)), (3, .d ((cLo cI).enc (s129.1 ++ [s129.2]))), (4, .d (cI.enc s129.2))] (by kernel_rfl) <|
    xbb <| kpN [(0, .d (cI.enc v0)), (3, .d ((cLo cI).enc (s129.1 ++ [s129.2]))), (4, .d (cI.enc s129.2))] (by kernel_rfl) <| xn <| reg_s <| st rfl <| mvd rfl rfl <| ckI_k h fun i255 h => st rfl <| b_add (k := .i64) rfl rfl i255 <| x_asg (ss rfl rfl) <| seqN [(0, .d (cI.enc v0)), (3, .d ((cLo cI).enc (s129.1 ++ [s129.2]))), (4, .d (cI.enc (s129.2 + (1 : Int))))] (by kernel_rfl) <|
    xn <| hn215 ((s129.1 ++ [s129.2]), (s129.2 + (1 : Int))) h)
    (fun b253 h => wpC_skip <| xbb <| kpN [(0, .d (cI.enc v0)), (3, .d ((cLo cI).enc s129.1)), (4, .d (cI.enc s129.2))] (by kernel_rfl) <| xn <| reg_s <| st rfl <| mvd rfl rfl <| ckI_k h fun i256 h => st rfl <| b_add (k := .i64) rfl rfl i256 <| x_asg (ss rfl rfl) <| seqN [(0, .d (cI.enc v0)), (3, .d ((cLo cI).enc s129.1)), (4, .d (cI.enc (s129.2 + (1 : Int))))] (by kernel_rfl) <|
    xn <| hn215 (s129.1, (s129.2 + (1 : Int))) h))
    (fun b226 h => wpC_exit <| xt <| xt <| xt <| xb <| kpN [(3, .d ((cLo cI).enc s129.1))] (by kernel_rfl) <| xn <| wpC_seq <| reg_s <| st rfl <| mvo rfl rfl <| x_asg (sr rfl rfl) <| seqN [(2, .d ((cLo cI).enc s129.1))] (by kernel_rfl) <|
    xn <| wpC_ret <| re <| fin h (r1 (so rfl rfl) <| r0) rfl)

def rs_spec_l1Has (r : Bool) : List D := [cB.enc r]
def m78 : MC := .seq (.reg [⟨some 4, .asg (.c (.bool false)), none⟩] [0, 1])
  (.seq (.kp [] (.seq (.reg [⟨some 7, .mv (.t 0), none⟩,
    ⟨some 8, .len false (.t 7), none⟩,
    ⟨some 9, .mv (.c (.int .i64 0)), none⟩] [0, 1, 7, 8, 9])
  (.blk 0 (.loop (.seq (.reg [⟨some 10, .bin .lss (.t 9) (.t 8), none⟩] [0, 1, 7, 8, 9, 10])
  (.seq (.kp [0, 1, 7, 8, 9] (.cond (.t 10) (.skip) (.exit 0)))
  (.seq (.kp [0, 1, 7, 8, 9] (.blk 1 (.seq (.reg [⟨some 11, .ia 7 (.t 9) 1, none⟩,
    ⟨some 12, .ld 11 1 false, none⟩,
    ⟨some 6, .asg (.t 12), none⟩] [0, 1, 6, 7, 8, 9])
  (.seq (.reg [⟨some 13, .mv (.t 6), none⟩,
    ⟨some 14, .mv (.t 1), none⟩,
    ⟨some 15, .bin .eql (.t 13) (.t 14), none⟩] [0, 1, 7, 8, 9, 15])
  (.cond (.t 15) (.seq (.reg [⟨some 4, .asg (.c (.bool true)), none⟩] [4])
  (.ret)) (.skip))))))
  (.reg [⟨some 16, .bin .add (.t 9) (.c (.int .i64 1)), none⟩,
    ⟨some 9, .mv (.t 16), none⟩] [0, 1, 7, 8, 9]))))))))
  (.seq (.reg [⟨some 4, .asg (.c (.bool false)), none⟩] [4])
  (.ret)))
theorem con_spec_l1Has {v0 : (List Int)} {v1 : Int} {r : Bool} (h : sh_spec_l1Has v0 v1 = some r) : Con Try.prog 78 [(cLs cI rfl).enc v0, cI.enc v1] [] (rs_spec_l1Has r) := by
  delta sh_spec_l1Has at h
  refine top (out := none) (f := Try.f78) (m := m78) (rs := [.t 4]) (by kernel_rfl) rfl (by kernel_rfl) (by kernel_rfl) (by kernel_rfl) (by kernel_rfl) (by kernel_rfl) ?_
  exact
   ini [(0, .d ((cLs cI rfl).enc v0)), (1, .d (cI.enc v1))] rfl <| wpC_seq <| reg_s <| x_asg (sc cB false rfl) <| seqN [(0, .d ((cLs cI rfl).enc v0)), (1, .d (cI.enc v1))] (by kernel_rfl) <|
    xn <| wpC_seq <| wpC_kp <| wpC_seq <| reg_s <| st rfl <| mvd rfl rfl <| stw rfl <| lens rfl fun l16 => st rfl <| mvc cI (0 : Int) rfl <| seqN [(0, .d ((cLs cI rfl).enc v0)), (1, .d (cI.enc v1)), (7, .d ((cLs cI rfl).enc v0)), (8, .d (cI.enc (v0.length : Int))), (9, .d (cI.enc (0 : Int)))] (by kernel_rfl) <|
    xn <| wpC_blk <| lpR (fun (k18 : Nat) (s17 : Unit) => [(0, .d ((cLs cI rfl).enc v0)), (1, .d (cI.enc v1)), (7, .d ((cLs cI rfl).enc v0)), (8, .d (cI.enc (v0.length : Int))), (9, .d (cI.enc (k18 : Int)))]) () rfl h
    (fun G26 s17 h => wpC_seq <| reg_s <| st rfl <| b_lss (k := .i64) rfl rfl <| seqN [(0, .d ((cLs cI rfl).enc v0)), (1, .d (cI.enc v1)), (7, .d ((cLs cI rfl).enc v0)), (8, .d (cI.enc (v0.length : Int))), (9, .d (cI.enc (v0.length : Int))), (10, .d (cB.enc (decide ((v0.length : Int) < (v0.length : Int)))))] (by kernel_rfl) <|
    xn <| wpC_seq <| wpC_kp <| cnd0 rfl (dlf _) <| wpC_exit <| xt <| xt <| xt <| xb <| kpN [] (by kernel_rfl) <| xn <| wpC_seq <| reg_s <| x_asg (sc cB false rfl) <| seqN [(4, .d (cB.enc false))] (by kernel_rfl) <|
    xn <| wpC_ret <| re <| fin h (r1 (ss rfl rfl) <| r0) rfl)
    (fun G26 nx24 k18 s17 x19 hk20 hx21 hn25 h => wpC_seq <| reg_s <| st rfl <| b_lss (k := .i64) rfl rfl <| seqN [(0, .d ((cLs cI rfl).enc v0)), (1, .d (cI.enc v1)), (7, .d ((cLs cI rfl).enc v0)), (8, .d (cI.enc (v0.length : Int))), (9, .d (cI.enc (k18 : Int))), (10, .d (cB.enc (decide ((k18 : Int) < (v0.length : Int)))))] (by kernel_rfl) <|
    xn <| wpC_seq <| wpC_kp <| cnd1 rfl (dlt hk20) <| wpC_skip <| kpN [(0, .d ((cLs cI rfl).enc v0)), (1, .d (cI.enc v1)), (7, .d ((cLs cI rfl).enc v0)), (8, .d (cI.enc (v0.length : Int))), (9, .d (cI.enc (k18 : Int)))] (by kernel_rfl) <| xn <| wpC_seq <| wpC_kp <| wpC_blk <| wpC_seq <| reg_s <| st rfl <| ias rfl rfl (Int.natCast_nonneg _) hx21 rfl <| st rfl <| ldi rfl rfl rfl rfl <| x_asg (ss rfl rfl) <| seqN [(0, .d ((cLs cI rfl).enc v0)), (1, .d (cI.enc v1)), (6, .d (cI.enc x19)), (7, .d ((cLs cI rfl).enc v0)), (8, .d (cI.enc (v0.length : Int))), (9, .d (cI.enc (k18 : Int)))] (by kernel_rfl) <|
    xn <| wpC_seq <| reg_s <| st rfl <| mvd rfl rfl <| st rfl <| mvd rfl rfl <| st rfl <| b_eql (k := .i64) rfl rfl <| seqN [(0, .d ((cLs cI rfl).enc v0)), (1, .d (cI.enc v1)), (7, .d ((cLs cI rfl).enc v0)), (8, .d (cI.enc (v0.length : Int))), (9, .d (cI.enc (k18 : Int))), (15, .d (cB.enc (decide (x19 = v1))))] (by kernel_rfl) <|
    xn <| cnd rfl h (fun b28 h => wpC_seq <| reg_s <| x_asg (sc cB true rfl) <| seqN [(4, .d (cB.enc true))] (by kernel_rfl) <|
    xn <| wpC_ret <| rb <| rt <| rt <| rt <| rb <| rt <| rt <| re <| fin h (r1 (ss rfl rfl) <| r0) rfl)
    (fun b28 h => wpC_skip <| xbb <| kpN [(0, .d ((cLs cI rfl).enc v0)), (1, .d (cI.enc v1)), (7, .d ((cLs cI rfl).enc v0)), (8, .d (cI.enc (v0.length : Int))), (9, .d (cI.enc (k18 : Int)))] (by kernel_rfl) <| xn <| reg_s <| st rfl <| b_inc rfl rfl l16 hk20 <| st rfl <| mvd rfl rfl <| seqN [(0, .d ((cLs cI rfl).enc v0)), (1, .d (cI.enc v1)), (7, .d ((cLs cI rfl).enc v0)), (8, .d (cI.enc (v0.length : Int))), (9, .d (cI.enc ((k18 + 1 : Nat) : Int)))] (by kernel_rfl) <|
    xn <| hn25 () h))

def rs_spec_l1Sign (r : Int) : List D := [cI.enc r]
def m131 : MC := .seq (.reg [⟨some 2, .asg (.c (.int .i64 0)), none⟩] [0])
  (.seq (.kp [] (.blk 0 (.seq (.reg [⟨some 4, .mv (.t 0), none⟩,
    ⟨some 5, .bin .lss (.t 4) (.c (.int .i64 0)), none⟩,
    ⟨some 3, .asg (.t 5), none⟩] [0, 3])
  (.cond (.t 3) (.seq (.reg [⟨some 2, .asg (.c (.int .i64 (-1))), none⟩] [2])
  (.ret)) (.seq (.reg [⟨some 7, .mv (.t 0), none⟩,
    ⟨some 8, .bin .gtr (.t 7) (.c (.int .i64 0)), none⟩,
    ⟨some 6, .asg (.t 8), none⟩] [6])
  (.cond (.t 6) (.seq (.reg [⟨some 2, .asg (.c (.int .i64 1)), none⟩] [2])
  (.ret)) (.skip)))))))
  (.seq (.reg [⟨some 2, .asg (.c (.int .i64 0)), none⟩] [2])
  (.ret)))
theorem con_spec_l1Sign {v0 : Int} {r : Int} (h : sh_spec_l1Sign v0 = some r) : Con Try.prog 131 [cI.enc v0] [] (rs_spec_l1Sign r) := by
  delta sh_spec_l1Sign at h
  refine top (out := none) (f := Try.f131) (m := m131) (rs := [.t 2]) (by kernel_rfl) rfl (by kernel_rfl) (by kernel_rfl) (by kernel_rfl) (by kernel_rfl) (by kernel_rfl) ?_
  exact
   ini [(0, .d (cI.enc v0))] rfl <| wpC_seq <| reg_s <| x_asg (sc cI (0 : Int) rfl) <| seqN [(0, .d (cI.enc v0))] (by kernel_rfl) <|
    xn <| wpC_seq <| wpC_kp <| wpC_blk <| wpC_seq <| reg_s <| st rfl <| mvd rfl rfl <| st rfl <| b_lss (k := .i64) rfl rfl <| x_asg (ss rfl rfl) <| seqN [(0, .d (cI.enc v0)), (3, .d (cB.enc (decide (v0 < (0 : Int)))))] (by kernel_rfl) <|
    xn <| cnd rfl h (fun b3 h => wpC_seq <| reg_s <| x_asg (sc cI (-1 : Int) rfl) <| seqN [(2, .d (cI.enc (-1 : Int)))] (by kernel_rfl) <|
    xn <| wpC_ret <| rb <| rt <| rt <| re <| fin h (r1 (ss rfl rfl) <| r0) rfl)
    (fun b3 h => wpC_seq <| reg_s <| st rfl <| mvd rfl rfl <| st rfl <| b_gtr (k := .i64) rfl rfl <| x_asg (ss rfl rfl) <| seqN [(6, .d (cB.enc (decide ((0 : Int) < v0))))] (by kernel_rfl) <|
    xn <| cnd rfl h (fun b4 h => wpC_seq <| reg_s <| x_asg (sc cI (1 : Int) rfl) <| seqN [(2, .d (cI.enc (1 : Int)))] (by kernel_rfl) <|
    xn <| wpC_ret <| rb <| rt <| rt <| re <| fin h (r1 (ss rfl rfl) <| r0) rfl)
    (fun b4 h => wpC_skip <| xbb <| kpN [] (by kernel_rfl) <| xn <| wpC_seq <| reg_s <| x_asg (sc cI (0 : Int) rfl) <| seqN [(2, .d (cI.enc (0 : Int)))] (by kernel_rfl) <|
    xn <| wpC_ret <| re <| fin h (r1 (ss rfl rfl) <| r0) rfl))

def rs_spec_l1Less (r : Int) : List D := [cI.enc r]
def m79 : MC := .seq (.reg [⟨some 4, .asg (.c (.int .i64 0)), none⟩] [0, 1])
  (.seq (.kp [0, 1] (.seq (.reg [⟨some 5, .asg (.c (.int .i64 0)), none⟩] [0, 1, 5])
  (.blk 0 (.loop (.seq (.kp [0, 1, 5] (.seq (.reg [⟨some 6, .mv (.t 5), none⟩,
    ⟨some 7, .mv (.t 0), none⟩,
    ⟨some 8, .len false (.t 7), none⟩,
    ⟨some 9, .bin .lss (.t 6) (.t 8), none⟩,
    ⟨some 10, .mv (.t 9), none⟩,
    ⟨some 11, .mv (.t 5), some (10, true)⟩,
    ⟨some 12, .mv (.t 1), some (10, true)⟩,
    ⟨some 13, .len false (.t 12), some (10, true)⟩,
    ⟨some 14, .bin .lss (.t 11) (.t 13), some (10, true)⟩,
    ⟨some 15, .pick (.t 10) (.t 14) (.c (.bool false)), none⟩] [0, 1, 5, 15])
  (.cond (.t 15) (.skip) (.exit 0))))
  (.seq (.kp [0, 1, 5] (.blk 1 (.seq (.drw [⟨0, ⟨some 18, .mv (.t 0), none⟩, [19, 20, 21, 22, 23, 24, 25, 26]⟩,
    ⟨1, ⟨some 19, .mv (.t 5), none⟩, [18, 20, 21, 22, 23, 24, 25, 26]⟩,
    ⟨2, ⟨some 20, .ia 18 (.t 19) 1, none⟩, [21, 22, 23, 24, 25, 26]⟩,
    ⟨3, ⟨some 21, .ld 20 1 false, none⟩, [22, 23, 24, 25, 26]⟩,
    ⟨4, ⟨some 22, .mv (.t 1), none⟩, [18, 19, 20, 21, 23, 24, 25, 26]⟩,
    ⟨5, ⟨some 23, .mv (.t 5), none⟩, [18, 19, 20, 21, 22, 24, 25, 26]⟩,
    ⟨6, ⟨some 24, .ia 22 (.t 23) 1, none⟩, [18, 19, 20, 21, 25, 26]⟩,
    ⟨7, ⟨some 25, .ld 24 1 false, none⟩, [18, 19, 20, 21, 26]⟩,
    ⟨8, ⟨some 26, .bin .neq (.t 21) (.t 25), none⟩, []⟩]
    [] [0, 1, 5, 26])
  (.cond (.t 26) (.seq (.kp [] (.seq (.drw [⟨0, ⟨some 27, .mv (.t 0), none⟩, [28, 29, 30, 31, 32, 33, 34, 35]⟩,
    ⟨1, ⟨some 28, .mv (.t 5), none⟩, [27, 29, 30, 31, 32, 33, 34, 35]⟩,
    ⟨2, ⟨some 29, .ia 27 (.t 28) 1, none⟩, [30, 31, 32, 33, 34, 35]⟩,
    ⟨3, ⟨some 30, .ld 29 1 false, none⟩, [31, 32, 33, 34, 35]⟩,
    ⟨4, ⟨some 31, .mv (.t 1), none⟩, [27, 28, 29, 30, 32, 33, 34, 35]⟩,
    ⟨5, ⟨some 32, .mv (.t 5), none⟩, [27, 28, 29, 30, 31, 33, 34, 35]⟩,
    ⟨6, ⟨some 33, .ia 31 (.t 32) 1, none⟩, [27, 28, 29, 30, 34, 35]⟩,
    ⟨7, ⟨some 34, .ld 33 1 false, none⟩, [27, 28, 29, 30, 35]⟩,
    ⟨8, ⟨some 35, .bin .lss (.t 30) (.t 34), none⟩, []⟩]
    [] [35])
  (.cond (.t 35) (.seq (.reg [⟨some 4, .asg (.c (.int .i64 (-1))), none⟩] [4])
  (.ret)) (.skip))))
  (.seq (.reg [⟨some 4, .asg (.c (.int .i64 1)), none⟩] [4])
  (.ret))) (.skip)))))
  (.reg [⟨some 16, .mv (.t 5), none⟩,
    ⟨some 17, .bin .add (.t 16) (.c (.int .i64 1)), none⟩,
    ⟨some 5, .asg (.t 17), none⟩] [0, 1, 5])))))))
  (.seq (.reg [⟨some 36, .mv (.t 0), none⟩,
    ⟨some 37, .len false (.t 36), none⟩,
    ⟨some 38, .mv (.t 1), none⟩,
    ⟨some 39, .len false (.t 38), none⟩,
    ⟨some 40, .bin .sub (.t 37) (.t 39), none⟩,
    ⟨some 41, .call 131 [(.t 40)], none⟩,
    ⟨some 4, .asg (.t 41), none⟩] [4])
  (.ret)))
theorem con_spec_l1Less {v0 : (List Int)} {v1 : (List Int)} {r : Int} (h : sh_spec_l1Less v0 v1 = some r) : Con Try.prog 79 [(cLs cI rfl).enc v0, (cLs cI rfl).enc v1] [] (rs_spec_l1Less r) := by
  delta sh_spec_l1Less at h
  refine top (out := none) (f := Try.f79) (m := m79) (rs := [.t 4]) (by kernel_rfl) rfl (by kernel_rfl) (by kernel_rfl) (by kernel_rfl) (by kernel_rfl) (by kernel_rfl) ?_
  exact
   ini [(0, .d ((cLs cI rfl).enc v0)), (1, .d ((cLs cI rfl).enc v1))] rfl <| wpC_seq <| reg_s <| x_asg (sc cI (0 : Int) rfl) <| seqN [(0, .d ((cLs cI rfl).enc v0)), (1, .d ((cLs cI rfl).enc v1))] (by kernel_rfl) <|
    xn <| sqj (fun (s144 : Unit) => [(0, .d ((cLs cI rfl).enc v0)), (1, .d ((cLs cI rfl).enc v1))]) h (fun s144 h => wpC_seq <| reg_s <| st rfl <| mvd rfl rfl <| stw rfl <| lens rfl fun l152 => st rfl <| mvd rfl rfl <| stw rfl <| lens rfl fun l153 => ckI_k h fun i154 h => st rfl <| b_sub (k := .i64) rfl rfl i154 <| bnd h fun x155 e156 h => st rfl <| o_call (a1 (c := cI) tK rfl a0) (con_spec_l1Sign e156) (.inl (so1 sK so0)) <| x_asg (ss rfl rfl) <| seqN [(4, .d (cI.enc x155))] (by kernel_rfl) <|
    xn <| wpC_ret <| re <| fin h (r1 (ss rfl rfl) <| r0) rfl)
    fun m146 h => wpC_kp <| wpC_seq <| reg_s <| x_asg (sc cI (0 : Int) rfl) <| seqN [(0, .d ((cLs cI rfl).enc v0)), (1, .d ((cLs cI rfl).enc v1)), (5, .d (cI.enc (0 : Int)))] (by kernel_rfl) <|
    xn <| wpC_blk <| lpF (fun (s157 : Int) => [(0, .d ((cLs cI rfl).enc v0)), (1, .d ((cLs cI rfl).enc v1)), (5, .d (cI.enc s157))]) (0 : Int) rfl h
    fun G254 nx252 s157 hn253 h => wpC_seq <| wpC_kp <| wpC_seq <| reg_s <| st rfl <| mvd rfl rfl <| st rfl <| mvd rfl rfl <| stw rfl <| lens rfl fun l265 => st rfl <| b_lss (k := .i64) rfl rfl <| st rfl <| mvd rfl rfl <| ite_k h (fun b266 h => gt' rfl b266 <| st rfl <| mvd rfl rfl <| gt' rfl b266 <| st rfl <| mvd rfl rfl <| gt' rfl b266 <| stw rfl <| lens rfl fun l267 => gt' rfl b266 <| st rfl <| b_lss (k := .i64) rfl rfl <| st rfl <| pick1 rfl b266 (cd := cB) (v := (decide (s157 < (v1.length : Int)))) rfl rfl <| seqN [(0, .d ((cLs cI rfl).enc v0)), (1, .d ((cLs cI rfl).enc v1)), (5, .d (cI.enc s157)), (15, .d (cB.enc (decide (s157 < (v1.length : Int)))))] (by kernel_rfl) <|
    xn <| cnd rfl h (fun b268 h => wpC_skip <| kpN [(0, .d ((cLs cI rfl).enc v0)), (1, .d ((cLs cI rfl).enc v1)), (5, .d (cI.enc s157))] (by kernel_rfl) <| xn <| wpC_seq <| wpC_kp <| wpC_blk <| wpC_seq <| drw_s <| pst rfl <| mvd rfl rfl ⟨rfl, pst rfl <| mvd rfl rfl ⟨rfl, getO_kp h fun x290 i291 g292 h => pst rfl <| ias rfl rfl i291 g292 rfl ⟨rfl, pst rfl <| ldi rfl rfl rfl rfl ⟨rfl, pst rfl <| mvd rfl rfl ⟨rfl, pst rfl <| mvd rfl rfl ⟨rfl, getO_kp h fun x293 i294 g295 h => pst rfl <| ias rfl rfl i294 g295 rfl ⟨rfl, pst rfl <| ldi rfl rfl rfl rfl ⟨rfl, pst rfl <| b_neq (k := .i64) rfl rfl ⟨rfl, preN <| seqN [(0, .d ((cLs cI rfl).enc v0)), (1, .d ((cLs cI rfl).enc v1)), (5, .d (cI.enc s157)), (26, .d (cB.enc (decide (x290 ≠ x293))))] (by kernel_rfl) <|
    xn <| cnd rfl h (fun b296 h => wpC_seq <| wpC_kp <| wpC_seq <| drw_s <| pst rfl <| mvd rfl rfl ⟨rfl, pst rfl <| mvd rfl rfl ⟨rfl, pst rfl <| ias rfl rfl i291 g292 rfl ⟨rfl, pst rfl <| ldi rfl rfl rfl rfl ⟨rfl, pst rfl <| mvd rfl rfl ⟨rfl, pst rfl <| mvd rfl rfl ⟨rfl, pst rfl <| ias rfl rfl i294 g295 rfl ⟨rfl, pst rfl <| ldi rfl rfl rfl rfl ⟨rfl, pst rfl <| b_lss (k := .i64) rfl rfl ⟨rfl, preN <| seqN [(35, .d (cB.enc (decide (x290 < x293))))] (by kernel_rfl) <|
    xn <| cnd rfl h (fun b298 h => wpC_seq <| reg_s <| x_asg (sc cI (-1 : Int) rfl) <| seqN [(4, .d (cI.enc (-1 : Int)))] (by kernel_rfl) <|
    xn <| wpC_ret <| rt <| rt <| rb <| rt <| rt <| rt <| rb <| rt <| rt <| re <| fin h (r1 (ss rfl rfl) <| r0) rfl)
    (fun b298 h => wpC_skip <| kpN [] (by kernel_rfl) <| xn <| wpC_seq <| reg_s <| x_asg (sc cI (1 : Int) rfl) <| seqN [(4, .d (cI.enc (1 : Int)))] (by kernel_rfl) <|
    xn <| wpC_ret <| rb <| rt <| rt <| rt <| rb <| rt <| rt <| re <| fin h (r1 (ss rfl rfl) <| r0) rfl)⟩⟩⟩⟩⟩⟩⟩⟩⟩)
    (fun b296 h => wpC_skip <| xbb <| kpN [(0, .d ((cLs cI rfl).enc v0)), (1, .d ((cLs cI rfl).enc v1)), (5, .d (cI.enc s157))] (by kernel_rfl) <| xn <| reg_s <| st rfl <| mvd rfl rfl <| ckI_k h fun i299 h => st rfl <| b_add (k := .i64) rfl rfl i299 <| x_asg (ss rfl rfl) <| seqN [(0, .d ((cLs cI rfl).enc v0)), (1, .d ((cLs cI rfl).enc v1)), (5, .d (cI.enc (s157 + (1 : Int))))] (by kernel_rfl) <|
    xn <| hn253 (s157 + (1 : Int)) h)⟩⟩⟩⟩⟩⟩⟩⟩⟩)
    (fun b268 h => wpC_exit <| xt <| xt <| xt <| xb <| kpN [(0, .d ((cLs cI rfl).enc v0)), (1, .d ((cLs cI rfl).enc v1))] (by kernel_rfl) <| m146 () h))
    (fun b266 h => gf rfl b266 <| gf rfl b266 <| gf rfl b266 <| gf rfl b266 <| st rfl <| pick0 rfl b266 (cd := cB) (v := false) rfl rfl <| seqN [(0, .d ((cLs cI rfl).enc v0)), (1, .d ((cLs cI rfl).enc v1)), (5, .d (cI.enc s157)), (15, .d (cB.enc false))] (by kernel_rfl) <|
    xn <| cnd0 rfl rfl <| wpC_exit <| xt <| xt <| xt <| xb <| kpN [(0, .d ((cLs cI rfl).enc v0)), (1, .d ((cLs cI rfl).enc v1))] (by kernel_rfl) <| m146 () h)

def rs_spec_SmallestCover (r : ((List Int) × Bool)) : List D := [(cLo cI).enc r.1, cB.enc r.2]
def m31 : MC := .seq (.reg [⟨some 6, .asg (.c (.slice true [])), none⟩,
    ⟨some 7, .asg (.c (.bool false)), none⟩] [0, 1, 2])
  (.seq (.kp [0, 1, 2] (.seq (.reg [⟨some 16, .mv (.t 0), none⟩,
    ⟨some 17, .mv (.t 1), none⟩,
    ⟨some 18, .mv (.t 2), none⟩,
    ⟨some 19, .call 71 [(.t 16), (.t 17), (.c (.slice true [])), (.t 18)], none⟩,
    ⟨some 20, .nt (.t 19), none⟩] [0, 1, 2, 20])
  (.cond (.t 20) (.seq (.reg [⟨some 6, .asg (.c (.slice true [])), none⟩,
    ⟨some 7, .asg (.c (.bool false)), none⟩] [6, 7])
  (.ret)) (.skip))))
  (.seq (.reg [⟨some 8, .asg (.c (.slice true [])), none⟩] [0, 1, 2, 8])
  (.seq (.reg [⟨some 9, .asg (.c (.bool false)), none⟩] [0, 1, 2, 8, 9])
  (.seq (.kp [8, 9] (.seq (.reg [⟨some 10, .asg (.c (.int .i64 0)), none⟩] [0, 1, 2, 8, 9, 10])
  (.blk 0 (.loop (.seq (.kp [0, 1, 2, 8, 9, 10] (.seq (.reg [⟨some 21, .mv (.t 10), none⟩,
    ⟨some 22, .mv (.t 0), none⟩,
    ⟨some 23, .len false (.t 22), none⟩,
    ⟨some 24, .cvi .u64 (.t 23), none⟩,
    ⟨some 25, .bin .shl (.c (.int .i64 1)) (.t 24), none⟩,
    ⟨some 26, .bin .lss (.t 21) (.t 25), none⟩] [0, 1, 2, 8, 9, 10, 26])
  (.cond (.t 26) (.skip) (.exit 0))))
  (.seq (.kp [0, 1, 2, 8, 9, 10] (.blk 1 (.seq (.reg [⟨some 29, .mv (.t 10), none⟩,
    ⟨some 30, .call 77 [(.t 29)], none⟩,
    ⟨some 11, .asg (.t 30), none⟩] [0, 1, 2, 8, 9, 10, 11])
  (.seq (.reg [⟨some 12, .asg (.c (.slice true [])), none⟩] [0, 1, 2, 8, 9, 10, 11, 12])
  (.seq (.kp [0, 1, 2, 8, 9, 10, 11, 12] (.seq (.reg [⟨some 31, .mv (.t 0), none⟩,
    ⟨some 32, .len false (.t 31), none⟩,
    ⟨some 33, .mv (.c (.int .i64 0)), none⟩] [0, 1, 2, 8, 9, 10, 11, 12, 32, 33])
  (.blk 2 (.loop (.seq (.reg [⟨some 34, .bin .lss (.t 33) (.t 32), none⟩] [0, 1, 2, 8, 9, 10, 11, 12, 32, 33, 34])
  (.seq (.kp [0, 1, 2, 8, 9, 10, 11, 12, 32, 33] (.cond (.t 34) (.skip) (.exit 2)))
  (.seq (.kp [0, 1, 2, 8, 9, 10, 11, 12, 32, 33] (.blk 3 (.seq (.reg [⟨some 35, .mv (.t 33), none⟩,
    ⟨some 13, .asg (.t 35), none⟩] [0, 1, 2, 8, 9, 10, 11, 12, 13, 32, 33])
  (.seq (.reg [⟨some 36, .mv (.t 11), none⟩,
    ⟨some 37, .mv (.t 13), none⟩,
    ⟨some 38, .call 78 [(.t 36), (.t 37)], none⟩,
    ⟨some 39, .nt (.t 38), none⟩] [0, 1, 2, 8, 9, 10, 11, 12, 13, 32, 33, 39])
  (.cond (.t 39) (.reg [⟨some 40, .mv (.t 12), none⟩,
    ⟨some 41, .mv (.t 13), none⟩,
    ⟨some 42, .bsl [(.t 41)] 1, none⟩,
    ⟨some 43, .app (.t 40) (.t 42) 1, none⟩,
    ⟨some 12, .asg (.t 43), none⟩] [0, 1, 2, 8, 9, 10, 11, 12, 32, 33]) (.skip))))))
  (.reg [⟨some 44, .bin .add (.t 33) (.c (.int .i64 1)), none⟩,
    ⟨some 33, .mv (.t 44), none⟩] [0, 1, 2, 8, 9, 10, 11, 12, 32, 33]))))))))
  (.seq (.kp [0, 1, 2, 8, 9, 10, 11] (.seq (.reg [⟨some 46, .mv (.t 0), none⟩,
    ⟨some 47, .mv (.t 1), none⟩,
    ⟨some 48, .mv (.t 12), none⟩,
    ⟨some 49, .mv (.t 2), none⟩,
    ⟨some 50, .call 72 [(.t 46), (.t 47), (.t 48), (.t 49)], none⟩,
    ⟨some 45, .mvt 50, none⟩,
    ⟨some 51, .ext 45 0, none⟩,
    ⟨some 52, .ext 45 1, none⟩,
    ⟨some 14, .asg (.t 51), none⟩,
    ⟨some 15, .asg (.t 52), none⟩] [0, 1, 2, 8, 9, 10, 11, 15])
  (.seq (.reg [⟨some 53, .mv (.t 15), none⟩,
    ⟨some 54, .nt (.t 53), none⟩] [0, 1, 2, 8, 9, 10, 11, 54])
  (.cond (.t 54) (.exit 1) (.skip)))))
  (.seq (.reg [⟨some 55, .mv (.t 9), none⟩,
    ⟨some 56, .nt (.t 55), none⟩,
    ⟨some 57, .mv (.t 56), none⟩,
    ⟨some 58, .mv (.t 11), some (57, false)⟩,
    ⟨some 59, .len false (.t 58), some (57, false)⟩,
    ⟨some 60, .mv (.t 8), some (57, false)⟩,
    ⟨some 61, .len false (.t 60), some (57, false)⟩,
    ⟨some 62, .bin .lss (.t 59) (.t 61), some (57, false)⟩,
    ⟨some 63, .pick (.t 57) (.c (.bool true)) (.t 62), none⟩,
    ⟨some 64, .mv (.t 63), none⟩,
    ⟨some 65, .mv (.t 11), some (64, false)⟩,
    ⟨some 66, .len false (.t 65), some (64, false)⟩,
    ⟨some 67, .mv (.t 8), some (64, false)⟩,
    ⟨some 68, .len false (.t 67), some (64, false)⟩,
    ⟨some 69, .bin .eql (.t 66) (.t 68), some (64, false)⟩,
    ⟨some 70, .mv (.t 69), some (64, false)⟩,
    ⟨some 71, .mv (.t 11), some (70, true)⟩,
    ⟨some 72, .mv (.t 8), some (70, true)⟩,
    ⟨some 73, .call 79 [(.t 71), (.t 72)], some (70, true)⟩,
    ⟨some 74, .bin .lss (.t 73) (.c (.int .i64 0)), some (70, true)⟩,
    ⟨some 75, .pick (.t 70) (.t 74) (.c (.bool false)), some (64, false)⟩,
    ⟨some 76, .pick (.t 64) (.c (.bool true)) (.t 75), none⟩] [0, 1, 2, 8, 9, 10, 11, 76])
  (.cond (.t 76) (.seq (.reg [⟨some 77, .mv (.t 11), none⟩,
    ⟨some 8, .asg (.t 77), none⟩] [0, 1, 2, 8, 10])
  (.reg [⟨some 9, .asg (.c (.bool true)), none⟩] [0, 1, 2, 8, 9, 10])) (.skip)))))))))
  (.reg [⟨some 27, .mv (.t 10), none⟩,
    ⟨some 28, .bin .add (.t 27) (.c (.int .i64 1)), none⟩,
    ⟨some 10, .asg (.t 28), none⟩] [0, 1, 2, 8, 9, 10])))))))
  (.seq (.reg [⟨some 78, .mv (.t 8), none⟩,
    ⟨some 79, .mv (.t 9), none⟩,
    ⟨some 6, .asg (.t 78), none⟩,
    ⟨some 7, .asg (.t 79), none⟩] [6, 7])
  (.ret))))))
theorem con_spec_SmallestCover {v0 : (List XVariable)} {v1 : (List XEdit)} {v2 : (List Int)} {r : ((List Int) × Bool)} (h : sh_spec_SmallestCover v0 v1 v2 = some r) : Con Try.prog 31 [(cLs (cXVariable cS cI) rfl).enc v0, (cLs (cXEdit (cLs cI rfl)) rfl).enc v1, (cLs cI rfl).enc v2] [] (rs_spec_SmallestCover r) := by
  delta sh_spec_SmallestCover at h
  refine top (out := none) (f := Try.f31) (m := m31) (rs := [.t 6, .t 7]) (by kernel_rfl) rfl (by kernel_rfl) (by kernel_rfl) (by kernel_rfl) (by kernel_rfl) (by kernel_rfl) ?_
  exact
   ini [(0, .d ((cLs (cXVariable cS cI) rfl).enc v0)), (1, .d ((cLs (cXEdit (cLs cI rfl)) rfl).enc v1)), (2, .d ((cLs cI rfl).enc v2))] rfl <| wpC_seq <| reg_s <| x_asg (sc (cLo cI) ([] : List Int) rfl) <| x_asg (sc cB false rfl) <| seqN [(0, .d ((cLs (cXVariable cS cI) rfl).enc v0)), (1, .d ((cLs (cXEdit (cLs cI rfl)) rfl).enc v1)), (2, .d ((cLs cI rfl).enc v2))] (by kernel_rfl) <|
    xn <| wpC_seq <| wpC_kp <| wpC_seq <| reg_s <| st rfl <| mvd rfl rfl <| st rfl <| mvd rfl rfl <| st rfl <| mvd rfl rfl <| bnd h fun x8 e9 h => st rfl <| o_call (a1 (c := (cLs (cXVariable cS cI) rfl)) (tLs (tXVariable tS tK)) rfl (a1 (c := (cLs (cXEdit (cLs cI rfl)) rfl)) (tLs (tXEdit (tLs tK))) rfl (a1 (c := (cLo cI)) (tLo tK) rfl (a1 (c := (cLs cI rfl)) (tLs tK) rfl a0)))) (con_spec_eAsked e9) (.inl (so1 sB so0)) <| st rfl <| o_nt rfl <| seqN [(0, .d ((cLs (cXVariable cS cI) rfl).enc v0)), (1, .d ((cLs (cXEdit (cLs cI rfl)) rfl).enc v1)), (2, .d ((cLs cI rfl).enc v2)), (20, .d (cB.enc (!x8)))] (by kernel_rfl) <|
    xn <| cnd rfl h (fun b10 h => wpC_seq <| reg_s <| x_asg (sc (cLo cI) ([] : List Int) rfl) <| x_asg (sc cB false rfl) <| seqN [(6, .d ((cLo cI).enc ([] : List Int))), (7, .d (cB.enc false))] (by kernel_rfl) <|
    xn <| wpC_ret <| rt <| rt <| re <| fin h (r1 (so rfl rfl) <| r1 (ss rfl rfl) <| r0) rfl)
    (fun b10 h => wpC_skip <| kpN [(0, .d ((cLs (cXVariable cS cI) rfl).enc v0)), (1, .d ((cLs (cXEdit (cLs cI rfl)) rfl).enc v1)), (2, .d ((cLs cI rfl).enc v2))] (by kernel_rfl) <| xn <| wpC_seq <| reg_s <| x_asg (sc (cLo cI) ([] : List Int) rfl) <| seqN [(0, .d ((cLs (cXVariable cS cI) rfl).enc v0)), (1, .d ((cLs (cXEdit (cLs cI rfl)) rfl).enc v1)), (2, .d ((cLs cI rfl).enc v2)), (8, .d ((cLo cI).enc ([] : List Int)))] (by kernel_rfl) <|
    xn <| wpC_seq <| reg_s <| x_asg (sc cB false rfl) <| seqN [(0, .d ((cLs (cXVariable cS cI) rfl).enc v0)), (1, .d ((cLs (cXEdit (cLs cI rfl)) rfl).enc v1)), (2, .d ((cLs cI rfl).enc v2)), (8, .d ((cLo cI).enc ([] : List Int))), (9, .d (cB.enc false))] (by kernel_rfl) <|
    xn <| wpC_seq <| wpC_kp <| wpC_seq <| reg_s <| x_asg (sc cI (0 : Int) rfl) <| seqN [(0, .d ((cLs (cXVariable cS cI) rfl).enc v0)), (1, .d ((cLs (cXEdit (cLs cI rfl)) rfl).enc v1)), (2, .d ((cLs cI rfl).enc v2)), (8, .d ((cLo cI).enc ([] : List Int))), (9, .d (cB.enc false)), (10, .d (cI.enc (0 : Int)))] (by kernel_rfl) <|
    xn <| wpC_blk <| lpF (fun (s801 : ((List Int) × Bool × Int)) => [(0, .d ((cLs (cXVariable cS cI) rfl).enc v0)), (1, .d ((cLs (cXEdit (cLs cI rfl)) rfl).enc v1)), (2, .d ((cLs cI rfl).enc v2)), (8, .d ((cLo cI).enc s801.1)), (9, .d (cB.enc s801.2.1)), (10, .d (cI.enc s801.2.2))]) (([] : List Int), false, (0 : Int)) rfl h
    fun G1315 nx1313 s801 hn1314 h => wpC_seq <| wpC_kp <| wpC_seq <| reg_s <| st rfl <| mvd rfl rfl <| st rfl <| mvd rfl rfl <| stw rfl <| lens rfl fun l1329 => ckK_k h fun i1330 h => st rfl <| o_cvi (k := .i64) (k' := .u64) rfl i1330 <| ck_k h fun i1331 h => ckI_k h fun i1332 h => st rfl <| b_shl (k := .i64) (k' := .u64) rfl rfl i1331 rfl i1332 <| st rfl <| b_lss (k := .i64) rfl rfl <| seqN [(0, .d ((cLs (cXVariable cS cI) rfl).enc v0)), (1, .d ((cLs (cXEdit (cLs cI rfl)) rfl).enc v1)), (2, .d ((cLs cI rfl).enc v2)), (8, .d ((cLo cI).enc s801.1)), (9, .d (cB.enc s801.2.1)), (10, .d (cI.enc s801.2.2)), (26, .d (cB.enc (decide (s801.2.2 < ((1 : Int) * 2 ^ ((v0.length : Int)).toNat)))))] (by kernel_rfl) <|
    xn <| cnd rfl h (fun b1333 h => wpC_skip <| kpN [(0, .d ((cLs (cXVariable cS cI) rfl).enc v0)), (1, .d ((cLs (cXEdit (cLs cI rfl)) rfl).enc v1)), (2, .d ((cLs cI rfl).enc v2)), (8, .d ((cLo cI).enc s801.1)), (9, .d (cB.enc s801.2.1)), (10, .d (cI.enc s801.2.2))] (by kernel_rfl) <| xn <| wpC_seq <| wpC_kp <| wpC_blk <| wpC_seq <| reg_s <| st rfl <| mvd rfl rfl <| bnd h fun x1463 e1464 h => st rfl <| o_call (a1 (c := cI) tK rfl a0) (con_spec_eLevels e1464) (.inl (so1 (sLo sK) so0)) <| x_asg (so rfl rfl) <| seqN [(0, .d ((cLs (cXVariable cS cI) rfl).enc v0)), (1, .d ((cLs (cXEdit (cLs cI rfl)) rfl).enc v1)), (2, .d ((cLs cI rfl).enc v2)), (8, .d ((cLo cI).enc s801.1)), (9, .d (cB.enc s801.2.1)), (10, .d (cI.enc s801.2.2)), (11, .d ((cLo cI).enc x1463))] (by kernel_rfl) <|
    xn <| wpC_seq <| reg_s <| x_asg (sc (cLo cI) ([] : List Int) rfl) <| seqN [(0, .d ((cLs (cXVariable cS cI) rfl).enc v0)), (1, .d ((cLs (cXEdit (cLs cI rfl)) rfl).enc v1)), (2, .d ((cLs cI rfl).enc v2)), (8, .d ((cLo cI).enc s801.1)), (9, .d (cB.enc s801.2.1)), (10, .d (cI.enc s801.2.2)), (11, .d ((cLo cI).enc x1463)), (12, .d ((cLo cI).enc ([] : List Int)))] (by kernel_rfl) <|
    xn <| wpC_seq <| wpC_kp <| wpC_seq <| reg_s <| st rfl <| mvd rfl rfl <| stw rfl <| lens rfl fun l1512 => st rfl <| mvc cI (0 : Int) rfl <| seqN [(0, .d ((cLs (cXVariable cS cI) rfl).enc v0)), (1, .d ((cLs (cXEdit (cLs cI rfl)) rfl).enc v1)), (2, .d ((cLs cI rfl).enc v2)), (8, .d ((cLo cI).enc s801.1)), (9, .d (cB.enc s801.2.1)), (10, .d (cI.enc s801.2.2)), (11, .d ((cLo cI).enc x1463)), (12, .d ((cLo cI).enc ([] : List Int))), (32, .d (cI.enc (v0.length : Int))), (33, .d (cI.enc (0 : Int)))] (by kernel_rfl) <|
    xn <| wpC_blk <| lpR (fun (k1514 : Nat) (s1513 : (List Int)) => [(0, .d ((cLs (cXVariable cS cI) rfl).enc v0)), (1, .d ((cLs (cXEdit (cLs cI rfl)) rfl).enc v1)), (2, .d ((cLs cI rfl).enc v2)), (8, .d ((cLo cI).enc s801.1)), (9, .d (cB.enc s801.2.1)), (10, .d (cI.enc s801.2.2)), (11, .d ((cLo cI).enc x1463)), (12, .d ((cLo cI).enc s1513)), (32, .d (cI.enc (v0.length : Int))), (33, .d (cI.enc (k1514 : Int)))]) ([] : List Int) rfl h
    (fun G1544 s1513 h => wpC_seq <| reg_s <| st rfl <| b_lss (k := .i64) rfl rfl <| seqN [(0, .d ((cLs (cXVariable cS cI) rfl).enc v0)), (1, .d ((cLs (cXEdit (cLs cI rfl)) rfl).enc v1)), (2, .d ((cLs cI rfl).enc v2)), (8, .d ((cLo cI).enc s801.1)), (9, .d (cB.enc s801.2.1)), (10, .d (cI.enc s801.2.2)), (11, .d ((cLo cI).enc x1463)), (12, .d ((cLo cI).enc s1513)), (32, .d (cI.enc (v0.length : Int))), (33, .d (cI.enc (v0.length : Int))), (34, .d (cB.enc (decide ((v0.length : Int) < (v0.length : Int)))))] (by kernel_rfl) <|
    xn <| wpC_seq <| wpC_kp <| cnd0 rfl (dlf _) <| wpC_exit <| xt <| xt <| xt <| xb <| kpN [(0, .d ((cLs (cXVariable cS cI) rfl).enc v0)), (1, .d ((cLs (cXEdit (cLs cI rfl)) rfl).enc v1)), (2, .d ((cLs cI rfl).enc v2)), (8, .d ((cLo cI).enc s801.1)), (9, .d (cB.enc s801.2.1)), (10, .d (cI.enc s801.2.2)), (11, .d ((cLo cI).enc x1463)), (12, .d ((cLo cI).enc s1513))] (by kernel_rfl) <| xn <| wpC_seq <| wpC_kp <| wpC_seq <| reg_s <| st rfl <| mvd rfl rfl <| st rfl <| mvd rfl rfl <| st rfl <| mvo rfl rfl <| st rfl <| mvd rfl rfl <| bnd h fun x1552 e1553 h => st rfl <| o_call (a1 (c := (cLs (cXVariable cS cI) rfl)) (tLs (tXVariable tS tK)) rfl (a1 (c := (cLs (cXEdit (cLs cI rfl)) rfl)) (tLs (tXEdit (tLs tK))) rfl (a1 (c := (cLo cI)) (tLo tK) rfl (a1 (c := (cLs cI rfl)) (tLs tK) rfl a0)))) (con_spec_eComplete e1553) (.inl (so1 (sLo sK) (so1 sB so0))) <| x_mvt rfl <| x_ext rfl rfl <| x_ext rfl rfl <| x_asg (so rfl rfl) <| x_asg (ss rfl rfl) <| seqN [(0, .d ((cLs (cXVariable cS cI) rfl).enc v0)), (1, .d ((cLs (cXEdit (cLs cI rfl)) rfl).enc v1)), (2, .d ((cLs cI rfl).enc v2)), (8, .d ((cLo cI).enc s801.1)), (9, .d (cB.enc s801.2.1)), (10, .d (cI.enc s801.2.2)), (11, .d ((cLo cI).enc x1463)), (15, .d (cB.enc x1552.2))] (by kernel_rfl) <|
    xn <| wpC_seq <| reg_s <| st rfl <| mvd rfl rfl <| st rfl <| o_nt rfl <| seqN [(0, .d ((cLs (cXVariable cS cI) rfl).enc v0)), (1, .d ((cLs (cXEdit (cLs cI rfl)) rfl).enc v1)), (2, .d ((cLs cI rfl).enc v2)), (8, .d ((cLo cI).enc s801.1)), (9, .d (cB.enc s801.2.1)), (10, .d (cI.enc s801.2.2)), (11, .d ((cLo cI).enc x1463)), (54, .d (cB.enc (!x1552.2)))] (by kernel_rfl) <|
    xn <| cnd rfl h (fun b1554 h => wpC_exit <| xt <| xt <| xb <| kpN [(0, .d ((cLs (cXVariable cS cI) rfl).enc v0)), (1, .d ((cLs (cXEdit (cLs cI rfl)) rfl).enc v1)), (2, .d ((cLs cI rfl).enc v2)), (8, .d ((cLo cI).enc s801.1)), (9, .d (cB.enc s801.2.1)), (10, .d (cI.enc s801.2.2))] (by kernel_rfl) <| xn <| reg_s <| st rfl <| mvd rfl rfl <| ckI_k h fun i1555 h => st rfl <| b_add (k := .i64) rfl rfl i1555 <| x_asg (ss rfl rfl) <| seqN [(0, .d ((cLs (cXVariable cS cI) rfl).enc v0)), (1, .d ((cLs (cXEdit (cLs cI rfl)) rfl).enc v1)), (2, .d ((cLs cI rfl).enc v2)), (8, .d ((cLo cI).enc s801.1)), (9, .d (cB.enc s801.2.1)), (10, .d (cI.enc (s801.2.2 + (1 : Int))))] (by kernel_rfl) <|
    xn <| hn1314 (s801.1, s801.2.1, (s801.2.2 + (1 : Int))) h)
    (fun b1554 h => wpC_skip <| kpN [(0, .d ((cLs (cXVariable cS cI) rfl).enc v0)), (1, .d ((cLs (cXEdit (cLs cI rfl)) rfl).enc v1)), (2, .d ((cLs cI rfl).enc v2)), (8, .d ((cLo cI).enc s801.1)), (9, .d (cB.enc s801.2.1)), (10, .d (cI.enc s801.2.2)), (11, .d ((cLo cI).enc x1463))] (by kernel_rfl) <| xn <| wpC_seq <| jw (fun (s1565 : Bool) => [(0, .d ((cLs (cXVariable cS cI) rfl).enc v0)), (1, .d ((cLs (cXEdit (cLs cI rfl)) rfl).enc v1)), (2, .d ((cLs cI rfl).enc v2)), (8, .d ((cLo cI).enc s801.1)), (9, .d (cB.enc s801.2.1)), (10, .d (cI.enc s801.2.2)), (11, .d ((cLo cI).enc x1463)), (76, .d (cB.enc s1565))]) h (fun s1565 h => xn <| cnd rfl h (fun b1567 h => wpC_seq <| reg_s <| st rfl <| mvo rfl rfl <| x_asg (sr rfl rfl) <| seqN [(0, .d ((cLs (cXVariable cS cI) rfl).enc v0)), (1, .d ((cLs (cXEdit (cLs cI rfl)) rfl).enc v1)), (2, .d ((cLs cI rfl).enc v2)), (8, .d ((cLo cI).enc x1463)), (10, .d (cI.enc s801.2.2))] (by kernel_rfl) <|
    xn <| reg_s <| x_asg (sc cB true rfl) <| seqN [(0, .d ((cLs (cXVariable cS cI) rfl).enc v0)), (1, .d ((cLs (cXEdit (cLs cI rfl)) rfl).enc v1)), (2, .d ((cLs cI rfl).enc v2)), (8, .d ((cLo cI).enc x1463)), (9, .d (cB.enc true)), (10, .d (cI.enc s801.2.2))] (by kernel_rfl) <|
    xbb <| kpN [(0, .d ((cLs (cXVariable cS cI) rfl).enc v0)), (1, .d ((cLs (cXEdit (cLs cI rfl)) rfl).enc v1)), (2, .d ((cLs cI rfl).enc v2)), (8, .d ((cLo cI).enc x1463)), (9, .d (cB.enc true)), (10, .d (cI.enc s801.2.2))] (by kernel_rfl) <| xn <| reg_s <| st rfl <| mvd rfl rfl <| ckI_k h fun i1568 h => st rfl <| b_add (k := .i64) rfl rfl i1568 <| x_asg (ss rfl rfl) <| seqN [(0, .d ((cLs (cXVariable cS cI) rfl).enc v0)), (1, .d ((cLs (cXEdit (cLs cI rfl)) rfl).enc v1)), (2, .d ((cLs cI rfl).enc v2)), (8, .d ((cLo cI).enc x1463)), (9, .d (cB.enc true)), (10, .d (cI.enc (s801.2.2 + (1 : Int))))] (by kernel_rfl) <|
    xn <| hn1314 (x1463, true, (s801.2.2 + (1 : Int))) h)
    (fun b1567 h => wpC_skip <| xbb <| kpN [(0, .d ((cLs (cXVariable cS cI) rfl).enc v0)), (1, .d ((cLs (cXEdit (cLs cI rfl)) rfl).enc v1)), (2, .d ((cLs cI rfl).enc v2)), (8, .d ((cLo cI).enc s801.1)), (9, .d (cB.enc s801.2.1)), (10, .d (cI.enc s801.2.2))] (by kernel_rfl) <| xn <| reg_s <| st rfl <| mvd rfl rfl <| ckI_k h fun i1569 h => st rfl <| b_add (k := .i64) rfl rfl i1569 <| x_asg (ss rfl rfl) <| seqN [(0, .d ((cLs (cXVariable cS cI) rfl).enc v0)), (1, .d ((cLs (cXEdit (cLs cI rfl)) rfl).enc v1)), (2, .d ((cLs cI rfl).enc v2)), (8, .d ((cLo cI).enc s801.1)), (9, .d (cB.enc s801.2.1)), (10, .d (cI.enc (s801.2.2 + (1 : Int))))] (by kernel_rfl) <|
    xn <| hn1314 (s801.1, s801.2.1, (s801.2.2 + (1 : Int))) h))
    fun s1565' q1566 h => reg_s <| st rfl <| mvd rfl rfl <| st rfl <| o_nt rfl <| st rfl <| mvd rfl rfl <| ite_k h (fun b1570 h => gf rfl b1570 <| gf rfl b1570 <| gf rfl b1570 <| gf rfl b1570 <| gf rfl b1570 <| st rfl <| pick1 rfl b1570 (cd := cB) (v := true) rfl rfl <| st rfl <| mvd rfl rfl <| gf rfl rfl <| gf rfl rfl <| gf rfl rfl <| gf rfl rfl <| gf rfl rfl <| gf rfl rfl <| gu rfl <| gu rfl <| gu rfl <| gu rfl <| gf rfl rfl <| st rfl <| pick1 rfl rfl (cd := cB) (v := true) rfl rfl <| seqN [(0, .d ((cLs (cXVariable cS cI) rfl).enc v0)), (1, .d ((cLs (cXEdit (cLs cI rfl)) rfl).enc v1)), (2, .d ((cLs cI rfl).enc v2)), (8, .d ((cLo cI).enc s801.1)), (9, .d (cB.enc s801.2.1)), (10, .d (cI.enc s801.2.2)), (11, .d ((cLo cI).enc x1463)), (76, .d (cB.enc true))] (by kernel_rfl) <|
    lfn (S := (fun (s1565 : Bool) => [(0, .d ((cLs (cXVariable cS cI) rfl).enc v0)), (1, .d ((cLs (cXEdit (cLs cI rfl)) rfl).enc v1)), (2, .d ((cLs cI rfl).enc v2)), (8, .d ((cLo cI).enc s801.1)), (9, .d (cB.enc s801.2.1)), (10, .d (cI.enc s801.2.2)), (11, .d ((cLo cI).enc x1463)), (76, .d (cB.enc s1565))])) h q1566 rfl)
    (fun b1570 h => gt' rfl b1570 <| st rfl <| mvo rfl rfl <| gt' rfl b1570 <| stw rfl <| leno rfl fun l1571 => gt' rfl b1570 <| st rfl <| mvo rfl rfl <| gt' rfl b1570 <| stw rfl <| leno rfl fun l1572 => gt' rfl b1570 <| st rfl <| b_lss (k := .i64) rfl rfl <| st rfl <| pick0 rfl b1570 (cd := cB) (v := (decide ((x1463.length : Int) < (s801.1.length : Int)))) rfl rfl <| st rfl <| mvd rfl rfl <| ite_k h (fun b1573 h => gf rfl b1573 <| gf rfl b1573 <| gf rfl b1573 <| gf rfl b1573 <| gf rfl b1573 <| gf rfl b1573 <| gu rfl <| gu rfl <| gu rfl <| gu rfl <| gf rfl b1573 <| st rfl <| pick1 rfl b1573 (cd := cB) (v := true) rfl rfl <| seqN [(0, .d ((cLs (cXVariable cS cI) rfl).enc v0)), (1, .d ((cLs (cXEdit (cLs cI rfl)) rfl).enc v1)), (2, .d ((cLs cI rfl).enc v2)), (8, .d ((cLo cI).enc s801.1)), (9, .d (cB.enc s801.2.1)), (10, .d (cI.enc s801.2.2)), (11, .d ((cLo cI).enc x1463)), (76, .d (cB.enc true))] (by kernel_rfl) <|
    lfn (S := (fun (s1565 : Bool) => [(0, .d ((cLs (cXVariable cS cI) rfl).enc v0)), (1, .d ((cLs (cXEdit (cLs cI rfl)) rfl).enc v1)), (2, .d ((cLs cI rfl).enc v2)), (8, .d ((cLo cI).enc s801.1)), (9, .d (cB.enc s801.2.1)), (10, .d (cI.enc s801.2.2)), (11, .d ((cLo cI).enc x1463)), (76, .d (cB.enc s1565))])) h q1566 rfl)
    (fun b1573 h => gt' rfl b1573 <| st rfl <| mvo rfl rfl <| gt' rfl b1573 <| stw rfl <| leno rfl fun l1574 => gt' rfl b1573 <| st rfl <| mvo rfl rfl <| gt' rfl b1573 <| stw rfl <| leno rfl fun l1575 => gt' rfl b1573 <| st rfl <| b_eql (k := .i64) rfl rfl <| gt' rfl b1573 <| st rfl <| mvd rfl rfl <| ite_k h (fun b1576 h => gt' rfl b1576 <| st rfl <| mvo rfl rfl <| gt' rfl b1576 <| st rfl <| mvo rfl rfl <| gt' rfl b1576 <| bnd h fun x1577 e1578 h => st rfl <| o_call (a1 (c := (cLo cI)) (tLo tK) rfl (a1 (c := (cLo cI)) (tLo tK) rfl a0)) (con_spec_l1Less e1578) (.inl (so1 sK so0)) <| gt' rfl b1576 <| st rfl <| b_lss (k := .i64) rfl rfl <| gt' rfl b1573 <| st rfl <| pick1 rfl b1576 (cd := cB) (v := (decide (x1577 < (0 : Int)))) rfl rfl <| st rfl <| pick0 rfl b1573 (cd := cB) (v := (decide (x1577 < (0 : Int)))) rfl rfl <| seqN [(0, .d ((cLs (cXVariable cS cI) rfl).enc v0)), (1, .d ((cLs (cXEdit (cLs cI rfl)) rfl).enc v1)), (2, .d ((cLs cI rfl).enc v2)), (8, .d ((cLo cI).enc s801.1)), (9, .d (cB.enc s801.2.1)), (10, .d (cI.enc s801.2.2)), (11, .d ((cLo cI).enc x1463)), (76, .d (cB.enc (decide (x1577 < (0 : Int)))))] (by kernel_rfl) <|
    lfn (S := (fun (s1565 : Bool) => [(0, .d ((cLs (cXVariable cS cI) rfl).enc v0)), (1, .d ((cLs (cXEdit (cLs cI rfl)) rfl).enc v1)), (2, .d ((cLs cI rfl).enc v2)), (8, .d ((cLo cI).enc s801.1)), (9, .d (cB.enc s801.2.1)), (10, .d (cI.enc s801.2.2)), (11, .d ((cLo cI).enc x1463)), (76, .d (cB.enc s1565))])) h q1566 rfl)
    (fun b1576 h => gf rfl b1576 <| gf rfl b1576 <| gf rfl b1576 <| gf rfl b1576 <| gt' rfl b1573 <| st rfl <| pick0 rfl b1576 (cd := cB) (v := false) rfl rfl <| st rfl <| pick0 rfl b1573 (cd := cB) (v := false) rfl rfl <| seqN [(0, .d ((cLs (cXVariable cS cI) rfl).enc v0)), (1, .d ((cLs (cXEdit (cLs cI rfl)) rfl).enc v1)), (2, .d ((cLs cI rfl).enc v2)), (8, .d ((cLo cI).enc s801.1)), (9, .d (cB.enc s801.2.1)), (10, .d (cI.enc s801.2.2)), (11, .d ((cLo cI).enc x1463)), (76, .d (cB.enc false))] (by kernel_rfl) <|
    lfn (S := (fun (s1565 : Bool) => [(0, .d ((cLs (cXVariable cS cI) rfl).enc v0)), (1, .d ((cLs (cXEdit (cLs cI rfl)) rfl).enc v1)), (2, .d ((cLs cI rfl).enc v2)), (8, .d ((cLo cI).enc s801.1)), (9, .d (cB.enc s801.2.1)), (10, .d (cI.enc s801.2.2)), (11, .d ((cLo cI).enc x1463)), (76, .d (cB.enc s1565))])) h q1566 rfl)))))
    (fun G1544 nx1542 k1514 s1513 x1515 hk1516 hx1517 hn1543 h => wpC_seq <| reg_s <| st rfl <| b_lss (k := .i64) rfl rfl <| seqN [(0, .d ((cLs (cXVariable cS cI) rfl).enc v0)), (1, .d ((cLs (cXEdit (cLs cI rfl)) rfl).enc v1)), (2, .d ((cLs cI rfl).enc v2)), (8, .d ((cLo cI).enc s801.1)), (9, .d (cB.enc s801.2.1)), (10, .d (cI.enc s801.2.2)), (11, .d ((cLo cI).enc x1463)), (12, .d ((cLo cI).enc s1513)), (32, .d (cI.enc (v0.length : Int))), (33, .d (cI.enc (k1514 : Int))), (34, .d (cB.enc (decide ((k1514 : Int) < (v0.length : Int)))))] (by kernel_rfl) <|
    xn <| wpC_seq <| wpC_kp <| cnd1 rfl (dlt hk1516) <| wpC_skip <| kpN [(0, .d ((cLs (cXVariable cS cI) rfl).enc v0)), (1, .d ((cLs (cXEdit (cLs cI rfl)) rfl).enc v1)), (2, .d ((cLs cI rfl).enc v2)), (8, .d ((cLo cI).enc s801.1)), (9, .d (cB.enc s801.2.1)), (10, .d (cI.enc s801.2.2)), (11, .d ((cLo cI).enc x1463)), (12, .d ((cLo cI).enc s1513)), (32, .d (cI.enc (v0.length : Int))), (33, .d (cI.enc (k1514 : Int)))] (by kernel_rfl) <| xn <| wpC_seq <| wpC_kp <| wpC_blk <| wpC_seq <| reg_s <| st rfl <| mvd rfl rfl <| x_asg (ss rfl rfl) <| seqN [(0, .d ((cLs (cXVariable cS cI) rfl).enc v0)), (1, .d ((cLs (cXEdit (cLs cI rfl)) rfl).enc v1)), (2, .d ((cLs cI rfl).enc v2)), (8, .d ((cLo cI).enc s801.1)), (9, .d (cB.enc s801.2.1)), (10, .d (cI.enc s801.2.2)), (11, .d ((cLo cI).enc x1463)), (12, .d ((cLo cI).enc s1513)), (13, .d (cI.enc (k1514 : Int))), (32, .d (cI.enc (v0.length : Int))), (33, .d (cI.enc (k1514 : Int)))] (by kernel_rfl) <|
    xn <| wpC_seq <| reg_s <| st rfl <| mvo rfl rfl <| st rfl <| mvd rfl rfl <| bnd h fun x1587 e1588 h => st rfl <| o_call (a1 (c := (cLo cI)) (tLo tK) rfl (a1 (c := cI) tK rfl a0)) (con_spec_l1Has e1588) (.inl (so1 sB so0)) <| st rfl <| o_nt rfl <| seqN [(0, .d ((cLs (cXVariable cS cI) rfl).enc v0)), (1, .d ((cLs (cXEdit (cLs cI rfl)) rfl).enc v1)), (2, .d ((cLs cI rfl).enc v2)), (8, .d ((cLo cI).enc s801.1)), (9, .d (cB.enc s801.2.1)), (10, .d (cI.enc s801.2.2)), (11, .d ((cLo cI).enc x1463)), (12, .d ((cLo cI).enc s1513)), (13, .d (cI.enc (k1514 : Int))), (32, .d (cI.enc (v0.length : Int))), (33, .d (cI.enc (k1514 : Int))), (39, .d (cB.enc (!x1587)))] (by kernel_rfl) <|
    xn <| cnd rfl h (fun b1589 h => reg_s <| st rfl <| mvo rfl rfl <| st rfl <| mvd rfl rfl <| x_bsl cI [(k1514 : Int)] (t1 (ss rfl rfl) rfl t0) rfl rfl <| lnO_k h fun l1590 h => x_app (sr rfl rfl) (to rfl rfl) l1590 rfl <| x_asg (so rfl rfl) <| seqN [(0, .d ((cLs (cXVariable cS cI) rfl).enc v0)), (1, .d ((cLs (cXEdit (cLs cI rfl)) rfl).enc v1)), (2, .d ((cLs cI rfl).enc v2)), (8, .d ((cLo cI).enc s801.1)), (9, .d (cB.enc s801.2.1)), (10, .d (cI.enc s801.2.2)), (11, .d ((cLo cI).enc x1463)), (12, .d ((cLo cI).enc (s1513 ++ [(k1514 : Int)]))), (32, .d (cI.enc (v0.length : Int))), (33, .d (cI.enc (k1514 : Int)))] (by kernel_rfl) <|
    xbb <| kpN [(0, .d ((cLs (cXVariable cS cI) rfl).enc v0)), (1, .d ((cLs (cXEdit (cLs cI rfl)) rfl).enc v1)), (2, .d ((cLs cI rfl).enc v2)), (8, .d ((cLo cI).enc s801.1)), (9, .d (cB.enc s801.2.1)), (10, .d (cI.enc s801.2.2)), (11, .d ((cLo cI).enc x1463)), (12, .d ((cLo cI).enc (s1513 ++ [(k1514 : Int)]))), (32, .d (cI.enc (v0.length : Int))), (33, .d (cI.enc (k1514 : Int)))] (by kernel_rfl) <| xn <| reg_s <| st rfl <| b_inc rfl rfl l1512 hk1516 <| st rfl <| mvd rfl rfl <| seqN [(0, .d ((cLs (cXVariable cS cI) rfl).enc v0)), (1, .d ((cLs (cXEdit (cLs cI rfl)) rfl).enc v1)), (2, .d ((cLs cI rfl).enc v2)), (8, .d ((cLo cI).enc s801.1)), (9, .d (cB.enc s801.2.1)), (10, .d (cI.enc s801.2.2)), (11, .d ((cLo cI).enc x1463)), (12, .d ((cLo cI).enc (s1513 ++ [(k1514 : Int)]))), (32, .d (cI.enc (v0.length : Int))), (33, .d (cI.enc ((k1514 + 1 : Nat) : Int)))] (by kernel_rfl) <|
    xn <| hn1543 (s1513 ++ [(k1514 : Int)]) h)
    (fun b1589 h => wpC_skip <| xbb <| kpN [(0, .d ((cLs (cXVariable cS cI) rfl).enc v0)), (1, .d ((cLs (cXEdit (cLs cI rfl)) rfl).enc v1)), (2, .d ((cLs cI rfl).enc v2)), (8, .d ((cLo cI).enc s801.1)), (9, .d (cB.enc s801.2.1)), (10, .d (cI.enc s801.2.2)), (11, .d ((cLo cI).enc x1463)), (12, .d ((cLo cI).enc s1513)), (32, .d (cI.enc (v0.length : Int))), (33, .d (cI.enc (k1514 : Int)))] (by kernel_rfl) <| xn <| reg_s <| st rfl <| b_inc rfl rfl l1512 hk1516 <| st rfl <| mvd rfl rfl <| seqN [(0, .d ((cLs (cXVariable cS cI) rfl).enc v0)), (1, .d ((cLs (cXEdit (cLs cI rfl)) rfl).enc v1)), (2, .d ((cLs cI rfl).enc v2)), (8, .d ((cLo cI).enc s801.1)), (9, .d (cB.enc s801.2.1)), (10, .d (cI.enc s801.2.2)), (11, .d ((cLo cI).enc x1463)), (12, .d ((cLo cI).enc s1513)), (32, .d (cI.enc (v0.length : Int))), (33, .d (cI.enc ((k1514 + 1 : Nat) : Int)))] (by kernel_rfl) <|
    xn <| hn1543 s1513 h)))
    (fun b1333 h => wpC_exit <| xt <| xt <| xt <| xb <| kpN [(8, .d ((cLo cI).enc s801.1)), (9, .d (cB.enc s801.2.1))] (by kernel_rfl) <| xn <| wpC_seq <| reg_s <| st rfl <| mvo rfl rfl <| st rfl <| mvd rfl rfl <| x_asg (sr rfl rfl) <| x_asg (ss rfl rfl) <| seqN [(6, .d ((cLo cI).enc s801.1)), (7, .d (cB.enc s801.2.1))] (by kernel_rfl) <|
    xn <| wpC_ret <| re <| fin h (r1 (so rfl rfl) <| r1 (ss rfl rfl) <| r0) rfl))

def rs_impl_membersOf (r : (List Int)) : List D := [(cLo cI).enc r]
def m132 : MC := .seq (.reg [⟨some 2, .asg (.c (.slice true [])), none⟩] [0])
  (.seq (.reg [⟨some 3, .asg (.c (.slice true [])), none⟩] [0, 3])
  (.seq (.kp [3] (.seq (.reg [⟨some 4, .asg (.c (.int .i64 0)), none⟩] [0, 3, 4])
  (.blk 0 (.loop (.seq (.kp [0, 3, 4] (.seq (.reg [⟨some 5, .mv (.t 0), none⟩,
    ⟨some 6, .mv (.t 4), none⟩,
    ⟨some 7, .bin .shr (.t 5) (.t 6), none⟩,
    ⟨some 8, .bin .neq (.t 7) (.c (.int .i64 0)), none⟩] [0, 3, 4, 8])
  (.cond (.t 8) (.skip) (.exit 0))))
  (.seq (.kp [0, 3, 4] (.blk 1 (.seq (.reg [⟨some 11, .mv (.t 0), none⟩,
    ⟨some 12, .mv (.t 4), none⟩,
    ⟨some 13, .bin .shr (.t 11) (.t 12), none⟩,
    ⟨some 14, .bin .and (.t 13) (.c (.int .i64 1)), none⟩,
    ⟨some 15, .bin .eql (.t 14) (.c (.int .i64 1)), none⟩] [0, 3, 4, 15])
  (.cond (.t 15) (.reg [⟨some 16, .mv (.t 3), none⟩,
    ⟨some 17, .mv (.t 4), none⟩,
    ⟨some 18, .bsl [(.t 17)] 1, none⟩,
    ⟨some 19, .app (.t 16) (.t 18) 1, none⟩,
    ⟨some 3, .asg (.t 19), none⟩] [0, 3, 4]) (.skip)))))
  (.reg [⟨some 9, .mv (.t 4), none⟩,
    ⟨some 10, .bin .add (.t 9) (.c (.int .i64 1)), none⟩,
    ⟨some 4, .asg (.t 10), none⟩] [0, 3, 4])))))))
  (.seq (.reg [⟨some 20, .mv (.t 3), none⟩,
    ⟨some 2, .asg (.t 20), none⟩] [2])
  (.ret))))
theorem con_impl_membersOf {v0 : Int} {r : (List Int)} (h : sh_impl_membersOf v0 = some r) : Con Try.prog 132 [cI.enc v0] [] (rs_impl_membersOf r) := by
  delta sh_impl_membersOf at h
  refine top (out := none) (f := Try.f132) (m := m132) (rs := [.t 2]) (by kernel_rfl) rfl (by kernel_rfl) (by kernel_rfl) (by kernel_rfl) (by kernel_rfl) (by kernel_rfl) ?_
  exact
   ini [(0, .d (cI.enc v0))] rfl <| wpC_seq <| reg_s <| x_asg (sc (cLo cI) ([] : List Int) rfl) <| seqN [(0, .d (cI.enc v0))] (by kernel_rfl) <|
    xn <| wpC_seq <| reg_s <| x_asg (sc (cLo cI) ([] : List Int) rfl) <| seqN [(0, .d (cI.enc v0)), (3, .d ((cLo cI).enc ([] : List Int)))] (by kernel_rfl) <|
    xn <| wpC_seq <| wpC_kp <| wpC_seq <| reg_s <| x_asg (sc cI (0 : Int) rfl) <| seqN [(0, .d (cI.enc v0)), (3, .d ((cLo cI).enc ([] : List Int))), (4, .d (cI.enc (0 : Int)))] (by kernel_rfl) <|
    xn <| wpC_blk <| lpF (fun (s105 : ((List Int) × Int)) => [(0, .d (cI.enc v0)), (3, .d ((cLo cI).enc s105.1)), (4, .d (cI.enc s105.2))]) (([] : List Int), (0 : Int)) rfl h
    fun G176 nx174 s105 hn175 h => wpC_seq <| wpC_kp <| wpC_seq <| reg_s <| st rfl <| mvd rfl rfl <| st rfl <| mvd rfl rfl <| ck_k h fun i181 h => st rfl <| b_shr (k := .i64) (k' := .i64) rfl rfl i181 rfl <| st rfl <| b_neq (k := .i64) rfl rfl <| seqN [(0, .d (cI.enc v0)), (3, .d ((cLo cI).enc s105.1)), (4, .d (cI.enc s105.2)), (8, .d (cB.enc (decide ((v0 / 2 ^ (s105.2).toNat) ≠ (0 : Int)))))] (by kernel_rfl) <|
    xn <| cnd rfl h (fun b182 h => wpC_skip <| kpN [(0, .d (cI.enc v0)), (3, .d ((cLo cI).enc s105.1)), (4, .d (cI.enc s105.2))] (by kernel_rfl) <| xn <| wpC_seq <| wpC_kp <| wpC_blk <| wpC_seq <| reg_s <| st rfl <| mvd rfl rfl <| st rfl <| mvd rfl rfl <| ck_k h fun i200 h => st rfl <| b_shr (k := .i64) (k' := .i64) rfl rfl i200 rfl <| ck_k h fun i201 h => ckK_k h fun i202 h => ck_k h fun i203 h => ckK_k h fun i204 h => st rfl <| b_and (k := .i64) rfl rfl ⟨i201, i202⟩ ⟨i203, i204⟩ <| st rfl <| b_eql (k := .i64) rfl rfl <| seqN [(0, .d (cI.enc v0)), (3, .d ((cLo cI).enc s105.1)), (4, .d (cI.enc s105.2)), (15, .d (cB.enc (decide ((((v0 / 2 ^ (s105.2).toNat).toNat &&& (1 : Int).toNat : Nat) : Int) = (1 : Int)))))] (by kernel_rfl) <|
    xn <| cnd rfl h (fun b205 h => reg_s <| st rfl <| mvo rfl rfl <| st rfl <| mvd rfl rfl <| x_bsl cI [s105.2] (t1 (ss rfl rfl) rfl t0) rfl rfl <| lnO_k h fun l206 h => x_app (sr rfl rfl) (to rfl rfl) l206 rfl <| x_asg (so rfl rfl) <| seqN [(0, .d (cI.enc v0)), (3, .d ((cLo cI).enc (s105.1 ++ [s105.2]))), (4, .d (cI.enc s105.2))] (by kernel_rfl) <|
    xbb <| kpN [(0, .d (cI.enc v0)), (3, .d ((cLo cI).enc (s105.1 ++ [s105.2]))), (4, .d (cI.enc s105.2))] (by kernel_rfl) <| xn <| reg_s <| st rfl <| mvd rfl rfl <| ckI_k h fun i207 h => st rfl <| b_add (k := .i64) rfl rfl i207 <| x_asg (ss rfl rfl) <| seqN [(0, .d (cI.enc v0)), (3, .d ((cLo cI).enc (s105.1 ++ [s105.2]))), (4, .d (cI.enc (s105.2 + (1 : Int))))] (by kernel_rfl) <|
    xn <| hn175 ((s105.1 ++ [s105.2]), (s105.2 + (1 : Int))) h)
    (fun b205 h => wpC_skip <| xbb <| kpN [(0, .d (cI.enc v0)), (3, .d ((cLo cI).enc s105.1)), (4, .d (cI.enc s105.2))] (by kernel_rfl) <| xn <| reg_s <| st rfl <| mvd rfl rfl <| ckI_k h fun i208 h => st rfl <| b_add (k := .i64) rfl rfl i208 <| x_asg (ss rfl rfl) <| seqN [(0, .d (cI.enc v0)), (3, .d ((cLo cI).enc s105.1)), (4, .d (cI.enc (s105.2 + (1 : Int))))] (by kernel_rfl) <|
    xn <| hn175 (s105.1, (s105.2 + (1 : Int))) h))
    (fun b182 h => wpC_exit <| xt <| xt <| xt <| xb <| kpN [(3, .d ((cLo cI).enc s105.1))] (by kernel_rfl) <| xn <| wpC_seq <| reg_s <| st rfl <| mvo rfl rfl <| x_asg (sr rfl rfl) <| seqN [(2, .d ((cLo cI).enc s105.1))] (by kernel_rfl) <|
    xn <| wpC_ret <| re <| fin h (r1 (so rfl rfl) <| r0) rfl)

def rs_cmp_isNaN_int (r : Bool) : List D := [cB.enc r]
def m163 : MC := .seq (.reg [⟨some 2, .asg (.c (.bool false)), none⟩] [0])
  (.seq (.reg [⟨some 3, .mv (.t 0), none⟩,
    ⟨some 4, .mv (.t 0), none⟩,
    ⟨some 5, .bin .neq (.t 3) (.t 4), none⟩,
    ⟨some 2, .asg (.t 5), none⟩] [2])
  (.ret))
theorem con_cmp_isNaN_int {v0 : Int} {r : Bool} (h : sh_cmp_isNaN_int v0 = some r) : Con Try.prog 163 [cI.enc v0] [] (rs_cmp_isNaN_int r) := by
  delta sh_cmp_isNaN_int at h
  refine top (out := none) (f := Try.f163) (m := m163) (rs := [.t 2]) (by kernel_rfl) rfl (by kernel_rfl) (by kernel_rfl) (by kernel_rfl) (by kernel_rfl) (by kernel_rfl) ?_
  exact
   ini [(0, .d (cI.enc v0))] rfl <| wpC_seq <| reg_s <| x_asg (sc cB false rfl) <| seqN [(0, .d (cI.enc v0))] (by kernel_rfl) <|
    xn <| wpC_seq <| reg_s <| st rfl <| mvd rfl rfl <| st rfl <| mvd rfl rfl <| st rfl <| b_neq (k := .i64) rfl rfl <| x_asg (ss rfl rfl) <| seqN [(2, .d (cB.enc (decide (v0 ≠ v0))))] (by kernel_rfl) <|
    xn <| wpC_ret <| re <| fin h (r1 (ss rfl rfl) <| r0) rfl

def rs_cmp_Compare_int (r : Int) : List D := [cI.enc r]
def m134 : MC := .seq (.reg [⟨some 4, .asg (.c (.int .i64 0)), none⟩] [0, 1])
  (.seq (.reg [⟨some 7, .mv (.t 0), none⟩,
    ⟨some 8, .call 163 [(.t 7)], none⟩,
    ⟨some 5, .asg (.t 8), none⟩] [0, 1, 5])
  (.seq (.reg [⟨some 9, .mv (.t 1), none⟩,
    ⟨some 10, .call 163 [(.t 9)], none⟩,
    ⟨some 6, .asg (.t 10), none⟩] [0, 1, 5, 6])
  (.seq (.kp [0, 1, 6] (.seq (.reg [⟨some 11, .mv (.t 5), none⟩] [0, 1, 6, 11])
  (.cond (.t 11) (.seq (.kp [] (.seq (.reg [⟨some 12, .mv (.t 6), none⟩] [12])
  (.cond (.t 12) (.seq (.reg [⟨some 4, .asg (.c (.int .i64 0)), none⟩] [4])
  (.ret)) (.skip))))
  (.seq (.reg [⟨some 4, .asg (.c (.int .i64 (-1))), none⟩] [4])
  (.ret))) (.skip))))
  (.seq (.kp [0, 1] (.seq (.reg [⟨some 13, .mv (.t 6), none⟩] [0, 1, 13])
  (.cond (.t 13) (.seq (.reg [⟨some 4, .asg (.c (.int .i64 1)), none⟩] [4])
  (.ret)) (.skip))))
  (.seq (.kp [0, 1] (.seq (.reg [⟨some 14, .mv (.t 0), none⟩,
    ⟨some 15, .mv (.t 1), none⟩,
    ⟨some 16, .bin .lss (.t 14) (.t 15), none⟩] [0, 1, 16])
  (.cond (.t 16) (.seq (.reg [⟨some 4, .asg (.c (.int .i64 (-1))), none⟩] [4])
  (.ret)) (.skip))))
  (.seq (.kp [] (.seq (.reg [⟨some 17, .mv (.t 0), none⟩,
    ⟨some 18, .mv (.t 1), none⟩,
    ⟨some 19, .bin .gtr (.t 17) (.t 18), none⟩] [19])
  (.cond (.t 19) (.seq (.reg [⟨some 4, .asg (.c (.int .i64 1)), none⟩] [4])
  (.ret)) (.skip))))
  (.seq (.reg [⟨some 4, .asg (.c (.int .i64 0)), none⟩] [4])
  (.ret))))))))
theorem con_cmp_Compare_int {v0 : Int} {v1 : Int} {r : Int} (h : sh_cmp_Compare_int v0 v1 = some r) : Con Try.prog 134 [cI.enc v0, cI.enc v1] [] (rs_cmp_Compare_int r) := by
  delta sh_cmp_Compare_int at h
  refine top (out := none) (f := Try.f134) (m := m134) (rs := [.t 4]) (by kernel_rfl) rfl (by kernel_rfl) (by kernel_rfl) (by kernel_rfl) (by kernel_rfl) (by kernel_rfl) ?_
  exact
   ini [(0, .d (cI.enc v0)), (1, .d (cI.enc v1))] rfl <| wpC_seq <| reg_s <| x_asg (sc cI (0 : Int) rfl) <| seqN [(0, .d (cI.enc v0)), (1, .d (cI.enc v1))] (by kernel_rfl) <|
    xn <| wpC_seq <| reg_s <| st rfl <| mvd rfl rfl <| bnd h fun x3 e4 h => st rfl <| o_call (a1 (c := cI) tK rfl a0) (con_cmp_isNaN_int e4) (.inl (so1 sB so0)) <| x_asg (ss rfl rfl) <| seqN [(0, .d (cI.enc v0)), (1, .d (cI.enc v1)), (5, .d (cB.enc x3))] (by kernel_rfl) <|
    xn <| wpC_seq <| reg_s <| st rfl <| mvd rfl rfl <| bnd h fun x7 e8 h => st rfl <| o_call (a1 (c := cI) tK rfl a0) (con_cmp_isNaN_int e8) (.inl (so1 sB so0)) <| x_asg (ss rfl rfl) <| seqN [(0, .d (cI.enc v0)), (1, .d (cI.enc v1)), (5, .d (cB.enc x3)), (6, .d (cB.enc x7))] (by kernel_rfl) <|
    xn <| wpC_seq <| wpC_kp <| wpC_seq <| reg_s <| st rfl <| mvd rfl rfl <| seqN [(0, .d (cI.enc v0)), (1, .d (cI.enc v1)), (6, .d (cB.enc x7)), (11, .d (cB.enc x3))] (by kernel_rfl) <|
    xn <| cnd rfl h (fun b12 h => wpC_seq <| wpC_kp <| wpC_seq <| reg_s <| st rfl <| mvd rfl rfl <| seqN [(12, .d (cB.enc x7))] (by kernel_rfl) <|
    xn <| cnd rfl h (fun b14 h => wpC_seq <| reg_s <| x_asg (sc cI (0 : Int) rfl) <| seqN [(4, .d (cI.enc (0 : Int)))] (by kernel_rfl) <|
    xn <| wpC_ret <| rt <| rt <| rt <| rt <| re <| fin h (r1 (ss rfl rfl) <| r0) rfl)
    (fun b14 h => wpC_skip <| kpN [] (by kernel_rfl) <| xn <| wpC_seq <| reg_s <| x_asg (sc cI (-1 : Int) rfl) <| seqN [(4, .d (cI.enc (-1 : Int)))] (by kernel_rfl) <|
    xn <| wpC_ret <| rt <| rt <| re <| fin h (r1 (ss rfl rfl) <| r0) rfl))
    (fun b12 h => wpC_skip <| kpN [(0, .d (cI.enc v0)), (1, .d (cI.enc v1)), (6, .d (cB.enc x7))] (by kernel_rfl) <| xn <| wpC_seq <| wpC_kp <| wpC_seq <| reg_s <| st rfl <| mvd rfl rfl <| seqN [(0, .d (cI.enc v0)), (1, .d (cI.enc v1)), (13, .d (cB.enc x7))] (by kernel_rfl) <|
    xn <| cnd rfl h (fun b16 h => wpC_seq <| reg_s <| x_asg (sc cI (1 : Int) rfl) <| seqN [(4, .d (cI.enc (1 : Int)))] (by kernel_rfl) <|
    xn <| wpC_ret <| rt <| rt <| re <| fin h (r1 (ss rfl rfl) <| r0) rfl)
    (fun b16 h => wpC_skip <| kpN [(0, .d (cI.enc v0)), (1, .d (cI.enc v1))] (by kernel_rfl) <| xn <| wpC_seq <| wpC_kp <| wpC_seq <| reg_s <| st rfl <| mvd rfl rfl <| st rfl <| mvd rfl rfl <| st rfl <| b_lss (k := .i64) rfl rfl <| seqN [(0, .d (cI.enc v0)), (1, .d (cI.enc v1)), (16, .d (cB.enc (decide (v0 < v1))))] (by kernel_rfl) <|
    xn <| cnd rfl h (fun b18 h => wpC_seq <| reg_s <| x_asg (sc cI (-1 : Int) rfl) <| seqN [(4, .d (cI.enc (-1 : Int)))] (by kernel_rfl) <|
    xn <| wpC_ret <| rt <| rt <| re <| fin h (r1 (ss rfl rfl) <| r0) rfl)
    (fun b18 h => wpC_skip <| kpN [(0, .d (cI.enc v0)), (1, .d (cI.enc v1))] (by kernel_rfl) <| xn <| wpC_seq <| wpC_kp <| wpC_seq <| reg_s <| st rfl <| mvd rfl rfl <| st rfl <| mvd rfl rfl <| st rfl <| b_gtr (k := .i64) rfl rfl <| seqN [(19, .d (cB.enc (decide (v1 < v0))))] (by kernel_rfl) <|
    xn <| cnd rfl h (fun b20 h => wpC_seq <| reg_s <| x_asg (sc cI (1 : Int) rfl) <| seqN [(4, .d (cI.enc (1 : Int)))] (by kernel_rfl) <|
    xn <| wpC_ret <| rt <| rt <| re <| fin h (r1 (ss rfl rfl) <| r0) rfl)
    (fun b20 h => wpC_skip <| kpN [] (by kernel_rfl) <| xn <| wpC_seq <| reg_s <| x_asg (sc cI (0 : Int) rfl) <| seqN [(4, .d (cI.enc (0 : Int)))] (by kernel_rfl) <|
    xn <| wpC_ret <| re <| fin h (r1 (ss rfl rfl) <| r0) rfl))))

def rs_slices_Compare_int (r : Int) : List D := [cI.enc r]
def m135 : MC := .seq (.reg [⟨some 4, .asg (.c (.int .i64 0)), none⟩] [0, 1])
  (.seq (.kp [0, 1] (.seq (.reg [⟨some 9, .mv (.t 0), none⟩,
    ⟨some 10, .len false (.t 9), none⟩,
    ⟨some 11, .mv (.c (.int .i64 0)), none⟩] [0, 1, 9, 10, 11])
  (.blk 0 (.loop (.seq (.reg [⟨some 12, .bin .lss (.t 11) (.t 10), none⟩] [0, 1, 9, 10, 11, 12])
  (.seq (.kp [0, 1, 9, 10, 11] (.cond (.t 12) (.skip) (.exit 0)))
  (.seq (.kp [0, 1, 9, 10, 11] (.blk 1 (.seq (.reg [⟨some 13, .mv (.t 11), none⟩,
    ⟨some 14, .ia 9 (.t 11) 1, none⟩,
    ⟨some 15, .ld 14 1 false, none⟩,
    ⟨some 5, .asg (.t 13), none⟩,
    ⟨some 6, .asg (.t 15), none⟩] [0, 1, 5, 6, 9, 10, 11])
  (.seq (.kp [0, 1, 5, 6, 9, 10, 11] (.seq (.reg [⟨some 16, .mv (.t 5), none⟩,
    ⟨some 17, .mv (.t 1), none⟩,
    ⟨some 18, .len false (.t 17), none⟩,
    ⟨some 19, .bin .geq (.t 16) (.t 18), none⟩] [0, 1, 5, 6, 9, 10, 11, 19])
  (.cond (.t 19) (.seq (.reg [⟨some 4, .asg (.c (.int .i64 1)), none⟩] [4])
  (.ret)) (.skip))))
  (.seq (.reg [⟨some 20, .mv (.t 1), none⟩,
    ⟨some 21, .mv (.t 5), none⟩,
    ⟨some 22, .ia 20 (.t 21) 1, none⟩,
    ⟨some 23, .ld 22 1 false, none⟩,
    ⟨some 7, .asg (.t 23), none⟩] [0, 1, 6, 7, 9, 10, 11])
  (.seq (.reg [⟨some 24, .mv (.t 6), none⟩,
    ⟨some 25, .mv (.t 7), none⟩,
    ⟨some 26, .call 134 [(.t 24), (.t 25)], none⟩,
    ⟨some 8, .asg (.t 26), none⟩] [0, 1, 8, 9, 10, 11])
  (.seq (.reg [⟨some 27, .mv (.t 8), none⟩,
    ⟨some 28, .bin .neq (.t 27) (.c (.int .i64 0)), none⟩] [0, 1, 8, 9, 10, 11, 28])
  (.cond (.t 28) (.seq (.reg [⟨some 29, .mv (.t 8), none⟩,
    ⟨some 4, .asg (.t 29), none⟩] [4])
  (.ret)) (.skip)))))))))
  (.reg [⟨some 30, .bin .add (.t 11) (.c (.int .i64 1)), none⟩,
    ⟨some 11, .mv (.t 30), none⟩] [0, 1, 9, 10, 11]))))))))
  (.seq (.kp [] (.seq (.reg [⟨some 31, .mv (.t 0), none⟩,
    ⟨some 32, .len false (.t 31), none⟩,
    ⟨some 33, .mv (.t 1), none⟩,
    ⟨some 34, .len false (.t 33), none⟩,
    ⟨some 35, .bin .lss (.t 32) (.t 34), none⟩] [35])
  (.cond (.t 35) (.seq (.reg [⟨some 4, .asg (.c (.int .i64 (-1))), none⟩] [4])
  (.ret)) (.skip))))
  (.seq (.reg [⟨some 4, .asg (.c (.int .i64 0)), none⟩] [4])
  (.ret))))
theorem con_slices_Compare_int {v0 : (List Int)} {v1 : (List Int)} {r : Int} (h : sh_slices_Compare_int v0 v1 = some r) : Con Try.prog 135 [(cLs cI rfl).enc v0, (cLs cI rfl).enc v1] [] (rs_slices_Compare_int r) := by
  delta sh_slices_Compare_int at h
  refine top (out := none) (f := Try.f135) (m := m135) (rs := [.t 4]) (by kernel_rfl) rfl (by kernel_rfl) (by kernel_rfl) (by kernel_rfl) (by kernel_rfl) (by kernel_rfl) ?_
  exact
   ini [(0, .d ((cLs cI rfl).enc v0)), (1, .d ((cLs cI rfl).enc v1))] rfl <| wpC_seq <| reg_s <| x_asg (sc cI (0 : Int) rfl) <| seqN [(0, .d ((cLs cI rfl).enc v0)), (1, .d ((cLs cI rfl).enc v1))] (by kernel_rfl) <|
    xn <| wpC_seq <| wpC_kp <| wpC_seq <| reg_s <| st rfl <| mvd rfl rfl <| stw rfl <| lens rfl fun l80 => st rfl <| mvc cI (0 : Int) rfl <| seqN [(0, .d ((cLs cI rfl).enc v0)), (1, .d ((cLs cI rfl).enc v1)), (9, .d ((cLs cI rfl).enc v0)), (10, .d (cI.enc (v0.length : Int))), (11, .d (cI.enc (0 : Int)))] (by kernel_rfl) <|
    xn <| wpC_blk <| lpR (fun (k82 : Nat) (s81 : Unit) => [(0, .d ((cLs cI rfl).enc v0)), (1, .d ((cLs cI rfl).enc v1)), (9, .d ((cLs cI rfl).enc v0)), (10, .d (cI.enc (v0.length : Int))), (11, .d (cI.enc (k82 : Int)))]) () rfl h
    (fun G122 s81 h => wpC_seq <| reg_s <| st rfl <| b_lss (k := .i64) rfl rfl <| seqN [(0, .d ((cLs cI rfl).enc v0)), (1, .d ((cLs cI rfl).enc v1)), (9, .d ((cLs cI rfl).enc v0)), (10, .d (cI.enc (v0.length : Int))), (11, .d (cI.enc (v0.length : Int))), (12, .d (cB.enc (decide ((v0.length : Int) < (v0.length : Int)))))] (by kernel_rfl) <|
    xn <| wpC_seq <| wpC_kp <| cnd0 rfl (dlf _) <| wpC_exit <| xt <| xt <| xt <| xb <| kpN [(0, .d ((cLs cI rfl).enc v0)), (1, .d ((cLs cI rfl).enc v1))] (by kernel_rfl) <| xn <| wpC_seq <| wpC_kp <| wpC_seq <| reg_s <| st rfl <| mvd rfl rfl <| stw rfl <| lens rfl fun l130 => st rfl <| mvd rfl rfl <| stw rfl <| lens rfl fun l131 => st rfl <| b_lss (k := .i64) rfl rfl <| seqN [(35, .d (cB.enc (decide ((v0.length : Int) < (v1.length : Int)))))] (by kernel_rfl) <|
    xn <| cnd rfl h (fun b132 h => wpC_seq <| reg_s <| x_asg (sc cI (-1 : Int) rfl) <| seqN [(4, .d (cI.enc (-1 : Int)))] (by kernel_rfl) <|
    xn <| wpC_ret <| rt <| rt <| re <| fin h (r1 (ss rfl rfl) <| r0) rfl)
    (fun b132 h => wpC_skip <| kpN [] (by kernel_rfl) <| xn <| wpC_seq <| reg_s <| x_asg (sc cI (0 : Int) rfl) <| seqN [(4, .d (cI.enc (0 : Int)))] (by kernel_rfl) <|
    xn <| wpC_ret <| re <| fin h (r1 (ss rfl rfl) <| r0) rfl))
    (fun G122 nx120 k82 s81 x83 hk84 hx85 hn121 h => wpC_seq <| reg_s <| st rfl <| b_lss (k := .i64) rfl rfl <| seqN [(0, .d ((cLs cI rfl).enc v0)), (1, .d ((cLs cI rfl).enc v1)), (9, .d ((cLs cI rfl).enc v0)), (10, .d (cI.enc (v0.length : Int))), (11, .d (cI.enc (k82 : Int))), (12, .d (cB.enc (decide ((k82 : Int) < (v0.length : Int)))))] (by kernel_rfl) <|
    xn <| wpC_seq <| wpC_kp <| cnd1 rfl (dlt hk84) <| wpC_skip <| kpN [(0, .d ((cLs cI rfl).enc v0)), (1, .d ((cLs cI rfl).enc v1)), (9, .d ((cLs cI rfl).enc v0)), (10, .d (cI.enc (v0.length : Int))), (11, .d (cI.enc (k82 : Int)))] (by kernel_rfl) <| xn <| wpC_seq <| wpC_kp <| wpC_blk <| wpC_seq <| reg_s <| st rfl <| mvd rfl rfl <| st rfl <| ias rfl rfl (Int.natCast_nonneg _) hx85 rfl <| st rfl <| ldi rfl rfl rfl rfl <| x_asg (ss rfl rfl) <| x_asg (ss rfl rfl) <| seqN [(0, .d ((cLs cI rfl).enc v0)), (1, .d ((cLs cI rfl).enc v1)), (5, .d (cI.enc (k82 : Int))), (6, .d (cI.enc x83)), (9, .d ((cLs cI rfl).enc v0)), (10, .d (cI.enc (v0.length : Int))), (11, .d (cI.enc (k82 : Int)))] (by kernel_rfl) <|
    xn <| wpC_seq <| wpC_kp <| wpC_seq <| reg_s <| st rfl <| mvd rfl rfl <| st rfl <| mvd rfl rfl <| stw rfl <| lens rfl fun l154 => st rfl <| b_geq (k := .i64) rfl rfl <| seqN [(0, .d ((cLs cI rfl).enc v0)), (1, .d ((cLs cI rfl).enc v1)), (5, .d (cI.enc (k82 : Int))), (6, .d (cI.enc x83)), (9, .d ((cLs cI rfl).enc v0)), (10, .d (cI.enc (v0.length : Int))), (11, .d (cI.enc (k82 : Int))), (19, .d (cB.enc (decide ((v1.length : Int) ≤ (k82 : Int)))))] (by kernel_rfl) <|
    xn <| cnd rfl h (fun b155 h => wpC_seq <| reg_s <| x_asg (sc cI (1 : Int) rfl) <| seqN [(4, .d (cI.enc (1 : Int)))] (by kernel_rfl) <|
    xn <| wpC_ret <| rt <| rt <| rb <| rt <| rt <| rt <| rb <| rt <| rt <| re <| fin h (r1 (ss rfl rfl) <| r0) rfl)
    (fun b155 h => wpC_skip <| kpN [(0, .d ((cLs cI rfl).enc v0)), (1, .d ((cLs cI rfl).enc v1)), (5, .d (cI.enc (k82 : Int))), (6, .d (cI.enc x83)), (9, .d ((cLs cI rfl).enc v0)), (10, .d (cI.enc (v0.length : Int))), (11, .d (cI.enc (k82 : Int)))] (by kernel_rfl) <| xn <| wpC_seq <| reg_s <| st rfl <| mvd rfl rfl <| st rfl <| mvd rfl rfl <| getO_k h fun x159 i160 g161 h => st rfl <| ias rfl rfl i160 g161 rfl <| st rfl <| ldi rfl rfl rfl rfl <| x_asg (ss rfl rfl) <| seqN [(0, .d ((cLs cI rfl).enc v0)), (1, .d ((cLs cI rfl).enc v1)), (6, .d (cI.enc x83)), (7, .d (cI.enc x159)), (9, .d ((cLs cI rfl).enc v0)), (10, .d (cI.enc (v0.length : Int))), (11, .d (cI.enc (k82 : Int)))] (by kernel_rfl) <|
    xn <| wpC_seq <| reg_s <| st rfl <| mvd rfl rfl <| st rfl <| mvd rfl rfl <| bnd h fun x164 e165 h => st rfl <| o_call (a1 (c := cI) tK rfl (a1 (c := cI) tK rfl a0)) (con_cmp_Compare_int e165) (.inl (so1 sK so0)) <| x_asg (ss rfl rfl) <| seqN [(0, .d ((cLs cI rfl).enc v0)), (1, .d ((cLs cI rfl).enc v1)), (8, .d (cI.enc x164)), (9, .d ((cLs cI rfl).enc v0)), (10, .d (cI.enc (v0.length : Int))), (11, .d (cI.enc (k82 : Int)))] (by kernel_rfl) <|
    xn <| wpC_seq <| reg_s <| st rfl <| mvd rfl rfl <| st rfl <| b_neq (k := .i64) rfl rfl <| seqN [(0, .d ((cLs cI rfl).enc v0)), (1, .d ((cLs cI rfl).enc v1)), (8, .d (cI.enc x164)), (9, .d ((cLs cI rfl).enc v0)), (10, .d (cI.enc (v0.length : Int))), (11, .d (cI.enc (k82 : Int))), (28, .d (cB.enc (decide (x164 ≠ (0 : Int)))))] (by kernel_rfl) <|
    xn <| cnd rfl h (fun b166 h => wpC_seq <| reg_s <| st rfl <| mvd rfl rfl <| x_asg (ss rfl rfl) <| seqN [(4, .d (cI.enc x164))] (by kernel_rfl) <|
    xn <| wpC_ret <| rb <| rt <| rt <| rt <| rb <| rt <| rt <| re <| fin h (r1 (ss rfl rfl) <| r0) rfl)
    (fun b166 h => wpC_skip <| xbb <| kpN [(0, .d ((cLs cI rfl).enc v0)), (1, .d ((cLs cI rfl).enc v1)), (9, .d ((cLs cI rfl).enc v0)), (10, .d (cI.enc (v0.length : Int))), (11, .d (cI.enc (k82 : Int)))] (by kernel_rfl) <| xn <| reg_s <| st rfl <| b_inc rfl rfl l80 hk84 <| st rfl <| mvd rfl rfl <| seqN [(0, .d ((cLs cI rfl).enc v0)), (1, .d ((cLs cI rfl).enc v1)), (9, .d ((cLs cI rfl).enc v0)), (10, .d (cI.enc (v0.length : Int))), (11, .d (cI.enc ((k82 + 1 : Nat) : Int)))] (by kernel_rfl) <|
    xn <| hn121 () h)))

def rs_cmp_Or_int (r : Int) : List D := [cI.enc r]
def m133 : MC := .seq (.reg [⟨some 2, .asg (.c (.int .i64 0)), none⟩] [0])
  (.seq (.reg [⟨some 3, .asg (.c (.int .i64 0)), none⟩] [0, 3])
  (.seq (.kp [3] (.seq (.reg [⟨some 6, .mv (.t 0), none⟩,
    ⟨some 7, .len false (.t 6), none⟩,
    ⟨some 8, .mv (.c (.int .i64 0)), none⟩] [0, 3, 6, 7, 8])
  (.blk 0 (.loop (.seq (.reg [⟨some 9, .bin .lss (.t 8) (.t 7), none⟩] [0, 3, 6, 7, 8, 9])
  (.seq (.kp [0, 3, 6, 7, 8] (.cond (.t 9) (.skip) (.exit 0)))
  (.seq (.kp [0, 3, 6, 7, 8] (.blk 1 (.seq (.reg [⟨some 10, .ia 6 (.t 8) 1, none⟩,
    ⟨some 11, .ld 10 1 false, none⟩,
    ⟨some 5, .asg (.t 11), none⟩] [0, 3, 5, 6, 7, 8])
  (.seq (.reg [⟨some 12, .mv (.t 5), none⟩,
    ⟨some 13, .mv (.t 3), none⟩,
    ⟨some 14, .bin .neq (.t 12) (.t 13), none⟩] [0, 3, 5, 6, 7, 8, 14])
  (.cond (.t 14) (.seq (.reg [⟨some 15, .mv (.t 5), none⟩,
    ⟨some 2, .asg (.t 15), none⟩] [2])
  (.ret)) (.skip))))))
  (.reg [⟨some 16, .bin .add (.t 8) (.c (.int .i64 1)), none⟩,
    ⟨some 8, .mv (.t 16), none⟩] [0, 3, 6, 7, 8]))))))))
  (.seq (.reg [⟨some 17, .mv (.t 3), none⟩,
    ⟨some 2, .asg (.t 17), none⟩] [2])
  (.ret))))
theorem con_cmp_Or_int {v0 : (List Int)} {r : Int} (h : sh_cmp_Or_int v0 = some r) : Con Try.prog 133 [(cLs cI rfl).enc v0] [] (rs_cmp_Or_int r) := by
  delta sh_cmp_Or_int at h
  refine top (out := none) (f := Try.f133) (m := m133) (rs := [.t 2]) (by kernel_rfl) rfl (by kernel_rfl) (by kernel_rfl) (by kernel_rfl) (by kernel_rfl) (by kernel_rfl) ?_
  exact
   ini [(0, .d ((cLs cI rfl).enc v0))] rfl <| wpC_seq <| reg_s <| x_asg (sc cI (0 : Int) rfl) <| seqN [(0, .d ((cLs cI rfl).enc v0))] (by kernel_rfl) <|
    xn <| wpC_seq <| reg_s <| x_asg (sc cI (0 : Int) rfl) <| seqN [(0, .d ((cLs cI rfl).enc v0)), (3, .d (cI.enc (0 : Int)))] (by kernel_rfl) <|
    xn <| wpC_seq <| wpC_kp <| wpC_seq <| reg_s <| st rfl <| mvd rfl rfl <| stw rfl <| lens rfl fun l16 => st rfl <| mvc cI (0 : Int) rfl <| seqN [(0, .d ((cLs cI rfl).enc v0)), (3, .d (cI.enc (0 : Int))), (6, .d ((cLs cI rfl).enc v0)), (7, .d (cI.enc (v0.length : Int))), (8, .d (cI.enc (0 : Int)))] (by kernel_rfl) <|
    xn <| wpC_blk <| lpR (fun (k18 : Nat) (s17 : Unit) => [(0, .d ((cLs cI rfl).enc v0)), (3, .d (cI.enc (0 : Int))), (6, .d ((cLs cI rfl).enc v0)), (7, .d (cI.enc (v0.length : Int))), (8, .d (cI.enc (k18 : Int)))]) () rfl h
    (fun G26 s17 h => wpC_seq <| reg_s <| st rfl <| b_lss (k := .i64) rfl rfl <| seqN [(0, .d ((cLs cI rfl).enc v0)), (3, .d (cI.enc (0 : Int))), (6, .d ((cLs cI rfl).enc v0)), (7, .d (cI.enc (v0.length : Int))), (8, .d (cI.enc (v0.length : Int))), (9, .d (cB.enc (decide ((v0.length : Int) < (v0.length : Int)))))] (by kernel_rfl) <|
    xn <| wpC_seq <| wpC_kp <| cnd0 rfl (dlf _) <| wpC_exit <| xt <| xt <| xt <| xb <| kpN [(3, .d (cI.enc (0 : Int)))] (by kernel_rfl) <| xn <| wpC_seq <| reg_s <| st rfl <| mvd rfl rfl <| x_asg (ss rfl rfl) <| seqN [(2, .d (cI.enc (0 : Int)))] (by kernel_rfl) <|
    xn <| wpC_ret <| re <| fin h (r1 (ss rfl rfl) <| r0) rfl)
    (fun G26 nx24 k18 s17 x19 hk20 hx21 hn25 h => wpC_seq <| reg_s <| st rfl <| b_lss (k := .i64) rfl rfl <| seqN [(0, .d ((cLs cI rfl).enc v0)), (3, .d (cI.enc (0 : Int))), (6, .d ((cLs cI rfl).enc v0)), (7, .d (cI.enc (v0.length : Int))), (8, .d (cI.enc (k18 : Int))), (9, .d (cB.enc (decide ((k18 : Int) < (v0.length : Int)))))] (by kernel_rfl) <|
    xn <| wpC_seq <| wpC_kp <| cnd1 rfl (dlt hk20) <| wpC_skip <| kpN [(0, .d ((cLs cI rfl).enc v0)), (3, .d (cI.enc (0 : Int))), (6, .d ((cLs cI rfl).enc v0)), (7, .d (cI.enc (v0.length : Int))), (8, .d (cI.enc (k18 : Int)))] (by kernel_rfl) <| xn <| wpC_seq <| wpC_kp <| wpC_blk <| wpC_seq <| reg_s <| st rfl <| ias rfl rfl (Int.natCast_nonneg _) hx21 rfl <| st rfl <| ldi rfl rfl rfl rfl <| x_asg (ss rfl rfl) <| seqN [(0, .d ((cLs cI rfl).enc v0)), (3, .d (cI.enc (0 : Int))), (5, .d (cI.enc x19)), (6, .d ((cLs cI rfl).enc v0)), (7, .d (cI.enc (v0.length : Int))), (8, .d (cI.enc (k18 : Int)))] (by kernel_rfl) <|
    xn <| wpC_seq <| reg_s <| st rfl <| mvd rfl rfl <| st rfl <| mvd rfl rfl <| st rfl <| b_neq (k := .i64) rfl rfl <| seqN [(0, .d ((cLs cI rfl).enc v0)), (3, .d (cI.enc (0 : Int))), (5, .d (cI.enc x19)), (6, .d ((cLs cI rfl).enc v0)), (7, .d (cI.enc (v0.length : Int))), (8, .d (cI.enc (k18 : Int))), (14, .d (cB.enc (decide (x19 ≠ (0 : Int)))))] (by kernel_rfl) <|
    xn <| cnd rfl h (fun b28 h => wpC_seq <| reg_s <| st rfl <| mvd rfl rfl <| x_asg (ss rfl rfl) <| seqN [(2, .d (cI.enc x19))] (by kernel_rfl) <|
    xn <| wpC_ret <| rb <| rt <| rt <| rt <| rb <| rt <| rt <| re <| fin h (r1 (ss rfl rfl) <| r0) rfl)
    (fun b28 h => wpC_skip <| xbb <| kpN [(0, .d ((cLs cI rfl).enc v0)), (3, .d (cI.enc (0 : Int))), (6, .d ((cLs cI rfl).enc v0)), (7, .d (cI.enc (v0.length : Int))), (8, .d (cI.enc (k18 : Int)))] (by kernel_rfl) <| xn <| reg_s <| st rfl <| b_inc rfl rfl l16 hk20 <| st rfl <| mvd rfl rfl <| seqN [(0, .d ((cLs cI rfl).enc v0)), (3, .d (cI.enc (0 : Int))), (6, .d ((cLs cI rfl).enc v0)), (7, .d (cI.enc (v0.length : Int))), (8, .d (cI.enc ((k18 + 1 : Nat) : Int)))] (by kernel_rfl) <|
    xn <| hn25 () h))

def rs_impl_otherVars (r : (List Int)) : List D := [(cLo cI).enc r]
def m94 : MC := .seq (.reg [⟨some 4, .asg (.c (.slice true [])), none⟩] [0, 1])
  (.seq (.reg [⟨some 5, .asg (.c (.slice true [])), none⟩] [0, 1, 5])
  (.seq (.kp [5] (.seq (.reg [⟨some 7, .mv (.t 0), none⟩,
    ⟨some 8, .len false (.t 7), none⟩,
    ⟨some 9, .mv (.c (.int .i64 0)), none⟩] [1, 5, 8, 9])
  (.blk 0 (.loop (.seq (.reg [⟨some 10, .bin .lss (.t 9) (.t 8), none⟩] [1, 5, 8, 9, 10])
  (.seq (.kp [1, 5, 8, 9] (.cond (.t 10) (.skip) (.exit 0)))
  (.seq (.kp [1, 5, 8, 9] (.blk 1 (.seq (.reg [⟨some 11, .mv (.t 9), none⟩,
    ⟨some 6, .asg (.t 11), none⟩] [1, 5, 6, 8, 9])
  (.seq (.reg [⟨some 12, .mv (.t 1), none⟩,
    ⟨some 13, .mv (.t 6), none⟩,
    ⟨some 14, .call 143 [(.t 12), (.t 13)], none⟩,
    ⟨some 15, .nt (.t 14), none⟩] [1, 5, 6, 8, 9, 15])
  (.cond (.t 15) (.reg [⟨some 16, .mv (.t 5), none⟩,
    ⟨some 17, .mv (.t 6), none⟩,
    ⟨some 18, .bsl [(.t 17)] 1, none⟩,
    ⟨some 19, .app (.t 16) (.t 18) 1, none⟩,
    ⟨some 5, .asg (.t 19), none⟩] [1, 5, 8, 9]) (.skip))))))
  (.reg [⟨some 20, .bin .add (.t 9) (.c (.int .i64 1)), none⟩,
    ⟨some 9, .mv (.t 20), none⟩] [1, 5, 8, 9]))))))))
  (.seq (.reg [⟨some 21, .mv (.t 5), none⟩,
    ⟨some 4, .asg (.t 21), none⟩] [4])
  (.ret))))
theorem con_impl_otherVars {v0 : (List XVariable)} {v1 : (List Int)} {r : (List Int)} (h : sh_impl_otherVars v0 v1 = some r) : Con Try.prog 94 [(cLs (cXVariable cS cI) rfl).enc v0, (cLs cI rfl).enc v1] [] (rs_impl_otherVars r) := by
  delta sh_impl_otherVars at h
  refine top (out := none) (f := Try.f94) (m := m94) (rs := [.t 4]) (by kernel_rfl) rfl (by kernel_rfl) (by kernel_rfl) (by kernel_rfl) (by kernel_rfl) (by kernel_rfl) ?_
  exact
   ini [(0, .d ((cLs (cXVariable cS cI) rfl).enc v0)), (1, .d ((cLs cI rfl).enc v1))] rfl <| wpC_seq <| reg_s <| x_asg (sc (cLo cI) ([] : List Int) rfl) <| seqN [(0, .d ((cLs (cXVariable cS cI) rfl).enc v0)), (1, .d ((cLs cI rfl).enc v1))] (by kernel_rfl) <|
    xn <| wpC_seq <| reg_s <| x_asg (sc (cLo cI) ([] : List Int) rfl) <| seqN [(0, .d ((cLs (cXVariable cS cI) rfl).enc v0)), (1, .d ((cLs cI rfl).enc v1)), (5, .d ((cLo cI).enc ([] : List Int)))] (by kernel_rfl) <|
    xn <| wpC_seq <| wpC_kp <| wpC_seq <| reg_s <| st rfl <| mvd rfl rfl <| stw rfl <| lens rfl fun l48 => st rfl <| mvc cI (0 : Int) rfl <| seqN [(1, .d ((cLs cI rfl).enc v1)), (5, .d ((cLo cI).enc ([] : List Int))), (8, .d (cI.enc (v0.length : Int))), (9, .d (cI.enc (0 : Int)))] (by kernel_rfl) <|
    xn <| wpC_blk <| lpR (fun (k50 : Nat) (s49 : (List Int)) => [(1, .d ((cLs cI rfl).enc v1)), (5, .d ((cLo cI).enc s49)), (8, .d (cI.enc (v0.length : Int))), (9, .d (cI.enc (k50 : Int)))]) ([] : List Int) rfl h
    (fun G80 s49 h => wpC_seq <| reg_s <| st rfl <| b_lss (k := .i64) rfl rfl <| seqN [(1, .d ((cLs cI rfl).enc v1)), (5, .d ((cLo cI).enc s49)), (8, .d (cI.enc (v0.length : Int))), (9, .d (cI.enc (v0.length : Int))), (10, .d (cB.enc (decide ((v0.length : Int) < (v0.length : Int)))))] (by kernel_rfl) <|
    xn <| wpC_seq <| wpC_kp <| cnd0 rfl (dlf _) <| wpC_exit <| xt <| xt <| xt <| xb <| kpN [(5, .d ((cLo cI).enc s49))] (by kernel_rfl) <| xn <| wpC_seq <| reg_s <| st rfl <| mvo rfl rfl <| x_asg (sr rfl rfl) <| seqN [(4, .d ((cLo cI).enc s49))] (by kernel_rfl) <|
    xn <| wpC_ret <| re <| fin h (r1 (so rfl rfl) <| r0) rfl)
    (fun G80 nx78 k50 s49 x51 hk52 hx53 hn79 h => wpC_seq <| reg_s <| st rfl <| b_lss (k := .i64) rfl rfl <| seqN [(1, .d ((cLs cI rfl).enc v1)), (5, .d ((cLo cI).enc s49)), (8, .d (cI.enc (v0.length : Int))), (9, .d (cI.enc (k50 : Int))), (10, .d (cB.enc (decide ((k50 : Int) < (v0.length : Int)))))] (by kernel_rfl) <|
    xn <| wpC_seq <| wpC_kp <| cnd1 rfl (dlt hk52) <| wpC_skip <| kpN [(1, .d ((cLs cI rfl).enc v1)), (5, .d ((cLo cI).enc s49)), (8, .d (cI.enc (v0.length : Int))), (9, .d (cI.enc (k50 : Int)))] (by kernel_rfl) <| xn <| wpC_seq <| wpC_kp <| wpC_blk <| wpC_seq <| reg_s <| st rfl <| mvd rfl rfl <| x_asg (ss rfl rfl) <| seqN [(1, .d ((cLs cI rfl).enc v1)), (5, .d ((cLo cI).enc s49)), (6, .d (cI.enc (k50 : Int))), (8, .d (cI.enc (v0.length : Int))), (9, .d (cI.enc (k50 : Int)))] (by kernel_rfl) <|
    xn <| wpC_seq <| reg_s <| st rfl <| mvd rfl rfl <| st rfl <| mvd rfl rfl <| bnd h fun x89 e90 h => st rfl <| o_call (a1 (c := (cLs cI rfl)) (tLs tK) rfl (a1 (c := cI) tK rfl a0)) (con_slices_Contains_int e90) (.inl (so1 sB so0)) <| st rfl <| o_nt rfl <| seqN [(1, .d ((cLs cI rfl).enc v1)), (5, .d ((cLo cI).enc s49)), (6, .d (cI.enc (k50 : Int))), (8, .d (cI.enc (v0.length : Int))), (9, .d (cI.enc (k50 : Int))), (15, .d (cB.enc (!x89)))] (by kernel_rfl) <|
    xn <| cnd rfl h (fun b91 h => reg_s <| st rfl <| mvo rfl rfl <| st rfl <| mvd rfl rfl <| x_bsl cI [(k50 : Int)] (t1 (ss rfl rfl) rfl t0) rfl rfl <| lnO_k h fun l92 h => x_app (sr rfl rfl) (to rfl rfl) l92 rfl <| x_asg (so rfl rfl) <| seqN [(1, .d ((cLs cI rfl).enc v1)), (5, .d ((cLo cI).enc (s49 ++ [(k50 : Int)]))), (8, .d (cI.enc (v0.length : Int))), (9, .d (cI.enc (k50 : Int)))] (by kernel_rfl) <|
    xbb <| kpN [(1, .d ((cLs cI rfl).enc v1)), (5, .d ((cLo cI).enc (s49 ++ [(k50 : Int)]))), (8, .d (cI.enc (v0.length : Int))), (9, .d (cI.enc (k50 : Int)))] (by kernel_rfl) <| xn <| reg_s <| st rfl <| b_inc rfl rfl l48 hk52 <| st rfl <| mvd rfl rfl <| seqN [(1, .d ((cLs cI rfl).enc v1)), (5, .d ((cLo cI).enc (s49 ++ [(k50 : Int)]))), (8, .d (cI.enc (v0.length : Int))), (9, .d (cI.enc ((k50 + 1 : Nat) : Int)))] (by kernel_rfl) <|
    xn <| hn79 (s49 ++ [(k50 : Int)]) h)
    (fun b91 h => wpC_skip <| xbb <| kpN [(1, .d ((cLs cI rfl).enc v1)), (5, .d ((cLo cI).enc s49)), (8, .d (cI.enc (v0.length : Int))), (9, .d (cI.enc (k50 : Int)))] (by kernel_rfl) <| xn <| reg_s <| st rfl <| b_inc rfl rfl l48 hk52 <| st rfl <| mvd rfl rfl <| seqN [(1, .d ((cLs cI rfl).enc v1)), (5, .d ((cLo cI).enc s49)), (8, .d (cI.enc (v0.length : Int))), (9, .d (cI.enc ((k50 + 1 : Nat) : Int)))] (by kernel_rfl) <|
    xn <| hn79 s49 h))

def rs_impl_SmallestCover_1 (r : Int) : List D := [cI.enc r]
def m81 : MC := .seq (.reg [⟨some 2, .asg (.c (.int .i64 0)), none⟩] [0])
  (.seq (.reg [⟨some 3, .mv (.t 0), none⟩,
    ⟨some 4, .len false (.t 3), none⟩,
    ⟨some 2, .asg (.t 4), none⟩] [2])
  (.ret))
theorem con_impl_SmallestCover_1 {v0 : (List Int)} {r : Int} (h : sh_impl_SmallestCover_1 v0 = some r) : Con Try.prog 81 [(cLs cI rfl).enc v0] [] (rs_impl_SmallestCover_1 r) := by
  delta sh_impl_SmallestCover_1 at h
  refine top (out := none) (f := Try.f81) (m := m81) (rs := [.t 2]) (by kernel_rfl) rfl (by kernel_rfl) (by kernel_rfl) (by kernel_rfl) (by kernel_rfl) (by kernel_rfl) ?_
  exact
   ini [(0, .d ((cLs cI rfl).enc v0))] rfl <| wpC_seq <| reg_s <| x_asg (sc cI (0 : Int) rfl) <| seqN [(0, .d ((cLs cI rfl).enc v0))] (by kernel_rfl) <|
    xn <| wpC_seq <| reg_s <| st rfl <| mvd rfl rfl <| stw rfl <| lens rfl fun l2 => x_asg (ss rfl rfl) <| seqN [(2, .d (cI.enc (v0.length : Int)))] (by kernel_rfl) <|
    xn <| wpC_ret <| re <| fin h (r1 (ss rfl rfl) <| r0) rfl

def rs_impl_leastCover_impl_SmallestCover_1 (r : ((List Int) × Bool)) : List D := [(cLo cI).enc r.1, cB.enc r.2]
def m80_81 : MC := .seq (.reg [⟨some 8, .asg (.c (.slice true [])), none⟩,
    ⟨some 9, .asg (.c (.bool false)), none⟩] [0, 1, 2, 3])
  (.seq (.reg [⟨some 10, .asg (.c (.slice true [])), none⟩] [0, 1, 2, 3, 10])
  (.seq (.reg [⟨some 11, .asg (.c (.bool false)), none⟩] [0, 1, 2, 3, 10, 11])
  (.seq (.kp [10, 11] (.seq (.reg [⟨some 14, .mv (.t 0), none⟩,
    ⟨some 15, .len false (.t 14), none⟩,
    ⟨some 16, .bin .shl (.c (.int .i64 1)) (.t 15), none⟩,
    ⟨some 17, .mv (.c (.int .i64 0)), none⟩] [0, 1, 2, 3, 10, 11, 16, 17])
  (.blk 0 (.loop (.seq (.reg [⟨some 18, .bin .lss (.t 17) (.t 16), none⟩] [0, 1, 2, 3, 10, 11, 16, 17, 18])
  (.seq (.kp [0, 1, 2, 3, 10, 11, 16, 17] (.cond (.t 18) (.skip) (.exit 0)))
  (.seq (.kp [0, 1, 2, 3, 10, 11, 16, 17] (.blk 1 (.seq (.reg [⟨some 19, .mv (.t 17), none⟩,
    ⟨some 12, .asg (.t 19), none⟩] [0, 1, 2, 3, 10, 11, 12, 16, 17])
  (.seq (.reg [⟨some 20, .mv (.t 12), none⟩,
    ⟨some 21, .call 132 [(.t 20)], none⟩,
    ⟨some 13, .asg (.t 21), none⟩] [0, 1, 2, 3, 10, 11, 13, 16, 17])
  (.seq (.kp [0, 1, 2, 3, 10, 11, 13, 16, 17] (.seq (.reg [⟨some 22, .mv (.t 11), none⟩,
    ⟨some 23, .mv (.t 22), none⟩,
    ⟨some 24, .mv (.t 3), some (23, true)⟩,
    ⟨some 25, .mv (.t 13), some (23, true)⟩,
    ⟨some 26, .callf 24 [(false, (.t 25))], some (23, true)⟩,
    ⟨some 27, .mv (.t 3), some (23, true)⟩,
    ⟨some 28, .mv (.t 10), some (23, true)⟩,
    ⟨some 29, .callf 27 [(false, (.t 28))], some (23, true)⟩,
    ⟨some 30, .call 134 [(.t 26), (.t 29)], some (23, true)⟩,
    ⟨some 31, .mv (.t 13), some (23, true)⟩,
    ⟨some 32, .len false (.t 31), some (23, true)⟩,
    ⟨some 33, .mv (.t 10), some (23, true)⟩,
    ⟨some 34, .len false (.t 33), some (23, true)⟩,
    ⟨some 35, .call 134 [(.t 32), (.t 34)], some (23, true)⟩,
    ⟨some 36, .mv (.t 13), some (23, true)⟩,
    ⟨some 37, .mv (.t 10), some (23, true)⟩,
    ⟨some 38, .call 135 [(.t 36), (.t 37)], some (23, true)⟩,
    ⟨some 39, .bsl [(.t 30), (.t 35), (.t 38)] 1, some (23, true)⟩,
    ⟨some 40, .call 133 [(.t 39)], some (23, true)⟩,
    ⟨some 41, .bin .geq (.t 40) (.c (.int .i64 0)), some (23, true)⟩,
    ⟨some 42, .pick (.t 23) (.t 41) (.c (.bool false)), none⟩] [0, 1, 2, 3, 10, 11, 13, 16, 17, 42])
  (.cond (.t 42) (.exit 1) (.skip))))
  (.seq (.reg [⟨some 43, .mv (.t 0), none⟩,
    ⟨some 44, .mv (.t 1), none⟩,
    ⟨some 45, .mv (.t 0), none⟩,
    ⟨some 46, .mv (.t 13), none⟩,
    ⟨some 47, .call 94 [(.t 45), (.t 46)], none⟩,
    ⟨some 48, .mv (.t 2), none⟩,
    ⟨some 49, .call 76 [(.t 43), (.t 44), (.t 47), (.t 48)], none⟩,
    ⟨some 50, .eqn true (.t 49), none⟩] [0, 1, 2, 3, 10, 11, 13, 16, 17, 50])
  (.cond (.t 50) (.reg [⟨some 51, .mv (.t 13), none⟩,
    ⟨some 10, .asg (.t 51), none⟩,
    ⟨some 11, .asg (.c (.bool true)), none⟩] [0, 1, 2, 3, 10, 11, 16, 17]) (.skip))))))))
  (.reg [⟨some 52, .bin .add (.t 17) (.c (.int .i64 1)), none⟩,
    ⟨some 17, .mv (.t 52), none⟩] [0, 1, 2, 3, 10, 11, 16, 17]))))))))
  (.seq (.reg [⟨some 53, .mv (.t 10), none⟩,
    ⟨some 54, .mv (.t 11), none⟩,
    ⟨some 8, .asg (.t 53), none⟩,
    ⟨some 9, .asg (.t 54), none⟩] [8, 9])
  (.ret)))))
theorem con_impl_leastCover_impl_SmallestCover_1 {v0 : (List XVariable)} {v1 : (List XEdit)} {v2 : (List Int)} {v3 : Unit} {r : ((List Int) × Bool)} (h : sh_impl_leastCover_impl_SmallestCover_1 v0 v1 v2 v3 = some r) : Con Try.prog 80 [(cLs (cXVariable cS cI) rfl).enc v0, (cLs (cXEdit (cLs cI rfl)) rfl).enc v1, (cLs cI rfl).enc v2, (cFn 81 (fun (v : Unit) => []) true (fun _ => im0)).enc v3] [] (rs_impl_leastCover_impl_SmallestCover_1 r) := by
  delta sh_impl_leastCover_impl_SmallestCover_1 at h
  refine top (out := none) (f := Try.f80) (m := m80_81) (rs := [.t 8, .t 9]) (by kernel_rfl) rfl (by kernel_rfl) (by kernel_rfl) (by kernel_rfl) (by kernel_rfl) (by kernel_rfl) ?_
  exact
   ini [(0, .d ((cLs (cXVariable cS cI) rfl).enc v0)), (1, .d ((cLs (cXEdit (cLs cI rfl)) rfl).enc v1)), (2, .d ((cLs cI rfl).enc v2)), (3, .d ((cFn 81 (fun (v : Unit) => []) true (fun _ => im0)).enc ()))] rfl <| wpC_seq <| reg_s <| x_asg (sc (cLo cI) ([] : List Int) rfl) <| x_asg (sc cB false rfl) <| seqN [(0, .d ((cLs (cXVariable cS cI) rfl).enc v0)), (1, .d ((cLs (cXEdit (cLs cI rfl)) rfl).enc v1)), (2, .d ((cLs cI rfl).enc v2)), (3, .d ((cFn 81 (fun (v : Unit) => []) true (fun _ => im0)).enc ()))] (by kernel_rfl) <|
    xn <| wpC_seq <| reg_s <| x_asg (sc (cLo cI) ([] : List Int) rfl) <| seqN [(0, .d ((cLs (cXVariable cS cI) rfl).enc v0)), (1, .d ((cLs (cXEdit (cLs cI rfl)) rfl).enc v1)), (2, .d ((cLs cI rfl).enc v2)), (3, .d ((cFn 81 (fun (v : Unit) => []) true (fun _ => im0)).enc ())), (10, .d ((cLo cI).enc ([] : List Int)))] (by kernel_rfl) <|
    xn <| wpC_seq <| reg_s <| x_asg (sc cB false rfl) <| seqN [(0, .d ((cLs (cXVariable cS cI) rfl).enc v0)), (1, .d ((cLs (cXEdit (cLs cI rfl)) rfl).enc v1)), (2, .d ((cLs cI rfl).enc v2)), (3, .d ((cFn 81 (fun (v : Unit) => []) true (fun _ => im0)).enc ())), (10, .d ((cLo cI).enc ([] : List Int))), (11, .d (cB.enc false))] (by kernel_rfl) <|
    xn <| wpC_seq <| wpC_kp <| wpC_seq <| reg_s <| st rfl <| mvd rfl rfl <| stw rfl <| lens rfl fun l382 => ck_k h fun i383 h => ckI_k h fun i384 h => st rfl <| b_shl (k := .i64) (k' := .i64) rfl rfl i383 rfl i384 <| st rfl <| mvc cI (0 : Int) rfl <| seqN [(0, .d ((cLs (cXVariable cS cI) rfl).enc v0)), (1, .d ((cLs (cXEdit (cLs cI rfl)) rfl).enc v1)), (2, .d ((cLs cI rfl).enc v2)), (3, .d ((cFn 81 (fun (v : Unit) => []) true (fun _ => im0)).enc ())), (10, .d ((cLo cI).enc ([] : List Int))), (11, .d (cB.enc false)), (16, .d (cI.enc ((1 : Int) * 2 ^ ((v0.length : Int)).toNat))), (17, .d (cI.enc (0 : Int)))] (by kernel_rfl) <|
    xn <| wpC_blk <| lpF (fun (s385 : ((List Int) × Bool × Int)) => [(0, .d ((cLs (cXVariable cS cI) rfl).enc v0)), (1, .d ((cLs (cXEdit (cLs cI rfl)) rfl).enc v1)), (2, .d ((cLs cI rfl).enc v2)), (3, .d ((cFn 81 (fun (v : Unit) => []) true (fun _ => im0)).enc ())), (10, .d ((cLo cI).enc s385.1)), (11, .d (cB.enc s385.2.1)), (16, .d (cI.enc ((1 : Int) * 2 ^ ((v0.length : Int)).toNat))), (17, .d (cI.enc s385.2.2))]) (([] : List Int), false, (0 : Int)) rfl h
    fun G591 nx589 s385 hn590 h => wpC_seq <| reg_s <| st rfl <| b_lss (k := .i64) rfl rfl <| seqN [(0, .d ((cLs (cXVariable cS cI) rfl).enc v0)), (1, .d ((cLs (cXEdit (cLs cI rfl)) rfl).enc v1)), (2, .d ((cLs cI rfl).enc v2)), (3, .d ((cFn 81 (fun (v : Unit) => []) true (fun _ => im0)).enc ())), (10, .d ((cLo cI).enc s385.1)), (11, .d (cB.enc s385.2.1)), (16, .d (cI.enc ((1 : Int) * 2 ^ ((v0.length : Int)).toNat))), (17, .d (cI.enc s385.2.2)), (18, .d (cB.enc (decide (s385.2.2 < ((1 : Int) * 2 ^ ((v0.length : Int)).toNat)))))] (by kernel_rfl) <|
    xn <| wpC_seq <| wpC_kp <| cnd rfl h (fun b593 h => wpC_skip <| kpN [(0, .d ((cLs (cXVariable cS cI) rfl).enc v0)), (1, .d ((cLs (cXEdit (cLs cI rfl)) rfl).enc v1)), (2, .d ((cLs cI rfl).enc v2)), (3, .d ((cFn 81 (fun (v : Unit) => []) true (fun _ => im0)).enc ())), (10, .d ((cLo cI).enc s385.1)), (11, .d (cB.enc s385.2.1)), (16, .d (cI.enc ((1 : Int) * 2 ^ ((v0.length : Int)).toNat))), (17, .d (cI.enc s385.2.2))] (by kernel_rfl) <| xn <| wpC_seq <| wpC_kp <| wpC_blk <| wpC_seq <| reg_s <| st rfl <| mvd rfl rfl <| x_asg (ss rfl rfl) <| seqN [(0, .d ((cLs (cXVariable cS cI) rfl).enc v0)), (1, .d ((cLs (cXEdit (cLs cI rfl)) rfl).enc v1)), (2, .d ((cLs cI rfl).enc v2)), (3, .d ((cFn 81 (fun (v : Unit) => []) true (fun _ => im0)).enc ())), (10, .d ((cLo cI).enc s385.1)), (11, .d (cB.enc s385.2.1)), (12, .d (cI.enc s385.2.2)), (16, .d (cI.enc ((1 : Int) * 2 ^ ((v0.length : Int)).toNat))), (17, .d (cI.enc s385.2.2))] (by kernel_rfl) <|
    xn <| wpC_seq <| reg_s <| st rfl <| mvd rfl rfl <| bnd h fun x676 e677 h => st rfl <| o_call (a1 (c := cI) tK rfl a0) (con_impl_membersOf e677) (.inl (so1 (sLo sK) so0)) <| x_asg (so rfl rfl) <| seqN [(0, .d ((cLs (cXVariable cS cI) rfl).enc v0)), (1, .d ((cLs (cXEdit (cLs cI rfl)) rfl).enc v1)), (2, .d ((cLs cI rfl).enc v2)), (3, .d ((cFn 81 (fun (v : Unit) => []) true (fun _ => im0)).enc ())), (10, .d ((cLo cI).enc s385.1)), (11, .d (cB.enc s385.2.1)), (13, .d ((cLo cI).enc x676)), (16, .d (cI.enc ((1 : Int) * 2 ^ ((v0.length : Int)).toNat))), (17, .d (cI.enc s385.2.2))] (by kernel_rfl) <|
    xn <| sqj (fun (s709 : Unit) => [(0, .d ((cLs (cXVariable cS cI) rfl).enc v0)), (1, .d ((cLs (cXEdit (cLs cI rfl)) rfl).enc v1)), (2, .d ((cLs cI rfl).enc v2)), (3, .d ((cFn 81 (fun (v : Unit) => []) true (fun _ => im0)).enc ())), (10, .d ((cLo cI).enc s385.1)), (11, .d (cB.enc s385.2.1)), (13, .d ((cLo cI).enc x676)), (16, .d (cI.enc ((1 : Int) * 2 ^ ((v0.length : Int)).toNat))), (17, .d (cI.enc s385.2.2))]) h (fun s709 h => wpC_seq <| reg_s <| st rfl <| mvd rfl rfl <| st rfl <| mvd rfl rfl <| st rfl <| mvd rfl rfl <| st rfl <| mvo rfl rfl <| bnd h fun x717 e718 h => st rfl <| o_call (a1 (c := (cLs (cXVariable cS cI) rfl)) (tLs (tXVariable tS tK)) rfl (a1 (c := (cLo cI)) (tLo tK) rfl a0)) (con_impl_otherVars e718) (.inl (so1 (sLo sK) so0)) <| st rfl <| mvd rfl rfl <| bnd h fun x719 e720 h => st rfl <| o_call (a1 (c := (cLs (cXVariable cS cI) rfl)) (tLs (tXVariable tS tK)) rfl (a1 (c := (cLs (cXEdit (cLs cI rfl)) rfl)) (tLs (tXEdit (tLs tK))) rfl (a1 (c := (cLo cI)) (tLo tK) rfl (a1 (c := (cLs cI rfl)) (tLs tK) rfl a0)))) (con_impl_completionOf e720) (.inl (so1 (sNo sK) so0)) <| ck_k h fun i721 h => st rfl <| eqN true rfl i721 <| seqN [(0, .d ((cLs (cXVariable cS cI) rfl).enc v0)), (1, .d ((cLs (cXEdit (cLs cI rfl)) rfl).enc v1)), (2, .d ((cLs cI rfl).enc v2)), (3, .d ((cFn 81 (fun (v : Unit) => []) true (fun _ => im0)).enc ())), (10, .d ((cLo cI).enc s385.1)), (11, .d (cB.enc s385.2.1)), (13, .d ((cLo cI).enc x676)), (16, .d (cI.enc ((1 : Int) * 2 ^ ((v0.length : Int)).toNat))), (17, .d (cI.enc s385.2.2)), (50, .d (cB.enc (x719.isSome)))] (by kernel_rfl) <|
    xn <| cnd rfl h (fun b722 h => reg_s <| st rfl <| mvo rfl rfl <| x_asg (sr rfl rfl) <| x_asg (sc cB true rfl) <| seqN [(0, .d ((cLs (cXVariable cS cI) rfl).enc v0)), (1, .d ((cLs (cXEdit (cLs cI rfl)) rfl).enc v1)), (2, .d ((cLs cI rfl).enc v2)), (3, .d ((cFn 81 (fun (v : Unit) => []) true (fun _ => im0)).enc ())), (10, .d ((cLo cI).enc x676)), (11, .d (cB.enc true)), (16, .d (cI.enc ((1 : Int) * 2 ^ ((v0.length : Int)).toNat))), (17, .d (cI.enc s385.2.2))] (by kernel_rfl) <|
    xbb <| kpN [(0, .d ((cLs (cXVariable cS cI) rfl).enc v0)), (1, .d ((cLs (cXEdit (cLs cI rfl)) rfl).enc v1)), (2, .d ((cLs cI rfl).enc v2)), (3, .d ((cFn 81 (fun (v : Unit) => []) true (fun _ => im0)).enc ())), (10, .d ((cLo cI).enc x676)), (11, .d (cB.enc true)), (16, .d (cI.enc ((1 : Int) * 2 ^ ((v0.length : Int)).toNat))), (17, .d (cI.enc s385.2.2))] (by kernel_rfl) <| xn <| reg_s <| ckI_k h fun i723 h => st rfl <| b_add (k := .i64) rfl rfl i723 <| st rfl <| mvd rfl rfl <| seqN [(0, .d ((cLs (cXVariable cS cI) rfl).enc v0)), (1, .d ((cLs (cXEdit (cLs cI rfl)) rfl).enc v1)), (2, .d ((cLs cI rfl).enc v2)), (3, .d ((cFn 81 (fun (v : Unit) => []) true (fun _ => im0)).enc ())), (10, .d ((cLo cI).enc x676)), (11, .d (cB.enc true)), (16, .d (cI.enc ((1 : Int) * 2 ^ ((v0.length : Int)).toNat))), (17, .d (cI.enc (s385.2.2 + (1 : Int))))] (by kernel_rfl) <|
    xn <| hn590 (x676, true, (s385.2.2 + (1 : Int))) h)
    (fun b722 h => wpC_skip <| xbb <| kpN [(0, .d ((cLs (cXVariable cS cI) rfl).enc v0)), (1, .d ((cLs (cXEdit (cLs cI rfl)) rfl).enc v1)), (2, .d ((cLs cI rfl).enc v2)), (3, .d ((cFn 81 (fun (v : Unit) => []) true (fun _ => im0)).enc ())), (10, .d ((cLo cI).enc s385.1)), (11, .d (cB.enc s385.2.1)), (16, .d (cI.enc ((1 : Int) * 2 ^ ((v0.length : Int)).toNat))), (17, .d (cI.enc s385.2.2))] (by kernel_rfl) <| xn <| reg_s <| ckI_k h fun i724 h => st rfl <| b_add (k := .i64) rfl rfl i724 <| st rfl <| mvd rfl rfl <| seqN [(0, .d ((cLs (cXVariable cS cI) rfl).enc v0)), (1, .d ((cLs (cXEdit (cLs cI rfl)) rfl).enc v1)), (2, .d ((cLs cI rfl).enc v2)), (3, .d ((cFn 81 (fun (v : Unit) => []) true (fun _ => im0)).enc ())), (10, .d ((cLo cI).enc s385.1)), (11, .d (cB.enc s385.2.1)), (16, .d (cI.enc ((1 : Int) * 2 ^ ((v0.length : Int)).toNat))), (17, .d (cI.enc (s385.2.2 + (1 : Int))))] (by kernel_rfl) <|
    xn <| hn590 (s385.1, s385.2.1, (s385.2.2 + (1 : Int))) h))
    fun m711 h => wpC_kp <| wpC_seq <| reg_s <| st rfl <| mvd rfl rfl <| st rfl <| mvd rfl rfl <| ite_k h (fun b740 h => gt' rfl b740 <| st rfl <| mvd rfl rfl <| gt' rfl b740 <| st rfl <| mvo rfl rfl <| gt' rfl b740 <| bnd h fun x741 e742 h => x_cf (cFn 81 (fun (v : Unit) => []) true (fun _ => im0)) () (fad rfl rfl) k0 (m2 (tLo tK) rfl m0) rfl (con_impl_SmallestCover_1 e742) cl0 (so1 sK so0) <| gt' rfl b740 <| st rfl <| mvd rfl rfl <| gt' rfl b740 <| st rfl <| mvo rfl rfl <| gt' rfl b740 <| bnd h fun x743 e744 h => x_cf (cFn 81 (fun (v : Unit) => []) true (fun _ => im0)) () (fad rfl rfl) k0 (m2 (tLo tK) rfl m0) rfl (con_impl_SmallestCover_1 e744) cl0 (so1 sK so0) <| gt' rfl b740 <| bnd h fun x745 e746 h => st rfl <| o_call (a1 (c := cI) tK rfl (a1 (c := cI) tK rfl a0)) (con_cmp_Compare_int e746) (.inl (so1 sK so0)) <| gt' rfl b740 <| st rfl <| mvo rfl rfl <| gt' rfl b740 <| stw rfl <| leno rfl fun l747 => gt' rfl b740 <| st rfl <| mvo rfl rfl <| gt' rfl b740 <| stw rfl <| leno rfl fun l748 => gt' rfl b740 <| bnd h fun x749 e750 h => st rfl <| o_call (a1 (c := cI) tK rfl (a1 (c := cI) tK rfl a0)) (con_cmp_Compare_int e750) (.inl (so1 sK so0)) <| gt' rfl b740 <| st rfl <| mvo rfl rfl <| gt' rfl b740 <| st rfl <| mvo rfl rfl <| gt' rfl b740 <| bnd h fun x751 e752 h => st rfl <| o_call (a1 (c := (cLo cI)) (tLo tK) rfl (a1 (c := (cLo cI)) (tLo tK) rfl a0)) (con_slices_Compare_int e752) (.inl (so1 sK so0)) <| gt' rfl b740 <| x_bsl cI [x745, x749, x751] (t1 (ss rfl rfl) rfl (t1 (ss rfl rfl) rfl (t1 (ss rfl rfl) rfl t0))) rfl rfl <| gt' rfl b740 <| bnd h fun x753 e754 h => st rfl <| o_call (a1 (c := (cLo cI)) (tLo tK) rfl a0) (con_cmp_Or_int e754) (.inl (so1 sK so0)) <| gt' rfl b740 <| st rfl <| b_geq (k := .i64) rfl rfl <| st rfl <| pick1 rfl b740 (cd := cB) (v := (decide ((0 : Int) ≤ x753))) rfl rfl <| seqN [(0, .d ((cLs (cXVariable cS cI) rfl).enc v0)), (1, .d ((cLs (cXEdit (cLs cI rfl)) rfl).enc v1)), (2, .d ((cLs cI rfl).enc v2)), (3, .d ((cFn 81 (fun (v : Unit) => []) true (fun _ => im0)).enc ())), (10, .d ((cLo cI).enc s385.1)), (11, .d (cB.enc s385.2.1)), (13, .d ((cLo cI).enc x676)), (16, .d (cI.enc ((1 : Int) * 2 ^ ((v0.length : Int)).toNat))), (17, .d (cI.enc s385.2.2)), (42, .d (cB.enc (decide ((0 : Int) ≤ x753))))] (by kernel_rfl) <|
    xn <| cnd rfl h (fun b755 h => wpC_exit <| xt <| xt <| xb <| kpN [(0, .d ((cLs (cXVariable cS cI) rfl).enc v0)), (1, .d ((cLs (cXEdit (cLs cI rfl)) rfl).enc v1)), (2, .d ((cLs cI rfl).enc v2)), (3, .d ((cFn 81 (fun (v : Unit) => []) true (fun _ => im0)).enc ())), (10, .d ((cLo cI).enc s385.1)), (11, .d (cB.enc s385.2.1)), (16, .d (cI.enc ((1 : Int) * 2 ^ ((v0.length : Int)).toNat))), (17, .d (cI.enc s385.2.2))] (by kernel_rfl) <| xn <| reg_s <| ckI_k h fun i756 h => st rfl <| b_add (k := .i64) rfl rfl i756 <| st rfl <| mvd rfl rfl <| seqN [(0, .d ((cLs (cXVariable cS cI) rfl).enc v0)), (1, .d ((cLs (cXEdit (cLs cI rfl)) rfl).enc v1)), (2, .d ((cLs cI rfl).enc v2)), (3, .d ((cFn 81 (fun (v : Unit) => []) true (fun _ => im0)).enc ())), (10, .d ((cLo cI).enc s385.1)), (11, .d (cB.enc s385.2.1)), (16, .d (cI.enc ((1 : Int) * 2 ^ ((v0.length : Int)).toNat))), (17, .d (cI.enc (s385.2.2 + (1 : Int))))] (by kernel_rfl) <|
    xn <| hn590 (s385.1, s385.2.1, (s385.2.2 + (1 : Int))) h)
    (fun b755 h => wpC_skip <| kpN [(0, .d ((cLs (cXVariable cS cI) rfl).enc v0)), (1, .d ((cLs (cXEdit (cLs cI rfl)) rfl).enc v1)), (2, .d ((cLs cI rfl).enc v2)), (3, .d ((cFn 81 (fun (v : Unit) => []) true (fun _ => im0)).enc ())), (10, .d ((cLo cI).enc s385.1)), (11, .d (cB.enc s385.2.1)), (13, .d ((cLo cI).enc x676)), (16, .d (cI.enc ((1 : Int) * 2 ^ ((v0.length : Int)).toNat))), (17, .d (cI.enc s385.2.2))] (by kernel_rfl) <| m711 () h))
    (fun b740 h => gf rfl b740 <| gf rfl b740 <| gf rfl b740 <| gf rfl b740 <| gf rfl b740 <| gf rfl b740 <| gf rfl b740 <| gf rfl b740 <| gf rfl b740 <| gf rfl b740 <| gf rfl b740 <| gf rfl b740 <| gf rfl b740 <| gf rfl b740 <| gf rfl b740 <| gf rfl b740 <| gf rfl b740 <| gf rfl b740 <| st rfl <| pick0 rfl b740 (cd := cB) (v := false) rfl rfl <| seqN [(0, .d ((cLs (cXVariable cS cI) rfl).enc v0)), (1, .d ((cLs (cXEdit (cLs cI rfl)) rfl).enc v1)), (2, .d ((cLs cI rfl).enc v2)), (3, .d ((cFn 81 (fun (v : Unit) => []) true (fun _ => im0)).enc ())), (10, .d ((cLo cI).enc s385.1)), (11, .d (cB.enc s385.2.1)), (13, .d ((cLo cI).enc x676)), (16, .d (cI.enc ((1 : Int) * 2 ^ ((v0.length : Int)).toNat))), (17, .d (cI.enc s385.2.2)), (42, .d (cB.enc false))] (by kernel_rfl) <|
    xn <| cnd0 rfl rfl <| wpC_skip <| kpN [(0, .d ((cLs (cXVariable cS cI) rfl).enc v0)), (1, .d ((cLs (cXEdit (cLs cI rfl)) rfl).enc v1)), (2, .d ((cLs cI rfl).enc v2)), (3, .d ((cFn 81 (fun (v : Unit) => []) true (fun _ => im0)).enc ())), (10, .d ((cLo cI).enc s385.1)), (11, .d (cB.enc s385.2.1)), (13, .d ((cLo cI).enc x676)), (16, .d (cI.enc ((1 : Int) * 2 ^ ((v0.length : Int)).toNat))), (17, .d (cI.enc s385.2.2))] (by kernel_rfl) <| m711 () h))
    (fun b593 h => wpC_exit <| xt <| xt <| xt <| xb <| kpN [(10, .d ((cLo cI).enc s385.1)), (11, .d (cB.enc s385.2.1))] (by kernel_rfl) <| xn <| wpC_seq <| reg_s <| st rfl <| mvo rfl rfl <| st rfl <| mvd rfl rfl <| x_asg (sr rfl rfl) <| x_asg (ss rfl rfl) <| seqN [(8, .d ((cLo cI).enc s385.1)), (9, .d (cB.enc s385.2.1))] (by kernel_rfl) <|
    xn <| wpC_ret <| re <| fin h (r1 (so rfl rfl) <| r1 (ss rfl rfl) <| r0) rfl)

def rs_impl_SmallestCover (r : ((List Int) × Bool)) : List D := [(cLo cI).enc r.1, cB.enc r.2]
def m32 : MC := .seq (.reg [⟨some 6, .asg (.c (.slice true [])), none⟩,
    ⟨some 7, .asg (.c (.bool false)), none⟩] [0, 1, 2])
  (.seq (.kp [0, 1, 2] (.seq (.reg [⟨some 8, .mv (.t 0), none⟩,
    ⟨some 9, .call 73 [(.t 8)], none⟩,
    ⟨some 10, .nt (.t 9), none⟩,
    ⟨some 11, .mv (.t 10), none⟩,
    ⟨some 12, .mv (.t 0), some (11, false)⟩,
    ⟨some 13, .mv (.t 1), some (11, false)⟩,
    ⟨some 14, .call 64 [(.t 12), (.t 13)], some (11, false)⟩,
    ⟨some 15, .nt (.t 14), some (11, false)⟩,
    ⟨some 16, .pick (.t 11) (.c (.bool true)) (.t 15), none⟩,
    ⟨some 17, .mv (.t 16), none⟩,
    ⟨some 18, .mv (.t 0), some (17, false)⟩,
    ⟨some 19, .mv (.t 2), some (17, false)⟩,
    ⟨some 20, .call 75 [(.t 18), (.t 19)], some (17, false)⟩,
    ⟨some 21, .nt (.t 20), some (17, false)⟩,
    ⟨some 22, .pick (.t 17) (.c (.bool true)) (.t 21), none⟩] [0, 1, 2, 22])
  (.cond (.t 22) (.seq (.reg [⟨some 6, .asg (.c (.slice true [])), none⟩,
    ⟨some 7, .asg (.c (.bool false)), none⟩] [6, 7])
  (.ret)) (.skip))))
  (.seq (.reg [⟨some 23, .mv (.t 0), none⟩,
    ⟨some 24, .mv (.t 1), none⟩,
    ⟨some 25, .mv (.t 2), none⟩,
    ⟨some 26, .call 80 [(.t 23), (.t 24), (.t 25), (.c (.fn 81 []))], none⟩,
    ⟨some 27, .ext 26 0, none⟩,
    ⟨some 28, .ext 26 1, none⟩,
    ⟨some 6, .asg (.t 27), none⟩,
    ⟨some 7, .asg (.t 28), none⟩] [6, 7])
  (.ret)))
theorem con_impl_SmallestCover {v0 : (List XVariable)} {v1 : (List XEdit)} {v2 : (List Int)} {r : ((List Int) × Bool)} (h : sh_impl_SmallestCover v0 v1 v2 = some r) : Con Try.prog 32 [(cLs (cXVariable cS cI) rfl).enc v0, (cLs (cXEdit (cLs cI rfl)) rfl).enc v1, (cLs cI rfl).enc v2] [] (rs_impl_SmallestCover r) := by
  delta sh_impl_SmallestCover at h
  refine top (out := none) (f := Try.f32) (m := m32) (rs := [.t 6, .t 7]) (by kernel_rfl) rfl (by kernel_rfl) (by kernel_rfl) (by kernel_rfl) (by kernel_rfl) (by kernel_rfl) ?_
  exact
   ini [(0, .d ((cLs (cXVariable cS cI) rfl).enc v0)), (1, .d ((cLs (cXEdit (cLs cI rfl)) rfl).enc v1)), (2, .d ((cLs cI rfl).enc v2))] rfl <| wpC_seq <| reg_s <| x_asg (sc (cLo cI) ([] : List Int) rfl) <| x_asg (sc cB false rfl) <| seqN [(0, .d ((cLs (cXVariable cS cI) rfl).enc v0)), (1, .d ((cLs (cXEdit (cLs cI rfl)) rfl).enc v1)), (2, .d ((cLs cI rfl).enc v2))] (by kernel_rfl) <|
    xn <| wpC_seq <| wpC_kp <| wpC_seq <| reg_s <| st rfl <| mvd rfl rfl <| bnd h fun x26 e27 h => st rfl <| o_call (a1 (c := (cLs (cXVariable cS cI) rfl)) (tLs (tXVariable tS tK)) rfl a0) (con_impl_isSmall e27) (.inl (so1 sB so0)) <| st rfl <| o_nt rfl <| st rfl <| mvd rfl rfl <| ite_k h (fun b28 h => gf rfl b28 <| gf rfl b28 <| gf rfl b28 <| gf rfl b28 <| st rfl <| pick1 rfl b28 (cd := cB) (v := true) rfl rfl <| st rfl <| mvd rfl rfl <| gf rfl rfl <| gf rfl rfl <| gf rfl rfl <| gf rfl rfl <| st rfl <| pick1 rfl rfl (cd := cB) (v := true) rfl rfl <| seqN [(0, .d ((cLs (cXVariable cS cI) rfl).enc v0)), (1, .d ((cLs (cXEdit (cLs cI rfl)) rfl).enc v1)), (2, .d ((cLs cI rfl).enc v2)), (22, .d (cB.enc true))] (by kernel_rfl) <|
    xn <| cnd1 rfl rfl <| wpC_seq <| reg_s <| x_asg (sc (cLo cI) ([] : List Int) rfl) <| x_asg (sc cB false rfl) <| seqN [(6, .d ((cLo cI).enc ([] : List Int))), (7, .d (cB.enc false))] (by kernel_rfl) <|
    xn <| wpC_ret <| rt <| rt <| re <| fin h (r1 (so rfl rfl) <| r1 (ss rfl rfl) <| r0) rfl)
    (fun b28 h => gt' rfl b28 <| st rfl <| mvd rfl rfl <| gt' rfl b28 <| st rfl <| mvd rfl rfl <| gt' rfl b28 <| bnd h fun x29 e30 h => st rfl <| o_call (a1 (c := (cLs (cXVariable cS cI) rfl)) (tLs (tXVariable tS tK)) rfl (a1 (c := (cLs (cXEdit (cLs cI rfl)) rfl)) (tLs (tXEdit (tLs tK))) rfl a0)) (con_impl_areEdits e30) (.inl (so1 sB so0)) <| gt' rfl b28 <| st rfl <| o_nt rfl <| st rfl <| pick0 rfl b28 (cd := cB) (v := (!x29)) rfl rfl <| st rfl <| mvd rfl rfl <| ite_k h (fun b31 h => gf rfl b31 <| gf rfl b31 <| gf rfl b31 <| gf rfl b31 <| st rfl <| pick1 rfl b31 (cd := cB) (v := true) rfl rfl <| seqN [(0, .d ((cLs (cXVariable cS cI) rfl).enc v0)), (1, .d ((cLs (cXEdit (cLs cI rfl)) rfl).enc v1)), (2, .d ((cLs cI rfl).enc v2)), (22, .d (cB.enc true))] (by kernel_rfl) <|
    xn <| cnd1 rfl rfl <| wpC_seq <| reg_s <| x_asg (sc (cLo cI) ([] : List Int) rfl) <| x_asg (sc cB false rfl) <| seqN [(6, .d ((cLo cI).enc ([] : List Int))), (7, .d (cB.enc false))] (by kernel_rfl) <|
    xn <| wpC_ret <| rt <| rt <| re <| fin h (r1 (so rfl rfl) <| r1 (ss rfl rfl) <| r0) rfl)
    (fun b31 h => gt' rfl b31 <| st rfl <| mvd rfl rfl <| gt' rfl b31 <| st rfl <| mvd rfl rfl <| gt' rfl b31 <| bnd h fun x32 e33 h => st rfl <| o_call (a1 (c := (cLs (cXVariable cS cI) rfl)) (tLs (tXVariable tS tK)) rfl (a1 (c := (cLs cI rfl)) (tLs tK) rfl a0)) (con_impl_areValues e33) (.inl (so1 sB so0)) <| gt' rfl b31 <| st rfl <| o_nt rfl <| st rfl <| pick0 rfl b31 (cd := cB) (v := (!x32)) rfl rfl <| seqN [(0, .d ((cLs (cXVariable cS cI) rfl).enc v0)), (1, .d ((cLs (cXEdit (cLs cI rfl)) rfl).enc v1)), (2, .d ((cLs cI rfl).enc v2)), (22, .d (cB.enc (!x32)))] (by kernel_rfl) <|
    xn <| cnd rfl h (fun b34 h => wpC_seq <| reg_s <| x_asg (sc (cLo cI) ([] : List Int) rfl) <| x_asg (sc cB false rfl) <| seqN [(6, .d ((cLo cI).enc ([] : List Int))), (7, .d (cB.enc false))] (by kernel_rfl) <|
    xn <| wpC_ret <| rt <| rt <| re <| fin h (r1 (so rfl rfl) <| r1 (ss rfl rfl) <| r0) rfl)
    (fun b34 h => wpC_skip <| kpN [(0, .d ((cLs (cXVariable cS cI) rfl).enc v0)), (1, .d ((cLs (cXEdit (cLs cI rfl)) rfl).enc v1)), (2, .d ((cLs cI rfl).enc v2))] (by kernel_rfl) <| xn <| wpC_seq <| reg_s <| st rfl <| mvd rfl rfl <| st rfl <| mvd rfl rfl <| st rfl <| mvd rfl rfl <| bnd h fun x37 e38 h => st rfl <| o_call (a1 (c := (cLs (cXVariable cS cI) rfl)) (tLs (tXVariable tS tK)) rfl (a1 (c := (cLs (cXEdit (cLs cI rfl)) rfl)) (tLs (tXEdit (tLs tK))) rfl (a1 (c := (cLs cI rfl)) (tLs tK) rfl (a1 (c := (cFn 81 (fun (v : Unit) => []) true (fun _ => im0))) (tFn (fun _ => ti0)) rfl a0)))) (con_impl_leastCover_impl_SmallestCover_1 e38) (.inl (so1 (sLo sK) (so1 sB so0))) <| x_ext rfl rfl <| x_ext rfl rfl <| x_asg (so rfl rfl) <| x_asg (ss rfl rfl) <| seqN [(6, .d ((cLo cI).enc x37.1)), (7, .d (cB.enc x37.2))] (by kernel_rfl) <|
    xn <| wpC_ret <| re <| fin h (r1 (so rfl rfl) <| r1 (ss rfl rfl) <| r0) rfl)))

end AS.W
