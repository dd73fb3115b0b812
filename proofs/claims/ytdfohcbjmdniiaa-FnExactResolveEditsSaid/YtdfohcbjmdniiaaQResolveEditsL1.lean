/- The program computes the plain functions. No condition. -/
import Derived.Test.YtdfohcbjmdniiaaQResolveEditsS
import Derived.Test.YtdfohcbjmdniiaaProg
import Derived.Test.YtdfohcbjmdniiaaQResolveEditsL0
set_option maxRecDepth 100000
set_option linter.unusedVariables false
set_option linter.unusedSimpArgs false
namespace AS.W
open Go Go.Proofs
def rs_impl_ResolveEdits (r : (XEdit × Bool)) : List D := [(cXEdit (cLo cI)).enc r.1, cB.enc r.2]
def m19 : MC := .seq (.reg [⟨some 5, .box (.t 1), none⟩,
    ⟨some 6, .box (.t 2), none⟩,
    ⟨some 8, .alloc (.agg [.slice true []]), none⟩,
    ⟨some 9, .asg (.c (.bool false)), none⟩] [0, 3, 5, 6, 8])
  (.seq (.kp [3, 5, 6, 8] (.seq (.reg [⟨some 13, .mv (.t 0), none⟩,
    ⟨some 14, .call 64 [(.t 13)], none⟩,
    ⟨some 15, .nt (.t 14), none⟩,
    ⟨some 16, .mv (.t 15), none⟩,
    ⟨some 17, .mv (.t 0), some (16, false)⟩,
    ⟨some 18, .ld 5 1 true, some (16, false)⟩,
    ⟨some 19, .call 65 [(.t 17), (.t 18)], some (16, false)⟩,
    ⟨some 20, .nt (.t 19), some (16, false)⟩,
    ⟨some 21, .pick (.t 16) (.c (.bool true)) (.t 20), none⟩,
    ⟨some 22, .mv (.t 21), none⟩,
    ⟨some 23, .mv (.t 0), some (22, false)⟩,
    ⟨some 24, .ld 6 1 true, some (22, false)⟩,
    ⟨some 25, .call 65 [(.t 23), (.t 24)], some (22, false)⟩,
    ⟨some 26, .nt (.t 25), some (22, false)⟩,
    ⟨some 27, .pick (.t 22) (.c (.bool true)) (.t 26), none⟩,
    ⟨some 28, .mv (.t 27), none⟩,
    ⟨some 29, .mv (.t 3), some (28, false)⟩,
    ⟨some 30, .bin .lss (.t 29) (.c (.int .i64 0)), some (28, false)⟩,
    ⟨some 31, .pick (.t 28) (.c (.bool true)) (.t 30), none⟩,
    ⟨some 32, .mv (.t 31), none⟩,
    ⟨some 33, .mv (.t 3), some (32, false)⟩,
    ⟨some 34, .mv (.t 0), some (32, false)⟩,
    ⟨some 35, .len false (.t 34), some (32, false)⟩,
    ⟨some 36, .bin .geq (.t 33) (.t 35), some (32, false)⟩,
    ⟨some 37, .pick (.t 32) (.c (.bool true)) (.t 36), none⟩] [3, 5, 6, 8, 37])
  (.cond (.t 37) (.seq (.reg [⟨some 38, .bld [.slice true []] [], none⟩,
    ⟨none, .st 8 (.t 38) 1, none⟩,
    ⟨some 9, .asg (.c (.bool false)), none⟩] [8, 9])
  (.ret)) (.skip))))
  (.seq (.reg [⟨some 39, .fa 5 0 0, none⟩,
    ⟨some 40, .ld 39 1 false, none⟩,
    ⟨some 41, .call 66 [(.t 40)], none⟩,
    ⟨some 10, .asg (.t 41), none⟩] [3, 6, 8, 10])
  (.seq (.kp [8, 10] (.seq (.reg [⟨some 42, .fa 6 0 0, none⟩,
    ⟨some 43, .ld 42 1 false, none⟩,
    ⟨some 44, .len false (.t 43), none⟩,
    ⟨some 45, .mv (.c (.int .i64 0)), none⟩] [3, 6, 8, 10, 42, 43, 44, 45])
  (.blk 0 (.loop (.seq (.reg [⟨some 46, .bin .lss (.t 45) (.t 44), none⟩] [3, 6, 8, 10, 42, 43, 44, 45, 46])
  (.seq (.kp [3, 6, 8, 10, 42, 43, 44, 45] (.cond (.t 46) (.skip) (.exit 0)))
  (.seq (.kp [3, 6, 8, 10, 42, 43, 44, 45] (.blk 1 (.seq (.reg [⟨some 47, .mv (.t 45), none⟩,
    ⟨some 48, .ia 43 (.t 45) 1, none⟩,
    ⟨some 49, .ld 48 1 false, none⟩,
    ⟨some 11, .asg (.t 47), none⟩,
    ⟨some 12, .asg (.t 49), none⟩] [3, 6, 8, 10, 11, 12, 42, 43, 44, 45])
  (.seq (.kp [3, 6, 8, 10, 11, 42, 43, 44, 45] (.seq (.reg [⟨some 50, .mv (.t 11), none⟩,
    ⟨some 51, .mv (.t 3), none⟩,
    ⟨some 52, .bin .eql (.t 50) (.t 51), none⟩] [3, 6, 8, 10, 11, 12, 42, 43, 44, 45, 52])
  (.cond (.t 52) (.reg [⟨some 53, .mv (.t 10), none⟩,
    ⟨some 54, .mv (.t 11), none⟩,
    ⟨some 55, .ia 53 (.t 54) 1, none⟩,
    ⟨some 56, .ld 55 1 false, none⟩,
    ⟨some 57, .mv (.t 12), none⟩,
    ⟨some 58, .bin .or (.t 56) (.t 57), none⟩,
    ⟨some 59, .ia 53 (.t 54) 1, none⟩,
    ⟨none, .st 59 (.t 58) 1, none⟩] [3, 6, 8, 10, 11, 42, 43, 44, 45]) (.reg [⟨some 60, .mv (.t 10), none⟩,
    ⟨some 61, .mv (.t 11), none⟩,
    ⟨some 62, .ia 60 (.t 61) 1, none⟩,
    ⟨some 63, .ld 62 1 false, none⟩,
    ⟨some 64, .mv (.t 12), none⟩,
    ⟨some 65, .bin .and (.t 63) (.t 64), none⟩,
    ⟨some 66, .ia 60 (.t 61) 1, none⟩,
    ⟨none, .st 66 (.t 65) 1, none⟩] [3, 6, 8, 10, 11, 42, 43, 44, 45]))))
  (.seq (.reg [⟨some 67, .mv (.t 10), none⟩,
    ⟨some 68, .mv (.t 11), none⟩,
    ⟨some 69, .ia 67 (.t 68) 1, none⟩,
    ⟨some 70, .ld 69 1 false, none⟩,
    ⟨some 71, .bin .eql (.t 70) (.c (.int .i64 0)), none⟩] [3, 6, 8, 10, 42, 43, 44, 45, 71])
  (.cond (.t 71) (.seq (.reg [⟨some 72, .bld [.slice true []] [], none⟩,
    ⟨none, .st 8 (.t 72) 1, none⟩,
    ⟨some 9, .asg (.c (.bool false)), none⟩] [8, 9])
  (.ret)) (.skip)))))))
  (.reg [⟨some 73, .bin .add (.t 45) (.c (.int .i64 1)), none⟩,
    ⟨some 45, .mv (.t 73), none⟩] [3, 6, 8, 10, 42, 43, 44, 45]))))))))
  (.seq (.reg [⟨some 74, .mv (.t 10), none⟩,
    ⟨some 75, .bld [.slice true []] [(0, (.t 74))], none⟩,
    ⟨none, .st 8 (.t 75) 1, none⟩,
    ⟨some 9, .asg (.c (.bool true)), none⟩] [8, 9])
  (.ret)))))
theorem con_impl_ResolveEdits {v0 : (List XVariable)} {v1 : XEdit} {v2 : XEdit} {v3 : Int} {r : (XEdit × Bool)} (h : sh_impl_ResolveEdits v0 v1 v2 v3 = some r) : Con Try.prog 19 [(cLs (cXVariable cS cI) rfl).enc v0, (cXEdit (cLs cI rfl)).enc v1, (cXEdit (cLs cI rfl)).enc v2, cI.enc v3] [] (rs_impl_ResolveEdits r) := by
  delta sh_impl_ResolveEdits at h
  refine top (out := none) (f := Try.f19) (m := m19) (rs := [.c 8 1 true, .t 9]) (by kernel_rfl) rfl (by kernel_rfl) (by kernel_rfl) (by kernel_rfl) (by kernel_rfl) (by kernel_rfl) ?_
  exact
   ini [(0, .d ((cLs (cXVariable cS cI) rfl).enc v0)), (1, .d ((cXEdit (cLs cI rfl)).enc v1)), (2, .d ((cXEdit (cLs cI rfl)).enc v2)), (3, .d (cI.enc v3))] rfl <| wpC_seq <| reg_s <| x_box (ss rfl rfl) <| x_box (ss rfl rfl) <| x_all (cXEdit (cLo cI)) (⟨([] : List Int)⟩ : XEdit) rfl <| x_asg (sc cB false rfl) <| seqN [(0, .d ((cLs (cXVariable cS cI) rfl).enc v0)), (3, .d (cI.enc v3)), (5, .box ((cXEdit (cLs cI rfl)).enc v1)), (6, .box ((cXEdit (cLs cI rfl)).enc v2)), (8, .box ((cXEdit (cLo cI)).enc (⟨([] : List Int)⟩ : XEdit)))] (by kernel_rfl) <|
    xn <| wpC_seq <| wpC_kp <| wpC_seq <| jw (fun (s37 : Bool) => [(3, .d (cI.enc v3)), (5, .box ((cXEdit (cLs cI rfl)).enc v1)), (6, .box ((cXEdit (cLs cI rfl)).enc v2)), (8, .box ((cXEdit (cLo cI)).enc (⟨([] : List Int)⟩ : XEdit))), (37, .d (cB.enc s37))]) h (fun s37 h => xn <| cnd rfl h (fun b39 h => wpC_seq <| reg_s <| x_bld ((cXEdit (cLo cI)).enc (⟨([] : List Int)⟩ : XEdit)) t0 rfl rfl <| x_stb (so rfl rfl) rfl (Cd.h_sz _ _) rfl <| x_asg (sc cB false rfl) <| seqN [(8, .box ((cXEdit (cLo cI)).enc (⟨([] : List Int)⟩ : XEdit))), (9, .d (cB.enc false))] (by kernel_rfl) <|
    xn <| wpC_ret <| rt <| rt <| re <| fin h (r2 rfl rfl rfl <| r1 (ss rfl rfl) <| r0) rfl)
    (fun b39 h => wpC_skip <| kpN [(3, .d (cI.enc v3)), (5, .box ((cXEdit (cLs cI rfl)).enc v1)), (6, .box ((cXEdit (cLs cI rfl)).enc v2)), (8, .box ((cXEdit (cLo cI)).enc (⟨([] : List Int)⟩ : XEdit)))] (by kernel_rfl) <| xn <| wpC_seq <| reg_s <| st rfl <| fab rfl rfl rfl rfl <| st rfl <| lda rfl rfl rfl rfl rfl rfl <| bnd h fun x42 e43 h => st rfl <| o_call (a1 (c := (cLs cI rfl)) (tLs tK) rfl a0) (con_slices_Clone_int e43) (.inl (so1 (sLo sK) so0)) <| x_asg (so rfl rfl) <| seqN [(3, .d (cI.enc v3)), (6, .box ((cXEdit (cLs cI rfl)).enc v2)), (8, .box ((cXEdit (cLo cI)).enc (⟨([] : List Int)⟩ : XEdit))), (10, .d ((cLo cI).enc x42))] (by kernel_rfl) <|
    xn <| wpC_seq <| wpC_kp <| wpC_seq <| reg_s <| st rfl <| fab rfl rfl rfl rfl <| st rfl <| lda rfl rfl rfl rfl rfl rfl <| stw rfl <| lens rfl fun l289 => st rfl <| mvc cI (0 : Int) rfl <| seqN [(3, .d (cI.enc v3)), (6, .box ((cXEdit (cLs cI rfl)).enc v2)), (8, .box ((cXEdit (cLo cI)).enc (⟨([] : List Int)⟩ : XEdit))), (10, .d ((cLo cI).enc x42)), (42, .adr 6 [.fld 0]), (43, .d ((cLs cI rfl).enc v2.Sets)), (44, .d (cI.enc (v2.Sets.length : Int))), (45, .d (cI.enc (0 : Int)))] (by kernel_rfl) <|
    xn <| wpC_blk <| lpR (fun (k291 : Nat) (s290 : (List Int)) => [(3, .d (cI.enc v3)), (6, .box ((cXEdit (cLs cI rfl)).enc v2)), (8, .box ((cXEdit (cLo cI)).enc (⟨([] : List Int)⟩ : XEdit))), (10, .d ((cLo cI).enc s290)), (42, .adr 6 [.fld 0]), (43, .d ((cLs cI rfl).enc v2.Sets)), (44, .d (cI.enc (v2.Sets.length : Int))), (45, .d (cI.enc (k291 : Int)))]) x42 rfl h
    (fun G453 s290 h => wpC_seq <| reg_s <| st rfl <| b_lss (k := .i64) rfl rfl <| seqN [(3, .d (cI.enc v3)), (6, .box ((cXEdit (cLs cI rfl)).enc v2)), (8, .box ((cXEdit (cLo cI)).enc (⟨([] : List Int)⟩ : XEdit))), (10, .d ((cLo cI).enc s290)), (42, .adr 6 [.fld 0]), (43, .d ((cLs cI rfl).enc v2.Sets)), (44, .d (cI.enc (v2.Sets.length : Int))), (45, .d (cI.enc (v2.Sets.length : Int))), (46, .d (cB.enc (decide ((v2.Sets.length : Int) < (v2.Sets.length : Int)))))] (by kernel_rfl) <|
    xn <| wpC_seq <| wpC_kp <| cnd0 rfl (dlf _) <| wpC_exit <| xt <| xt <| xt <| xb <| kpN [(8, .box ((cXEdit (cLo cI)).enc (⟨([] : List Int)⟩ : XEdit))), (10, .d ((cLo cI).enc s290))] (by kernel_rfl) <| xn <| wpC_seq <| reg_s <| st rfl <| mvo rfl rfl <| x_bld ((cXEdit (cLo cI)).enc (⟨s290⟩ : XEdit)) (t1 (sr rfl rfl) rfl t0) rfl rfl <| x_stb (so rfl rfl) rfl (Cd.h_sz _ _) rfl <| x_asg (sc cB true rfl) <| seqN [(8, .box ((cXEdit (cLo cI)).enc (⟨s290⟩ : XEdit))), (9, .d (cB.enc true))] (by kernel_rfl) <|
    xn <| wpC_ret <| re <| fin h (r2 rfl rfl rfl <| r1 (ss rfl rfl) <| r0) rfl)
    (fun G453 nx451 k291 s290 x292 hk293 hx294 hn452 h => wpC_seq <| reg_s <| st rfl <| b_lss (k := .i64) rfl rfl <| seqN [(3, .d (cI.enc v3)), (6, .box ((cXEdit (cLs cI rfl)).enc v2)), (8, .box ((cXEdit (cLo cI)).enc (⟨([] : List Int)⟩ : XEdit))), (10, .d ((cLo cI).enc s290)), (42, .adr 6 [.fld 0]), (43, .d ((cLs cI rfl).enc v2.Sets)), (44, .d (cI.enc (v2.Sets.length : Int))), (45, .d (cI.enc (k291 : Int))), (46, .d (cB.enc (decide ((k291 : Int) < (v2.Sets.length : Int)))))] (by kernel_rfl) <|
    xn <| wpC_seq <| wpC_kp <| cnd1 rfl (dlt hk293) <| wpC_skip <| kpN [(3, .d (cI.enc v3)), (6, .box ((cXEdit (cLs cI rfl)).enc v2)), (8, .box ((cXEdit (cLo cI)).enc (⟨([] : List Int)⟩ : XEdit))), (10, .d ((cLo cI).enc s290)), (42, .adr 6 [.fld 0]), (43, .d ((cLs cI rfl).enc v2.Sets)), (44, .d (cI.enc (v2.Sets.length : Int))), (45, .d (cI.enc (k291 : Int)))] (by kernel_rfl) <| xn <| wpC_seq <| wpC_kp <| wpC_blk <| wpC_seq <| reg_s <| st rfl <| mvd rfl rfl <| st rfl <| ias rfl rfl (Int.natCast_nonneg _) hx294 rfl <| st rfl <| ldi rfl rfl rfl rfl <| x_asg (ss rfl rfl) <| x_asg (ss rfl rfl) <| seqN [(3, .d (cI.enc v3)), (6, .box ((cXEdit (cLs cI rfl)).enc v2)), (8, .box ((cXEdit (cLo cI)).enc (⟨([] : List Int)⟩ : XEdit))), (10, .d ((cLo cI).enc s290)), (11, .d (cI.enc (k291 : Int))), (12, .d (cI.enc x292)), (42, .adr 6 [.fld 0]), (43, .d ((cLs cI rfl).enc v2.Sets)), (44, .d (cI.enc (v2.Sets.length : Int))), (45, .d (cI.enc (k291 : Int)))] (by kernel_rfl) <|
    xn <| wpC_seq <| jw (fun (s508 : (List Int)) => [(3, .d (cI.enc v3)), (6, .box ((cXEdit (cLs cI rfl)).enc v2)), (8, .box ((cXEdit (cLo cI)).enc (⟨([] : List Int)⟩ : XEdit))), (10, .d ((cLo cI).enc s508)), (11, .d (cI.enc (k291 : Int))), (42, .adr 6 [.fld 0]), (43, .d ((cLs cI rfl).enc v2.Sets)), (44, .d (cI.enc (v2.Sets.length : Int))), (45, .d (cI.enc (k291 : Int)))]) h (fun s508 h => xn <| wpC_seq <| reg_s <| st rfl <| mvo rfl rfl <| st rfl <| mvd rfl rfl <| getO_k h fun x513 i514 g515 h => st rfl <| iar rfl rfl rfl rfl i514 g515 rfl <| st rfl <| lda rfl rfl (Gt.idx g515 Gt.nil) rfl rfl rfl <| st rfl <| b_eql (k := .i64) rfl rfl <| seqN [(3, .d (cI.enc v3)), (6, .box ((cXEdit (cLs cI rfl)).enc v2)), (8, .box ((cXEdit (cLo cI)).enc (⟨([] : List Int)⟩ : XEdit))), (10, .d ((cLo cI).enc s508)), (42, .adr 6 [.fld 0]), (43, .d ((cLs cI rfl).enc v2.Sets)), (44, .d (cI.enc (v2.Sets.length : Int))), (45, .d (cI.enc (k291 : Int))), (71, .d (cB.enc (decide (x513 = (0 : Int)))))] (by kernel_rfl) <|
    xn <| cnd rfl h (fun b516 h => wpC_seq <| reg_s <| x_bld ((cXEdit (cLo cI)).enc (⟨([] : List Int)⟩ : XEdit)) t0 rfl rfl <| x_stb (so rfl rfl) rfl (Cd.h_sz _ _) rfl <| x_asg (sc cB false rfl) <| seqN [(8, .box ((cXEdit (cLo cI)).enc (⟨([] : List Int)⟩ : XEdit))), (9, .d (cB.enc false))] (by kernel_rfl) <|
    xn <| wpC_ret <| rb <| rt <| rt <| rt <| rb <| rt <| rt <| re <| fin h (r2 rfl rfl rfl <| r1 (ss rfl rfl) <| r0) rfl)
    (fun b516 h => wpC_skip <| xbb <| kpN [(3, .d (cI.enc v3)), (6, .box ((cXEdit (cLs cI rfl)).enc v2)), (8, .box ((cXEdit (cLo cI)).enc (⟨([] : List Int)⟩ : XEdit))), (10, .d ((cLo cI).enc s508)), (42, .adr 6 [.fld 0]), (43, .d ((cLs cI rfl).enc v2.Sets)), (44, .d (cI.enc (v2.Sets.length : Int))), (45, .d (cI.enc (k291 : Int)))] (by kernel_rfl) <| xn <| reg_s <| st rfl <| b_inc rfl rfl l289 hk293 <| st rfl <| mvd rfl rfl <| seqN [(3, .d (cI.enc v3)), (6, .box ((cXEdit (cLs cI rfl)).enc v2)), (8, .box ((cXEdit (cLo cI)).enc (⟨([] : List Int)⟩ : XEdit))), (10, .d ((cLo cI).enc s508)), (42, .adr 6 [.fld 0]), (43, .d ((cLs cI rfl).enc v2.Sets)), (44, .d (cI.enc (v2.Sets.length : Int))), (45, .d (cI.enc ((k291 + 1 : Nat) : Int)))] (by kernel_rfl) <|
    xn <| hn452 s508 h))
    fun s508' q509 h => wpC_kp <| wpC_seq <| reg_s <| st rfl <| mvd rfl rfl <| st rfl <| mvd rfl rfl <| st rfl <| b_eql (k := .i64) rfl rfl <| seqN [(3, .d (cI.enc v3)), (6, .box ((cXEdit (cLs cI rfl)).enc v2)), (8, .box ((cXEdit (cLo cI)).enc (⟨([] : List Int)⟩ : XEdit))), (10, .d ((cLo cI).enc s290)), (11, .d (cI.enc (k291 : Int))), (12, .d (cI.enc x292)), (42, .adr 6 [.fld 0]), (43, .d ((cLs cI rfl).enc v2.Sets)), (44, .d (cI.enc (v2.Sets.length : Int))), (45, .d (cI.enc (k291 : Int))), (52, .d (cB.enc (decide ((k291 : Int) = v3))))] (by kernel_rfl) <|
    xn <| cnd rfl h (fun b517 h => reg_s <| st rfl <| mvo rfl rfl <| st rfl <| mvd rfl rfl <| getO_k h fun x518 i519 g520 h => st rfl <| iar rfl rfl rfl rfl i519 g520 rfl <| st rfl <| lda rfl rfl (Gt.idx g520 Gt.nil) rfl rfl rfl <| st rfl <| mvd rfl rfl <| ck_k h fun i521 h => ckK_k h fun i522 h => ck_k h fun i523 h => ckK_k h fun i524 h => st rfl <| b_or (k := .i64) rfl rfl ⟨i521, i522⟩ ⟨i523, i524⟩ <| st rfl <| iar rfl rfl rfl rfl i519 g520 rfl <| x_sta ((cLo cI).enc (s290.set ((k291 : Int)).toNat ((x518.toNat ||| x292.toNat : Nat) : Int))) (ss rfl rfl) rfl rfl (Ln.idx g520 Ln.nil) (Cd.h_sz cI _) rfl <| seqN [(3, .d (cI.enc v3)), (6, .box ((cXEdit (cLs cI rfl)).enc v2)), (8, .box ((cXEdit (cLo cI)).enc (⟨([] : List Int)⟩ : XEdit))), (10, .d ((cLo cI).enc (s290.set ((k291 : Int)).toNat ((x518.toNat ||| x292.toNat : Nat) : Int)))), (11, .d (cI.enc (k291 : Int))), (42, .adr 6 [.fld 0]), (43, .d ((cLs cI rfl).enc v2.Sets)), (44, .d (cI.enc (v2.Sets.length : Int))), (45, .d (cI.enc (k291 : Int)))] (by kernel_rfl) <|
    kpN [(3, .d (cI.enc v3)), (6, .box ((cXEdit (cLs cI rfl)).enc v2)), (8, .box ((cXEdit (cLo cI)).enc (⟨([] : List Int)⟩ : XEdit))), (10, .d ((cLo cI).enc (s290.set ((k291 : Int)).toNat ((x518.toNat ||| x292.toNat : Nat) : Int)))), (11, .d (cI.enc (k291 : Int))), (42, .adr 6 [.fld 0]), (43, .d ((cLs cI rfl).enc v2.Sets)), (44, .d (cI.enc (v2.Sets.length : Int))), (45, .d (cI.enc (k291 : Int)))] (by kernel_rfl) <| lfn (S := (fun (s508 : (List Int)) => [(3, .d (cI.enc v3)), (6, .box ((cXEdit (cLs cI rfl)).enc v2)), (8, .box ((cXEdit (cLo cI)).enc (⟨([] : List Int)⟩ : XEdit))), (10, .d ((cLo cI).enc s508)), (11, .d (cI.enc (k291 : Int))), (42, .adr 6 [.fld 0]), (43, .d ((cLs cI rfl).enc v2.Sets)), (44, .d (cI.enc (v2.Sets.length : Int))), (45, .d (cI.enc (k291 : Int)))])) h q509 rfl)
    (fun b517 h => reg_s <| st rfl <| mvo rfl rfl <| st rfl <| mvd rfl rfl <| getO_k h fun x525 i526 g527 h => st rfl <| iar rfl rfl rfl rfl i526 g527 rfl <| st rfl <| lda rfl rfl (Gt.idx g527 Gt.nil) rfl rfl rfl <| st rfl <| mvd rfl rfl <| ck_k h fun i528 h => ckK_k h fun i529 h => ck_k h fun i530 h => ckK_k h fun i531 h => st rfl <| b_and (k := .i64) rfl rfl ⟨i528, i529⟩ ⟨i530, i531⟩ <| st rfl <| iar rfl rfl rfl rfl i526 g527 rfl <| x_sta ((cLo cI).enc (s290.set ((k291 : Int)).toNat ((x525.toNat &&& x292.toNat : Nat) : Int))) (ss rfl rfl) rfl rfl (Ln.idx g527 Ln.nil) (Cd.h_sz cI _) rfl <| seqN [(3, .d (cI.enc v3)), (6, .box ((cXEdit (cLs cI rfl)).enc v2)), (8, .box ((cXEdit (cLo cI)).enc (⟨([] : List Int)⟩ : XEdit))), (10, .d ((cLo cI).enc (s290.set ((k291 : Int)).toNat ((x525.toNat &&& x292.toNat : Nat) : Int)))), (11, .d (cI.enc (k291 : Int))), (42, .adr 6 [.fld 0]), (43, .d ((cLs cI rfl).enc v2.Sets)), (44, .d (cI.enc (v2.Sets.length : Int))), (45, .d (cI.enc (k291 : Int)))] (by kernel_rfl) <|
    kpN [(3, .d (cI.enc v3)), (6, .box ((cXEdit (cLs cI rfl)).enc v2)), (8, .box ((cXEdit (cLo cI)).enc (⟨([] : List Int)⟩ : XEdit))), (10, .d ((cLo cI).enc (s290.set ((k291 : Int)).toNat ((x525.toNat &&& x292.toNat : Nat) : Int)))), (11, .d (cI.enc (k291 : Int))), (42, .adr 6 [.fld 0]), (43, .d ((cLs cI rfl).enc v2.Sets)), (44, .d (cI.enc (v2.Sets.length : Int))), (45, .d (cI.enc (k291 : Int)))] (by kernel_rfl) <| lfn (S := (fun (s508 : (List Int)) => [(3, .d (cI.enc v3)), (6, .box ((cXEdit (cLs cI rfl)).enc v2)), (8, .box ((cXEdit (cLo cI)).enc (⟨([] : List Int)⟩ : XEdit))), (10, .d ((cLo cI).enc s508)), (11, .d (cI.enc (k291 : Int))), (42, .adr 6 [.fld 0]), (43, .d ((cLs cI rfl).enc v2.Sets)), (44, .d (cI.enc (v2.Sets.length : Int))), (45, .d (cI.enc (k291 : Int)))])) h q509 rfl))))
    fun s37' q38 h => reg_s <| st rfl <| mvd rfl rfl <| bnd h fun x532 e533 h => st rfl <| o_call (a1 (c := (cLs (cXVariable cS cI) rfl)) (tLs (tXVariable tS tK)) rfl a0) (con_impl_isSmall e533) (.inl (so1 sB so0)) <| st rfl <| o_nt rfl <| st rfl <| mvd rfl rfl <| ite_k h (fun b534 h => gf rfl b534 <| gf rfl b534 <| gf rfl b534 <| gf rfl b534 <| st rfl <| pick1 rfl b534 (cd := cB) (v := true) rfl rfl <| st rfl <| mvd rfl rfl <| gf rfl rfl <| gf rfl rfl <| gf rfl rfl <| gf rfl rfl <| st rfl <| pick1 rfl rfl (cd := cB) (v := true) rfl rfl <| st rfl <| mvd rfl rfl <| gf rfl rfl <| gf rfl rfl <| st rfl <| pick1 rfl rfl (cd := cB) (v := true) rfl rfl <| st rfl <| mvd rfl rfl <| gf rfl rfl <| gf rfl rfl <| gf rfl rfl <| gf rfl rfl <| st rfl <| pick1 rfl rfl (cd := cB) (v := true) rfl rfl <| seqN [(3, .d (cI.enc v3)), (5, .box ((cXEdit (cLs cI rfl)).enc v1)), (6, .box ((cXEdit (cLs cI rfl)).enc v2)), (8, .box ((cXEdit (cLo cI)).enc (⟨([] : List Int)⟩ : XEdit))), (37, .d (cB.enc true))] (by kernel_rfl) <|
    lfn (S := (fun (s37 : Bool) => [(3, .d (cI.enc v3)), (5, .box ((cXEdit (cLs cI rfl)).enc v1)), (6, .box ((cXEdit (cLs cI rfl)).enc v2)), (8, .box ((cXEdit (cLo cI)).enc (⟨([] : List Int)⟩ : XEdit))), (37, .d (cB.enc s37))])) h q38 rfl)
    (fun b534 h => gt' rfl b534 <| st rfl <| mvd rfl rfl <| gt' rfl b534 <| st rfl <| ldb rfl rfl rfl rfl <| gt' rfl b534 <| bnd h fun x535 e536 h => st rfl <| o_call (a1 (c := (cLs (cXVariable cS cI) rfl)) (tLs (tXVariable tS tK)) rfl (a1 (c := (cXEdit (cLs cI rfl))) (tXEdit (tLs tK)) rfl a0)) (con_impl_isEdit e536) (.inl (so1 sB so0)) <| gt' rfl b534 <| st rfl <| o_nt rfl <| st rfl <| pick0 rfl b534 (cd := cB) (v := (!x535)) rfl rfl <| st rfl <| mvd rfl rfl <| ite_k h (fun b537 h => gf rfl b537 <| gf rfl b537 <| gf rfl b537 <| gf rfl b537 <| st rfl <| pick1 rfl b537 (cd := cB) (v := true) rfl rfl <| st rfl <| mvd rfl rfl <| gf rfl rfl <| gf rfl rfl <| st rfl <| pick1 rfl rfl (cd := cB) (v := true) rfl rfl <| st rfl <| mvd rfl rfl <| gf rfl rfl <| gf rfl rfl <| gf rfl rfl <| gf rfl rfl <| st rfl <| pick1 rfl rfl (cd := cB) (v := true) rfl rfl <| seqN [(3, .d (cI.enc v3)), (5, .box ((cXEdit (cLs cI rfl)).enc v1)), (6, .box ((cXEdit (cLs cI rfl)).enc v2)), (8, .box ((cXEdit (cLo cI)).enc (⟨([] : List Int)⟩ : XEdit))), (37, .d (cB.enc true))] (by kernel_rfl) <|
    lfn (S := (fun (s37 : Bool) => [(3, .d (cI.enc v3)), (5, .box ((cXEdit (cLs cI rfl)).enc v1)), (6, .box ((cXEdit (cLs cI rfl)).enc v2)), (8, .box ((cXEdit (cLo cI)).enc (⟨([] : List Int)⟩ : XEdit))), (37, .d (cB.enc s37))])) h q38 rfl)
    (fun b537 h => gt' rfl b537 <| st rfl <| mvd rfl rfl <| gt' rfl b537 <| st rfl <| ldb rfl rfl rfl rfl <| gt' rfl b537 <| bnd h fun x538 e539 h => st rfl <| o_call (a1 (c := (cLs (cXVariable cS cI) rfl)) (tLs (tXVariable tS tK)) rfl (a1 (c := (cXEdit (cLs cI rfl))) (tXEdit (tLs tK)) rfl a0)) (con_impl_isEdit e539) (.inl (so1 sB so0)) <| gt' rfl b537 <| st rfl <| o_nt rfl <| st rfl <| pick0 rfl b537 (cd := cB) (v := (!x538)) rfl rfl <| st rfl <| mvd rfl rfl <| ite_k h (fun b540 h => gf rfl b540 <| gf rfl b540 <| st rfl <| pick1 rfl b540 (cd := cB) (v := true) rfl rfl <| st rfl <| mvd rfl rfl <| gf rfl rfl <| gf rfl rfl <| gf rfl rfl <| gf rfl rfl <| st rfl <| pick1 rfl rfl (cd := cB) (v := true) rfl rfl <| seqN [(3, .d (cI.enc v3)), (5, .box ((cXEdit (cLs cI rfl)).enc v1)), (6, .box ((cXEdit (cLs cI rfl)).enc v2)), (8, .box ((cXEdit (cLo cI)).enc (⟨([] : List Int)⟩ : XEdit))), (37, .d (cB.enc true))] (by kernel_rfl) <|
    lfn (S := (fun (s37 : Bool) => [(3, .d (cI.enc v3)), (5, .box ((cXEdit (cLs cI rfl)).enc v1)), (6, .box ((cXEdit (cLs cI rfl)).enc v2)), (8, .box ((cXEdit (cLo cI)).enc (⟨([] : List Int)⟩ : XEdit))), (37, .d (cB.enc s37))])) h q38 rfl)
    (fun b540 h => gt' rfl b540 <| st rfl <| mvd rfl rfl <| gt' rfl b540 <| st rfl <| b_lss (k := .i64) rfl rfl <| st rfl <| pick0 rfl b540 (cd := cB) (v := (decide (v3 < (0 : Int)))) rfl rfl <| st rfl <| mvd rfl rfl <| ite_k h (fun b541 h => gf rfl b541 <| gf rfl b541 <| gf rfl b541 <| gf rfl b541 <| st rfl <| pick1 rfl b541 (cd := cB) (v := true) rfl rfl <| seqN [(3, .d (cI.enc v3)), (5, .box ((cXEdit (cLs cI rfl)).enc v1)), (6, .box ((cXEdit (cLs cI rfl)).enc v2)), (8, .box ((cXEdit (cLo cI)).enc (⟨([] : List Int)⟩ : XEdit))), (37, .d (cB.enc true))] (by kernel_rfl) <|
    lfn (S := (fun (s37 : Bool) => [(3, .d (cI.enc v3)), (5, .box ((cXEdit (cLs cI rfl)).enc v1)), (6, .box ((cXEdit (cLs cI rfl)).enc v2)), (8, .box ((cXEdit (cLo cI)).enc (⟨([] : List Int)⟩ : XEdit))), (37, .d (cB.enc s37))])) h q38 rfl)
    (fun b541 h => gt' rfl b541 <| st rfl <| mvd rfl rfl <| gt' rfl b541 <| st rfl <| mvd rfl rfl <| gt' rfl b541 <| stw rfl <| lens rfl fun l542 => gt' rfl b541 <| st rfl <| b_geq (k := .i64) rfl rfl <| st rfl <| pick0 rfl b541 (cd := cB) (v := (decide ((v0.length : Int) ≤ v3))) rfl rfl <| seqN [(3, .d (cI.enc v3)), (5, .box ((cXEdit (cLs cI rfl)).enc v1)), (6, .box ((cXEdit (cLs cI rfl)).enc v2)), (8, .box ((cXEdit (cLo cI)).enc (⟨([] : List Int)⟩ : XEdit))), (37, .d (cB.enc (decide ((v0.length : Int) ≤ v3))))] (by kernel_rfl) <|
    lfn (S := (fun (s37 : Bool) => [(3, .d (cI.enc v3)), (5, .box ((cXEdit (cLs cI rfl)).enc v1)), (6, .box ((cXEdit (cLs cI rfl)).enc v2)), (8, .box ((cXEdit (cLo cI)).enc (⟨([] : List Int)⟩ : XEdit))), (37, .d (cB.enc s37))])) h q38 rfl))))

def rs_laws_eqIntS (r : Bool) : List D := [cB.enc r]
def m36 : MC := .seq (.reg [⟨some 4, .asg (.c (.bool false)), none⟩] [0, 1])
  (.seq (.kp [0, 1] (.seq (.reg [⟨some 6, .mv (.t 0), none⟩,
    ⟨some 7, .len false (.t 6), none⟩,
    ⟨some 8, .mv (.t 1), none⟩,
    ⟨some 9, .len false (.t 8), none⟩,
    ⟨some 10, .bin .neq (.t 7) (.t 9), none⟩] [0, 1, 10])
  (.cond (.t 10) (.seq (.reg [⟨some 4, .asg (.c (.bool false)), none⟩] [4])
  (.ret)) (.skip))))
  (.seq (.kp [] (.seq (.reg [⟨some 5, .asg (.c (.int .i64 0)), none⟩] [0, 1, 5])
  (.blk 0 (.loop (.seq (.kp [0, 1, 5] (.seq (.reg [⟨some 11, .mv (.t 5), none⟩,
    ⟨some 12, .mv (.t 0), none⟩,
    ⟨some 13, .len false (.t 12), none⟩,
    ⟨some 14, .bin .lss (.t 11) (.t 13), none⟩] [0, 1, 5, 14])
  (.cond (.t 14) (.skip) (.exit 0))))
  (.seq (.kp [0, 1, 5] (.blk 1 (.seq (.drw [⟨0, ⟨some 17, .mv (.t 0), none⟩, [18, 19, 20, 21, 22, 23, 24, 25]⟩,
    ⟨1, ⟨some 18, .mv (.t 5), none⟩, [17, 19, 20, 21, 22, 23, 24, 25]⟩,
    ⟨2, ⟨some 19, .ia 17 (.t 18) 1, none⟩, [20, 21, 22, 23, 24, 25]⟩,
    ⟨3, ⟨some 20, .ld 19 1 false, none⟩, [21, 22, 23, 24, 25]⟩,
    ⟨4, ⟨some 21, .mv (.t 1), none⟩, [17, 18, 19, 20, 22, 23, 24, 25]⟩,
    ⟨5, ⟨some 22, .mv (.t 5), none⟩, [17, 18, 19, 20, 21, 23, 24, 25]⟩,
    ⟨6, ⟨some 23, .ia 21 (.t 22) 1, none⟩, [17, 18, 19, 20, 24, 25]⟩,
    ⟨7, ⟨some 24, .ld 23 1 false, none⟩, [17, 18, 19, 20, 25]⟩,
    ⟨8, ⟨some 25, .bin .neq (.t 20) (.t 24), none⟩, []⟩]
    [] [0, 1, 5, 25])
  (.cond (.t 25) (.seq (.reg [⟨some 4, .asg (.c (.bool false)), none⟩] [4])
  (.ret)) (.skip)))))
  (.reg [⟨some 15, .mv (.t 5), none⟩,
    ⟨some 16, .bin .add (.t 15) (.c (.int .i64 1)), none⟩,
    ⟨some 5, .asg (.t 16), none⟩] [0, 1, 5])))))))
  (.seq (.reg [⟨some 4, .asg (.c (.bool true)), none⟩] [4])
  (.ret))))
theorem con_laws_eqIntS {v0 : (List Int)} {v1 : (List Int)} {r : Bool} (h : sh_laws_eqIntS v0 v1 = some r) : Con Try.prog 36 [(cLs cI rfl).enc v0, (cLs cI rfl).enc v1] [] (rs_laws_eqIntS r) := by
  delta sh_laws_eqIntS at h
  refine top (out := none) (f := Try.f36) (m := m36) (rs := [.t 4]) (by kernel_rfl) rfl (by kernel_rfl) (by kernel_rfl) (by kernel_rfl) (by kernel_rfl) (by kernel_rfl) ?_
  exact
   ini [(0, .d ((cLs cI rfl).enc v0)), (1, .d ((cLs cI rfl).enc v1))] rfl <| wpC_seq <| reg_s <| x_asg (sc cB false rfl) <| seqN [(0, .d ((cLs cI rfl).enc v0)), (1, .d ((cLs cI rfl).enc v1))] (by kernel_rfl) <|
    xn <| wpC_seq <| wpC_kp <| wpC_seq <| reg_s <| st rfl <| mvd rfl rfl <| stw rfl <| lens rfl fun l8 => st rfl <| mvd rfl rfl <| stw rfl <| lens rfl fun l9 => st rfl <| b_neq (k := .i64) rfl rfl <| seqN [(0, .d ((cLs cI rfl).enc v0)), (1, .d ((cLs cI rfl).enc v1)), (10, .d (cB.enc (decide ((v0.length : Int) ≠ (v1.length : Int)))))] (by kernel_rfl) <|
    xn <| cnd rfl h (fun b10 h => wpC_seq <| reg_s <| x_asg (sc cB false rfl) <| seqN [(4, .d (cB.enc false))] (by kernel_rfl) <|
    xn <| wpC_ret <| rt <| rt <| re <| fin h (r1 (ss rfl rfl) <| r0) rfl)
    (fun b10 h => wpC_skip <| kpN [(0, .d ((cLs cI rfl).enc v0)), (1, .d ((cLs cI rfl).enc v1))] (by kernel_rfl) <| xn <| wpC_seq <| wpC_kp <| wpC_seq <| reg_s <| x_asg (sc cI (0 : Int) rfl) <| seqN [(0, .d ((cLs cI rfl).enc v0)), (1, .d ((cLs cI rfl).enc v1)), (5, .d (cI.enc (0 : Int)))] (by kernel_rfl) <|
    xn <| wpC_blk <| lpF (fun (s118 : Int) => [(0, .d ((cLs cI rfl).enc v0)), (1, .d ((cLs cI rfl).enc v1)), (5, .d (cI.enc s118))]) (0 : Int) rfl h
    fun G191 nx189 s118 hn190 h => wpC_seq <| wpC_kp <| wpC_seq <| reg_s <| st rfl <| mvd rfl rfl <| st rfl <| mvd rfl rfl <| stw rfl <| lens rfl fun l196 => st rfl <| b_lss (k := .i64) rfl rfl <| seqN [(0, .d ((cLs cI rfl).enc v0)), (1, .d ((cLs cI rfl).enc v1)), (5, .d (cI.enc s118)), (14, .d (cB.enc (decide (s118 < (v0.length : Int)))))] (by kernel_rfl) <|
    xn <| cnd rfl h (fun b197 h => wpC_skip <| kpN [(0, .d ((cLs cI rfl).enc v0)), (1, .d ((cLs cI rfl).enc v1)), (5, .d (cI.enc s118))] (by kernel_rfl) <| xn <| wpC_seq <| wpC_kp <| wpC_blk <| wpC_seq <| drw_s <| pst rfl <| mvd rfl rfl ⟨rfl, pst rfl <| mvd rfl rfl ⟨rfl, getO_kp h fun x217 i218 g219 h => pst rfl <| ias rfl rfl i218 g219 rfl ⟨rfl, pst rfl <| ldi rfl rfl rfl rfl ⟨rfl, pst rfl <| mvd rfl rfl ⟨rfl, pst rfl <| mvd rfl rfl ⟨rfl, getO_kp h fun x220 i221 g222 h => pst rfl <| ias rfl rfl i221 g222 rfl ⟨rfl, pst rfl <| ldi rfl rfl rfl rfl ⟨rfl, pst rfl <| b_neq (k := .i64) rfl rfl ⟨rfl, preN <| seqN [(0, .d ((cLs cI rfl).enc v0)), (1, .d ((cLs cI rfl).enc v1)), (5, .d (cI.enc s118)), (25, .d (cB.enc (decide (x217 ≠ x220))))] (by kernel_rfl) <|
    xn <| cnd rfl h (fun b223 h => wpC_seq <| reg_s <| x_asg (sc cB false rfl) <| seqN [(4, .d (cB.enc false))] (by kernel_rfl) <|
    xn <| wpC_ret <| rb <| rt <| rt <| rt <| rb <| rt <| rt <| re <| fin h (r1 (ss rfl rfl) <| r0) rfl)
    (fun b223 h => wpC_skip <| xbb <| kpN [(0, .d ((cLs cI rfl).enc v0)), (1, .d ((cLs cI rfl).enc v1)), (5, .d (cI.enc s118))] (by kernel_rfl) <| xn <| reg_s <| st rfl <| mvd rfl rfl <| ckI_k h fun i224 h => st rfl <| b_add (k := .i64) rfl rfl i224 <| x_asg (ss rfl rfl) <| seqN [(0, .d ((cLs cI rfl).enc v0)), (1, .d ((cLs cI rfl).enc v1)), (5, .d (cI.enc (s118 + (1 : Int))))] (by kernel_rfl) <|
    xn <| hn190 (s118 + (1 : Int)) h)⟩⟩⟩⟩⟩⟩⟩⟩⟩)
    (fun b197 h => wpC_exit <| xt <| xt <| xt <| xb <| kpN [] (by kernel_rfl) <| xn <| wpC_seq <| reg_s <| x_asg (sc cB true rfl) <| seqN [(4, .d (cB.enc true))] (by kernel_rfl) <|
    xn <| wpC_ret <| re <| fin h (r1 (ss rfl rfl) <| r0) rfl))

def rs_laws_eqEdit (r : Bool) : List D := [cB.enc r]
def m20 : MC := .seq (.reg [⟨some 2, .box (.t 0), none⟩,
    ⟨some 3, .box (.t 1), none⟩,
    ⟨some 4, .asg (.c (.bool false)), none⟩] [2, 3])
  (.seq (.kp [] (.seq (.reg [⟨some 5, .fa 2 0 0, none⟩,
    ⟨some 6, .ld 5 1 false, none⟩,
    ⟨some 7, .fa 3 0 0, none⟩,
    ⟨some 8, .ld 7 1 false, none⟩,
    ⟨some 9, .call 36 [(.t 6), (.t 8)], none⟩,
    ⟨some 10, .nt (.t 9), none⟩] [10])
  (.cond (.t 10) (.seq (.reg [⟨some 4, .asg (.c (.bool false)), none⟩] [4])
  (.ret)) (.skip))))
  (.seq (.reg [⟨some 4, .asg (.c (.bool true)), none⟩] [4])
  (.ret)))
theorem con_laws_eqEdit {v0 : XEdit} {v1 : XEdit} {r : Bool} (h : sh_laws_eqEdit v0 v1 = some r) : Con Try.prog 20 [(cXEdit (cLs cI rfl)).enc v0, (cXEdit (cLs cI rfl)).enc v1] [] (rs_laws_eqEdit r) := by
  delta sh_laws_eqEdit at h
  refine top (out := none) (f := Try.f20) (m := m20) (rs := [.t 4]) (by kernel_rfl) rfl (by kernel_rfl) (by kernel_rfl) (by kernel_rfl) (by kernel_rfl) (by kernel_rfl) ?_
  exact
   ini [(0, .d ((cXEdit (cLs cI rfl)).enc v0)), (1, .d ((cXEdit (cLs cI rfl)).enc v1))] rfl <| wpC_seq <| reg_s <| x_box (ss rfl rfl) <| x_box (ss rfl rfl) <| x_asg (sc cB false rfl) <| seqN [(2, .box ((cXEdit (cLs cI rfl)).enc v0)), (3, .box ((cXEdit (cLs cI rfl)).enc v1))] (by kernel_rfl) <|
    xn <| wpC_seq <| wpC_kp <| wpC_seq <| reg_s <| st rfl <| fab rfl rfl rfl rfl <| st rfl <| lda rfl rfl rfl rfl rfl rfl <| st rfl <| fab rfl rfl rfl rfl <| st rfl <| lda rfl rfl rfl rfl rfl rfl <| bnd h fun x8 e9 h => st rfl <| o_call (a1 (c := (cLs cI rfl)) (tLs tK) rfl (a1 (c := (cLs cI rfl)) (tLs tK) rfl a0)) (con_laws_eqIntS e9) (.inl (so1 sB so0)) <| st rfl <| o_nt rfl <| seqN [(10, .d (cB.enc (!x8)))] (by kernel_rfl) <|
    xn <| cnd rfl h (fun b10 h => wpC_seq <| reg_s <| x_asg (sc cB false rfl) <| seqN [(4, .d (cB.enc false))] (by kernel_rfl) <|
    xn <| wpC_ret <| rt <| rt <| re <| fin h (r1 (ss rfl rfl) <| r0) rfl)
    (fun b10 h => wpC_skip <| kpN [] (by kernel_rfl) <| xn <| wpC_seq <| reg_s <| x_asg (sc cB true rfl) <| seqN [(4, .d (cB.enc true))] (by kernel_rfl) <|
    xn <| wpC_ret <| re <| fin h (r1 (ss rfl rfl) <| r0) rfl)

def rs_laws_eqVariable (r : Bool) : List D := [cB.enc r]
def m67 : MC := .seq (.reg [⟨some 2, .box (.t 0), none⟩,
    ⟨some 3, .box (.t 1), none⟩,
    ⟨some 4, .asg (.c (.bool false)), none⟩] [2, 3])
  (.seq (.kp [2, 3] (.seq (.reg [⟨some 5, .fa 2 0 0, none⟩,
    ⟨some 6, .ld 5 1 false, none⟩,
    ⟨some 7, .fa 3 0 0, none⟩,
    ⟨some 8, .ld 7 1 false, none⟩,
    ⟨some 9, .bin .neq (.t 6) (.t 8), none⟩] [2, 3, 9])
  (.cond (.t 9) (.seq (.reg [⟨some 4, .asg (.c (.bool false)), none⟩] [4])
  (.ret)) (.skip))))
  (.seq (.kp [] (.seq (.reg [⟨some 10, .fa 2 1 1, none⟩,
    ⟨some 11, .ld 10 1 false, none⟩,
    ⟨some 12, .fa 3 1 1, none⟩,
    ⟨some 13, .ld 12 1 false, none⟩,
    ⟨some 14, .bin .neq (.t 11) (.t 13), none⟩] [14])
  (.cond (.t 14) (.seq (.reg [⟨some 4, .asg (.c (.bool false)), none⟩] [4])
  (.ret)) (.skip))))
  (.seq (.reg [⟨some 4, .asg (.c (.bool true)), none⟩] [4])
  (.ret))))
theorem con_laws_eqVariable {v0 : XVariable} {v1 : XVariable} {r : Bool} (h : sh_laws_eqVariable v0 v1 = some r) : Con Try.prog 67 [(cXVariable cS cI).enc v0, (cXVariable cS cI).enc v1] [] (rs_laws_eqVariable r) := by
  delta sh_laws_eqVariable at h
  refine top (out := none) (f := Try.f67) (m := m67) (rs := [.t 4]) (by kernel_rfl) rfl (by kernel_rfl) (by kernel_rfl) (by kernel_rfl) (by kernel_rfl) (by kernel_rfl) ?_
  exact
   ini [(0, .d ((cXVariable cS cI).enc v0)), (1, .d ((cXVariable cS cI).enc v1))] rfl <| wpC_seq <| reg_s <| x_box (ss rfl rfl) <| x_box (ss rfl rfl) <| x_asg (sc cB false rfl) <| seqN [(2, .box ((cXVariable cS cI).enc v0)), (3, .box ((cXVariable cS cI).enc v1))] (by kernel_rfl) <|
    xn <| wpC_seq <| wpC_kp <| wpC_seq <| reg_s <| st rfl <| fab rfl rfl rfl rfl <| st rfl <| lda rfl rfl rfl rfl rfl rfl <| st rfl <| fab rfl rfl rfl rfl <| st rfl <| lda rfl rfl rfl rfl rfl rfl <| st rfl <| b_sne rfl rfl <| seqN [(2, .box ((cXVariable cS cI).enc v0)), (3, .box ((cXVariable cS cI).enc v1)), (9, .d (cB.enc (decide (v0.Name ≠ v1.Name))))] (by kernel_rfl) <|
    xn <| cnd rfl h (fun b2 h => wpC_seq <| reg_s <| x_asg (sc cB false rfl) <| seqN [(4, .d (cB.enc false))] (by kernel_rfl) <|
    xn <| wpC_ret <| rt <| rt <| re <| fin h (r1 (ss rfl rfl) <| r0) rfl)
    (fun b2 h => wpC_skip <| kpN [(2, .box ((cXVariable cS cI).enc v0)), (3, .box ((cXVariable cS cI).enc v1))] (by kernel_rfl) <| xn <| wpC_seq <| wpC_kp <| wpC_seq <| reg_s <| st rfl <| fab rfl rfl rfl rfl <| st rfl <| lda rfl rfl rfl rfl rfl rfl <| st rfl <| fab rfl rfl rfl rfl <| st rfl <| lda rfl rfl rfl rfl rfl rfl <| st rfl <| b_neq (k := .i64) rfl rfl <| seqN [(14, .d (cB.enc (decide (v0.Levels ≠ v1.Levels))))] (by kernel_rfl) <|
    xn <| cnd rfl h (fun b4 h => wpC_seq <| reg_s <| x_asg (sc cB false rfl) <| seqN [(4, .d (cB.enc false))] (by kernel_rfl) <|
    xn <| wpC_ret <| rt <| rt <| re <| fin h (r1 (ss rfl rfl) <| r0) rfl)
    (fun b4 h => wpC_skip <| kpN [] (by kernel_rfl) <| xn <| wpC_seq <| reg_s <| x_asg (sc cB true rfl) <| seqN [(4, .d (cB.enc true))] (by kernel_rfl) <|
    xn <| wpC_ret <| re <| fin h (r1 (ss rfl rfl) <| r0) rfl))

def rs_laws_eqVariableS (r : Bool) : List D := [cB.enc r]
def m21 : MC := .seq (.reg [⟨some 4, .asg (.c (.bool false)), none⟩] [0, 1])
  (.seq (.kp [0, 1] (.seq (.reg [⟨some 6, .mv (.t 0), none⟩,
    ⟨some 7, .len false (.t 6), none⟩,
    ⟨some 8, .mv (.t 1), none⟩,
    ⟨some 9, .len false (.t 8), none⟩,
    ⟨some 10, .bin .neq (.t 7) (.t 9), none⟩] [0, 1, 10])
  (.cond (.t 10) (.seq (.reg [⟨some 4, .asg (.c (.bool false)), none⟩] [4])
  (.ret)) (.skip))))
  (.seq (.kp [] (.seq (.reg [⟨some 5, .asg (.c (.int .i64 0)), none⟩] [0, 1, 5])
  (.blk 0 (.loop (.seq (.kp [0, 1, 5] (.seq (.reg [⟨some 11, .mv (.t 5), none⟩,
    ⟨some 12, .mv (.t 0), none⟩,
    ⟨some 13, .len false (.t 12), none⟩,
    ⟨some 14, .bin .lss (.t 11) (.t 13), none⟩] [0, 1, 5, 14])
  (.cond (.t 14) (.skip) (.exit 0))))
  (.seq (.kp [0, 1, 5] (.blk 1 (.seq (.drw [⟨0, ⟨some 17, .mv (.t 0), none⟩, [18, 19, 20, 21, 22, 23, 24, 25, 26]⟩,
    ⟨1, ⟨some 18, .mv (.t 5), none⟩, [17, 19, 20, 21, 22, 23, 24, 25, 26]⟩,
    ⟨2, ⟨some 19, .ia 17 (.t 18) 2, none⟩, [20, 21, 22, 23, 24, 25, 26]⟩,
    ⟨3, ⟨some 20, .ld 19 2 true, none⟩, [21, 22, 23, 24, 25, 26]⟩,
    ⟨4, ⟨some 21, .mv (.t 1), none⟩, [17, 18, 19, 20, 22, 23, 24, 25, 26]⟩,
    ⟨5, ⟨some 22, .mv (.t 5), none⟩, [17, 18, 19, 20, 21, 23, 24, 25, 26]⟩,
    ⟨6, ⟨some 23, .ia 21 (.t 22) 2, none⟩, [17, 18, 19, 20, 24, 25, 26]⟩,
    ⟨7, ⟨some 24, .ld 23 2 true, none⟩, [17, 18, 19, 20, 25, 26]⟩,
    ⟨8, ⟨some 25, .call 67 [(.t 20), (.t 24)], none⟩, [26]⟩,
    ⟨9, ⟨some 26, .nt (.t 25), none⟩, []⟩]
    [] [0, 1, 5, 26])
  (.cond (.t 26) (.seq (.reg [⟨some 4, .asg (.c (.bool false)), none⟩] [4])
  (.ret)) (.skip)))))
  (.reg [⟨some 15, .mv (.t 5), none⟩,
    ⟨some 16, .bin .add (.t 15) (.c (.int .i64 1)), none⟩,
    ⟨some 5, .asg (.t 16), none⟩] [0, 1, 5])))))))
  (.seq (.reg [⟨some 4, .asg (.c (.bool true)), none⟩] [4])
  (.ret))))
theorem con_laws_eqVariableS {v0 : (List XVariable)} {v1 : (List XVariable)} {r : Bool} (h : sh_laws_eqVariableS v0 v1 = some r) : Con Try.prog 21 [(cLs (cXVariable cS cI) rfl).enc v0, (cLs (cXVariable cS cI) rfl).enc v1] [] (rs_laws_eqVariableS r) := by
  delta sh_laws_eqVariableS at h
  refine top (out := none) (f := Try.f21) (m := m21) (rs := [.t 4]) (by kernel_rfl) rfl (by kernel_rfl) (by kernel_rfl) (by kernel_rfl) (by kernel_rfl) (by kernel_rfl) ?_
  exact
   ini [(0, .d ((cLs (cXVariable cS cI) rfl).enc v0)), (1, .d ((cLs (cXVariable cS cI) rfl).enc v1))] rfl <| wpC_seq <| reg_s <| x_asg (sc cB false rfl) <| seqN [(0, .d ((cLs (cXVariable cS cI) rfl).enc v0)), (1, .d ((cLs (cXVariable cS cI) rfl).enc v1))] (by kernel_rfl) <|
    xn <| wpC_seq <| wpC_kp <| wpC_seq <| reg_s <| st rfl <| mvd rfl rfl <| stw rfl <| lens rfl fun l8 => st rfl <| mvd rfl rfl <| stw rfl <| lens rfl fun l9 => st rfl <| b_neq (k := .i64) rfl rfl <| seqN [(0, .d ((cLs (cXVariable cS cI) rfl).enc v0)), (1, .d ((cLs (cXVariable cS cI) rfl).enc v1)), (10, .d (cB.enc (decide ((v0.length : Int) ≠ (v1.length : Int)))))] (by kernel_rfl) <|
    xn <| cnd rfl h (fun b10 h => wpC_seq <| reg_s <| x_asg (sc cB false rfl) <| seqN [(4, .d (cB.enc false))] (by kernel_rfl) <|
    xn <| wpC_ret <| rt <| rt <| re <| fin h (r1 (ss rfl rfl) <| r0) rfl)
    (fun b10 h => wpC_skip <| kpN [(0, .d ((cLs (cXVariable cS cI) rfl).enc v0)), (1, .d ((cLs (cXVariable cS cI) rfl).enc v1))] (by kernel_rfl) <| xn <| wpC_seq <| wpC_kp <| wpC_seq <| reg_s <| x_asg (sc cI (0 : Int) rfl) <| seqN [(0, .d ((cLs (cXVariable cS cI) rfl).enc v0)), (1, .d ((cLs (cXVariable cS cI) rfl).enc v1)), (5, .d (cI.enc (0 : Int)))] (by kernel_rfl) <|
    xn <| wpC_blk <| lpF (fun (s142 : Int) => [(0, .d ((cLs (cXVariable cS cI) rfl).enc v0)), (1, .d ((cLs (cXVariable cS cI) rfl).enc v1)), (5, .d (cI.enc s142))]) (0 : Int) rfl h
    fun G231 nx229 s142 hn230 h => wpC_seq <| wpC_kp <| wpC_seq <| reg_s <| st rfl <| mvd rfl rfl <| st rfl <| mvd rfl rfl <| stw rfl <| lens rfl fun l236 => st rfl <| b_lss (k := .i64) rfl rfl <| seqN [(0, .d ((cLs (cXVariable cS cI) rfl).enc v0)), (1, .d ((cLs (cXVariable cS cI) rfl).enc v1)), (5, .d (cI.enc s142)), (14, .d (cB.enc (decide (s142 < (v0.length : Int)))))] (by kernel_rfl) <|
    xn <| cnd rfl h (fun b237 h => wpC_skip <| kpN [(0, .d ((cLs (cXVariable cS cI) rfl).enc v0)), (1, .d ((cLs (cXVariable cS cI) rfl).enc v1)), (5, .d (cI.enc s142))] (by kernel_rfl) <| xn <| wpC_seq <| wpC_kp <| wpC_blk <| wpC_seq <| drw_s <| pst rfl <| mvd rfl rfl ⟨rfl, pst rfl <| mvd rfl rfl ⟨rfl, getO_kp h fun x263 i264 g265 h => pst rfl <| ias rfl rfl i264 g265 rfl ⟨rfl, pst rfl <| ldi rfl rfl rfl rfl ⟨rfl, pst rfl <| mvd rfl rfl ⟨rfl, pst rfl <| mvd rfl rfl ⟨rfl, getO_kp h fun x266 i267 g268 h => pst rfl <| ias rfl rfl i267 g268 rfl ⟨rfl, pst rfl <| ldi rfl rfl rfl rfl ⟨rfl, bndp h fun x269 e270 h => pst rfl <| o_call (a1 (c := (cXVariable cS cI)) (tXVariable tS tK) rfl (a1 (c := (cXVariable cS cI)) (tXVariable tS tK) rfl a0)) (con_laws_eqVariable e270) (.inl (so1 sB so0)) ⟨rfl, pst rfl <| o_nt rfl ⟨rfl, preN <| seqN [(0, .d ((cLs (cXVariable cS cI) rfl).enc v0)), (1, .d ((cLs (cXVariable cS cI) rfl).enc v1)), (5, .d (cI.enc s142)), (26, .d (cB.enc (!x269)))] (by kernel_rfl) <|
    xn <| cnd rfl h (fun b271 h => wpC_seq <| reg_s <| x_asg (sc cB false rfl) <| seqN [(4, .d (cB.enc false))] (by kernel_rfl) <|
    xn <| wpC_ret <| rb <| rt <| rt <| rt <| rb <| rt <| rt <| re <| fin h (r1 (ss rfl rfl) <| r0) rfl)
    (fun b271 h => wpC_skip <| xbb <| kpN [(0, .d ((cLs (cXVariable cS cI) rfl).enc v0)), (1, .d ((cLs (cXVariable cS cI) rfl).enc v1)), (5, .d (cI.enc s142))] (by kernel_rfl) <| xn <| reg_s <| st rfl <| mvd rfl rfl <| ckI_k h fun i272 h => st rfl <| b_add (k := .i64) rfl rfl i272 <| x_asg (ss rfl rfl) <| seqN [(0, .d ((cLs (cXVariable cS cI) rfl).enc v0)), (1, .d ((cLs (cXVariable cS cI) rfl).enc v1)), (5, .d (cI.enc (s142 + (1 : Int))))] (by kernel_rfl) <|
    xn <| hn230 (s142 + (1 : Int)) h)⟩⟩⟩⟩⟩⟩⟩⟩⟩⟩)
    (fun b237 h => wpC_exit <| xt <| xt <| xt <| xb <| kpN [] (by kernel_rfl) <| xn <| wpC_seq <| reg_s <| x_asg (sc cB true rfl) <| seqN [(4, .d (cB.enc true))] (by kernel_rfl) <|
    xn <| wpC_ret <| re <| fin h (r1 (ss rfl rfl) <| r0) rfl))

def rs_laws_markText (r : (List UInt8)) : List D := [cS.enc r]
def m68 : MC := .seq (.reg [⟨some 2, .asg (.c (.str [])), none⟩] [0])
  (.seq (.kp [0] (.seq (.reg [⟨some 4, .mv (.t 0), none⟩,
    ⟨some 5, .bin .leq (.t 4) (.c (.int .i64 0)), none⟩] [0, 5])
  (.cond (.t 5) (.seq (.reg [⟨some 2, .asg (.c (.str [109, 48])), none⟩] [2])
  (.ret)) (.skip))))
  (.seq (.reg [⟨some 3, .asg (.c (.str [])), none⟩] [0, 3])
  (.seq (.kp [3] (.blk 0 (.loop (.kp [0, 3] (.seq (.kp [0, 3] (.seq (.reg [⟨some 6, .mv (.t 0), none⟩,
    ⟨some 7, .bin .gtr (.t 6) (.c (.int .i64 0)), none⟩] [0, 3, 7])
  (.cond (.t 7) (.skip) (.exit 0))))
  (.blk 1 (.seq (.reg [⟨some 8, .mv (.t 0), none⟩,
    ⟨some 9, .bin .rem (.t 8) (.c (.int .i64 10)), none⟩,
    ⟨some 10, .bin .add (.c (.int .i64 48)) (.t 9), none⟩,
    ⟨some 11, .cvi .u8 (.t 10), none⟩,
    ⟨some 12, .bsl [(.t 11)] 1, none⟩,
    ⟨some 13, .b2s (.t 12), none⟩,
    ⟨some 14, .mv (.t 3), none⟩,
    ⟨some 15, .bin .add (.t 13) (.t 14), none⟩,
    ⟨some 3, .asg (.t 15), none⟩] [0, 3])
  (.reg [⟨some 16, .mv (.t 0), none⟩,
    ⟨some 17, .bin .quo (.t 16) (.c (.int .i64 10)), none⟩,
    ⟨some 0, .asg (.t 17), none⟩] [0, 3]))))))))
  (.seq (.reg [⟨some 18, .mv (.t 3), none⟩,
    ⟨some 19, .bin .add (.c (.str [109])) (.t 18), none⟩,
    ⟨some 2, .asg (.t 19), none⟩] [2])
  (.ret)))))
theorem con_laws_markText {v0 : Int} {r : (List UInt8)} (h : sh_laws_markText v0 = some r) : Con Try.prog 68 [cI.enc v0] [] (rs_laws_markText r) := by
  delta sh_laws_markText at h
  refine top (out := none) (f := Try.f68) (m := m68) (rs := [.t 2]) (by kernel_rfl) rfl (by kernel_rfl) (by kernel_rfl) (by kernel_rfl) (by kernel_rfl) (by kernel_rfl) ?_
  exact
   ini [(0, .d (cI.enc v0))] rfl <| wpC_seq <| reg_s <| x_asg (sc cS ([] : List UInt8) rfl) <| seqN [(0, .d (cI.enc v0))] (by kernel_rfl) <|
    xn <| wpC_seq <| wpC_kp <| wpC_seq <| reg_s <| st rfl <| mvd rfl rfl <| st rfl <| b_leq (k := .i64) rfl rfl <| seqN [(0, .d (cI.enc v0)), (5, .d (cB.enc (decide (v0 ≤ (0 : Int)))))] (by kernel_rfl) <|
    xn <| cnd rfl h (fun b2 h => wpC_seq <| reg_s <| x_asg (sc cS ([109, 48] : List UInt8) rfl) <| seqN [(2, .d (cS.enc ([109, 48] : List UInt8)))] (by kernel_rfl) <|
    xn <| wpC_ret <| rt <| rt <| re <| fin h (r1 (ss rfl rfl) <| r0) rfl)
    (fun b2 h => wpC_skip <| kpN [(0, .d (cI.enc v0))] (by kernel_rfl) <| xn <| wpC_seq <| reg_s <| x_asg (sc cS ([] : List UInt8) rfl) <| seqN [(0, .d (cI.enc v0)), (3, .d (cS.enc ([] : List UInt8)))] (by kernel_rfl) <|
    xn <| wpC_seq <| wpC_kp <| wpC_blk <| lpF (fun (s59 : (Int × (List UInt8))) => [(0, .d (cI.enc s59.1)), (3, .d (cS.enc s59.2))]) (v0, ([] : List UInt8)) rfl h
    fun G98 nx96 s59 hn97 h => wpC_kp <| wpC_seq <| wpC_kp <| wpC_seq <| reg_s <| st rfl <| mvd rfl rfl <| st rfl <| b_gtr (k := .i64) rfl rfl <| seqN [(0, .d (cI.enc s59.1)), (3, .d (cS.enc s59.2)), (7, .d (cB.enc (decide ((0 : Int) < s59.1))))] (by kernel_rfl) <|
    xn <| cnd rfl h (fun b100 h => wpC_skip <| kpN [(0, .d (cI.enc s59.1)), (3, .d (cS.enc s59.2))] (by kernel_rfl) <| xn <| wpC_blk <| wpC_seq <| reg_s <| st rfl <| mvd rfl rfl <| ck_k h fun i107 h => st rfl <| b_rem (k := .i64) rfl rfl i107 <| ckI_k h fun i108 h => st rfl <| b_add (k := .i64) rfl rfl i108 <| ckU_k h fun i109 h => st rfl <| o_cvi (k := .i64) (k' := .u8) rfl i109 <| x_bsl cU [((48 : Int) + (s59.1.tmod (10 : Int)))] (t1 (ss rfl rfl) rfl t0) rfl rfl <| ck_k h fun i110 h => st rfl <| o_b2s rfl rfl i110 <| st rfl <| mvd rfl rfl <| lnO_k h fun l112 h => st rfl <| b_cat rfl rfl l112 <| x_asg (ss rfl rfl) <| seqN [(0, .d (cI.enc s59.1)), (3, .d (cS.enc ((bytesOf [((48 : Int) + (s59.1.tmod (10 : Int)))]) ++ s59.2)))] (by kernel_rfl) <|
    xn <| reg_s <| st rfl <| mvd rfl rfl <| ck_k h fun i113 h => ckI_k h fun i114 h => st rfl <| b_quo (k := .i64) rfl rfl i113 i114 <| x_asg (ss rfl rfl) <| seqN [(0, .d (cI.enc (s59.1.tdiv (10 : Int)))), (3, .d (cS.enc ((bytesOf [((48 : Int) + (s59.1.tmod (10 : Int)))]) ++ s59.2)))] (by kernel_rfl) <|
    xbb <| kpN [(0, .d (cI.enc (s59.1.tdiv (10 : Int)))), (3, .d (cS.enc ((bytesOf [((48 : Int) + (s59.1.tmod (10 : Int)))]) ++ s59.2)))] (by kernel_rfl) <| xn <| hn97 ((s59.1.tdiv (10 : Int)), ((bytesOf [((48 : Int) + (s59.1.tmod (10 : Int)))]) ++ s59.2)) h)
    (fun b100 h => wpC_exit <| xt <| xt <| xt <| xt <| xb <| kpN [(3, .d (cS.enc s59.2))] (by kernel_rfl) <| xn <| wpC_seq <| reg_s <| st rfl <| mvd rfl rfl <| lnO_k h fun l116 h => st rfl <| b_cat rfl rfl l116 <| x_asg (ss rfl rfl) <| seqN [(2, .d (cS.enc (([109] : List UInt8) ++ s59.2)))] (by kernel_rfl) <|
    xn <| wpC_ret <| re <| fin h (r1 (ss rfl rfl) <| r0) rfl))

def os_laws_markVariableS (r : ((List XVariable) × Int)) : D := (cLo (cXVariable cS cI)).enc r.1
def rs_laws_markVariableS (r : ((List XVariable) × Int)) : List D := [cI.enc r.2]
def m22 : MC := .seq (.reg [⟨some 4, .asg (.c (.int .i64 0)), none⟩] [0, 1])
  (.seq (.kp [0, 1] (.seq (.reg [⟨some 5, .asg (.c (.int .i64 0)), none⟩] [0, 1, 5])
  (.blk 0 (.loop (.seq (.kp [0, 1, 5] (.seq (.reg [⟨some 6, .mv (.t 5), none⟩,
    ⟨some 7, .mv (.t 0), none⟩,
    ⟨some 8, .len false (.t 7), none⟩,
    ⟨some 9, .bin .lss (.t 6) (.t 8), none⟩] [0, 1, 5, 9])
  (.cond (.t 9) (.skip) (.exit 0))))
  (.seq (.kp [0, 1, 5] (.blk 1 (.seq (.reg [⟨some 12, .mv (.t 0), none⟩,
    ⟨some 13, .mv (.t 5), none⟩,
    ⟨some 14, .mv (.t 1), none⟩,
    ⟨some 15, .call 68 [(.t 14)], none⟩,
    ⟨some 16, .ia 12 (.t 13) 2, none⟩,
    ⟨some 17, .fa 16 0 0, none⟩,
    ⟨none, .st 17 (.t 15) 1, none⟩] [0, 1, 5])
  (.seq (.reg [⟨some 18, .mv (.t 1), none⟩,
    ⟨some 19, .bin .add (.t 18) (.c (.int .i64 1)), none⟩,
    ⟨some 1, .asg (.t 19), none⟩] [0, 1, 5])
  (.seq (.reg [⟨some 20, .mv (.t 0), none⟩,
    ⟨some 21, .mv (.t 5), none⟩,
    ⟨some 22, .mv (.t 1), none⟩,
    ⟨some 23, .ia 20 (.t 21) 2, none⟩,
    ⟨some 24, .fa 23 1 1, none⟩,
    ⟨none, .st 24 (.t 22) 1, none⟩] [0, 1, 5])
  (.reg [⟨some 25, .mv (.t 1), none⟩,
    ⟨some 26, .bin .add (.t 25) (.c (.int .i64 1)), none⟩,
    ⟨some 1, .asg (.t 26), none⟩] [0, 1, 5]))))))
  (.reg [⟨some 10, .mv (.t 5), none⟩,
    ⟨some 11, .bin .add (.t 10) (.c (.int .i64 1)), none⟩,
    ⟨some 5, .asg (.t 11), none⟩] [0, 1, 5])))))))
  (.seq (.reg [⟨some 27, .mv (.t 1), none⟩,
    ⟨some 4, .asg (.t 27), none⟩] [0, 4])
  (.ret)))
theorem con_laws_markVariableS {v0 : (List XVariable)} {v1 : Int} {r : ((List XVariable) × Int)} (h : sh_laws_markVariableS v0 v1 = some r) : Con Try.prog 22 [(cLo (cXVariable cS cI)).enc v0, cI.enc v1] (outsOf (some (os_laws_markVariableS r))) (rs_laws_markVariableS r) := by
  delta sh_laws_markVariableS at h
  refine top (out := some (os_laws_markVariableS r)) (f := Try.f22) (m := m22) (rs := [.t 4]) (by kernel_rfl) rfl (by kernel_rfl) (by kernel_rfl) (by kernel_rfl) (by kernel_rfl) (by kernel_rfl) ?_
  exact
   ini [(0, .d ((cLo (cXVariable cS cI)).enc v0)), (1, .d (cI.enc v1))] rfl <| wpC_seq <| reg_s <| x_asg (sc cI (0 : Int) rfl) <| seqN [(0, .d ((cLo (cXVariable cS cI)).enc v0)), (1, .d (cI.enc v1))] (by kernel_rfl) <|
    xn <| wpC_seq <| wpC_kp <| wpC_seq <| reg_s <| x_asg (sc cI (0 : Int) rfl) <| seqN [(0, .d ((cLo (cXVariable cS cI)).enc v0)), (1, .d (cI.enc v1)), (5, .d (cI.enc (0 : Int)))] (by kernel_rfl) <|
    xn <| wpC_blk <| lpF (fun (s144 : ((List XVariable) × Int × Int)) => [(0, .d ((cLo (cXVariable cS cI)).enc s144.1)), (1, .d (cI.enc s144.2.1)), (5, .d (cI.enc s144.2.2))]) (v0, v1, (0 : Int)) rfl h
    fun G241 nx239 s144 hn240 h => wpC_seq <| wpC_kp <| wpC_seq <| reg_s <| st rfl <| mvd rfl rfl <| st rfl <| mvo rfl rfl <| stw rfl <| leno rfl fun l246 => st rfl <| b_lss (k := .i64) rfl rfl <| seqN [(0, .d ((cLo (cXVariable cS cI)).enc s144.1)), (1, .d (cI.enc s144.2.1)), (5, .d (cI.enc s144.2.2)), (9, .d (cB.enc (decide (s144.2.2 < (s144.1.length : Int)))))] (by kernel_rfl) <|
    xn <| cnd rfl h (fun b247 h => wpC_skip <| kpN [(0, .d ((cLo (cXVariable cS cI)).enc s144.1)), (1, .d (cI.enc s144.2.1)), (5, .d (cI.enc s144.2.2))] (by kernel_rfl) <| xn <| wpC_seq <| wpC_kp <| wpC_blk <| wpC_seq <| reg_s <| st rfl <| mvo rfl rfl <| st rfl <| mvd rfl rfl <| st rfl <| mvd rfl rfl <| bnd h fun x272 e273 h => st rfl <| o_call (a1 (c := cI) tK rfl a0) (con_laws_markText e273) (.inl (so1 sS so0)) <| getO_k h fun x274 i275 g276 h => st rfl <| iar rfl rfl rfl rfl i275 g276 rfl <| st rfl <| faa rfl rfl (Gt.idx g276 Gt.nil) rfl rfl rfl <| x_sta ((cLo (cXVariable cS cI)).enc (s144.1.set (s144.2.2).toNat (⟨x272, x274.Levels⟩ : XVariable))) (ss rfl rfl) rfl rfl (Ln.idx g276 (Ln.fld rfl rfl Ln.nil rfl)) (Cd.h_sz cS _) rfl <| seqN [(0, .d ((cLo (cXVariable cS cI)).enc (s144.1.set (s144.2.2).toNat (⟨x272, x274.Levels⟩ : XVariable)))), (1, .d (cI.enc s144.2.1)), (5, .d (cI.enc s144.2.2))] (by kernel_rfl) <|
    xn <| wpC_seq <| reg_s <| st rfl <| mvd rfl rfl <| ckI_k h fun i278 h => st rfl <| b_add (k := .i64) rfl rfl i278 <| x_asg (ss rfl rfl) <| seqN [(0, .d ((cLo (cXVariable cS cI)).enc (s144.1.set (s144.2.2).toNat (⟨x272, x274.Levels⟩ : XVariable)))), (1, .d (cI.enc (s144.2.1 + (1 : Int)))), (5, .d (cI.enc s144.2.2))] (by kernel_rfl) <|
    xn <| wpC_seq <| reg_s <| st rfl <| mvo rfl rfl <| st rfl <| mvd rfl rfl <| st rfl <| mvd rfl rfl <| getO_k h fun x282 i283 g284 h => st rfl <| iar rfl rfl rfl rfl i283 g284 rfl <| st rfl <| faa rfl rfl (Gt.idx g284 Gt.nil) rfl rfl rfl <| x_sta ((cLo (cXVariable cS cI)).enc ((s144.1.set (s144.2.2).toNat (⟨x272, x274.Levels⟩ : XVariable)).set (s144.2.2).toNat (⟨x282.Name, (s144.2.1 + (1 : Int))⟩ : XVariable))) (ss rfl rfl) rfl rfl (Ln.idx g284 (Ln.fld rfl rfl Ln.nil rfl)) (Cd.h_sz cI _) rfl <| seqN [(0, .d ((cLo (cXVariable cS cI)).enc ((s144.1.set (s144.2.2).toNat (⟨x272, x274.Levels⟩ : XVariable)).set (s144.2.2).toNat (⟨x282.Name, (s144.2.1 + (1 : Int))⟩ : XVariable)))), (1, .d (cI.enc (s144.2.1 + (1 : Int)))), (5, .d (cI.enc s144.2.2))] (by kernel_rfl) <|
    xn <| reg_s <| st rfl <| mvd rfl rfl <| ckI_k h fun i285 h => st rfl <| b_add (k := .i64) rfl rfl i285 <| x_asg (ss rfl rfl) <| seqN [(0, .d ((cLo (cXVariable cS cI)).enc ((s144.1.set (s144.2.2).toNat (⟨x272, x274.Levels⟩ : XVariable)).set (s144.2.2).toNat (⟨x282.Name, (s144.2.1 + (1 : Int))⟩ : XVariable)))), (1, .d (cI.enc ((s144.2.1 + (1 : Int)) + (1 : Int)))), (5, .d (cI.enc s144.2.2))] (by kernel_rfl) <|
    xbb <| kpN [(0, .d ((cLo (cXVariable cS cI)).enc ((s144.1.set (s144.2.2).toNat (⟨x272, x274.Levels⟩ : XVariable)).set (s144.2.2).toNat (⟨x282.Name, (s144.2.1 + (1 : Int))⟩ : XVariable)))), (1, .d (cI.enc ((s144.2.1 + (1 : Int)) + (1 : Int)))), (5, .d (cI.enc s144.2.2))] (by kernel_rfl) <| xn <| reg_s <| st rfl <| mvd rfl rfl <| ckI_k h fun i286 h => st rfl <| b_add (k := .i64) rfl rfl i286 <| x_asg (ss rfl rfl) <| seqN [(0, .d ((cLo (cXVariable cS cI)).enc ((s144.1.set (s144.2.2).toNat (⟨x272, x274.Levels⟩ : XVariable)).set (s144.2.2).toNat (⟨x282.Name, (s144.2.1 + (1 : Int))⟩ : XVariable)))), (1, .d (cI.enc ((s144.2.1 + (1 : Int)) + (1 : Int)))), (5, .d (cI.enc (s144.2.2 + (1 : Int))))] (by kernel_rfl) <|
    xn <| hn240 (((s144.1.set (s144.2.2).toNat (⟨x272, x274.Levels⟩ : XVariable)).set (s144.2.2).toNat (⟨x282.Name, (s144.2.1 + (1 : Int))⟩ : XVariable)), ((s144.2.1 + (1 : Int)) + (1 : Int)), (s144.2.2 + (1 : Int))) h)
    (fun b247 h => wpC_exit <| xt <| xt <| xt <| xb <| kpN [(0, .d ((cLo (cXVariable cS cI)).enc s144.1)), (1, .d (cI.enc s144.2.1))] (by kernel_rfl) <| xn <| wpC_seq <| reg_s <| st rfl <| mvd rfl rfl <| x_asg (ss rfl rfl) <| seqN [(0, .d ((cLo (cXVariable cS cI)).enc s144.1)), (4, .d (cI.enc s144.2.1))] (by kernel_rfl) <|
    xn <| wpC_ret <| re <| finO h (r1 (ss rfl rfl) <| r0) rfl rfl)

def os_laws_markIntS (r : ((List Int) × Int)) : D := (cLo cI).enc r.1
def rs_laws_markIntS (r : ((List Int) × Int)) : List D := [cI.enc r.2]
def m38 : MC := .seq (.reg [⟨some 4, .asg (.c (.int .i64 0)), none⟩] [0, 1])
  (.seq (.kp [0, 1] (.seq (.reg [⟨some 5, .asg (.c (.int .i64 0)), none⟩] [0, 1, 5])
  (.blk 0 (.loop (.seq (.kp [0, 1, 5] (.seq (.reg [⟨some 6, .mv (.t 5), none⟩,
    ⟨some 7, .mv (.t 0), none⟩,
    ⟨some 8, .len false (.t 7), none⟩,
    ⟨some 9, .bin .lss (.t 6) (.t 8), none⟩] [0, 1, 5, 9])
  (.cond (.t 9) (.skip) (.exit 0))))
  (.seq (.kp [0, 1, 5] (.blk 1 (.seq (.reg [⟨some 12, .mv (.t 0), none⟩,
    ⟨some 13, .mv (.t 5), none⟩,
    ⟨some 14, .mv (.t 1), none⟩,
    ⟨some 15, .ia 12 (.t 13) 1, none⟩,
    ⟨none, .st 15 (.t 14) 1, none⟩] [0, 1, 5])
  (.reg [⟨some 16, .mv (.t 1), none⟩,
    ⟨some 17, .bin .add (.t 16) (.c (.int .i64 1)), none⟩,
    ⟨some 1, .asg (.t 17), none⟩] [0, 1, 5]))))
  (.reg [⟨some 10, .mv (.t 5), none⟩,
    ⟨some 11, .bin .add (.t 10) (.c (.int .i64 1)), none⟩,
    ⟨some 5, .asg (.t 11), none⟩] [0, 1, 5])))))))
  (.seq (.reg [⟨some 18, .mv (.t 1), none⟩,
    ⟨some 4, .asg (.t 18), none⟩] [0, 4])
  (.ret)))
theorem con_laws_markIntS {v0 : (List Int)} {v1 : Int} {r : ((List Int) × Int)} (h : sh_laws_markIntS v0 v1 = some r) : Con Try.prog 38 [(cLo cI).enc v0, cI.enc v1] (outsOf (some (os_laws_markIntS r))) (rs_laws_markIntS r) := by
  delta sh_laws_markIntS at h
  refine top (out := some (os_laws_markIntS r)) (f := Try.f38) (m := m38) (rs := [.t 4]) (by kernel_rfl) rfl (by kernel_rfl) (by kernel_rfl) (by kernel_rfl) (by kernel_rfl) (by kernel_rfl) ?_
  exact
   ini [(0, .d ((cLo cI).enc v0)), (1, .d (cI.enc v1))] rfl <| wpC_seq <| reg_s <| x_asg (sc cI (0 : Int) rfl) <| seqN [(0, .d ((cLo cI).enc v0)), (1, .d (cI.enc v1))] (by kernel_rfl) <|
    xn <| wpC_seq <| wpC_kp <| wpC_seq <| reg_s <| x_asg (sc cI (0 : Int) rfl) <| seqN [(0, .d ((cLo cI).enc v0)), (1, .d (cI.enc v1)), (5, .d (cI.enc (0 : Int)))] (by kernel_rfl) <|
    xn <| wpC_blk <| lpF (fun (s72 : ((List Int) × Int × Int)) => [(0, .d ((cLo cI).enc s72.1)), (1, .d (cI.enc s72.2.1)), (5, .d (cI.enc s72.2.2))]) (v0, v1, (0 : Int)) rfl h
    fun G121 nx119 s72 hn120 h => wpC_seq <| wpC_kp <| wpC_seq <| reg_s <| st rfl <| mvd rfl rfl <| st rfl <| mvo rfl rfl <| stw rfl <| leno rfl fun l126 => st rfl <| b_lss (k := .i64) rfl rfl <| seqN [(0, .d ((cLo cI).enc s72.1)), (1, .d (cI.enc s72.2.1)), (5, .d (cI.enc s72.2.2)), (9, .d (cB.enc (decide (s72.2.2 < (s72.1.length : Int)))))] (by kernel_rfl) <|
    xn <| cnd rfl h (fun b127 h => wpC_skip <| kpN [(0, .d ((cLo cI).enc s72.1)), (1, .d (cI.enc s72.2.1)), (5, .d (cI.enc s72.2.2))] (by kernel_rfl) <| xn <| wpC_seq <| wpC_kp <| wpC_blk <| wpC_seq <| reg_s <| st rfl <| mvo rfl rfl <| st rfl <| mvd rfl rfl <| st rfl <| mvd rfl rfl <| getO_k h fun x138 i139 g140 h => st rfl <| iar rfl rfl rfl rfl i139 g140 rfl <| x_sta ((cLo cI).enc (s72.1.set (s72.2.2).toNat s72.2.1)) (ss rfl rfl) rfl rfl (Ln.idx g140 Ln.nil) (Cd.h_sz cI _) rfl <| seqN [(0, .d ((cLo cI).enc (s72.1.set (s72.2.2).toNat s72.2.1))), (1, .d (cI.enc s72.2.1)), (5, .d (cI.enc s72.2.2))] (by kernel_rfl) <|
    xn <| reg_s <| st rfl <| mvd rfl rfl <| ckI_k h fun i141 h => st rfl <| b_add (k := .i64) rfl rfl i141 <| x_asg (ss rfl rfl) <| seqN [(0, .d ((cLo cI).enc (s72.1.set (s72.2.2).toNat s72.2.1))), (1, .d (cI.enc (s72.2.1 + (1 : Int)))), (5, .d (cI.enc s72.2.2))] (by kernel_rfl) <|
    xbb <| kpN [(0, .d ((cLo cI).enc (s72.1.set (s72.2.2).toNat s72.2.1))), (1, .d (cI.enc (s72.2.1 + (1 : Int)))), (5, .d (cI.enc s72.2.2))] (by kernel_rfl) <| xn <| reg_s <| st rfl <| mvd rfl rfl <| ckI_k h fun i142 h => st rfl <| b_add (k := .i64) rfl rfl i142 <| x_asg (ss rfl rfl) <| seqN [(0, .d ((cLo cI).enc (s72.1.set (s72.2.2).toNat s72.2.1))), (1, .d (cI.enc (s72.2.1 + (1 : Int)))), (5, .d (cI.enc (s72.2.2 + (1 : Int))))] (by kernel_rfl) <|
    xn <| hn120 ((s72.1.set (s72.2.2).toNat s72.2.1), (s72.2.1 + (1 : Int)), (s72.2.2 + (1 : Int))) h)
    (fun b127 h => wpC_exit <| xt <| xt <| xt <| xb <| kpN [(0, .d ((cLo cI).enc s72.1)), (1, .d (cI.enc s72.2.1))] (by kernel_rfl) <| xn <| wpC_seq <| reg_s <| st rfl <| mvd rfl rfl <| x_asg (ss rfl rfl) <| seqN [(0, .d ((cLo cI).enc s72.1)), (4, .d (cI.enc s72.2.1))] (by kernel_rfl) <|
    xn <| wpC_ret <| re <| finO h (r1 (ss rfl rfl) <| r0) rfl rfl)

def os_laws_markEdit (r : (XEdit × Int)) : D := (cXEdit (cLo cI)).enc r.1
def rs_laws_markEdit (r : (XEdit × Int)) : List D := [cI.enc r.2]
def m23 : MC := .seq (.reg [⟨some 2, .boxm 0, none⟩,
    ⟨some 4, .asg (.c (.int .i64 0)), none⟩] [0, 1, 2])
  (.seq (.reg [⟨some 5, .fa 2 0 0, none⟩,
    ⟨some 6, .ld 5 1 false, none⟩,
    ⟨some 7, .mv (.t 1), none⟩,
    ⟨some 8, .callO 38 [(.t 6), (.t 7)], none⟩,
    ⟨some 1, .asg (.t 8), none⟩] [0, 1])
  (.seq (.reg [⟨some 9, .mv (.t 1), none⟩,
    ⟨some 4, .asg (.t 9), none⟩] [0, 4])
  (.ret)))
theorem con_laws_markEdit {v0 : XEdit} {v1 : Int} {r : (XEdit × Int)} (h : sh_laws_markEdit v0 v1 = some r) : Con Try.prog 23 [(cXEdit (cLo cI)).enc v0, cI.enc v1] (outsOf (some (os_laws_markEdit r))) (rs_laws_markEdit r) := by
  delta sh_laws_markEdit at h
  refine top (out := some (os_laws_markEdit r)) (f := Try.f23) (m := m23) (rs := [.t 4]) (by kernel_rfl) rfl (by kernel_rfl) (by kernel_rfl) (by kernel_rfl) (by kernel_rfl) (by kernel_rfl) ?_
  exact
   ini [(0, .d ((cXEdit (cLo cI)).enc v0)), (1, .d (cI.enc v1))] rfl <| wpC_seq <| reg_s <| x_boxm rfl rfl <| x_asg (sc cI (0 : Int) rfl) <| seqN [(0, .d ((cXEdit (cLo cI)).enc v0)), (1, .d (cI.enc v1)), (2, .mad 0 [])] (by kernel_rfl) <|
    xn <| wpC_seq <| reg_s <| st rfl <| fam rfl rfl rfl rfl rfl rfl <| st rfl <| ldmo rfl rfl rfl rfl rfl rfl <| st rfl <| mvd rfl rfl <| bnd h fun x3 e4 h => x_clr (c := (cLo cI)) (c' := (cLo cI)) ((cXEdit (cLo cI)).enc (⟨x3.1⟩ : XEdit)) (sLo sK) rfl (a1 (c := cI) tK rfl a0) rfl (Ln.fld rfl rfl Ln.nil rfl) (con_laws_markIntS e4) rfl rfl (so1 sK so0) <| x_asg (ss rfl rfl) <| seqN [(0, .d ((cXEdit (cLo cI)).enc (⟨x3.1⟩ : XEdit))), (1, .d (cI.enc x3.2))] (by kernel_rfl) <|
    xn <| wpC_seq <| reg_s <| st rfl <| mvd rfl rfl <| x_asg (ss rfl rfl) <| seqN [(0, .d ((cXEdit (cLo cI)).enc (⟨x3.1⟩ : XEdit))), (4, .d (cI.enc x3.2))] (by kernel_rfl) <|
    xn <| wpC_ret <| re <| finO h (r1 (ss rfl rfl) <| r0) rfl rfl

def rs_laws_heldIntS (r : Int) : List D := [cI.enc r]
def m39 : MC := .seq (.reg [⟨some 4, .asg (.c (.int .i64 0)), none⟩] [0, 1])
  (.seq (.kp [1] (.seq (.reg [⟨some 5, .asg (.c (.int .i64 0)), none⟩] [0, 1, 5])
  (.blk 0 (.loop (.seq (.kp [0, 1, 5] (.seq (.reg [⟨some 6, .mv (.t 5), none⟩,
    ⟨some 7, .mv (.t 0), none⟩,
    ⟨some 8, .len false (.t 7), none⟩,
    ⟨some 9, .bin .lss (.t 6) (.t 8), none⟩] [0, 1, 5, 9])
  (.cond (.t 9) (.skip) (.exit 0))))
  (.seq (.kp [0, 1, 5] (.blk 1 (.seq (.kp [0, 1, 5] (.seq (.reg [⟨some 12, .mv (.t 0), none⟩,
    ⟨some 13, .mv (.t 5), none⟩,
    ⟨some 14, .ia 12 (.t 13) 1, none⟩,
    ⟨some 15, .ld 14 1 false, none⟩,
    ⟨some 16, .mv (.t 1), none⟩,
    ⟨some 17, .bin .neq (.t 15) (.t 16), none⟩] [0, 1, 5, 17])
  (.cond (.t 17) (.seq (.reg [⟨some 4, .asg (.c (.int .i64 (-1))), none⟩] [4])
  (.ret)) (.skip))))
  (.reg [⟨some 18, .mv (.t 1), none⟩,
    ⟨some 19, .bin .add (.t 18) (.c (.int .i64 1)), none⟩,
    ⟨some 1, .asg (.t 19), none⟩] [0, 1, 5]))))
  (.reg [⟨some 10, .mv (.t 5), none⟩,
    ⟨some 11, .bin .add (.t 10) (.c (.int .i64 1)), none⟩,
    ⟨some 5, .asg (.t 11), none⟩] [0, 1, 5])))))))
  (.seq (.reg [⟨some 20, .mv (.t 1), none⟩,
    ⟨some 4, .asg (.t 20), none⟩] [4])
  (.ret)))
theorem con_laws_heldIntS {v0 : (List Int)} {v1 : Int} {r : Int} (h : sh_laws_heldIntS v0 v1 = some r) : Con Try.prog 39 [(cLs cI rfl).enc v0, cI.enc v1] [] (rs_laws_heldIntS r) := by
  delta sh_laws_heldIntS at h
  refine top (out := none) (f := Try.f39) (m := m39) (rs := [.t 4]) (by kernel_rfl) rfl (by kernel_rfl) (by kernel_rfl) (by kernel_rfl) (by kernel_rfl) (by kernel_rfl) ?_
  exact
   ini [(0, .d ((cLs cI rfl).enc v0)), (1, .d (cI.enc v1))] rfl <| wpC_seq <| reg_s <| x_asg (sc cI (0 : Int) rfl) <| seqN [(0, .d ((cLs cI rfl).enc v0)), (1, .d (cI.enc v1))] (by kernel_rfl) <|
    xn <| wpC_seq <| wpC_kp <| wpC_seq <| reg_s <| x_asg (sc cI (0 : Int) rfl) <| seqN [(0, .d ((cLs cI rfl).enc v0)), (1, .d (cI.enc v1)), (5, .d (cI.enc (0 : Int)))] (by kernel_rfl) <|
    xn <| wpC_blk <| lpF (fun (s120 : (Int × Int)) => [(0, .d ((cLs cI rfl).enc v0)), (1, .d (cI.enc s120.1)), (5, .d (cI.enc s120.2))]) (v1, (0 : Int)) rfl h
    fun G201 nx199 s120 hn200 h => wpC_seq <| wpC_kp <| wpC_seq <| reg_s <| st rfl <| mvd rfl rfl <| st rfl <| mvd rfl rfl <| stw rfl <| lens rfl fun l206 => st rfl <| b_lss (k := .i64) rfl rfl <| seqN [(0, .d ((cLs cI rfl).enc v0)), (1, .d (cI.enc s120.1)), (5, .d (cI.enc s120.2)), (9, .d (cB.enc (decide (s120.2 < (v0.length : Int)))))] (by kernel_rfl) <|
    xn <| cnd rfl h (fun b207 h => wpC_skip <| kpN [(0, .d ((cLs cI rfl).enc v0)), (1, .d (cI.enc s120.1)), (5, .d (cI.enc s120.2))] (by kernel_rfl) <| xn <| wpC_seq <| wpC_kp <| wpC_blk <| wpC_seq <| wpC_kp <| wpC_seq <| reg_s <| st rfl <| mvd rfl rfl <| st rfl <| mvd rfl rfl <| getO_k h fun x233 i234 g235 h => st rfl <| ias rfl rfl i234 g235 rfl <| st rfl <| ldi rfl rfl rfl rfl <| st rfl <| mvd rfl rfl <| st rfl <| b_neq (k := .i64) rfl rfl <| seqN [(0, .d ((cLs cI rfl).enc v0)), (1, .d (cI.enc s120.1)), (5, .d (cI.enc s120.2)), (17, .d (cB.enc (decide (x233 ≠ s120.1))))] (by kernel_rfl) <|
    xn <| cnd rfl h (fun b236 h => wpC_seq <| reg_s <| x_asg (sc cI (-1 : Int) rfl) <| seqN [(4, .d (cI.enc (-1 : Int)))] (by kernel_rfl) <|
    xn <| wpC_ret <| rt <| rt <| rb <| rt <| rt <| rt <| rb <| rt <| rt <| re <| fin h (r1 (ss rfl rfl) <| r0) rfl)
    (fun b236 h => wpC_skip <| kpN [(0, .d ((cLs cI rfl).enc v0)), (1, .d (cI.enc s120.1)), (5, .d (cI.enc s120.2))] (by kernel_rfl) <| xn <| reg_s <| st rfl <| mvd rfl rfl <| ckI_k h fun i237 h => st rfl <| b_add (k := .i64) rfl rfl i237 <| x_asg (ss rfl rfl) <| seqN [(0, .d ((cLs cI rfl).enc v0)), (1, .d (cI.enc (s120.1 + (1 : Int)))), (5, .d (cI.enc s120.2))] (by kernel_rfl) <|
    xbb <| kpN [(0, .d ((cLs cI rfl).enc v0)), (1, .d (cI.enc (s120.1 + (1 : Int)))), (5, .d (cI.enc s120.2))] (by kernel_rfl) <| xn <| reg_s <| st rfl <| mvd rfl rfl <| ckI_k h fun i238 h => st rfl <| b_add (k := .i64) rfl rfl i238 <| x_asg (ss rfl rfl) <| seqN [(0, .d ((cLs cI rfl).enc v0)), (1, .d (cI.enc (s120.1 + (1 : Int)))), (5, .d (cI.enc (s120.2 + (1 : Int))))] (by kernel_rfl) <|
    xn <| hn200 ((s120.1 + (1 : Int)), (s120.2 + (1 : Int))) h))
    (fun b207 h => wpC_exit <| xt <| xt <| xt <| xb <| kpN [(1, .d (cI.enc s120.1))] (by kernel_rfl) <| xn <| wpC_seq <| reg_s <| st rfl <| mvd rfl rfl <| x_asg (ss rfl rfl) <| seqN [(4, .d (cI.enc s120.1))] (by kernel_rfl) <|
    xn <| wpC_ret <| re <| fin h (r1 (ss rfl rfl) <| r0) rfl)

def rs_laws_heldEdit (r : Int) : List D := [cI.enc r]
def m24 : MC := .seq (.reg [⟨some 2, .box (.t 0), none⟩,
    ⟨some 4, .asg (.c (.int .i64 0)), none⟩] [1, 2])
  (.seq (.reg [⟨some 5, .fa 2 0 0, none⟩,
    ⟨some 6, .ld 5 1 false, none⟩,
    ⟨some 7, .mv (.t 1), none⟩,
    ⟨some 8, .call 39 [(.t 6), (.t 7)], none⟩,
    ⟨some 1, .asg (.t 8), none⟩] [1])
  (.seq (.kp [1] (.seq (.reg [⟨some 9, .mv (.t 1), none⟩,
    ⟨some 10, .bin .lss (.t 9) (.c (.int .i64 0)), none⟩] [1, 10])
  (.cond (.t 10) (.seq (.reg [⟨some 4, .asg (.c (.int .i64 (-1))), none⟩] [4])
  (.ret)) (.skip))))
  (.seq (.reg [⟨some 11, .mv (.t 1), none⟩,
    ⟨some 4, .asg (.t 11), none⟩] [4])
  (.ret))))
theorem con_laws_heldEdit {v0 : XEdit} {v1 : Int} {r : Int} (h : sh_laws_heldEdit v0 v1 = some r) : Con Try.prog 24 [(cXEdit (cLs cI rfl)).enc v0, cI.enc v1] [] (rs_laws_heldEdit r) := by
  delta sh_laws_heldEdit at h
  refine top (out := none) (f := Try.f24) (m := m24) (rs := [.t 4]) (by kernel_rfl) rfl (by kernel_rfl) (by kernel_rfl) (by kernel_rfl) (by kernel_rfl) (by kernel_rfl) ?_
  exact
   ini [(0, .d ((cXEdit (cLs cI rfl)).enc v0)), (1, .d (cI.enc v1))] rfl <| wpC_seq <| reg_s <| x_box (ss rfl rfl) <| x_asg (sc cI (0 : Int) rfl) <| seqN [(1, .d (cI.enc v1)), (2, .box ((cXEdit (cLs cI rfl)).enc v0))] (by kernel_rfl) <|
    xn <| wpC_seq <| reg_s <| st rfl <| fab rfl rfl rfl rfl <| st rfl <| lda rfl rfl rfl rfl rfl rfl <| st rfl <| mvd rfl rfl <| bnd h fun x3 e4 h => st rfl <| o_call (a1 (c := (cLs cI rfl)) (tLs tK) rfl (a1 (c := cI) tK rfl a0)) (con_laws_heldIntS e4) (.inl (so1 sK so0)) <| x_asg (ss rfl rfl) <| seqN [(1, .d (cI.enc x3))] (by kernel_rfl) <|
    xn <| wpC_seq <| wpC_kp <| wpC_seq <| reg_s <| st rfl <| mvd rfl rfl <| st rfl <| b_lss (k := .i64) rfl rfl <| seqN [(1, .d (cI.enc x3)), (10, .d (cB.enc (decide (x3 < (0 : Int)))))] (by kernel_rfl) <|
    xn <| cnd rfl h (fun b6 h => wpC_seq <| reg_s <| x_asg (sc cI (-1 : Int) rfl) <| seqN [(4, .d (cI.enc (-1 : Int)))] (by kernel_rfl) <|
    xn <| wpC_ret <| rt <| rt <| re <| fin h (r1 (ss rfl rfl) <| r0) rfl)
    (fun b6 h => wpC_skip <| kpN [(1, .d (cI.enc x3))] (by kernel_rfl) <| xn <| wpC_seq <| reg_s <| st rfl <| mvd rfl rfl <| x_asg (ss rfl rfl) <| seqN [(4, .d (cI.enc x3))] (by kernel_rfl) <|
    xn <| wpC_ret <| re <| fin h (r1 (ss rfl rfl) <| r0) rfl)

def rs_laws_FnExactResolveEdits (r : Bool) : List D := [cB.enc r]
def m3 : MC := .seq (.reg [⟨some 5, .box (.t 1), none⟩,
    ⟨some 6, .box (.t 2), none⟩,
    ⟨some 8, .asg (.c (.bool false)), none⟩] [0, 3, 5, 6])
  (.seq (.reg [⟨some 9, .asg (.c (.int .i64 1048576)), none⟩] [0, 3, 5, 6, 9])
  (.seq (.reg [⟨some 22, .mv (.t 0), none⟩,
    ⟨some 23, .mv (.t 9), none⟩,
    ⟨some 24, .call 14 [(.t 22), (.t 23)], none⟩,
    ⟨some 9, .asg (.t 24), none⟩] [0, 3, 5, 6, 9])
  (.seq (.kp [0, 3, 5, 6, 9] (.seq (.reg [⟨some 25, .mv (.t 9), none⟩,
    ⟨some 26, .bin .lss (.t 25) (.c (.int .i64 0)), none⟩] [0, 3, 5, 6, 9, 26])
  (.cond (.t 26) (.seq (.reg [⟨some 8, .asg (.c (.bool true)), none⟩] [8])
  (.ret)) (.skip))))
  (.seq (.reg [⟨some 27, .ld 5 1 true, none⟩,
    ⟨some 28, .mv (.t 9), none⟩,
    ⟨some 29, .call 15 [(.t 27), (.t 28)], none⟩,
    ⟨some 9, .asg (.t 29), none⟩] [0, 3, 5, 6, 9])
  (.seq (.kp [0, 3, 5, 6, 9] (.seq (.reg [⟨some 30, .mv (.t 9), none⟩,
    ⟨some 31, .bin .lss (.t 30) (.c (.int .i64 0)), none⟩] [0, 3, 5, 6, 9, 31])
  (.cond (.t 31) (.seq (.reg [⟨some 8, .asg (.c (.bool true)), none⟩] [8])
  (.ret)) (.skip))))
  (.seq (.reg [⟨some 32, .ld 6 1 true, none⟩,
    ⟨some 33, .mv (.t 9), none⟩,
    ⟨some 34, .call 15 [(.t 32), (.t 33)], none⟩,
    ⟨some 9, .asg (.t 34), none⟩] [0, 3, 5, 6, 9])
  (.seq (.kp [0, 3, 5, 6] (.seq (.reg [⟨some 35, .mv (.t 9), none⟩,
    ⟨some 36, .bin .lss (.t 35) (.c (.int .i64 0)), none⟩] [0, 3, 5, 6, 36])
  (.cond (.t 36) (.seq (.reg [⟨some 8, .asg (.c (.bool true)), none⟩] [8])
  (.ret)) (.skip))))
  (.seq (.drg [⟨0, ⟨some 38, .mv (.t 0), none⟩, [10, 39, 40, 41, 42, 43, 44, 45]⟩,
    ⟨1, ⟨some 39, .call 17 [(.t 38)], none⟩, [10, 40, 41, 42, 43, 44, 45]⟩,
    ⟨2, ⟨some 40, .ld 5 1 true, none⟩, [10, 38, 39, 41, 42, 43, 44, 45]⟩,
    ⟨3, ⟨some 41, .call 18 [(.t 40)], none⟩, [10, 42, 43, 44, 45]⟩,
    ⟨4, ⟨some 42, .ld 6 1 true, none⟩, [10, 38, 39, 40, 41, 43, 44, 45]⟩,
    ⟨5, ⟨some 43, .call 18 [(.t 42)], none⟩, [10, 44, 45]⟩,
    ⟨6, ⟨some 44, .mv (.t 3), none⟩, [10, 38, 39, 40, 41, 42, 43, 45]⟩,
    ⟨7, ⟨some 45, .call 16 [(.t 39), (.t 41), (.t 43), (.t 44)], none⟩, [10]⟩,
    ⟨11, ⟨some 10, .alloc (.agg [.slice true []]), none⟩, [38, 39, 40, 41, 42, 43, 44, 45]⟩]
    [(11, ⟨some 10, .alloc (.agg [.slice true []]), none⟩),
    (8, ⟨some 37, .mvt 45, none⟩),
    (9, ⟨some 46, .ext 37 0, none⟩),
    (10, ⟨some 47, .ext 37 1, none⟩),
    (12, ⟨none, .st 10 (.t 46) 1, none⟩),
    (13, ⟨some 11, .asg (.t 47), none⟩)] [0, 3, 5, 6, 10, 11] [10, 11, 37, 45, 46, 47, 0, 3, 5, 6] [([false, false, false, false, false, false], 0), ([false, false, false, false, false, false], 1), ([true, false, false, false, false, false], 1), ([false, true, false, false, false, false], 0), ([false, true, false, false, false, false], 2), ([false, true, false, false, false, false], 3), ([true, true, false, false, false, false], 2), ([true, true, false, false, false, false], 3), ([false, true, true, false, false, false], 0), ([false, true, true, false, false, false], 3), ([false, true, false, true, false, false], 0), ([false, true, false, true, false, false], 2), ([true, true, true, false, false, false], 3), ([true, true, true, false, false, false], 4), ([true, true, false, true, false, false], 2), ([false, true, true, true, false, false], 0), ([true, true, true, true, false, false], 4), ([true, true, true, false, true, false], 3), ([true, true, true, true, true, false], 5)])
  (.seq (.reg [⟨some 48, .mv (.t 0), none⟩,
    ⟨some 49, .call 17 [(.t 48)], none⟩,
    ⟨some 12, .asg (.t 49), none⟩] [0, 3, 5, 6, 10, 11, 12])
  (.seq (.reg [⟨some 50, .ld 5 1 true, none⟩,
    ⟨some 51, .call 18 [(.t 50)], none⟩,
    ⟨some 13, .alloc (.agg [.slice true []]), none⟩,
    ⟨none, .st 13 (.t 51) 1, none⟩] [0, 3, 5, 6, 10, 11, 12, 13])
  (.seq (.reg [⟨some 52, .ld 6 1 true, none⟩,
    ⟨some 53, .call 18 [(.t 52)], none⟩,
    ⟨some 14, .alloc (.agg [.slice true []]), none⟩,
    ⟨none, .st 14 (.t 53) 1, none⟩] [0, 3, 5, 6, 10, 11, 12, 13, 14])
  (.seq (.reg [⟨some 55, .mv (.t 12), none⟩,
    ⟨some 56, .ld 13 1 true, none⟩,
    ⟨some 57, .ld 14 1 true, none⟩,
    ⟨some 58, .mv (.t 3), none⟩,
    ⟨some 59, .call 19 [(.t 55), (.t 56), (.t 57), (.t 58)], none⟩,
    ⟨some 54, .mvt 59, none⟩,
    ⟨some 60, .ext 54 0, none⟩,
    ⟨some 61, .ext 54 1, none⟩,
    ⟨some 15, .alloc (.agg [.slice true []]), none⟩,
    ⟨none, .st 15 (.t 60) 1, none⟩,
    ⟨some 16, .asg (.t 61), none⟩] [0, 3, 5, 6, 10, 11, 12, 13, 14, 15, 16])
  (.seq (.kp [0, 3, 5, 6, 10, 11, 12, 13, 14, 15, 16] (.seq (.reg [⟨some 62, .ld 15 1 true, none⟩,
    ⟨some 63, .ld 10 1 true, none⟩,
    ⟨some 64, .call 20 [(.t 62), (.t 63)], none⟩,
    ⟨some 65, .nt (.t 64), none⟩,
    ⟨some 66, .mv (.t 65), none⟩,
    ⟨some 67, .mv (.t 16), some (66, false)⟩,
    ⟨some 68, .mv (.t 11), some (66, false)⟩,
    ⟨some 69, .eqb true (.t 67) (.t 68), some (66, false)⟩,
    ⟨some 70, .pick (.t 66) (.c (.bool true)) (.t 69), none⟩] [0, 3, 5, 6, 10, 11, 12, 13, 14, 15, 16, 70])
  (.cond (.t 70) (.seq (.reg [⟨some 8, .asg (.c (.bool false)), none⟩] [8])
  (.ret)) (.skip))))
  (.seq (.kp [0, 3, 5, 6, 10, 11, 12, 13, 14, 15, 16] (.seq (.reg [⟨some 71, .mv (.t 12), none⟩,
    ⟨some 72, .mv (.t 0), none⟩,
    ⟨some 73, .call 17 [(.t 72)], none⟩,
    ⟨some 74, .call 21 [(.t 71), (.t 73)], none⟩,
    ⟨some 75, .nt (.t 74), none⟩] [0, 3, 5, 6, 10, 11, 12, 13, 14, 15, 16, 75])
  (.cond (.t 75) (.seq (.reg [⟨some 8, .asg (.c (.bool false)), none⟩] [8])
  (.ret)) (.skip))))
  (.seq (.kp [0, 3, 5, 6, 10, 11, 12, 13, 14, 15, 16] (.seq (.drw [⟨0, ⟨some 76, .ld 13 1 true, none⟩, [77, 78, 79, 80]⟩,
    ⟨1, ⟨some 77, .ld 5 1 true, none⟩, [76, 78, 79, 80]⟩,
    ⟨2, ⟨some 78, .call 18 [(.t 77)], none⟩, [76, 79, 80]⟩,
    ⟨3, ⟨some 79, .call 20 [(.t 76), (.t 78)], none⟩, [80]⟩,
    ⟨4, ⟨some 80, .nt (.t 79), none⟩, []⟩]
    [] [0, 3, 5, 6, 10, 11, 12, 13, 14, 15, 16, 80])
  (.cond (.t 80) (.seq (.reg [⟨some 8, .asg (.c (.bool false)), none⟩] [8])
  (.ret)) (.skip))))
  (.seq (.kp [0, 3, 5, 6, 10, 11, 12, 13, 14, 15, 16] (.seq (.drw [⟨0, ⟨some 81, .ld 14 1 true, none⟩, [82, 83, 84, 85]⟩,
    ⟨1, ⟨some 82, .ld 6 1 true, none⟩, [81, 83, 84, 85]⟩,
    ⟨2, ⟨some 83, .call 18 [(.t 82)], none⟩, [81, 84, 85]⟩,
    ⟨3, ⟨some 84, .call 20 [(.t 81), (.t 83)], none⟩, [85]⟩,
    ⟨4, ⟨some 85, .nt (.t 84), none⟩, []⟩]
    [] [0, 3, 5, 6, 10, 11, 12, 13, 14, 15, 16, 85])
  (.cond (.t 85) (.seq (.reg [⟨some 8, .asg (.c (.bool false)), none⟩] [8])
  (.ret)) (.skip))))
  (.seq (.reg [⟨some 17, .asg (.c (.int .i64 1)), none⟩] [0, 3, 5, 6, 10, 11, 12, 13, 14, 15, 16, 17])
  (.seq (.reg [⟨some 86, .mv (.t 12), none⟩,
    ⟨some 87, .mv (.t 17), none⟩,
    ⟨some 88, .callO 22 [(.t 86), (.t 87)], none⟩,
    ⟨some 17, .asg (.t 88), none⟩] [0, 3, 5, 6, 10, 11, 13, 14, 15, 16, 17])
  (.seq (.reg [⟨some 89, .ld 13 1 true, none⟩,
    ⟨some 90, .mv (.t 17), none⟩,
    ⟨some 91, .callO 23 [(.t 89), (.t 90)], none⟩,
    ⟨some 17, .asg (.t 91), none⟩] [0, 3, 5, 6, 10, 11, 14, 15, 16, 17])
  (.seq (.reg [⟨some 92, .ld 14 1 true, none⟩,
    ⟨some 93, .mv (.t 17), none⟩,
    ⟨some 94, .callO 23 [(.t 92), (.t 93)], none⟩,
    ⟨some 17, .asg (.t 94), none⟩] [0, 3, 5, 6, 10, 11, 15, 16, 17])
  (.seq (.kp [0, 3, 5, 6, 10, 11, 15] (.seq (.reg [⟨some 95, .mv (.t 17), none⟩,
    ⟨some 96, .bin .lss (.t 95) (.c (.int .i64 0)), none⟩,
    ⟨some 97, .mv (.t 96), none⟩,
    ⟨some 98, .ld 15 1 true, some (97, false)⟩,
    ⟨some 99, .ld 10 1 true, some (97, false)⟩,
    ⟨some 100, .call 20 [(.t 98), (.t 99)], some (97, false)⟩,
    ⟨some 101, .nt (.t 100), some (97, false)⟩,
    ⟨some 102, .pick (.t 97) (.c (.bool true)) (.t 101), none⟩,
    ⟨some 103, .mv (.t 102), none⟩,
    ⟨some 104, .mv (.t 16), some (103, false)⟩,
    ⟨some 105, .mv (.t 11), some (103, false)⟩,
    ⟨some 106, .eqb true (.t 104) (.t 105), some (103, false)⟩,
    ⟨some 107, .pick (.t 103) (.c (.bool true)) (.t 106), none⟩] [0, 3, 5, 6, 10, 11, 15, 107])
  (.cond (.t 107) (.seq (.reg [⟨some 8, .asg (.c (.bool false)), none⟩] [8])
  (.ret)) (.skip))))
  (.seq (.reg [⟨some 18, .asg (.c (.int .i64 1)), none⟩] [0, 3, 5, 6, 10, 11, 15, 18])
  (.seq (.reg [⟨some 108, .ld 15 1 true, none⟩,
    ⟨some 109, .mv (.t 18), none⟩,
    ⟨some 110, .callO 23 [(.t 108), (.t 109)], none⟩,
    ⟨some 18, .asg (.t 110), none⟩] [0, 3, 5, 6, 10, 11, 15, 18])
  (.seq (.reg [⟨some 19, .asg (.c (.int .i64 1)), none⟩] [0, 3, 5, 6, 10, 11, 15, 18, 19])
  (.seq (.reg [⟨some 111, .ld 15 1 true, none⟩,
    ⟨some 112, .mv (.t 19), none⟩,
    ⟨some 113, .call 24 [(.t 111), (.t 112)], none⟩,
    ⟨some 19, .asg (.t 113), none⟩] [0, 3, 5, 6, 10, 11, 15, 18, 19])
  (.seq (.kp [0, 3, 5, 6, 10, 11, 15, 18, 19] (.seq (.reg [⟨some 114, .mv (.t 19), none⟩,
    ⟨some 115, .bin .lss (.t 114) (.c (.int .i64 0)), none⟩] [0, 3, 5, 6, 10, 11, 15, 18, 19, 115])
  (.cond (.t 115) (.seq (.reg [⟨some 8, .asg (.c (.bool false)), none⟩] [8])
  (.ret)) (.skip))))
  (.seq (.kp [0, 3, 5, 6, 10, 11, 15, 18] (.seq (.reg [⟨some 116, .mv (.t 19), none⟩,
    ⟨some 117, .mv (.t 18), none⟩,
    ⟨some 118, .bin .neq (.t 116) (.t 117), none⟩] [0, 3, 5, 6, 10, 11, 15, 18, 118])
  (.cond (.t 118) (.seq (.reg [⟨some 8, .asg (.c (.bool false)), none⟩] [8])
  (.ret)) (.skip))))
  (.seq (.drg [⟨0, ⟨some 120, .mv (.t 0), none⟩, [20, 121, 122, 123, 124, 125, 126, 127]⟩,
    ⟨1, ⟨some 121, .call 17 [(.t 120)], none⟩, [20, 122, 123, 124, 125, 126, 127]⟩,
    ⟨2, ⟨some 122, .ld 5 1 true, none⟩, [20, 120, 121, 123, 124, 125, 126, 127]⟩,
    ⟨3, ⟨some 123, .call 18 [(.t 122)], none⟩, [20, 124, 125, 126, 127]⟩,
    ⟨4, ⟨some 124, .ld 6 1 true, none⟩, [20, 120, 121, 122, 123, 125, 126, 127]⟩,
    ⟨5, ⟨some 125, .call 18 [(.t 124)], none⟩, [20, 126, 127]⟩,
    ⟨6, ⟨some 126, .mv (.t 3), none⟩, [20, 120, 121, 122, 123, 124, 125, 127]⟩,
    ⟨7, ⟨some 127, .call 19 [(.t 121), (.t 123), (.t 125), (.t 126)], none⟩, [20]⟩,
    ⟨11, ⟨some 20, .alloc (.agg [.slice true []]), none⟩, [120, 121, 122, 123, 124, 125, 126, 127]⟩]
    [(11, ⟨some 20, .alloc (.agg [.slice true []]), none⟩),
    (8, ⟨some 119, .mvt 127, none⟩),
    (9, ⟨some 128, .ext 119 0, none⟩),
    (10, ⟨some 129, .ext 119 1, none⟩),
    (12, ⟨none, .st 20 (.t 128) 1, none⟩),
    (13, ⟨some 21, .asg (.t 129), none⟩)] [10, 11, 15, 18, 20, 21] [20, 21, 119, 127, 128, 129, 10, 11, 15, 18] [([false, false, false, false, false, false], 0), ([false, false, false, false, false, false], 1), ([true, false, false, false, false, false], 1), ([false, true, false, false, false, false], 0), ([false, true, false, false, false, false], 2), ([false, true, false, false, false, false], 3), ([true, true, false, false, false, false], 2), ([true, true, false, false, false, false], 3), ([false, true, true, false, false, false], 0), ([false, true, true, false, false, false], 3), ([false, true, false, true, false, false], 0), ([false, true, false, true, false, false], 2), ([true, true, true, false, false, false], 3), ([true, true, true, false, false, false], 4), ([true, true, false, true, false, false], 2), ([false, true, true, true, false, false], 0), ([true, true, true, true, false, false], 4), ([true, true, true, false, true, false], 3), ([true, true, true, true, true, false], 5)])
  (.seq (.kp [15, 18] (.seq (.reg [⟨some 130, .ld 20 1 true, none⟩,
    ⟨some 131, .ld 10 1 true, none⟩,
    ⟨some 132, .call 20 [(.t 130), (.t 131)], none⟩,
    ⟨some 133, .nt (.t 132), none⟩,
    ⟨some 134, .mv (.t 133), none⟩,
    ⟨some 135, .mv (.t 21), some (134, false)⟩,
    ⟨some 136, .mv (.t 11), some (134, false)⟩,
    ⟨some 137, .eqb true (.t 135) (.t 136), some (134, false)⟩,
    ⟨some 138, .pick (.t 134) (.c (.bool true)) (.t 137), none⟩] [15, 18, 138])
  (.cond (.t 138) (.seq (.reg [⟨some 8, .asg (.c (.bool false)), none⟩] [8])
  (.ret)) (.skip))))
  (.seq (.reg [⟨some 19, .asg (.c (.int .i64 1)), none⟩] [15, 18, 19])
  (.seq (.reg [⟨some 139, .ld 15 1 true, none⟩,
    ⟨some 140, .mv (.t 19), none⟩,
    ⟨some 141, .call 24 [(.t 139), (.t 140)], none⟩,
    ⟨some 19, .asg (.t 141), none⟩] [18, 19])
  (.seq (.kp [18, 19] (.seq (.reg [⟨some 142, .mv (.t 19), none⟩,
    ⟨some 143, .bin .lss (.t 142) (.c (.int .i64 0)), none⟩] [18, 19, 143])
  (.cond (.t 143) (.seq (.reg [⟨some 8, .asg (.c (.bool false)), none⟩] [8])
  (.ret)) (.skip))))
  (.seq (.kp [] (.seq (.reg [⟨some 144, .mv (.t 19), none⟩,
    ⟨some 145, .mv (.t 18), none⟩,
    ⟨some 146, .bin .neq (.t 144) (.t 145), none⟩] [146])
  (.cond (.t 146) (.seq (.reg [⟨some 8, .asg (.c (.bool false)), none⟩] [8])
  (.ret)) (.skip))))
  (.seq (.reg [⟨some 8, .asg (.c (.bool true)), none⟩] [8])
  (.ret)))))))))))))))))))))))))))))))))))
theorem con_laws_FnExactResolveEdits {v0 : (List XVariable)} {v1 : XEdit} {v2 : XEdit} {v3 : Int} {r : Bool} (h : sh_laws_FnExactResolveEdits v0 v1 v2 v3 = some r) : Con Try.prog 3 [(cLs (cXVariable cS cI) rfl).enc v0, (cXEdit (cLs cI rfl)).enc v1, (cXEdit (cLs cI rfl)).enc v2, cI.enc v3] [] (rs_laws_FnExactResolveEdits r) := by
  delta sh_laws_FnExactResolveEdits at h
  refine top (out := none) (f := Try.f3) (m := m3) (rs := [.t 8]) (by kernel_rfl) rfl (by kernel_rfl) (by kernel_rfl) (by kernel_rfl) (by kernel_rfl) (by kernel_rfl) ?_
  exact
   ini [(0, .d ((cLs (cXVariable cS cI) rfl).enc v0)), (1, .d ((cXEdit (cLs cI rfl)).enc v1)), (2, .d ((cXEdit (cLs cI rfl)).enc v2)), (3, .d (cI.enc v3))] rfl <| wpC_seq <| reg_s <| x_box (ss rfl rfl) <| x_box (ss rfl rfl) <| x_asg (sc cB false rfl) <| seqN [(0, .d ((cLs (cXVariable cS cI) rfl).enc v0)), (3, .d (cI.enc v3)), (5, .box ((cXEdit (cLs cI rfl)).enc v1)), (6, .box ((cXEdit (cLs cI rfl)).enc v2))] (by kernel_rfl) <|
    xn <| wpC_seq <| reg_s <| x_asg (sc cI (1048576 : Int) rfl) <| seqN [(0, .d ((cLs (cXVariable cS cI) rfl).enc v0)), (3, .d (cI.enc v3)), (5, .box ((cXEdit (cLs cI rfl)).enc v1)), (6, .box ((cXEdit (cLs cI rfl)).enc v2)), (9, .d (cI.enc (1048576 : Int)))] (by kernel_rfl) <|
    xn <| wpC_seq <| reg_s <| st rfl <| mvd rfl rfl <| st rfl <| mvd rfl rfl <| bnd h fun x3 e4 h => st rfl <| o_call (a1 (c := (cLs (cXVariable cS cI) rfl)) (tLs (tXVariable tS tK)) rfl (a1 (c := cI) tK rfl a0)) (con_laws_szVariableS e4) (.inl (so1 sK so0)) <| x_asg (ss rfl rfl) <| seqN [(0, .d ((cLs (cXVariable cS cI) rfl).enc v0)), (3, .d (cI.enc v3)), (5, .box ((cXEdit (cLs cI rfl)).enc v1)), (6, .box ((cXEdit (cLs cI rfl)).enc v2)), (9, .d (cI.enc x3))] (by kernel_rfl) <|
    xn <| wpC_seq <| wpC_kp <| wpC_seq <| reg_s <| st rfl <| mvd rfl rfl <| st rfl <| b_lss (k := .i64) rfl rfl <| seqN [(0, .d ((cLs (cXVariable cS cI) rfl).enc v0)), (3, .d (cI.enc v3)), (5, .box ((cXEdit (cLs cI rfl)).enc v1)), (6, .box ((cXEdit (cLs cI rfl)).enc v2)), (9, .d (cI.enc x3)), (26, .d (cB.enc (decide (x3 < (0 : Int)))))] (by kernel_rfl) <|
    xn <| cnd rfl h (fun b6 h => wpC_seq <| reg_s <| x_asg (sc cB true rfl) <| seqN [(8, .d (cB.enc true))] (by kernel_rfl) <|
    xn <| wpC_ret <| rt <| rt <| re <| fin h (r1 (ss rfl rfl) <| r0) rfl)
    (fun b6 h => wpC_skip <| kpN [(0, .d ((cLs (cXVariable cS cI) rfl).enc v0)), (3, .d (cI.enc v3)), (5, .box ((cXEdit (cLs cI rfl)).enc v1)), (6, .box ((cXEdit (cLs cI rfl)).enc v2)), (9, .d (cI.enc x3))] (by kernel_rfl) <| xn <| wpC_seq <| reg_s <| st rfl <| ldb rfl rfl rfl rfl <| st rfl <| mvd rfl rfl <| bnd h fun x9 e10 h => st rfl <| o_call (a1 (c := (cXEdit (cLs cI rfl))) (tXEdit (tLs tK)) rfl (a1 (c := cI) tK rfl a0)) (con_laws_szEdit e10) (.inl (so1 sK so0)) <| x_asg (ss rfl rfl) <| seqN [(0, .d ((cLs (cXVariable cS cI) rfl).enc v0)), (3, .d (cI.enc v3)), (5, .box ((cXEdit (cLs cI rfl)).enc v1)), (6, .box ((cXEdit (cLs cI rfl)).enc v2)), (9, .d (cI.enc x9))] (by kernel_rfl) <|
    xn <| wpC_seq <| wpC_kp <| wpC_seq <| reg_s <| st rfl <| mvd rfl rfl <| st rfl <| b_lss (k := .i64) rfl rfl <| seqN [(0, .d ((cLs (cXVariable cS cI) rfl).enc v0)), (3, .d (cI.enc v3)), (5, .box ((cXEdit (cLs cI rfl)).enc v1)), (6, .box ((cXEdit (cLs cI rfl)).enc v2)), (9, .d (cI.enc x9)), (31, .d (cB.enc (decide (x9 < (0 : Int)))))] (by kernel_rfl) <|
    xn <| cnd rfl h (fun b12 h => wpC_seq <| reg_s <| x_asg (sc cB true rfl) <| seqN [(8, .d (cB.enc true))] (by kernel_rfl) <|
    xn <| wpC_ret <| rt <| rt <| re <| fin h (r1 (ss rfl rfl) <| r0) rfl)
    (fun b12 h => wpC_skip <| kpN [(0, .d ((cLs (cXVariable cS cI) rfl).enc v0)), (3, .d (cI.enc v3)), (5, .box ((cXEdit (cLs cI rfl)).enc v1)), (6, .box ((cXEdit (cLs cI rfl)).enc v2)), (9, .d (cI.enc x9))] (by kernel_rfl) <| xn <| wpC_seq <| reg_s <| st rfl <| ldb rfl rfl rfl rfl <| st rfl <| mvd rfl rfl <| bnd h fun x15 e16 h => st rfl <| o_call (a1 (c := (cXEdit (cLs cI rfl))) (tXEdit (tLs tK)) rfl (a1 (c := cI) tK rfl a0)) (con_laws_szEdit e16) (.inl (so1 sK so0)) <| x_asg (ss rfl rfl) <| seqN [(0, .d ((cLs (cXVariable cS cI) rfl).enc v0)), (3, .d (cI.enc v3)), (5, .box ((cXEdit (cLs cI rfl)).enc v1)), (6, .box ((cXEdit (cLs cI rfl)).enc v2)), (9, .d (cI.enc x15))] (by kernel_rfl) <|
    xn <| wpC_seq <| wpC_kp <| wpC_seq <| reg_s <| st rfl <| mvd rfl rfl <| st rfl <| b_lss (k := .i64) rfl rfl <| seqN [(0, .d ((cLs (cXVariable cS cI) rfl).enc v0)), (3, .d (cI.enc v3)), (5, .box ((cXEdit (cLs cI rfl)).enc v1)), (6, .box ((cXEdit (cLs cI rfl)).enc v2)), (36, .d (cB.enc (decide (x15 < (0 : Int)))))] (by kernel_rfl) <|
    xn <| cnd rfl h (fun b18 h => wpC_seq <| reg_s <| x_asg (sc cB true rfl) <| seqN [(8, .d (cB.enc true))] (by kernel_rfl) <|
    xn <| wpC_ret <| rt <| rt <| re <| fin h (r1 (ss rfl rfl) <| r0) rfl)
    (fun b18 h => wpC_skip <| kpN [(0, .d ((cLs (cXVariable cS cI) rfl).enc v0)), (3, .d (cI.enc v3)), (5, .box ((cXEdit (cLs cI rfl)).enc v1)), (6, .box ((cXEdit (cLs cI rfl)).enc v2))] (by kernel_rfl) <| xn <| wpC_seq <| drg_s <| pst rfl <| mvd rfl rfl ⟨rfl, bndp h fun x27 e28 h => pst rfl <| o_call (a1 (c := (cLs (cXVariable cS cI) rfl)) (tLs (tXVariable tS tK)) rfl a0) (con_laws_toVariableS e28) (.inl (so1 (sLo (sXVariable sS sK)) so0)) ⟨rfl, pst rfl <| ldb rfl rfl rfl rfl ⟨rfl, bndp h fun x29 e30 h => pst rfl <| o_call (a1 (c := (cXEdit (cLs cI rfl))) (tXEdit (tLs tK)) rfl a0) (con_laws_toEdit e30) (.inl (so1 (sXEdit (sLo sK)) so0)) ⟨rfl, pst rfl <| ldb rfl rfl rfl rfl ⟨rfl, bndp h fun x31 e32 h => pst rfl <| o_call (a1 (c := (cXEdit (cLs cI rfl))) (tXEdit (tLs tK)) rfl a0) (con_laws_toEdit e32) (.inl (so1 (sXEdit (sLo sK)) so0)) ⟨rfl, pst rfl <| mvd rfl rfl ⟨rfl, bndp h fun x33 e34 h => pst rfl <| o_call (a1 (c := (cLo (cXVariable cS cI))) (tLo (tXVariable tS tK)) rfl (a1 (c := (cXEdit (cLo cI))) (tXEdit (tLo tK)) rfl (a1 (c := (cXEdit (cLo cI))) (tXEdit (tLo tK)) rfl (a1 (c := cI) tK rfl a0)))) (con_spec_ResolveEdits e34) (.inl (so1 (sXEdit (sLo sK)) (so1 sB so0))) ⟨rfl, pst rfl <| p_all (cXEdit (cLo cI)) (⟨([] : List Int)⟩ : XEdit) rfl ⟨rfl, preN <| gr_s [(0, .d ((cLs (cXVariable cS cI) rfl).enc v0)), (3, .d (cI.enc v3)), (5, .box ((cXEdit (cLs cI rfl)).enc v1)), (6, .box ((cXEdit (cLs cI rfl)).enc v2))] [([false, false, false, false, false, false], [(10, .un), (11, .un), (37, .un), (45, .tup [some ((cXEdit (cLo cI)).enc x33.1), some (cB.enc x33.2)]), (46, .un), (47, .un)]),
     ([true, false, false, false, false, false], [(10, .box ((cXEdit (cLo cI)).enc (⟨([] : List Int)⟩ : XEdit))), (11, .un), (37, .un), (45, .tup [some ((cXEdit (cLo cI)).enc x33.1), some (cB.enc x33.2)]), (46, .un), (47, .un)]),
     ([false, true, false, false, false, false], [(10, .un), (11, .un), (37, .tup [some ((cXEdit (cLo cI)).enc x33.1), some (cB.enc x33.2)]), (45, .un), (46, .un), (47, .un)]),
     ([true, true, false, false, false, false], [(10, .box ((cXEdit (cLo cI)).enc (⟨([] : List Int)⟩ : XEdit))), (11, .un), (37, .tup [some ((cXEdit (cLo cI)).enc x33.1), some (cB.enc x33.2)]), (45, .un), (46, .un), (47, .un)]),
     ([false, true, true, false, false, false], [(10, .un), (11, .un), (37, .tup [none, some (cB.enc x33.2)]), (45, .un), (46, .d ((cXEdit (cLo cI)).enc x33.1)), (47, .un)]),
     ([false, true, false, true, false, false], [(10, .un), (11, .un), (37, .tup [some ((cXEdit (cLo cI)).enc x33.1), none]), (45, .un), (46, .un), (47, .d (cB.enc x33.2))]),
     ([true, true, true, false, false, false], [(10, .box ((cXEdit (cLo cI)).enc (⟨([] : List Int)⟩ : XEdit))), (11, .un), (37, .tup [none, some (cB.enc x33.2)]), (45, .un), (46, .d ((cXEdit (cLo cI)).enc x33.1)), (47, .un)]),
     ([true, true, false, true, false, false], [(10, .box ((cXEdit (cLo cI)).enc (⟨([] : List Int)⟩ : XEdit))), (11, .un), (37, .tup [some ((cXEdit (cLo cI)).enc x33.1), none]), (45, .un), (46, .un), (47, .d (cB.enc x33.2))]),
     ([false, true, true, true, false, false], [(10, .un), (11, .un), (37, .tup [none, none]), (45, .un), (46, .d ((cXEdit (cLo cI)).enc x33.1)), (47, .d (cB.enc x33.2))]),
     ([true, true, true, true, false, false], [(10, .box ((cXEdit (cLo cI)).enc (⟨([] : List Int)⟩ : XEdit))), (11, .un), (37, .tup [none, none]), (45, .un), (46, .d ((cXEdit (cLo cI)).enc x33.1)), (47, .d (cB.enc x33.2))]),
     ([true, true, true, false, true, false], [(10, .box ((cXEdit (cLo cI)).enc x33.1)), (11, .un), (37, .tup [none, some (cB.enc x33.2)]), (45, .un), (46, .un), (47, .un)]),
     ([true, true, true, true, true, false], [(10, .box ((cXEdit (cLo cI)).enc x33.1)), (11, .un), (37, .tup [none, none]), (45, .un), (46, .un), (47, .d (cB.enc x33.2))]),
     ([true, true, true, true, true, true], [(10, .box ((cXEdit (cLo cI)).enc x33.1)), (11, .d (cB.enc x33.2)), (37, .tup [none, none]), (45, .un), (46, .un), (47, .d (cB.enc x33.2))])] [(0, .d ((cLs (cXVariable cS cI) rfl).enc v0)), (3, .d (cI.enc v3)), (5, .box ((cXEdit (cLs cI rfl)).enc v1)), (6, .box ((cXEdit (cLs cI rfl)).enc v2)), (10, .box ((cXEdit (cLo cI)).enc x33.1)), (11, .d (cB.enc x33.2))] [([false, false, false, false, false, false], [10]), ([true, false, false, false, false, false], [])] (by kernel_rfl) (sa1 rfl (by kernel_rfl) <| sa1 rfl (by kernel_rfl) <| sa0) rfl
    (ob1 rfl rfl rfl (x_all (cXEdit (cLo cI)) (⟨([] : List Int)⟩ : XEdit) rfl <| obN (by kernel_rfl)) <|
    ob1 rfl rfl rfl (x_mvt rfl <| obN (by kernel_rfl)) <|
    ob1 rfl rfl rfl (x_mvt rfl <| obN (by kernel_rfl)) <|
    ob1 rfl rfl rfl (x_all (cXEdit (cLo cI)) (⟨([] : List Int)⟩ : XEdit) rfl <| obN (by kernel_rfl)) <|
    ob1 rfl rfl rfl (x_ext rfl rfl <| obN (by kernel_rfl)) <|
    ob1 rfl rfl rfl (x_ext rfl rfl <| obN (by kernel_rfl)) <|
    ob1 rfl rfl rfl (x_ext rfl rfl <| obN (by kernel_rfl)) <|
    ob1 rfl rfl rfl (x_ext rfl rfl <| obN (by kernel_rfl)) <|
    ob1 rfl rfl rfl (x_all (cXEdit (cLo cI)) (⟨([] : List Int)⟩ : XEdit) rfl <| obN (by kernel_rfl)) <|
    ob1 rfl rfl rfl (x_ext rfl rfl <| obN (by kernel_rfl)) <|
    ob1 rfl rfl rfl (x_all (cXEdit (cLo cI)) (⟨([] : List Int)⟩ : XEdit) rfl <| obN (by kernel_rfl)) <|
    ob1 rfl rfl rfl (x_ext rfl rfl <| obN (by kernel_rfl)) <|
    ob1 rfl rfl rfl (x_ext rfl rfl <| obN (by kernel_rfl)) <|
    ob1 rfl rfl rfl (x_stb (so rfl rfl) rfl (Cd.h_sz _ _) rfl <| obN (by kernel_rfl)) <|
    ob1 rfl rfl rfl (x_ext rfl rfl <| obN (by kernel_rfl)) <|
    ob1 rfl rfl rfl (x_all (cXEdit (cLo cI)) (⟨([] : List Int)⟩ : XEdit) rfl <| obN (by kernel_rfl)) <|
    ob1 rfl rfl rfl (x_stb (so rfl rfl) rfl (Cd.h_sz _ _) rfl <| obN (by kernel_rfl)) <|
    ob1 rfl rfl rfl (x_ext rfl rfl <| obN (by kernel_rfl)) <|
    ob1 rfl rfl rfl (x_asg (ss rfl rfl) <| obN (by kernel_rfl)) <|
    ob0)
    (by kernel_rfl) <|
    xn <| wpC_seq <| reg_s <| st rfl <| mvd rfl rfl <| bnd h fun x37 e38 h => st rfl <| o_call (a1 (c := (cLs (cXVariable cS cI) rfl)) (tLs (tXVariable tS tK)) rfl a0) (con_laws_toVariableS e38) (.inl (so1 (sLo (sXVariable sS sK)) so0)) <| x_asg (so rfl rfl) <| seqN [(0, .d ((cLs (cXVariable cS cI) rfl).enc v0)), (3, .d (cI.enc v3)), (5, .box ((cXEdit (cLs cI rfl)).enc v1)), (6, .box ((cXEdit (cLs cI rfl)).enc v2)), (10, .box ((cXEdit (cLo cI)).enc x33.1)), (11, .d (cB.enc x33.2)), (12, .d ((cLo (cXVariable cS cI)).enc x37))] (by kernel_rfl) <|
    xn <| wpC_seq <| reg_s <| st rfl <| ldb rfl rfl rfl rfl <| bnd h fun x41 e42 h => st rfl <| o_call (a1 (c := (cXEdit (cLs cI rfl))) (tXEdit (tLs tK)) rfl a0) (con_laws_toEdit e42) (.inl (so1 (sXEdit (sLo sK)) so0)) <| x_all (cXEdit (cLo cI)) (⟨([] : List Int)⟩ : XEdit) rfl <| x_stb (so rfl rfl) rfl (Cd.h_sz _ _) rfl <| seqN [(0, .d ((cLs (cXVariable cS cI) rfl).enc v0)), (3, .d (cI.enc v3)), (5, .box ((cXEdit (cLs cI rfl)).enc v1)), (6, .box ((cXEdit (cLs cI rfl)).enc v2)), (10, .box ((cXEdit (cLo cI)).enc x33.1)), (11, .d (cB.enc x33.2)), (12, .d ((cLo (cXVariable cS cI)).enc x37)), (13, .box ((cXEdit (cLo cI)).enc x41))] (by kernel_rfl) <|
    xn <| wpC_seq <| reg_s <| st rfl <| ldb rfl rfl rfl rfl <| bnd h fun x45 e46 h => st rfl <| o_call (a1 (c := (cXEdit (cLs cI rfl))) (tXEdit (tLs tK)) rfl a0) (con_laws_toEdit e46) (.inl (so1 (sXEdit (sLo sK)) so0)) <| x_all (cXEdit (cLo cI)) (⟨([] : List Int)⟩ : XEdit) rfl <| x_stb (so rfl rfl) rfl (Cd.h_sz _ _) rfl <| seqN [(0, .d ((cLs (cXVariable cS cI) rfl).enc v0)), (3, .d (cI.enc v3)), (5, .box ((cXEdit (cLs cI rfl)).enc v1)), (6, .box ((cXEdit (cLs cI rfl)).enc v2)), (10, .box ((cXEdit (cLo cI)).enc x33.1)), (11, .d (cB.enc x33.2)), (12, .d ((cLo (cXVariable cS cI)).enc x37)), (13, .box ((cXEdit (cLo cI)).enc x41)), (14, .box ((cXEdit (cLo cI)).enc x45))] (by kernel_rfl) <|
    xn <| wpC_seq <| reg_s <| st rfl <| mvo rfl rfl <| st rfl <| ldbo rfl rfl rfl rfl <| st rfl <| ldbo rfl rfl rfl rfl <| st rfl <| mvd rfl rfl <| bnd h fun x49 e50 h => st rfl <| o_call (a1 (c := (cLo (cXVariable cS cI))) (tLo (tXVariable tS tK)) rfl (a1 (c := (cXEdit (cLo cI))) (tXEdit (tLo tK)) rfl (a1 (c := (cXEdit (cLo cI))) (tXEdit (tLo tK)) rfl (a1 (c := cI) tK rfl a0)))) (con_impl_ResolveEdits e50) (.inl (so1 (sXEdit (sLo sK)) (so1 sB so0))) <| x_mvt rfl <| x_ext rfl rfl <| x_ext rfl rfl <| x_all (cXEdit (cLo cI)) (⟨([] : List Int)⟩ : XEdit) rfl <| x_stb (so rfl rfl) rfl (Cd.h_sz _ _) rfl <| x_asg (ss rfl rfl) <| seqN [(0, .d ((cLs (cXVariable cS cI) rfl).enc v0)), (3, .d (cI.enc v3)), (5, .box ((cXEdit (cLs cI rfl)).enc v1)), (6, .box ((cXEdit (cLs cI rfl)).enc v2)), (10, .box ((cXEdit (cLo cI)).enc x33.1)), (11, .d (cB.enc x33.2)), (12, .d ((cLo (cXVariable cS cI)).enc x37)), (13, .box ((cXEdit (cLo cI)).enc x41)), (14, .box ((cXEdit (cLo cI)).enc x45)), (15, .box ((cXEdit (cLo cI)).enc x49.1)), (16, .d (cB.enc x49.2))] (by kernel_rfl) <|
    xn <| wpC_seq <| wpC_kp <| wpC_seq <| reg_s <| st rfl <| ldbo rfl rfl rfl rfl <| st rfl <| ldbo rfl rfl rfl rfl <| bnd h fun x61 e62 h => st rfl <| o_call (a1 (c := (cXEdit (cLo cI))) (tXEdit (tLo tK)) rfl (a1 (c := (cXEdit (cLo cI))) (tXEdit (tLo tK)) rfl a0)) (con_laws_eqEdit e62) (.inl (so1 sB so0)) <| st rfl <| o_nt rfl <| st rfl <| mvd rfl rfl <| ite_k h (fun b63 h => gf rfl b63 <| gf rfl b63 <| gf rfl b63 <| st rfl <| pick1 rfl b63 (cd := cB) (v := true) rfl rfl <| seqN [(0, .d ((cLs (cXVariable cS cI) rfl).enc v0)), (3, .d (cI.enc v3)), (5, .box ((cXEdit (cLs cI rfl)).enc v1)), (6, .box ((cXEdit (cLs cI rfl)).enc v2)), (10, .box ((cXEdit (cLo cI)).enc x33.1)), (11, .d (cB.enc x33.2)), (12, .d ((cLo (cXVariable cS cI)).enc x37)), (13, .box ((cXEdit (cLo cI)).enc x41)), (14, .box ((cXEdit (cLo cI)).enc x45)), (15, .box ((cXEdit (cLo cI)).enc x49.1)), (16, .d (cB.enc x49.2)), (70, .d (cB.enc true))] (by kernel_rfl) <|
    xn <| cnd1 rfl rfl <| wpC_seq <| reg_s <| x_asg (sc cB false rfl) <| seqN [(8, .d (cB.enc false))] (by kernel_rfl) <|
    xn <| wpC_ret <| rt <| rt <| re <| fin h (r1 (ss rfl rfl) <| r0) rfl)
    (fun b63 h => gt' rfl b63 <| st rfl <| mvd rfl rfl <| gt' rfl b63 <| st rfl <| mvd rfl rfl <| gt' rfl b63 <| st rfl <| eqb1 rfl rfl <| st rfl <| pick0 rfl b63 (cd := cB) (v := (x49.2 != x33.2)) rfl rfl <| seqN [(0, .d ((cLs (cXVariable cS cI) rfl).enc v0)), (3, .d (cI.enc v3)), (5, .box ((cXEdit (cLs cI rfl)).enc v1)), (6, .box ((cXEdit (cLs cI rfl)).enc v2)), (10, .box ((cXEdit (cLo cI)).enc x33.1)), (11, .d (cB.enc x33.2)), (12, .d ((cLo (cXVariable cS cI)).enc x37)), (13, .box ((cXEdit (cLo cI)).enc x41)), (14, .box ((cXEdit (cLo cI)).enc x45)), (15, .box ((cXEdit (cLo cI)).enc x49.1)), (16, .d (cB.enc x49.2)), (70, .d (cB.enc (x49.2 != x33.2)))] (by kernel_rfl) <|
    xn <| cnd rfl h (fun b64 h => wpC_seq <| reg_s <| x_asg (sc cB false rfl) <| seqN [(8, .d (cB.enc false))] (by kernel_rfl) <|
    xn <| wpC_ret <| rt <| rt <| re <| fin h (r1 (ss rfl rfl) <| r0) rfl)
    (fun b64 h => wpC_skip <| kpN [(0, .d ((cLs (cXVariable cS cI) rfl).enc v0)), (3, .d (cI.enc v3)), (5, .box ((cXEdit (cLs cI rfl)).enc v1)), (6, .box ((cXEdit (cLs cI rfl)).enc v2)), (10, .box ((cXEdit (cLo cI)).enc x33.1)), (11, .d (cB.enc x33.2)), (12, .d ((cLo (cXVariable cS cI)).enc x37)), (13, .box ((cXEdit (cLo cI)).enc x41)), (14, .box ((cXEdit (cLo cI)).enc x45)), (15, .box ((cXEdit (cLo cI)).enc x49.1)), (16, .d (cB.enc x49.2))] (by kernel_rfl) <| xn <| wpC_seq <| wpC_kp <| wpC_seq <| reg_s <| st rfl <| mvo rfl rfl <| st rfl <| mvd rfl rfl <| bnd h fun x78 e79 h => st rfl <| o_call (a1 (c := (cLs (cXVariable cS cI) rfl)) (tLs (tXVariable tS tK)) rfl a0) (con_laws_toVariableS e79) (.inl (so1 (sLo (sXVariable sS sK)) so0)) <| bnd h fun x80 e81 h => st rfl <| o_call (a1 (c := (cLo (cXVariable cS cI))) (tLo (tXVariable tS tK)) rfl (a1 (c := (cLo (cXVariable cS cI))) (tLo (tXVariable tS tK)) rfl a0)) (con_laws_eqVariableS e81) (.inl (so1 sB so0)) <| st rfl <| o_nt rfl <| seqN [(0, .d ((cLs (cXVariable cS cI) rfl).enc v0)), (3, .d (cI.enc v3)), (5, .box ((cXEdit (cLs cI rfl)).enc v1)), (6, .box ((cXEdit (cLs cI rfl)).enc v2)), (10, .box ((cXEdit (cLo cI)).enc x33.1)), (11, .d (cB.enc x33.2)), (12, .d ((cLo (cXVariable cS cI)).enc x37)), (13, .box ((cXEdit (cLo cI)).enc x41)), (14, .box ((cXEdit (cLo cI)).enc x45)), (15, .box ((cXEdit (cLo cI)).enc x49.1)), (16, .d (cB.enc x49.2)), (75, .d (cB.enc (!x80)))] (by kernel_rfl) <|
    xn <| cnd rfl h (fun b82 h => wpC_seq <| reg_s <| x_asg (sc cB false rfl) <| seqN [(8, .d (cB.enc false))] (by kernel_rfl) <|
    xn <| wpC_ret <| rt <| rt <| re <| fin h (r1 (ss rfl rfl) <| r0) rfl)
    (fun b82 h => wpC_skip <| kpN [(0, .d ((cLs (cXVariable cS cI) rfl).enc v0)), (3, .d (cI.enc v3)), (5, .box ((cXEdit (cLs cI rfl)).enc v1)), (6, .box ((cXEdit (cLs cI rfl)).enc v2)), (10, .box ((cXEdit (cLo cI)).enc x33.1)), (11, .d (cB.enc x33.2)), (12, .d ((cLo (cXVariable cS cI)).enc x37)), (13, .box ((cXEdit (cLo cI)).enc x41)), (14, .box ((cXEdit (cLo cI)).enc x45)), (15, .box ((cXEdit (cLo cI)).enc x49.1)), (16, .d (cB.enc x49.2))] (by kernel_rfl) <| xn <| wpC_seq <| wpC_kp <| wpC_seq <| drw_s <| pst rfl <| ldbo rfl rfl rfl rfl ⟨rfl, pst rfl <| ldb rfl rfl rfl rfl ⟨rfl, bndp h fun x96 e97 h => pst rfl <| o_call (a1 (c := (cXEdit (cLs cI rfl))) (tXEdit (tLs tK)) rfl a0) (con_laws_toEdit e97) (.inl (so1 (sXEdit (sLo sK)) so0)) ⟨rfl, bndp h fun x98 e99 h => pst rfl <| o_call (a1 (c := (cXEdit (cLo cI))) (tXEdit (tLo tK)) rfl (a1 (c := (cXEdit (cLo cI))) (tXEdit (tLo tK)) rfl a0)) (con_laws_eqEdit e99) (.inl (so1 sB so0)) ⟨rfl, pst rfl <| o_nt rfl ⟨rfl, preN <| seqN [(0, .d ((cLs (cXVariable cS cI) rfl).enc v0)), (3, .d (cI.enc v3)), (5, .box ((cXEdit (cLs cI rfl)).enc v1)), (6, .box ((cXEdit (cLs cI rfl)).enc v2)), (10, .box ((cXEdit (cLo cI)).enc x33.1)), (11, .d (cB.enc x33.2)), (12, .d ((cLo (cXVariable cS cI)).enc x37)), (13, .box ((cXEdit (cLo cI)).enc x41)), (14, .box ((cXEdit (cLo cI)).enc x45)), (15, .box ((cXEdit (cLo cI)).enc x49.1)), (16, .d (cB.enc x49.2)), (80, .d (cB.enc (!x98)))] (by kernel_rfl) <|
    xn <| cnd rfl h (fun b100 h => wpC_seq <| reg_s <| x_asg (sc cB false rfl) <| seqN [(8, .d (cB.enc false))] (by kernel_rfl) <|
    xn <| wpC_ret <| rt <| rt <| re <| fin h (r1 (ss rfl rfl) <| r0) rfl)
    (fun b100 h => wpC_skip <| kpN [(0, .d ((cLs (cXVariable cS cI) rfl).enc v0)), (3, .d (cI.enc v3)), (5, .box ((cXEdit (cLs cI rfl)).enc v1)), (6, .box ((cXEdit (cLs cI rfl)).enc v2)), (10, .box ((cXEdit (cLo cI)).enc x33.1)), (11, .d (cB.enc x33.2)), (12, .d ((cLo (cXVariable cS cI)).enc x37)), (13, .box ((cXEdit (cLo cI)).enc x41)), (14, .box ((cXEdit (cLo cI)).enc x45)), (15, .box ((cXEdit (cLo cI)).enc x49.1)), (16, .d (cB.enc x49.2))] (by kernel_rfl) <| xn <| wpC_seq <| wpC_kp <| wpC_seq <| drw_s <| pst rfl <| ldbo rfl rfl rfl rfl ⟨rfl, pst rfl <| ldb rfl rfl rfl rfl ⟨rfl, bndp h fun x114 e115 h => pst rfl <| o_call (a1 (c := (cXEdit (cLs cI rfl))) (tXEdit (tLs tK)) rfl a0) (con_laws_toEdit e115) (.inl (so1 (sXEdit (sLo sK)) so0)) ⟨rfl, bndp h fun x116 e117 h => pst rfl <| o_call (a1 (c := (cXEdit (cLo cI))) (tXEdit (tLo tK)) rfl (a1 (c := (cXEdit (cLo cI))) (tXEdit (tLo tK)) rfl a0)) (con_laws_eqEdit e117) (.inl (so1 sB so0)) ⟨rfl, pst rfl <| o_nt rfl ⟨rfl, preN <| seqN [(0, .d ((cLs (cXVariable cS cI) rfl).enc v0)), (3, .d (cI.enc v3)), (5, .box ((cXEdit (cLs cI rfl)).enc v1)), (6, .box ((cXEdit (cLs cI rfl)).enc v2)), (10, .box ((cXEdit (cLo cI)).enc x33.1)), (11, .d (cB.enc x33.2)), (12, .d ((cLo (cXVariable cS cI)).enc x37)), (13, .box ((cXEdit (cLo cI)).enc x41)), (14, .box ((cXEdit (cLo cI)).enc x45)), (15, .box ((cXEdit (cLo cI)).enc x49.1)), (16, .d (cB.enc x49.2)), (85, .d (cB.enc (!x116)))] (by kernel_rfl) <|
    xn <| cnd rfl h (fun b118 h => wpC_seq <| reg_s <| x_asg (sc cB false rfl) <| seqN [(8, .d (cB.enc false))] (by kernel_rfl) <|
    xn <| wpC_ret <| rt <| rt <| re <| fin h (r1 (ss rfl rfl) <| r0) rfl)
    (fun b118 h => wpC_skip <| kpN [(0, .d ((cLs (cXVariable cS cI) rfl).enc v0)), (3, .d (cI.enc v3)), (5, .box ((cXEdit (cLs cI rfl)).enc v1)), (6, .box ((cXEdit (cLs cI rfl)).enc v2)), (10, .box ((cXEdit (cLo cI)).enc x33.1)), (11, .d (cB.enc x33.2)), (12, .d ((cLo (cXVariable cS cI)).enc x37)), (13, .box ((cXEdit (cLo cI)).enc x41)), (14, .box ((cXEdit (cLo cI)).enc x45)), (15, .box ((cXEdit (cLo cI)).enc x49.1)), (16, .d (cB.enc x49.2))] (by kernel_rfl) <| xn <| wpC_seq <| reg_s <| x_asg (sc cI (1 : Int) rfl) <| seqN [(0, .d ((cLs (cXVariable cS cI) rfl).enc v0)), (3, .d (cI.enc v3)), (5, .box ((cXEdit (cLs cI rfl)).enc v1)), (6, .box ((cXEdit (cLs cI rfl)).enc v2)), (10, .box ((cXEdit (cLo cI)).enc x33.1)), (11, .d (cB.enc x33.2)), (12, .d ((cLo (cXVariable cS cI)).enc x37)), (13, .box ((cXEdit (cLo cI)).enc x41)), (14, .box ((cXEdit (cLo cI)).enc x45)), (15, .box ((cXEdit (cLo cI)).enc x49.1)), (16, .d (cB.enc x49.2)), (17, .d (cI.enc (1 : Int)))] (by kernel_rfl) <|
    xn <| wpC_seq <| reg_s <| st rfl <| mvo rfl rfl <| st rfl <| mvd rfl rfl <| bnd h fun x121 e122 h => x_clr (c := (cLo (cXVariable cS cI))) (c' := (cLo (cXVariable cS cI))) ((cLo (cXVariable cS cI)).enc x121.1) (sLo (sXVariable sS sK)) rfl (a1 (c := cI) tK rfl a0) rfl Ln.nil (con_laws_markVariableS e122) rfl rfl (so1 sK so0) <| x_asg (ss rfl rfl) <| seqN [(0, .d ((cLs (cXVariable cS cI) rfl).enc v0)), (3, .d (cI.enc v3)), (5, .box ((cXEdit (cLs cI rfl)).enc v1)), (6, .box ((cXEdit (cLs cI rfl)).enc v2)), (10, .box ((cXEdit (cLo cI)).enc x33.1)), (11, .d (cB.enc x33.2)), (13, .box ((cXEdit (cLo cI)).enc x41)), (14, .box ((cXEdit (cLo cI)).enc x45)), (15, .box ((cXEdit (cLo cI)).enc x49.1)), (16, .d (cB.enc x49.2)), (17, .d (cI.enc x121.2))] (by kernel_rfl) <|
    xn <| wpC_seq <| reg_s <| st rfl <| ldbo rfl rfl rfl rfl <| st rfl <| mvd rfl rfl <| bnd h fun x125 e126 h => x_clr (c := (cXEdit (cLo cI))) (c' := (cXEdit (cLo cI))) ((cXEdit (cLo cI)).enc x125.1) (sXEdit (sLo sK)) rfl (a1 (c := cI) tK rfl a0) rfl Ln.nil (con_laws_markEdit e126) rfl rfl (so1 sK so0) <| x_asg (ss rfl rfl) <| seqN [(0, .d ((cLs (cXVariable cS cI) rfl).enc v0)), (3, .d (cI.enc v3)), (5, .box ((cXEdit (cLs cI rfl)).enc v1)), (6, .box ((cXEdit (cLs cI rfl)).enc v2)), (10, .box ((cXEdit (cLo cI)).enc x33.1)), (11, .d (cB.enc x33.2)), (14, .box ((cXEdit (cLo cI)).enc x45)), (15, .box ((cXEdit (cLo cI)).enc x49.1)), (16, .d (cB.enc x49.2)), (17, .d (cI.enc x125.2))] (by kernel_rfl) <|
    xn <| wpC_seq <| reg_s <| st rfl <| ldbo rfl rfl rfl rfl <| st rfl <| mvd rfl rfl <| bnd h fun x129 e130 h => x_clr (c := (cXEdit (cLo cI))) (c' := (cXEdit (cLo cI))) ((cXEdit (cLo cI)).enc x129.1) (sXEdit (sLo sK)) rfl (a1 (c := cI) tK rfl a0) rfl Ln.nil (con_laws_markEdit e130) rfl rfl (so1 sK so0) <| x_asg (ss rfl rfl) <| seqN [(0, .d ((cLs (cXVariable cS cI) rfl).enc v0)), (3, .d (cI.enc v3)), (5, .box ((cXEdit (cLs cI rfl)).enc v1)), (6, .box ((cXEdit (cLs cI rfl)).enc v2)), (10, .box ((cXEdit (cLo cI)).enc x33.1)), (11, .d (cB.enc x33.2)), (15, .box ((cXEdit (cLo cI)).enc x49.1)), (16, .d (cB.enc x49.2)), (17, .d (cI.enc x129.2))] (by kernel_rfl) <|
    xn <| wpC_seq <| wpC_kp <| wpC_seq <| reg_s <| st rfl <| mvd rfl rfl <| st rfl <| b_lss (k := .i64) rfl rfl <| st rfl <| mvd rfl rfl <| ite_k h (fun b143 h => gf rfl b143 <| gf rfl b143 <| gf rfl b143 <| gf rfl b143 <| st rfl <| pick1 rfl b143 (cd := cB) (v := true) rfl rfl <| st rfl <| mvd rfl rfl <| gf rfl rfl <| gf rfl rfl <| gf rfl rfl <| st rfl <| pick1 rfl rfl (cd := cB) (v := true) rfl rfl <| seqN [(0, .d ((cLs (cXVariable cS cI) rfl).enc v0)), (3, .d (cI.enc v3)), (5, .box ((cXEdit (cLs cI rfl)).enc v1)), (6, .box ((cXEdit (cLs cI rfl)).enc v2)), (10, .box ((cXEdit (cLo cI)).enc x33.1)), (11, .d (cB.enc x33.2)), (15, .box ((cXEdit (cLo cI)).enc x49.1)), (107, .d (cB.enc true))] (by kernel_rfl) <|
    xn <| cnd1 rfl rfl <| wpC_seq <| reg_s <| x_asg (sc cB false rfl) <| seqN [(8, .d (cB.enc false))] (by kernel_rfl) <|
    xn <| wpC_ret <| rt <| rt <| re <| fin h (r1 (ss rfl rfl) <| r0) rfl)
    (fun b143 h => gt' rfl b143 <| st rfl <| ldbo rfl rfl rfl rfl <| gt' rfl b143 <| st rfl <| ldbo rfl rfl rfl rfl <| gt' rfl b143 <| bnd h fun x144 e145 h => st rfl <| o_call (a1 (c := (cXEdit (cLo cI))) (tXEdit (tLo tK)) rfl (a1 (c := (cXEdit (cLo cI))) (tXEdit (tLo tK)) rfl a0)) (con_laws_eqEdit e145) (.inl (so1 sB so0)) <| gt' rfl b143 <| st rfl <| o_nt rfl <| st rfl <| pick0 rfl b143 (cd := cB) (v := (!x144)) rfl rfl <| st rfl <| mvd rfl rfl <| ite_k h (fun b146 h => gf rfl b146 <| gf rfl b146 <| gf rfl b146 <| st rfl <| pick1 rfl b146 (cd := cB) (v := true) rfl rfl <| seqN [(0, .d ((cLs (cXVariable cS cI) rfl).enc v0)), (3, .d (cI.enc v3)), (5, .box ((cXEdit (cLs cI rfl)).enc v1)), (6, .box ((cXEdit (cLs cI rfl)).enc v2)), (10, .box ((cXEdit (cLo cI)).enc x33.1)), (11, .d (cB.enc x33.2)), (15, .box ((cXEdit (cLo cI)).enc x49.1)), (107, .d (cB.enc true))] (by kernel_rfl) <|
    xn <| cnd1 rfl rfl <| wpC_seq <| reg_s <| x_asg (sc cB false rfl) <| seqN [(8, .d (cB.enc false))] (by kernel_rfl) <|
    xn <| wpC_ret <| rt <| rt <| re <| fin h (r1 (ss rfl rfl) <| r0) rfl)
    (fun b146 h => gt' rfl b146 <| st rfl <| mvd rfl rfl <| gt' rfl b146 <| st rfl <| mvd rfl rfl <| gt' rfl b146 <| st rfl <| eqb1 rfl rfl <| st rfl <| pick0 rfl b146 (cd := cB) (v := (x49.2 != x33.2)) rfl rfl <| seqN [(0, .d ((cLs (cXVariable cS cI) rfl).enc v0)), (3, .d (cI.enc v3)), (5, .box ((cXEdit (cLs cI rfl)).enc v1)), (6, .box ((cXEdit (cLs cI rfl)).enc v2)), (10, .box ((cXEdit (cLo cI)).enc x33.1)), (11, .d (cB.enc x33.2)), (15, .box ((cXEdit (cLo cI)).enc x49.1)), (107, .d (cB.enc (x49.2 != x33.2)))] (by kernel_rfl) <|
    xn <| cnd0 rfl b64 <| wpC_skip <| kpN [(0, .d ((cLs (cXVariable cS cI) rfl).enc v0)), (3, .d (cI.enc v3)), (5, .box ((cXEdit (cLs cI rfl)).enc v1)), (6, .box ((cXEdit (cLs cI rfl)).enc v2)), (10, .box ((cXEdit (cLo cI)).enc x33.1)), (11, .d (cB.enc x33.2)), (15, .box ((cXEdit (cLo cI)).enc x49.1))] (by kernel_rfl) <| xn <| wpC_seq <| reg_s <| x_asg (sc cI (1 : Int) rfl) <| seqN [(0, .d ((cLs (cXVariable cS cI) rfl).enc v0)), (3, .d (cI.enc v3)), (5, .box ((cXEdit (cLs cI rfl)).enc v1)), (6, .box ((cXEdit (cLs cI rfl)).enc v2)), (10, .box ((cXEdit (cLo cI)).enc x33.1)), (11, .d (cB.enc x33.2)), (15, .box ((cXEdit (cLo cI)).enc x49.1)), (18, .d (cI.enc (1 : Int)))] (by kernel_rfl) <|
    xn <| wpC_seq <| reg_s <| st rfl <| ldbo rfl rfl rfl rfl <| st rfl <| mvd rfl rfl <| bnd h fun x149 e150 h => x_clr (c := (cXEdit (cLo cI))) (c' := (cXEdit (cLo cI))) ((cXEdit (cLo cI)).enc x149.1) (sXEdit (sLo sK)) rfl (a1 (c := cI) tK rfl a0) rfl Ln.nil (con_laws_markEdit e150) rfl rfl (so1 sK so0) <| x_asg (ss rfl rfl) <| seqN [(0, .d ((cLs (cXVariable cS cI) rfl).enc v0)), (3, .d (cI.enc v3)), (5, .box ((cXEdit (cLs cI rfl)).enc v1)), (6, .box ((cXEdit (cLs cI rfl)).enc v2)), (10, .box ((cXEdit (cLo cI)).enc x33.1)), (11, .d (cB.enc x33.2)), (15, .box ((cXEdit (cLo cI)).enc x149.1)), (18, .d (cI.enc x149.2))] (by kernel_rfl) <|
    xn <| wpC_seq <| reg_s <| x_asg (sc cI (1 : Int) rfl) <| seqN [(0, .d ((cLs (cXVariable cS cI) rfl).enc v0)), (3, .d (cI.enc v3)), (5, .box ((cXEdit (cLs cI rfl)).enc v1)), (6, .box ((cXEdit (cLs cI rfl)).enc v2)), (10, .box ((cXEdit (cLo cI)).enc x33.1)), (11, .d (cB.enc x33.2)), (15, .box ((cXEdit (cLo cI)).enc x149.1)), (18, .d (cI.enc x149.2)), (19, .d (cI.enc (1 : Int)))] (by kernel_rfl) <|
    xn <| wpC_seq <| reg_s <| st rfl <| ldbo rfl rfl rfl rfl <| st rfl <| mvd rfl rfl <| bnd h fun x153 e154 h => st rfl <| o_call (a1 (c := (cXEdit (cLo cI))) (tXEdit (tLo tK)) rfl (a1 (c := cI) tK rfl a0)) (con_laws_heldEdit e154) (.inl (so1 sK so0)) <| x_asg (ss rfl rfl) <| seqN [(0, .d ((cLs (cXVariable cS cI) rfl).enc v0)), (3, .d (cI.enc v3)), (5, .box ((cXEdit (cLs cI rfl)).enc v1)), (6, .box ((cXEdit (cLs cI rfl)).enc v2)), (10, .box ((cXEdit (cLo cI)).enc x33.1)), (11, .d (cB.enc x33.2)), (15, .box ((cXEdit (cLo cI)).enc x149.1)), (18, .d (cI.enc x149.2)), (19, .d (cI.enc x153))] (by kernel_rfl) <|
    xn <| wpC_seq <| wpC_kp <| wpC_seq <| reg_s <| st rfl <| mvd rfl rfl <| st rfl <| b_lss (k := .i64) rfl rfl <| seqN [(0, .d ((cLs (cXVariable cS cI) rfl).enc v0)), (3, .d (cI.enc v3)), (5, .box ((cXEdit (cLs cI rfl)).enc v1)), (6, .box ((cXEdit (cLs cI rfl)).enc v2)), (10, .box ((cXEdit (cLo cI)).enc x33.1)), (11, .d (cB.enc x33.2)), (15, .box ((cXEdit (cLo cI)).enc x149.1)), (18, .d (cI.enc x149.2)), (19, .d (cI.enc x153)), (115, .d (cB.enc (decide (x153 < (0 : Int)))))] (by kernel_rfl) <|
    xn <| cnd rfl h (fun b156 h => wpC_seq <| reg_s <| x_asg (sc cB false rfl) <| seqN [(8, .d (cB.enc false))] (by kernel_rfl) <|
    xn <| wpC_ret <| rt <| rt <| re <| fin h (r1 (ss rfl rfl) <| r0) rfl)
    (fun b156 h => wpC_skip <| kpN [(0, .d ((cLs (cXVariable cS cI) rfl).enc v0)), (3, .d (cI.enc v3)), (5, .box ((cXEdit (cLs cI rfl)).enc v1)), (6, .box ((cXEdit (cLs cI rfl)).enc v2)), (10, .box ((cXEdit (cLo cI)).enc x33.1)), (11, .d (cB.enc x33.2)), (15, .box ((cXEdit (cLo cI)).enc x149.1)), (18, .d (cI.enc x149.2)), (19, .d (cI.enc x153))] (by kernel_rfl) <| xn <| wpC_seq <| wpC_kp <| wpC_seq <| reg_s <| st rfl <| mvd rfl rfl <| st rfl <| mvd rfl rfl <| st rfl <| b_neq (k := .i64) rfl rfl <| seqN [(0, .d ((cLs (cXVariable cS cI) rfl).enc v0)), (3, .d (cI.enc v3)), (5, .box ((cXEdit (cLs cI rfl)).enc v1)), (6, .box ((cXEdit (cLs cI rfl)).enc v2)), (10, .box ((cXEdit (cLo cI)).enc x33.1)), (11, .d (cB.enc x33.2)), (15, .box ((cXEdit (cLo cI)).enc x149.1)), (18, .d (cI.enc x149.2)), (118, .d (cB.enc (decide (x153 ≠ x149.2))))] (by kernel_rfl) <|
    xn <| cnd rfl h (fun b158 h => wpC_seq <| reg_s <| x_asg (sc cB false rfl) <| seqN [(8, .d (cB.enc false))] (by kernel_rfl) <|
    xn <| wpC_ret <| rt <| rt <| re <| fin h (r1 (ss rfl rfl) <| r0) rfl)
    (fun b158 h => wpC_skip <| kpN [(0, .d ((cLs (cXVariable cS cI) rfl).enc v0)), (3, .d (cI.enc v3)), (5, .box ((cXEdit (cLs cI rfl)).enc v1)), (6, .box ((cXEdit (cLs cI rfl)).enc v2)), (10, .box ((cXEdit (cLo cI)).enc x33.1)), (11, .d (cB.enc x33.2)), (15, .box ((cXEdit (cLo cI)).enc x149.1)), (18, .d (cI.enc x149.2))] (by kernel_rfl) <| xn <| wpC_seq <| drg_s <| pst rfl <| mvd rfl rfl ⟨rfl, bndp h fun x167 e168 h => pst rfl <| o_call (a1 (c := (cLs (cXVariable cS cI) rfl)) (tLs (tXVariable tS tK)) rfl a0) (con_laws_toVariableS e168) (.inl (so1 (sLo (sXVariable sS sK)) so0)) ⟨rfl, pst rfl <| ldb rfl rfl rfl rfl ⟨rfl, bndp h fun x169 e170 h => pst rfl <| o_call (a1 (c := (cXEdit (cLs cI rfl))) (tXEdit (tLs tK)) rfl a0) (con_laws_toEdit e170) (.inl (so1 (sXEdit (sLo sK)) so0)) ⟨rfl, pst rfl <| ldb rfl rfl rfl rfl ⟨rfl, bndp h fun x171 e172 h => pst rfl <| o_call (a1 (c := (cXEdit (cLs cI rfl))) (tXEdit (tLs tK)) rfl a0) (con_laws_toEdit e172) (.inl (so1 (sXEdit (sLo sK)) so0)) ⟨rfl, pst rfl <| mvd rfl rfl ⟨rfl, bndp h fun x173 e174 h => pst rfl <| o_call (a1 (c := (cLo (cXVariable cS cI))) (tLo (tXVariable tS tK)) rfl (a1 (c := (cXEdit (cLo cI))) (tXEdit (tLo tK)) rfl (a1 (c := (cXEdit (cLo cI))) (tXEdit (tLo tK)) rfl (a1 (c := cI) tK rfl a0)))) (con_impl_ResolveEdits e174) (.inl (so1 (sXEdit (sLo sK)) (so1 sB so0))) ⟨rfl, pst rfl <| p_all (cXEdit (cLo cI)) (⟨([] : List Int)⟩ : XEdit) rfl ⟨rfl, preN <| gr_s [(10, .box ((cXEdit (cLo cI)).enc x33.1)), (11, .d (cB.enc x33.2)), (15, .box ((cXEdit (cLo cI)).enc x149.1)), (18, .d (cI.enc x149.2))] [([false, false, false, false, false, false], [(20, .un), (21, .un), (119, .un), (127, .tup [some ((cXEdit (cLo cI)).enc x173.1), some (cB.enc x173.2)]), (128, .un), (129, .un)]),
     ([true, false, false, false, false, false], [(20, .box ((cXEdit (cLo cI)).enc (⟨([] : List Int)⟩ : XEdit))), (21, .un), (119, .un), (127, .tup [some ((cXEdit (cLo cI)).enc x173.1), some (cB.enc x173.2)]), (128, .un), (129, .un)]),
     ([false, true, false, false, false, false], [(20, .un), (21, .un), (119, .tup [some ((cXEdit (cLo cI)).enc x173.1), some (cB.enc x173.2)]), (127, .un), (128, .un), (129, .un)]),
     ([true, true, false, false, false, false], [(20, .box ((cXEdit (cLo cI)).enc (⟨([] : List Int)⟩ : XEdit))), (21, .un), (119, .tup [some ((cXEdit (cLo cI)).enc x173.1), some (cB.enc x173.2)]), (127, .un), (128, .un), (129, .un)]),
     ([false, true, true, false, false, false], [(20, .un), (21, .un), (119, .tup [none, some (cB.enc x173.2)]), (127, .un), (128, .d ((cXEdit (cLo cI)).enc x173.1)), (129, .un)]),
     ([false, true, false, true, false, false], [(20, .un), (21, .un), (119, .tup [some ((cXEdit (cLo cI)).enc x173.1), none]), (127, .un), (128, .un), (129, .d (cB.enc x173.2))]),
     ([true, true, true, false, false, false], [(20, .box ((cXEdit (cLo cI)).enc (⟨([] : List Int)⟩ : XEdit))), (21, .un), (119, .tup [none, some (cB.enc x173.2)]), (127, .un), (128, .d ((cXEdit (cLo cI)).enc x173.1)), (129, .un)]),
     ([true, true, false, true, false, false], [(20, .box ((cXEdit (cLo cI)).enc (⟨([] : List Int)⟩ : XEdit))), (21, .un), (119, .tup [some ((cXEdit (cLo cI)).enc x173.1), none]), (127, .un), (128, .un), (129, .d (cB.enc x173.2))]),
     ([false, true, true, true, false, false], [(20, .un), (21, .un), (119, .tup [none, none]), (127, .un), (128, .d ((cXEdit (cLo cI)).enc x173.1)), (129, .d (cB.enc x173.2))]),
     ([true, true, true, true, false, false], [(20, .box ((cXEdit (cLo cI)).enc (⟨([] : List Int)⟩ : XEdit))), (21, .un), (119, .tup [none, none]), (127, .un), (128, .d ((cXEdit (cLo cI)).enc x173.1)), (129, .d (cB.enc x173.2))]),
     ([true, true, true, false, true, false], [(20, .box ((cXEdit (cLo cI)).enc x173.1)), (21, .un), (119, .tup [none, some (cB.enc x173.2)]), (127, .un), (128, .un), (129, .un)]),
     ([true, true, true, true, true, false], [(20, .box ((cXEdit (cLo cI)).enc x173.1)), (21, .un), (119, .tup [none, none]), (127, .un), (128, .un), (129, .d (cB.enc x173.2))]),
     ([true, true, true, true, true, true], [(20, .box ((cXEdit (cLo cI)).enc x173.1)), (21, .d (cB.enc x173.2)), (119, .tup [none, none]), (127, .un), (128, .un), (129, .d (cB.enc x173.2))])] [(10, .box ((cXEdit (cLo cI)).enc x33.1)), (11, .d (cB.enc x33.2)), (15, .box ((cXEdit (cLo cI)).enc x149.1)), (18, .d (cI.enc x149.2)), (20, .box ((cXEdit (cLo cI)).enc x173.1)), (21, .d (cB.enc x173.2))] [([false, false, false, false, false, false], [20]), ([true, false, false, false, false, false], [])] (by kernel_rfl) (sa1 rfl (by kernel_rfl) <| sa1 rfl (by kernel_rfl) <| sa0) rfl
    (ob1 rfl rfl rfl (x_all (cXEdit (cLo cI)) (⟨([] : List Int)⟩ : XEdit) rfl <| obN (by kernel_rfl)) <|
    ob1 rfl rfl rfl (x_mvt rfl <| obN (by kernel_rfl)) <|
    ob1 rfl rfl rfl (x_mvt rfl <| obN (by kernel_rfl)) <|
    ob1 rfl rfl rfl (x_all (cXEdit (cLo cI)) (⟨([] : List Int)⟩ : XEdit) rfl <| obN (by kernel_rfl)) <|
    ob1 rfl rfl rfl (x_ext rfl rfl <| obN (by kernel_rfl)) <|
    ob1 rfl rfl rfl (x_ext rfl rfl <| obN (by kernel_rfl)) <|
    ob1 rfl rfl rfl (x_ext rfl rfl <| obN (by kernel_rfl)) <|
    ob1 rfl rfl rfl (x_ext rfl rfl <| obN (by kernel_rfl)) <|
    ob1 rfl rfl rfl (x_all (cXEdit (cLo cI)) (⟨([] : List Int)⟩ : XEdit) rfl <| obN (by kernel_rfl)) <|
    ob1 rfl rfl rfl (x_ext rfl rfl <| obN (by kernel_rfl)) <|
    ob1 rfl rfl rfl (x_all (cXEdit (cLo cI)) (⟨([] : List Int)⟩ : XEdit) rfl <| obN (by kernel_rfl)) <|
    ob1 rfl rfl rfl (x_ext rfl rfl <| obN (by kernel_rfl)) <|
    ob1 rfl rfl rfl (x_ext rfl rfl <| obN (by kernel_rfl)) <|
    ob1 rfl rfl rfl (x_stb (so rfl rfl) rfl (Cd.h_sz _ _) rfl <| obN (by kernel_rfl)) <|
    ob1 rfl rfl rfl (x_ext rfl rfl <| obN (by kernel_rfl)) <|
    ob1 rfl rfl rfl (x_all (cXEdit (cLo cI)) (⟨([] : List Int)⟩ : XEdit) rfl <| obN (by kernel_rfl)) <|
    ob1 rfl rfl rfl (x_stb (so rfl rfl) rfl (Cd.h_sz _ _) rfl <| obN (by kernel_rfl)) <|
    ob1 rfl rfl rfl (x_ext rfl rfl <| obN (by kernel_rfl)) <|
    ob1 rfl rfl rfl (x_asg (ss rfl rfl) <| obN (by kernel_rfl)) <|
    ob0)
    (by kernel_rfl) <|
    xn <| wpC_seq <| wpC_kp <| wpC_seq <| reg_s <| st rfl <| ldbo rfl rfl rfl rfl <| st rfl <| ldbo rfl rfl rfl rfl <| bnd h fun x185 e186 h => st rfl <| o_call (a1 (c := (cXEdit (cLo cI))) (tXEdit (tLo tK)) rfl (a1 (c := (cXEdit (cLo cI))) (tXEdit (tLo tK)) rfl a0)) (con_laws_eqEdit e186) (.inl (so1 sB so0)) <| st rfl <| o_nt rfl <| st rfl <| mvd rfl rfl <| ite_k h (fun b187 h => gf rfl b187 <| gf rfl b187 <| gf rfl b187 <| st rfl <| pick1 rfl b187 (cd := cB) (v := true) rfl rfl <| seqN [(15, .box ((cXEdit (cLo cI)).enc x149.1)), (18, .d (cI.enc x149.2)), (138, .d (cB.enc true))] (by kernel_rfl) <|
    xn <| cnd1 rfl rfl <| wpC_seq <| reg_s <| x_asg (sc cB false rfl) <| seqN [(8, .d (cB.enc false))] (by kernel_rfl) <|
    xn <| wpC_ret <| rt <| rt <| re <| fin h (r1 (ss rfl rfl) <| r0) rfl)
    (fun b187 h => gt' rfl b187 <| st rfl <| mvd rfl rfl <| gt' rfl b187 <| st rfl <| mvd rfl rfl <| gt' rfl b187 <| st rfl <| eqb1 rfl rfl <| st rfl <| pick0 rfl b187 (cd := cB) (v := (x173.2 != x33.2)) rfl rfl <| seqN [(15, .box ((cXEdit (cLo cI)).enc x149.1)), (18, .d (cI.enc x149.2)), (138, .d (cB.enc (x173.2 != x33.2)))] (by kernel_rfl) <|
    xn <| cnd rfl h (fun b188 h => wpC_seq <| reg_s <| x_asg (sc cB false rfl) <| seqN [(8, .d (cB.enc false))] (by kernel_rfl) <|
    xn <| wpC_ret <| rt <| rt <| re <| fin h (r1 (ss rfl rfl) <| r0) rfl)
    (fun b188 h => wpC_skip <| kpN [(15, .box ((cXEdit (cLo cI)).enc x149.1)), (18, .d (cI.enc x149.2))] (by kernel_rfl) <| xn <| wpC_seq <| reg_s <| x_asg (sc cI (1 : Int) rfl) <| seqN [(15, .box ((cXEdit (cLo cI)).enc x149.1)), (18, .d (cI.enc x149.2)), (19, .d (cI.enc (1 : Int)))] (by kernel_rfl) <|
    xn <| wpC_seq <| reg_s <| st rfl <| ldbo rfl rfl rfl rfl <| st rfl <| mvd rfl rfl <| bnd h fun x191 e192 h => st rfl <| o_call (a1 (c := (cXEdit (cLo cI))) (tXEdit (tLo tK)) rfl (a1 (c := cI) tK rfl a0)) (con_laws_heldEdit e192) (.inl (so1 sK so0)) <| x_asg (ss rfl rfl) <| seqN [(18, .d (cI.enc x149.2)), (19, .d (cI.enc x191))] (by kernel_rfl) <|
    xn <| wpC_seq <| wpC_kp <| wpC_seq <| reg_s <| st rfl <| mvd rfl rfl <| st rfl <| b_lss (k := .i64) rfl rfl <| seqN [(18, .d (cI.enc x149.2)), (19, .d (cI.enc x191)), (143, .d (cB.enc (decide (x191 < (0 : Int)))))] (by kernel_rfl) <|
    xn <| cnd rfl h (fun b194 h => wpC_seq <| reg_s <| x_asg (sc cB false rfl) <| seqN [(8, .d (cB.enc false))] (by kernel_rfl) <|
    xn <| wpC_ret <| rt <| rt <| re <| fin h (r1 (ss rfl rfl) <| r0) rfl)
    (fun b194 h => wpC_skip <| kpN [(18, .d (cI.enc x149.2)), (19, .d (cI.enc x191))] (by kernel_rfl) <| xn <| wpC_seq <| wpC_kp <| wpC_seq <| reg_s <| st rfl <| mvd rfl rfl <| st rfl <| mvd rfl rfl <| st rfl <| b_neq (k := .i64) rfl rfl <| seqN [(146, .d (cB.enc (decide (x191 ≠ x149.2))))] (by kernel_rfl) <|
    xn <| cnd rfl h (fun b196 h => wpC_seq <| reg_s <| x_asg (sc cB false rfl) <| seqN [(8, .d (cB.enc false))] (by kernel_rfl) <|
    xn <| wpC_ret <| rt <| rt <| re <| fin h (r1 (ss rfl rfl) <| r0) rfl)
    (fun b196 h => wpC_skip <| kpN [] (by kernel_rfl) <| xn <| wpC_seq <| reg_s <| x_asg (sc cB true rfl) <| seqN [(8, .d (cB.enc true))] (by kernel_rfl) <|
    xn <| wpC_ret <| re <| fin h (r1 (ss rfl rfl) <| r0) rfl))))⟩⟩⟩⟩⟩⟩⟩⟩⟩)))))⟩⟩⟩⟩⟩)⟩⟩⟩⟩⟩)))⟩⟩⟩⟩⟩⟩⟩⟩⟩)))
end AS.W
